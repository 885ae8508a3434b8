/-
  Texts joined by program: Twt, Tws. No condition of its own.
-/
import Derived.Test.YtnapapijhhldpaaGreatDoorJtAH
namespace Go.Proofs.YtnapapijhhldpaaGreatDoor
set_option linter.unusedSimpArgs false
set_option linter.unusedVariables false
set_option maxRecDepth 100000
set_option maxHeartbeats 4000000
section
open Go.RowKit
theorem exec_loadC {P:Program} {o:Oper} {a:Act} {w:World} (ty:TypeId) (x:Operand) (ho:o.op=.load ty x)
  (b off:Nat) (hx:a.eval x=.pointer (some ⟨b,off,none⟩)) (cs:List Value) (hc:Cs w b off cs) (d:TypeDesc)
  (hu:P.underlying ty=some d) (hd:(match d with | .struct _ | .array _ _=>true | _=>false)=true) (hi:(P.info? ty).map (·.size)=some cs.length) :
  (execOp a.eval o).run P w=.ok (.value (.agg cs.toArray)) w:=by
 unfold execOp
 simp only [ho,hx,Instr.loadAt,Instr.sureAddr,Sem.run_bind,Sem.run_pure,Result.andThen_ok,run_loadC w ty b off cs d hc hu hd hi]
theorem exec_loadArc {dst:Option Tmp} {ty:TypeId} {pos:String} {after:Array Edge} {guard:Option (Nat×Bool)} {x:Operand} {a:Act} {w:World}
  (b off:Nat) (hx:a.eval x=.pointer (some ⟨b,off,none⟩)) (y:Ac) (hc:Cs w b off (acC y)):(execOp a.eval ⟨dst,.load 54 x,ty,pos,after,guard⟩).run Tryz.prog w=.ok (.value (.agg (acC y).toArray)) w :=
 exec_loadC _ x rfl b off hx (acC y) hc _ Tryz.underlying54 rfl Tryz.sizeArc
theorem Fl.cs {k n cap g:Nat} {w:World} {css:List (List Value)} {i:Nat} {x:List Value} (h:Fl k w (some ⟨g,0,none⟩) n cap css) (hx:css[i]? = some x):Cs w g (i*k) x:=by
 obtain ⟨b,o,e2,hc⟩:=h.at_ i x hx
 injection e2 with e2
 injection e2 with e2 e3
 subst e2 e3
 rw [Nat.zero_add] at hc
 exact hc
theorem upA_get {xs:List Ac} (hu:UpA xs) {i j:Nat} (hij:i<j) {x y:Ac} (hx:xs[i]? = some x) (hy:xs[j]? = some y):¬ klt (ky y) (ky x):=by
 obtain ⟨hi,rfl⟩:=List.getElem?_eq_some_iff.1 hx
 obtain ⟨hj,rfl⟩:=List.getElem?_eq_some_iff.1 hy
 exact List.pairwise_iff_getElem.1 hu i j hi hj hij
theorem ordS_any (x y:Ac) (h:¬ klt (ky y) (ky x)) (w:World):Calls Tryz.prog 170 #[.agg #[.int .i64 ((y).1:Int),.int .i64 ((y).2.1:Int),.int .i64 ((y).2.2.1:Int),.bool false,.slice none 0 0,.slice none 0 0,.int .i64 (tc (wt y):Int),.bool (ti (wt y)),.int .u64 0,.slice none 0 0,.slice none 0 0],.agg #[.int .i64 ((x).1:Int),.int .i64 ((x).2.1:Int),.int .i64 ((x).2.2.1:Int),.bool false,.slice none 0 0,.slice none 0 0,.int .i64 (tc (wt x):Int),.bool (ti (wt x)),.int .u64 0,.slice none 0 0,.slice none 0 0]] w fun e w'=>(∃ c:Int,e=.returned (.int .i64 c)/\0<=c)/\Below w.heap.size w w' :=
 (order_any y x w).mono fun e w' ⟨h1,h2⟩=>⟨⟨cmpK (ky y) (ky x),h1,by
  have:=mt cmpK_neg.1 h; omega⟩,h2⟩
theorem sym_left (xs:List Ac) (hu:UpA xs) (g n cap a b:Nat) (hab:a+1<b) (hbn:b<=n) (hn:n<=4096) (w:World) (h:Fl 11 w (some ⟨g,0,none⟩) n cap (xs.map acC)) :
  Calls Tryz.prog 294 #[.slice (some ⟨g,0,none⟩) n cap,.int .i64 ((a:Int)),.int .i64 ((a:Int)+1),.int .i64 ((b:Int)),.func (.func 170) #[] #[]] w fun e w'=>e=.returned (.tuple #[])/\Below w.heap.size w w':=by
 have hlx:=hid h.lenMap
 have hu:=hid hu
 have hh:=hid h
 clear h
 have c1:((a:Int)+1-(a:Int)==1)=true:=by rw [beq_iff_eq]; omega
 go_enter Tryz.func294,Tryz.ntmps294
 go_wp2_with fail
 go_loopw [10,11] (fun iv jv wr=>iv=.int .i64 ((a:Int)+1)/\(∃ j:Nat,a+1<=j/\j<=b/\jv=.int .i64 (j:Int))/\Below w.heap.size w wr) (fun _ jv _=>(intOf jv).toNat)
 case atStart=>exact ⟨rfl,⟨b,by omega,by omega,rfl⟩,Below.refl _ _⟩
 case round =>
  obtain ⟨rfl,⟨j,hj1,hj2,rfl⟩,hb⟩:=hrel
  by_cases hlt:a+1<j
  ·obtain ⟨hm,hmid⟩:∃ hm:Nat,((a:Int)+1+(j:Int))/2=(hm:Int):=⟨(a+1+j)/2,by omega⟩
   have k1:(a:Int)+1<(j:Int):=by omega
   have k2:(0:Int)<=(hm:Int):=by omega
   have k3:(hm:Int)<(n:Int):=by omega
   have k4:(a:Int)<(n:Int):=by omega
   have k5:(0:Int)<=(a:Int):=by omega
   have k6:a+1<=hm/\hm<j:=by omega
   obtain ⟨x,hx⟩:∃ x,xs[a]? = some x:=⟨_,List.getElem?_eq_getElem (by have:=hlx.out; omega)⟩
   obtain ⟨y,hy⟩:∃ y,xs[hm]? = some y:=⟨_,List.getElem?_eq_getElem (by have:=hlx.out; omega)⟩
   have cx:Cs wr g (a*11) (acC x):=(hh.out.next hb).cs (by rw [List.getElem?_map,hx]; rfl)
   have cy:Cs wr g (hm*11) (acC y):=(hh.out.next hb).cs (by rw [List.getElem?_map,hy]; rfl)
   have hkl:¬ klt (ky y) (ky x):=upA_get hu.out (by omega) hx hy
   clear hx hy
   have Hmid:=hid hmid
   clear hmid
   go_upto_region 5 with fail
   have hmid:=Hmid.out
   rw [hmid]
   have hdr:=(Below.refl wr.heap.size wr).drew
   have hS:Cs wr.drew g (hm*11) (acC y)/\Cs wr.drew g (a*11) (acC x):=⟨cy.next hdr,cx.next hdr⟩
   refine wp_region_D (fun w'=>Cs w' g (hm*11) (acC y)/\Cs w' g (a*11) (acC x)) [9,10] (by kernel_rfl) ?_
   refine tkCp 0 rfl hS ?_
   refine tkCp 1 rfl hS ?_
   refine tkCp 2 rfl hS ?_
   refine tkCp 3 rfl hS ?_
   refine tkCl 4 (v:=?_) rfl ?_ hS ?_
   rotate_left
   ·intro w hw; obtain ⟨c1',c2'⟩:=hw; refine exec_loadArc g (hm*11) ?_ y c1'; go_simp
   refine tkCp 5 rfl hS ?_
   refine tkCp 6 rfl hS ?_
   refine tkCp 7 rfl hS ?_
   refine tkCl 8 (v:=?_) rfl ?_ hS ?_
   rotate_left
   ·intro w hw; obtain ⟨c1',c2'⟩:=hw; refine exec_loadArc g (a*11) ?_ x c2'; go_simp
   refine wpO (i:=9) rfl fun KK hKK=>?_
   go_simp
   go_at_call 170
   refine (ordS_any x y hkl _).mono ?_; rintro e w9 ⟨⟨c,rfl,hc0⟩,hb9⟩
   have hcn:¬ c<0:=by omega
   try go_simp
   refine lN hKK ?_; clear hKK KK
   refine wpO (i:=10) rfl fun KK hKK=>?_
   go_simp
   refine lN hKK ?_; clear hKK KK
   refine wpAnyD_done (by kernel_rfl) ?_ _
   go_simp
   go_wp2_with fail
   go_roundw
   case rel=>exact ⟨rfl,⟨hm,by omega,by omega,rfl⟩,below_chain (below_chain hb hdr) hb9⟩
   case measure=>simp [intOf]; omega
  ·obtain rfl:j=a+1:=by omega
   have k1:¬ ((a:Int)+1<((a+1:Nat):Int)):=by omega
   have k2:¬ ((a:Int)<(a:Int)+1-1):=by omega
   go_wp2_with fail
   go_loopw [13] (fun kv wq=>kv=.int .i64 (a:Int)/\wq=wr) (fun _ _=>0)
   case atStart=>exact ⟨rfl,rfl⟩
   case round =>
    obtain ⟨rfl,rfl⟩:=hrel
    go_wp2_with fail
    exact bodyPost_ret (results_none rfl _ _ _) rfl ⟨rfl,hb⟩
theorem sym_right (xs:List Ac) (hu:UpA xs) (g n cap a m:Nat) (ham:a+1<m) (hmn:m<n) (hn:n<=4096) (w:World) (h:Fl 11 w (some ⟨g,0,none⟩) n cap (xs.map acC)) :
  Calls Tryz.prog 294 #[.slice (some ⟨g,0,none⟩) n cap,.int .i64 ((a:Int)),.int .i64 ((m:Int)),.int .i64 ((m:Int)+1),.func (.func 170) #[] #[]] w fun e w'=>e=.returned (.tuple #[])/\Below w.heap.size w w':=by
 have hlx:=hid h.lenMap
 have hu:=hid hu
 have hh:=hid h
 clear h
 have c1:((m:Int)-(a:Int)==1)=false:=by rw [beq_eq_false_iff_ne]; omega
 have c1':¬ ((m:Int)-(a:Int)=1):=by omega
 have c2:((m:Int)+1-(m:Int)==1)=true:=by rw [beq_iff_eq]; omega
 go_enter Tryz.func294,Tryz.ntmps294
 go_wp2_with fail
 go_loopw [14,15] (fun iv jv wr=>(∃ i:Nat,a<=i/\i<=m/\iv=.int .i64 (i:Int))/\jv=.int .i64 (m:Int)/\Below w.heap.size w wr) (fun iv _ _=>m-(intOf iv).toNat)
 case atStart=>exact ⟨⟨a,by omega,by omega,rfl⟩,rfl,Below.refl _ _⟩
 case round =>
  obtain ⟨⟨i,hi1,hi2,rfl⟩,rfl,hb⟩:=hrel
  by_cases hlt:i<m
  ·obtain ⟨hm,hmid⟩:∃ hm:Nat,((i:Int)+(m:Int))/2=(hm:Int):=⟨(i+m)/2,by omega⟩
   have k1:(i:Int)<(m:Int):=by omega
   have k2:(0:Int)<=(hm:Int):=by omega
   have k3:(hm:Int)<(n:Int):=by omega
   have k4:(m:Int)<(n:Int):=by omega
   have k5:(0:Int)<=(m:Int):=by omega
   have k6:i<=hm/\hm<m:=by omega
   obtain ⟨x,hx⟩:∃ x,xs[hm]? = some x:=⟨_,List.getElem?_eq_getElem (by have:=hlx.out; omega)⟩
   obtain ⟨y,hy⟩:∃ y,xs[m]? = some y:=⟨_,List.getElem?_eq_getElem (by have:=hlx.out; omega)⟩
   have cx:Cs wr g (hm*11) (acC x):=(hh.out.next hb).cs (by rw [List.getElem?_map,hx]; rfl)
   have cy:Cs wr g (m*11) (acC y):=(hh.out.next hb).cs (by rw [List.getElem?_map,hy]; rfl)
   have hkl:¬ klt (ky y) (ky x):=upA_get hu.out (by omega) hx hy
   clear hx hy
   have Hmid:=hid hmid
   clear hmid
   go_upto_region 17 with fail
   have hmid:=Hmid.out
   rw [hmid]
   have hdr:=(Below.refl wr.heap.size wr).drew
   have hS:Cs wr.drew g (m*11) (acC y)/\Cs wr.drew g (hm*11) (acC x):=⟨cy.next hdr,cx.next hdr⟩
   refine wp_region_D (fun w'=>Cs w' g (m*11) (acC y)/\Cs w' g (hm*11) (acC x)) [9,10,11] (by kernel_rfl) ?_
   refine tkCp 0 rfl hS ?_
   refine tkCp 1 rfl hS ?_
   refine tkCp 2 rfl hS ?_
   refine tkCp 3 rfl hS ?_
   refine tkCl 4 (v:=?_) rfl ?_ hS ?_
   rotate_left
   ·intro w hw; obtain ⟨c1',c2'⟩:=hw; refine exec_loadArc g (m*11) ?_ y c1'; go_simp
   refine tkCp 5 rfl hS ?_
   refine tkCp 6 rfl hS ?_
   refine tkCp 7 rfl hS ?_
   refine tkCl 8 (v:=?_) rfl ?_ hS ?_
   rotate_left
   ·intro w hw; obtain ⟨c1',c2'⟩:=hw; refine exec_loadArc g (hm*11) ?_ x c2'; go_simp
   refine wpO (i:=9) rfl fun KK hKK=>?_
   go_simp
   go_at_call 170
   refine (ordS_any x y hkl _).mono ?_; rintro e w9 ⟨⟨c,rfl,hc0⟩,hb9⟩
   have hcn:¬ c<0:=by omega
   try go_simp
   refine lN hKK ?_; clear hKK KK
   refine wpO (i:=10) rfl fun KK hKK=>?_
   go_simp
   refine lN hKK ?_; clear hKK KK
   refine wpO (i:=11) rfl fun KK hKK=>?_
   go_simp
   refine lN hKK ?_; clear hKK KK
   refine wpAnyD_done (by kernel_rfl) ?_ _
   go_simp
   go_wp2_with fail
   go_roundw
   case rel=>exact ⟨⟨hm+1,by omega,by omega,by go_num⟩,rfl,below_chain (below_chain hb hdr) hb9⟩
   case measure=>simp [intOf]; omega
  ·obtain rfl:i=m:=by omega
   have k1:¬ ((i:Int)<(i:Int)):=by omega
   go_wp2_with fail
   go_loopw [17] (fun kv wq=>kv=.int .i64 (i:Int)/\wq=wr) (fun _ _=>0)
   case atStart=>exact ⟨rfl,rfl⟩
   case round =>
    obtain ⟨rfl,rfl⟩:=hrel
    go_wp2_with fail
    exact bodyPost_ret (results_none rfl _ _ _) rfl ⟨rfl,hb⟩
theorem sym_genA (xs:List Ac) (hu:UpA xs) (g n cap a m b mid:Nat) (ham:a+1<m) (hmb:m+1<b) (hbn:b<=n) (hn:n<=4096) (hmid:(a+b)/2=mid) (hcase:mid<m) (w:World) (h:Fl 11 w (some ⟨g,0,none⟩) n cap (xs.map acC))
  (hrec:∀ W,Fl 11 W (some ⟨g,0,none⟩) n cap (xs.map acC)->Calls Tryz.prog 294 #[.slice (some ⟨g,0,none⟩) n cap,.int .i64 (mid:Int),.int .i64 (m:Int),.int .i64 (b:Int),.func (.func 170) #[] #[]] W fun e w'=>e=.returned (.tuple #[])/\Below W.heap.size W w') :
  Calls Tryz.prog 294 #[.slice (some ⟨g,0,none⟩) n cap,.int .i64 ((a:Int)),.int .i64 ((m:Int)),.int .i64 ((b:Int)),.func (.func 170) #[] #[]] w fun e w'=>e=.returned (.tuple #[])/\Below w.heap.size w w':=by
 have hlx:=hid h.lenMap
 have hu:=hid hu
 have hh:=hid h
 have hrec:=hid hrec
 clear h
 have hmz:(((a:Int)+(b:Int))/2=(mid:Int))/\a<mid/\mid<b:=by omega
 obtain ⟨Hmz,hm1,hm2⟩:=hmz
 have Hmz:=hid Hmz
 clear hmid
 have c1:((m:Int)-(a:Int)==1)=false:=by rw [beq_eq_false_iff_ne]; omega
 have c2:((b:Int)-(m:Int)==1)=false:=by rw [beq_eq_false_iff_ne]; omega
 have c1':¬ ((m:Int)-(a:Int)=1):=by omega
 have c2':¬ ((b:Int)-(m:Int)=1):=by omega
 have c3:decide ((mid:Int)<(m:Int))=true:=decide_eq_true (by omega)
 have c4:(mid:Int)<(m:Int):=by omega
 go_enter Tryz.func294,Tryz.ntmps294
 go_wp2_with fail
 go_loopw [20,21] (fun iv jv wr=>(∃ i:Nat,mid+m-b<=i/\i<=mid/\iv=.int .i64 (i:Int))/\jv=.int .i64 (mid:Int)/\Below w.heap.size w wr) (fun iv _ _=>mid-(intOf iv).toNat)
 case atStart=>exact ⟨⟨mid+m-b,by omega,by omega,by first | rfl | exact congrArg (Value.int .i64) (by omega)⟩,rfl,Below.refl _ _⟩
 case round =>
  obtain ⟨⟨i,hi1,hi2,rfl⟩,rfl,hb⟩:=hrel
  by_cases hlt:i<mid
  ·obtain ⟨hm,hmid⟩:∃ hm:Nat,((i:Int)+(mid:Int))/2=(hm:Int):=⟨(i+mid)/2,by omega⟩
   obtain ⟨pc,hpc⟩:∃ pc:Nat,(mid:Int)+(m:Int)-1-(hm:Int)=(pc:Int):=⟨mid+m-1-hm,by omega⟩
   have k1:(i:Int)<(mid:Int):=by omega
   have k2:(0:Int)<=(hm:Int):=by omega
   have k3:(hm:Int)<(n:Int):=by omega
   have k4:(pc:Int)<(n:Int):=by omega
   have k5:(0:Int)<=(pc:Int):=by omega
   have k6:i<=hm/\hm<mid:=by omega
   have k7:(0:Int)<=(mid:Int)+(m:Int)-1-(hm:Int):=by omega
   have k8:(mid:Int)+(m:Int)-1-(hm:Int)<(n:Int):=by omega
   obtain ⟨x,hx⟩:∃ x,xs[hm]? = some x:=⟨_,List.getElem?_eq_getElem (by have:=hlx.out; omega)⟩
   obtain ⟨y,hy⟩:∃ y,xs[pc]? = some y:=⟨_,List.getElem?_eq_getElem (by have:=hlx.out; omega)⟩
   have cx:Cs wr g (hm*11) (acC x):=(hh.out.next hb).cs (by rw [List.getElem?_map,hx]; rfl)
   have cy:Cs wr g (pc*11) (acC y):=(hh.out.next hb).cs (by rw [List.getElem?_map,hy]; rfl)
   have hkl:¬ klt (ky y) (ky x):=upA_get hu.out (by omega) hx hy
   clear hx hy
   have Hmid:=hid hmid
   have Hpc:=hid hpc
   have w1:IntKind.i64.wrap (pc:Int)=(pc:Int):=IntWalk.i64_in _ (by omega)
   clear hmid hpc
   go_upto_region 35 with fail
   have hmid:=Hmid.out
   rw [hmid]
   have hpc:=Hpc.out
   have hdr:=(Below.refl wr.heap.size wr).drew
   have hS:Cs wr.drew g (pc*11) (acC y)/\Cs wr.drew g (hm*11) (acC x):=⟨cy.next hdr,cx.next hdr⟩
   refine wp_region_D (fun w'=>Cs w' g (pc*11) (acC y)/\Cs w' g (hm*11) (acC x)) [11,12,13] (by kernel_rfl) ?_
   refine tkCp 0 rfl hS ?_
   refine tkCp 1 rfl hS ?_
   refine tkCp 2 rfl hS ?_
   refine tkCp 3 rfl hS ?_
   refine tkCp 4 rfl hS ?_
   refine tkCp 5 rfl hS ?_
   refine tkCl 6 (v:=?_) rfl ?_ hS ?_
   rotate_left
   ·intro w hw; obtain ⟨c1',c2'⟩:=hw; refine exec_loadArc g (pc*11) ?_ y c1'; go_simp
   refine tkCp 7 rfl hS ?_
   refine tkCp 8 rfl hS ?_
   refine tkCp 9 rfl hS ?_
   refine tkCl 10 (v:=?_) rfl ?_ hS ?_
   rotate_left
   ·intro w hw; obtain ⟨c1',c2'⟩:=hw; refine exec_loadArc g (hm*11) ?_ x c2'; go_simp
   refine wpO (i:=11) rfl fun KK hKK=>?_
   go_simp
   go_at_call 170
   refine (ordS_any x y hkl _).mono ?_; rintro e w9 ⟨⟨c,rfl,hc0⟩,hb9⟩
   have hcn:¬ c<0:=by omega
   try go_simp
   refine lN hKK ?_; clear hKK KK
   refine wpO (i:=12) rfl fun KK hKK=>?_
   go_simp
   refine lN hKK ?_; clear hKK KK
   refine wpO (i:=13) rfl fun KK hKK=>?_
   go_simp
   refine lN hKK ?_; clear hKK KK
   refine wpAnyD_done (by kernel_rfl) ?_ _
   go_simp
   go_wp2_with fail
   go_roundw
   case rel=>exact ⟨⟨hm+1,by omega,by omega,by go_num⟩,rfl,below_chain (below_chain hb hdr) hb9⟩
   case measure=>simp [intOf]; omega
  ·obtain rfl:i=mid:=by omega
   have z1:(i:Int)+(m:Int)-(i:Int)=(m:Int):=by omega
   have z2:decide ((i:Int)<(m:Int))=true:=c3
   have z3:decide ((m:Int)<(m:Int))=false:=decide_eq_false (by omega)
   have z4:decide ((a:Int)<(i:Int))=true:=decide_eq_true (by omega)
   have z5:decide ((i:Int)<(i:Int))=false:=decide_eq_false (by omega)
   have z6:decide ((m:Int)<(b:Int))=true:=decide_eq_true (by omega)
   have hf:=hid (hh.out.next hb)
   go_wp2_with fail
   refine (hrec.out _ hf.out).mono ?_; rintro e w5 ⟨rfl,hb5⟩
   go_wp2_with fail
   go_end0
   exact ⟨rfl,below_chain hb hb5⟩
theorem sym_genB (xs:List Ac) (hu:UpA xs) (g n cap a m b mid:Nat) (ham:a+1<m) (hmb:m+1<b) (hbn:b<=n) (hn:n<=4096) (hmid:(a+b)/2=mid) (hcase:m<mid) (w:World) (h:Fl 11 w (some ⟨g,0,none⟩) n cap (xs.map acC))
  (hrec:∀ W,Fl 11 W (some ⟨g,0,none⟩) n cap (xs.map acC)->Calls Tryz.prog 294 #[.slice (some ⟨g,0,none⟩) n cap,.int .i64 (a:Int),.int .i64 (m:Int),.int .i64 (mid:Int),.func (.func 170) #[] #[]] W fun e w'=>e=.returned (.tuple #[])/\Below W.heap.size W w') :
  Calls Tryz.prog 294 #[.slice (some ⟨g,0,none⟩) n cap,.int .i64 ((a:Int)),.int .i64 ((m:Int)),.int .i64 ((b:Int)),.func (.func 170) #[] #[]] w fun e w'=>e=.returned (.tuple #[])/\Below w.heap.size w w':=by
 have hlx:=hid h.lenMap
 have hu:=hid hu
 have hh:=hid h
 have hrec:=hid hrec
 clear h
 have hmz:(((a:Int)+(b:Int))/2=(mid:Int))/\a<mid/\mid<b:=by omega
 obtain ⟨Hmz,hm1,hm2⟩:=hmz
 have Hmz:=hid Hmz
 clear hmid
 have c1:((m:Int)-(a:Int)==1)=false:=by rw [beq_eq_false_iff_ne]; omega
 have c2:((b:Int)-(m:Int)==1)=false:=by rw [beq_eq_false_iff_ne]; omega
 have c1':¬ ((m:Int)-(a:Int)=1):=by omega
 have c2':¬ ((b:Int)-(m:Int)=1):=by omega
 have c3:decide ((mid:Int)<(m:Int))=false:=decide_eq_false (by omega)
 have c4:¬ (mid:Int)<(m:Int):=by omega
 go_enter Tryz.func294,Tryz.ntmps294
 go_wp2_with fail
 go_loopw [20,21] (fun iv jv wr=>(∃ i:Nat,a<=i/\i<=m/\iv=.int .i64 (i:Int))/\jv=.int .i64 (m:Int)/\Below w.heap.size w wr) (fun iv _ _=>m-(intOf iv).toNat)
 case atStart=>exact ⟨⟨a,by omega,by omega,by first | rfl | exact congrArg (Value.int .i64) (by omega)⟩,rfl,Below.refl _ _⟩
 case round =>
  obtain ⟨⟨i,hi1,hi2,rfl⟩,rfl,hb⟩:=hrel
  by_cases hlt:i<m
  ·obtain ⟨hm,hmid⟩:∃ hm:Nat,((i:Int)+(m:Int))/2=(hm:Int):=⟨(i+m)/2,by omega⟩
   obtain ⟨pc,hpc⟩:∃ pc:Nat,(mid:Int)+(m:Int)-1-(hm:Int)=(pc:Int):=⟨mid+m-1-hm,by omega⟩
   have k1:(i:Int)<(m:Int):=by omega
   have k2:(0:Int)<=(hm:Int):=by omega
   have k3:(hm:Int)<(n:Int):=by omega
   have k4:(pc:Int)<(n:Int):=by omega
   have k5:(0:Int)<=(pc:Int):=by omega
   have k6:i<=hm/\hm<m:=by omega
   have k7:(0:Int)<=(mid:Int)+(m:Int)-1-(hm:Int):=by omega
   have k8:(mid:Int)+(m:Int)-1-(hm:Int)<(n:Int):=by omega
   obtain ⟨x,hx⟩:∃ x,xs[hm]? = some x:=⟨_,List.getElem?_eq_getElem (by have:=hlx.out; omega)⟩
   obtain ⟨y,hy⟩:∃ y,xs[pc]? = some y:=⟨_,List.getElem?_eq_getElem (by have:=hlx.out; omega)⟩
   have cx:Cs wr g (hm*11) (acC x):=(hh.out.next hb).cs (by rw [List.getElem?_map,hx]; rfl)
   have cy:Cs wr g (pc*11) (acC y):=(hh.out.next hb).cs (by rw [List.getElem?_map,hy]; rfl)
   have hkl:¬ klt (ky y) (ky x):=upA_get hu.out (by omega) hx hy
   clear hx hy
   have Hmid:=hid hmid
   have Hpc:=hid hpc
   have w1:IntKind.i64.wrap (pc:Int)=(pc:Int):=IntWalk.i64_in _ (by omega)
   clear hmid hpc
   go_upto_region 35 with fail
   have hmid:=Hmid.out
   rw [hmid]
   have hpc:=Hpc.out
   have hdr:=(Below.refl wr.heap.size wr).drew
   have hS:Cs wr.drew g (pc*11) (acC y)/\Cs wr.drew g (hm*11) (acC x):=⟨cy.next hdr,cx.next hdr⟩
   refine wp_region_D (fun w'=>Cs w' g (pc*11) (acC y)/\Cs w' g (hm*11) (acC x)) [11,12,13] (by kernel_rfl) ?_
   refine tkCp 0 rfl hS ?_
   refine tkCp 1 rfl hS ?_
   refine tkCp 2 rfl hS ?_
   refine tkCp 3 rfl hS ?_
   refine tkCp 4 rfl hS ?_
   refine tkCp 5 rfl hS ?_
   refine tkCl 6 (v:=?_) rfl ?_ hS ?_
   rotate_left
   ·intro w hw; obtain ⟨c1',c2'⟩:=hw; refine exec_loadArc g (pc*11) ?_ y c1'; go_simp
   refine tkCp 7 rfl hS ?_
   refine tkCp 8 rfl hS ?_
   refine tkCp 9 rfl hS ?_
   refine tkCl 10 (v:=?_) rfl ?_ hS ?_
   rotate_left
   ·intro w hw; obtain ⟨c1',c2'⟩:=hw; refine exec_loadArc g (hm*11) ?_ x c2'; go_simp
   refine wpO (i:=11) rfl fun KK hKK=>?_
   go_simp
   go_at_call 170
   refine (ordS_any x y hkl _).mono ?_; rintro e w9 ⟨⟨c,rfl,hc0⟩,hb9⟩
   have hcn:¬ c<0:=by omega
   try go_simp
   refine lN hKK ?_; clear hKK KK
   refine wpO (i:=12) rfl fun KK hKK=>?_
   go_simp
   refine lN hKK ?_; clear hKK KK
   refine wpO (i:=13) rfl fun KK hKK=>?_
   go_simp
   refine lN hKK ?_; clear hKK KK
   refine wpAnyD_done (by kernel_rfl) ?_ _
   go_simp
   go_wp2_with fail
   go_roundw
   case rel=>exact ⟨⟨hm+1,by omega,by omega,by go_num⟩,rfl,below_chain (below_chain hb hdr) hb9⟩
   case measure=>simp [intOf]; omega
  ·obtain rfl:i=m:=by omega
   have z1:(mid:Int)+(i:Int)-(i:Int)=(mid:Int):=by omega
   have z3:decide ((i:Int)<(i:Int))=false:=decide_eq_false (by omega)
   have z4:decide ((a:Int)<(i:Int))=true:=decide_eq_true (by omega)
   have z5:decide ((i:Int)<(mid:Int))=true:=decide_eq_true (by omega)
   have z6:decide ((mid:Int)<(mid:Int))=false:=decide_eq_false (by omega)
   have hf:=hid (hh.out.next hb)
   go_wp2_with fail
   refine (hrec.out _ hf.out).mono ?_; rintro e w5 ⟨rfl,hb5⟩
   go_wp2_with fail
   go_end0
   exact ⟨rfl,below_chain hb hb5⟩
theorem sym_genM (xs:List Ac) (hu:UpA xs) (g n cap a m b:Nat) (ham:a+1<m) (hmb:m+1<b) (hbn:b<=n) (hn:n<=4096) (hmid:(a+b)/2=m) (w:World) (h:Fl 11 w (some ⟨g,0,none⟩) n cap (xs.map acC)) :
  Calls Tryz.prog 294 #[.slice (some ⟨g,0,none⟩) n cap,.int .i64 ((a:Int)),.int .i64 ((m:Int)),.int .i64 ((b:Int)),.func (.func 170) #[] #[]] w fun e w'=>e=.returned (.tuple #[])/\Below w.heap.size w w':=by
 have hlx:=hid h.lenMap
 have hu:=hid hu
 have hh:=hid h
 clear h
 have hmz:(((a:Int)+(b:Int))/2=(m:Int))/\a<m/\m<b:=by omega
 obtain ⟨Hmz,hm1,hm2⟩:=hmz
 have Hmz:=hid Hmz
 clear hmid
 have c1:((m:Int)-(a:Int)==1)=false:=by rw [beq_eq_false_iff_ne]; omega
 have c2:((b:Int)-(m:Int)==1)=false:=by rw [beq_eq_false_iff_ne]; omega
 have c1':¬ ((m:Int)-(a:Int)=1):=by omega
 have c2':¬ ((b:Int)-(m:Int)=1):=by omega
 have c3:decide ((m:Int)<(m:Int))=false:=decide_eq_false (by omega)
 have c4:¬ (m:Int)<(m:Int):=by omega
 go_enter Tryz.func294,Tryz.ntmps294
 go_wp2_with fail
 go_loopw [20,21] (fun iv jv wr=>(∃ i:Nat,a<=i/\i<=m/\iv=.int .i64 (i:Int))/\jv=.int .i64 (m:Int)/\Below w.heap.size w wr) (fun iv _ _=>m-(intOf iv).toNat)
 case atStart=>exact ⟨⟨a,by omega,by omega,by first | rfl | exact congrArg (Value.int .i64) (by omega)⟩,rfl,Below.refl _ _⟩
 case round =>
  obtain ⟨⟨i,hi1,hi2,rfl⟩,rfl,hb⟩:=hrel
  by_cases hlt:i<m
  ·obtain ⟨hm,hmid⟩:∃ hm:Nat,((i:Int)+(m:Int))/2=(hm:Int):=⟨(i+m)/2,by omega⟩
   have k0:True:=trivial
   obtain ⟨pc,hpc⟩:∃ pc:Nat,(m:Int)+(m:Int)-1-(hm:Int)=(pc:Int):=⟨m+m-1-hm,by omega⟩
   have k1:(i:Int)<(m:Int):=by omega
   have k2:(0:Int)<=(hm:Int):=by omega
   have k3:(hm:Int)<(n:Int):=by omega
   have k4:(pc:Int)<(n:Int):=by omega
   have k5:(0:Int)<=(pc:Int):=by omega
   have k6:i<=hm/\hm<m:=by omega
   have k7:(0:Int)<=(m:Int)+(m:Int)-1-(hm:Int):=by omega
   have k8:(m:Int)+(m:Int)-1-(hm:Int)<(n:Int):=by omega
   obtain ⟨x,hx⟩:∃ x,xs[hm]? = some x:=⟨_,List.getElem?_eq_getElem (by have:=hlx.out; omega)⟩
   obtain ⟨y,hy⟩:∃ y,xs[pc]? = some y:=⟨_,List.getElem?_eq_getElem (by have:=hlx.out; omega)⟩
   have cx:Cs wr g (hm*11) (acC x):=(hh.out.next hb).cs (by rw [List.getElem?_map,hx]; rfl)
   have cy:Cs wr g (pc*11) (acC y):=(hh.out.next hb).cs (by rw [List.getElem?_map,hy]; rfl)
   have hkl:¬ klt (ky y) (ky x):=upA_get hu.out (by omega) hx hy
   clear hx hy
   have Hmid:=hid hmid
   have Hpc:=hid hpc
   have w1:IntKind.i64.wrap (pc:Int)=(pc:Int):=IntWalk.i64_in _ (by omega)
   clear hmid hpc
   go_upto_region 35 with fail
   have hmid:=Hmid.out
   rw [hmid]
   have hpc:=Hpc.out
   have hdr:=(Below.refl wr.heap.size wr).drew
   have hS:Cs wr.drew g (pc*11) (acC y)/\Cs wr.drew g (hm*11) (acC x):=⟨cy.next hdr,cx.next hdr⟩
   refine wp_region_D (fun w'=>Cs w' g (pc*11) (acC y)/\Cs w' g (hm*11) (acC x)) [11,12,13] (by kernel_rfl) ?_
   refine tkCp 0 rfl hS ?_
   refine tkCp 1 rfl hS ?_
   refine tkCp 2 rfl hS ?_
   refine tkCp 3 rfl hS ?_
   refine tkCp 4 rfl hS ?_
   refine tkCp 5 rfl hS ?_
   refine tkCl 6 (v:=?_) rfl ?_ hS ?_
   rotate_left
   ·intro w hw; obtain ⟨c1',c2'⟩:=hw; refine exec_loadArc g (pc*11) ?_ y c1'; go_simp
   refine tkCp 7 rfl hS ?_
   refine tkCp 8 rfl hS ?_
   refine tkCp 9 rfl hS ?_
   refine tkCl 10 (v:=?_) rfl ?_ hS ?_
   rotate_left
   ·intro w hw; obtain ⟨c1',c2'⟩:=hw; refine exec_loadArc g (hm*11) ?_ x c2'; go_simp
   refine wpO (i:=11) rfl fun KK hKK=>?_
   go_simp
   go_at_call 170
   refine (ordS_any x y hkl _).mono ?_; rintro e w9 ⟨⟨c,rfl,hc0⟩,hb9⟩
   have hcn:¬ c<0:=by omega
   try go_simp
   refine lN hKK ?_; clear hKK KK
   refine wpO (i:=12) rfl fun KK hKK=>?_
   go_simp
   refine lN hKK ?_; clear hKK KK
   refine wpO (i:=13) rfl fun KK hKK=>?_
   go_simp
   refine lN hKK ?_; clear hKK KK
   refine wpAnyD_done (by kernel_rfl) ?_ _
   go_simp
   go_wp2_with fail
   go_roundw
   case rel=>exact ⟨⟨hm+1,by omega,by omega,by go_num⟩,rfl,below_chain (below_chain hb hdr) hb9⟩
   case measure=>simp [intOf]; omega
  ·obtain rfl:i=m:=by omega
   have z1:(i:Int)+(i:Int)-(i:Int)=(i:Int):=by omega
   have z3:decide ((i:Int)<(i:Int))=false:=decide_eq_false (by omega)
   have z4:decide ((a:Int)<(i:Int))=true:=decide_eq_true (by omega)
   have z5:decide ((i:Int)<(i:Int))=false:=decide_eq_false (by omega)
   have z6:decide ((i:Int)<(i:Int))=false:=decide_eq_false (by omega)
   have hf:=hid (hh.out.next hb)
   go_wp2_with fail
   go_end0
   exact ⟨rfl,hb⟩
theorem symS_any (xs:List Ac) (hu:UpA xs) (g n cap:Nat) (hn:n<=4096):∀ (d a m b:Nat),b-a<=d->a<m->m<b->b<=n->∀ (w:World),Fl 11 w (some ⟨g,0,none⟩) n cap (xs.map acC) ->
  Calls Tryz.prog 294 #[.slice (some ⟨g,0,none⟩) n cap,.int .i64 ((a:Int)),.int .i64 ((m:Int)),.int .i64 ((b:Int)),.func (.func 170) #[] #[]] w fun e w'=>e=.returned (.tuple #[])/\Below w.heap.size w w'
 | 0,a,m,b,hd,h1,h2,_,_,_=>by omega
 | d+1,a,m,b,hd,h1,h2,h3,w,h=>by
  by_cases e1:a+1=m
  ·subst e1
   have:=sym_left xs hu g n cap a b (by omega) h3 hn w h
   exact this
  by_cases e2:b=m+1
  ·subst e2
   have:=sym_right xs hu g n cap a m (by omega) (by omega) hn w h
   exact this
  rcases Nat.lt_trichotomy ((a+b)/2) m with k | k | k
  ·exact sym_genA xs hu g n cap a m b _ (by omega) (by omega) h3 hn rfl k w h fun W hW=>symS_any xs hu g n cap hn d _ m b (by omega) k (by omega) h3 W hW
  ·exact sym_genM xs hu g n cap a m b (by omega) (by omega) h3 hn k w h
  ·exact sym_genB xs hu g n cap a m b _ (by omega) (by omega) h3 hn rfl k w h fun W hW=>symS_any xs hu g n cap hn d a m _ (by omega) h1 k (by omega) W hW
end
section
open Go.RowKit
theorem wp_clearF {P:Program} {w:World} {ops:Array Oper} {rest:List Oper} {o:Oper} {a:Act} {Q:EP} (hgd:o.guard=none) (x:Operand) (t:TypeId)
  (ho:o.op=.call { callee:=.builtin .clear,args:=#[x],argTypes:=#[t] }) (e:TypeId) (z:Value) (k:Nat) (ht:P.underlying t=some (.slice e)) (hv:∀ w,(zeroValue e).run P w=.ok z w) (hz:z.cells.size=k) (h1:∀ u∈z.cells,u.oneCell'=true) (hk:0<k)
  (base g n cap c:Nat) (css:List (List Value)) (hf:FO e k w base (.slice (some ⟨g,0,none⟩) n cap) css) (i off m:Nat) (hi:i<n) (hoff:off=i*k) (hm:m=n-i) (hx:a.eval x=.slice (some ⟨g,off,none⟩) m c)
  (h:∀ w',FO e k w' base (.slice (some ⟨g,0,none⟩) i cap) (css.take i)->Fr (fun k=>k=g) w w'->wpList P ops Q rest (a.put o.dst (.tuple #[])) w'):wpList P ops Q (o::rest) a w:=by
 have hl:css.length=n:=by
  rcases hf.1.2 with ⟨hv,_⟩ | ⟨g',cap',cur,hv,_⟩
  ·cases hv
  ·injection hv with _ h1; exact h1.symm
 obtain ⟨vs,hvl,hr⟩:=run_clearK (P:=P) w t e o.type z k ht hv hz h1 hk g off m c (by omega) (fun j hj=>by
  have hj0:i*k+j<n*k:=by
   have:m*k+i*k=n*k:=by rw [<-Nat.add_mul,hm]; congr 1; omega
   omega
  have hq:(i*k+j)/k<n:=(Nat.div_lt_iff_lt_mul hk).2 hj0
  have hc:=hf.cs (i:=(i*k+j)/k) (x:=css[(i*k+j)/k]'(by omega)) (by simp)
  have hlen:(css[(i*k+j)/k]'(by omega)).length=k:=hf.2 _ (List.getElem_mem (by omega))
  have hr:(i*k+j)%k<(css[(i*k+j)/k]'(by omega)).length:=by rw [hlen]; exact Nat.mod_lt _ hk
  have:=hc ((i*k+j)%k) _ (List.getElem?_eq_getElem hr)
  have e0:(i*k+j)/k*k+(i*k+j)%k=i*k+j:=by rw [Nat.mul_comm]; exact Nat.div_add_mod (i*k+j) k
  rw [e0] at this
  rw [hoff,this]; rfl) (fun j _=>hf.free _)
 refine wpList_plain hgd fun K' hK=>?_
 unfold Oper.wp execOp
 simp only [ho,resolve,invoke,builtin,Sem.run_bind,Sem.run_pure,Result.andThen_ok,List.map_toArray,List.map_cons,List.map_nil,hx,hr]
 refine hK _ _ (h _ ?_ (fr_setCells g vs off w))
 rw [hoff]
 exact FO.behind (by rw [List.length_take]; omega) vs (i*k) (hf.front (by omega)) (Nat.le_refl _)
theorem indexT_all (xs:List Ac) (hall:∀ x∈xs,nz x=true) (G:Nat) (ao:OA) (n cap:Nat) (w:World) (h:Fl 11 w ao n cap (xs.map acC)) (hG:Bl G [.int .i64 2,.slice none 0 0] 26 w) :
  Calls Tryz.prog 143 #[.slice ao n cap,.func (.func 172) #[] #[.pointer (some ⟨G,0,none⟩)]] w fun e w'=>e=.returned (.int .i64 (-1))/\Below w.heap.size w w' :=
 (indexT_any xs G ao n cap w h hG).mono fun e w' ⟨⟨r,he,hr⟩,hb⟩=>⟨(by
  rcases hr with ⟨rfl,_⟩ | ⟨i,_,_,_,x,hx,hz⟩
  ·exact he
  ·rw [hall x (List.mem_of_getElem? hx)] at hz
   cases hz),hb⟩
theorem indexT_at (xs:List Ac) (i0:Nat) (x0:Ac) (hpre:∀ x∈xs.take i0,nz x=true) (hx0:xs[i0]? = some x0) (hz0:nz x0=false) (G:Nat) (ao:OA) (n cap:Nat) (w:World) (h:Fl 11 w ao n cap (xs.map acC)) (hG:Bl G [.int .i64 2,.slice none 0 0] 26 w) :
  Calls Tryz.prog 143 #[.slice ao n cap,.func (.func 172) #[] #[.pointer (some ⟨G,0,none⟩)]] w fun e w'=>e=.returned (.int .i64 (i0:Int))/\Below w.heap.size w w' :=
 (indexT_any xs G ao n cap w h hG).mono fun e w' ⟨⟨r,he,hr⟩,hb⟩=>⟨(by
  rcases hr with ⟨rfl,hall⟩ | ⟨i,rfl,hi,hp,x,hx,hz⟩
  ·rw [hall x0 (List.mem_of_getElem? hx0)] at hz0
   cases hz0
  ·obtain rfl:i=i0:=by
    rcases Nat.lt_trichotomy i i0 with hlt | heq | hlt
    ·rw [hpre x (List.mem_of_getElem? (i:=i) (by rw [List.getElem?_take,if_pos hlt]; exact hx))] at hz
     cases hz
    ·exact heq
    ·rw [hp x0 (List.mem_of_getElem? (i:=i0) (by rw [List.getElem?_take,if_pos hlt]; exact hx0))] at hz0
     cases hz0
   exact he),hb⟩
theorem first_no {xs:List Ac}:(∀ x∈xs,nz x=true)\/∃ i x,xs[i]? = some x/\nz x=false/\∀ y∈xs.take i,nz y=true:=by
 induction xs with
 | nil=>exact .inl fun x h=>by cases h
 | cons a r ih =>
  cases ha:nz a with
  | false=>exact .inr ⟨0,a,rfl,ha,fun y h=>by simp at h⟩
  | true =>
   rcases ih with h | ⟨i,x,h1,h2,h3⟩
   ·exact .inl fun x hx=>by
     rcases List.mem_cons.1 hx with rfl | hx
     ·exact ha
     ·exact h x hx
   ·exact .inr ⟨i+1,x,by simpa using h1,h2,fun y hy=>by
     rw [List.take_succ_cons] at hy
     rcases List.mem_cons.1 hy with rfl | hy
     ·exact ha
     ·exact h3 y hy⟩
theorem fo_len' {e:TypeId} {k base g n cap:Nat} {w:World} {xs:List Ac} (h:FO e k w base (.slice (some ⟨g,0,none⟩) n cap) (xs.map acC)):xs.length=n:=by
 rcases h.1.2 with ⟨hv,_⟩ | ⟨g',cap',cur,hv,_⟩
 ·cases hv
 ·injection hv with _ h1; simpa using h1.symm
theorem FO.flS {e:TypeId} {k base g n cap:Nat} {w:World} {xs:List Ac} (h:FO e k w base (.slice (some ⟨g,0,none⟩) n cap) (xs.map acC)):Fl k w (some ⟨g,0,none⟩) n cap (xs.map acC):=by
 obtain ⟨ao,cap',e1,hf,_⟩:=h.fl
 injection e1 with e1 e2 e3
 subst e1 e3
 rw [List.length_map,fo_len' h] at hf
 exact hf
theorem deleteS_all (xs:List Ac) (hall:∀ x∈xs,nz x=true) (base G g n cap:Nat) (w:World) (h:FO 54 11 w base (.slice (some ⟨g,0,none⟩) n cap) (xs.map acC)) (hG:Bl G [.int .i64 2,.slice none 0 0] 26 w) (hbase:base<=w.heap.size) :
  Calls Tryz.prog 171 #[.slice (some ⟨g,0,none⟩) n cap,.func (.func 172) #[] #[.pointer (some ⟨G,0,none⟩)]] w fun e w' =>
   (e=.returned (.slice (some ⟨g,0,none⟩) n cap)/\FO 54 11 w' base (.slice (some ⟨g,0,none⟩) n cap) (xs.map acC))/\Below base w w':=by
 have Hall:=hid hall
 clear hall
 have hf:=hid h.flS
 go_enter Tryz.func171,Tryz.ntmps171
 go_wp2_with fail
 refine (indexT_all xs Hall.out G _ n cap _ hf.out hG).mono ?_; rintro e w1 ⟨rfl,hb1⟩
 have h1:=h.next hb1
 have hb1':Below base w w1:=hb1.mono hbase
 go_wp2_with fail
 go_ret
 exact ⟨⟨rfl,h1⟩,hb1'⟩
theorem Tryz.zeroArc (w:World):(zeroValue 54).run Tryz.prog w=.ok (.agg #[.int .i64 0,.int .i64 0,.int .i64 0,.bool false,.slice none 0 0,.slice none 0 0,.int .i64 0,.bool false,.int .u64 0,.slice none 0 0,.slice none 0 0]) w:=by kernel_rfl
theorem wp_clearArc {w:World} {ops:Array Oper} {rest:List Oper} {o:Oper} {a:Act} {Q:EP} (hgd:o.guard=none) (x:Operand)
  (ho:o.op=.call { callee:=.builtin .clear,args:=#[x],argTypes:=#[28] }) (base g n cap c:Nat) (xs:List Ac) (hf:FO 54 11 w base (.slice (some ⟨g,0,none⟩) n cap) (xs.map acC)) (i:Nat) (hi:i<n) (hx:a.eval x=.slice (some ⟨g,i*11,none⟩) (n-i) c)
  (h:∀ w',FO 54 11 w' base (.slice (some ⟨g,0,none⟩) i cap) ((xs.take i).map acC)->Fr (fun k=>k=g) w w'->wpList Tryz.prog ops Q rest (a.put o.dst (.tuple #[])) w'):wpList Tryz.prog ops Q (o::rest) a w :=
 wp_clearF hgd x _ ho _ _ 11 Tryz.underlying28 Tryz.zeroArc rfl (fun u hu=>acC_1 (0,0,0,some 0) u (Array.mem_toList_iff.2 hu)) (by decide) base g n cap c _ hf i (i*11) (n-i) hi rfl rfl hx fun w' h1 h2=>h w' (by rw [List.map_take]; exact h1) h2
theorem deleteS_some (xs:List Ac) (i0:Nat) (x00:Ac) (hpre:∀ x∈xs.take i0,nz x=true) (hx0:xs[i0]? = some x00) (hz0:nz x00=false) (base G g n cap:Nat) (w:World) (h:FO 54 11 w base (.slice (some ⟨g,0,none⟩) n cap) (xs.map acC)) (hG:Bl G [.int .i64 2,.slice none 0 0] 26 w) (hGb:G<base) (hbase:base<=w.heap.size) (hn:n<=4096) :
  Calls Tryz.prog 171 #[.slice (some ⟨g,0,none⟩) n cap,.func (.func 172) #[] #[.pointer (some ⟨G,0,none⟩)]] w fun e w' =>
   (∃ m,e=.returned (.slice (some ⟨g,0,none⟩) m cap)/\FO 54 11 w' base (.slice (some ⟨g,0,none⟩) m cap) ((xs.filter nz).map acC))/\Below base w w':=by
 have hlx:Hid (xs.length=n):=hid (fo_len' h)
 have hgb:=(h.lt rfl).1
 have hi0:i0<n:=by have:=(List.getElem?_eq_some_iff.1 hx0).1; have:=hlx.out; omega
 have hat:Hid (xs.take (i0)=(xs.take (i0+1)).filter nz):=hid (by
  rw [List.take_succ_eq_append_getElem (List.getElem?_eq_some_iff.1 hx0).1,List.filter_append,List.filter_eq_self.2 hpre,(List.getElem?_eq_some_iff.1 hx0).2]
  simp [hz0])
 have Hpre:=hid hpre
 have Hx0:=hid hx0
 have hf:=hid h.flS
 have c1:((i0:Int) == -1)=false:=by rw [beq_eq_false_iff_ne]; omega
 have c2:¬ ((i0:Int) = -1):=by omega
 clear hpre hx0
 go_enter Tryz.func171,Tryz.ntmps171
 go_wp2_with fail
 refine (indexT_at xs i0 x00 Hpre.out Hx0.out hz0 G _ n cap _ hf.out hG).mono ?_; rintro e w1 ⟨rfl,hb1⟩
 have h1:=h.next hb1
 have hb1':Below base w w1:=hb1.mono hbase
 clear hf h
 go_wp2_with fail
 go_loopw [5,6] (fun iv jv wr=>∃ (i j:Nat) (C:List Ac),i<j/\j<=n/\iv=.int .i64 i/\jv=.int .i64 j/\FO 54 11 wr base (.slice (some ⟨g,0,none⟩) n cap) (C.map acC)/\Hid (C.take i=(xs.take j).filter nz)/\Hid (C.drop j=xs.drop j)/\Below base w wr) (fun _ j _=>n-(intOf j).toNat)
 case atStart=>exact ⟨i0,i0+1,xs,by omega,by omega,by go_num,by go_num,h1,hat,hid rfl,hb1'⟩
 case round =>
  obtain ⟨i,j,C,hij,hj,rfl,rfl,hC,ht,hd,hb⟩:=hrel
  have hCn:=hid (fo_len' hC)
  have hGr:=hG.under hb hGb
  by_cases hlt:j<n
  ·have hjC:j<C.length:=by rw [hCn.out]; exact hlt
   obtain ⟨x,hx⟩:∃ x,C[j]? = some x:=⟨_,List.getElem?_eq_getElem hjC⟩
   have hxx:Hid (xs[j]? = some x):=hid (by
    have:=congrArg (fun l=>l[0]?) hd.out
    simp only [List.getElem?_drop,Nat.add_zero] at this
    rw [<-this]; exact hx)
   have gx:Cs wr g (j*11) (acC x):=hC.cs (by rw [List.getElem?_map,hx]; rfl)
   have hxj:Hid ((xs.take (j+1)).filter nz=(xs.take j).filter nz++[x].filter nz):=hid (by
    rw [List.take_succ_eq_append_getElem (List.getElem?_eq_some_iff.1 hxx.out).1,List.filter_append,(List.getElem?_eq_some_iff.1 hxx.out).2])
   have hdj:Hid (C.drop (j+1)=xs.drop (j+1)):=hid (by
    have:=congrArg (List.drop 1) hd.out
    simpa [List.drop_drop] using this)
   have Hx:=hid hx
   clear hx hxx
   obtain ⟨q,hq⟩:∃ q,decide (wt x=none)=q:=⟨_,rfl⟩
   have htd:=hid (fun W h=>tidy1_any x G W h)
   rw [hq] at htd
   have Hq:=hid hq
   clear hq
   have hlC:i<(C.map acC).length:=by rw [List.length_map]; omega
   go_wp2_with (first | ((with_reducible refine wp_loadArc rfl _ rfl g (j*11) ?_ x gx ?_); exact rfl) | ((with_reducible refine wp_storeVArc rfl _ _ rfl _ _ ?_ x ?_ ?_ ?_); exact rfl; exact rfl; exact rfl))
   have hbA:Below wr.heap.size wr (wr.alloc (.cells (acC x).toArray 54)):=below_alloc _
   have hA:=Bl.fresh wr (acC x) 54
   have hC1:=hC.next hbA
   have hG1:=hGr.next hbA
   have hb2:=hb.trans (hbA.mono (Nat.le_trans hbase hb.size))
   have hAb:base<=wr.heap.size:=Nat.le_trans hbase hb.size
   have hgA:g<wr.heap.size:=(hC.lt rfl).2
   generalize hW1:wr.alloc (.cells (acC x).toArray 54)=W1 at *
   generalize hGA:wr.heap.size=GA at *
   clear hW1 gx
   refine (htd.out _ hG1).mono ?_; rintro e w3 ⟨rfl,hb3⟩
   have hC2:=hC1.next hb3
   have hA2:=(hA.next hb3).cs
   have hb4:=hb2.trans (hb3.mono (Nat.le_trans hbase hb2.size))
   clear hC1 hA hG1 hC
   cases q with
   | true =>
    go_wp2_with fail
    go_roundw
    case rel=>exact ⟨i,j+1,C,by omega,by omega,by go_num,by go_num,hC2,hid (by
     rw [hxj.out,ht.out]
     have:nz x=false:=by
      cases hz:nz x with
      | false=>rfl
      | true=>exact absurd (of_decide_eq_true Hq.out) (nz_none.1 hz)
     simp [this]),hdj,hb4⟩
    case measure=>simp [intOf]; omega
   | false =>
    have i1:(i:Int)<(n:Int):=by omega
    have i2:(0:Int)<=(i:Int):=by omega
    have hlC2:i<C.length:=by omega
    go_wp2_with (first | ((with_reducible refine wp_loadArc rfl _ rfl GA 0 ?_ x hA2 ?_); exact rfl) | ((with_reducible refine wp_storeFArc rfl _ _ rfl base g n cap C hC2 i (i*11) hlC2 rfl ?_ x ?_ ?_); exact rfl; exact rfl; intro w5 hC5 hfr5))
    have hb5:Below base w w5:=hb4.trans (hfr5.below (fun k hk=>by omega) (Nat.le_trans hbase hb4.size))
    go_roundw
    case rel=>exact ⟨i+1,j+1,C.set i x,by omega,by omega,by go_num,by go_num,hC5,hid (by
     have hz:nz x=true:=nz_none.2 (of_decide_eq_false Hq.out)
     rw [hxj.out,<-ht.out,List.take_succ_eq_append_getElem (by rw [List.length_set]; omega),List.take_set_of_le (Nat.le_refl i)]
     simp [hz]),hid (by rw [List.drop_set_of_lt (by omega)]; exact hdj.out),hb5⟩
    case measure=>simp [intOf]; omega
  ·obtain rfl:j=n:=by omega
   have i0':(i:Int)<=(j:Int):=by omega
   have hcx:Hid (C.take i=xs.filter nz):=hid (by rw [ht.out,List.take_of_length_le (by rw [hlx.out]; omega)])
   have hcap:j<=cap:=hC.flS.le
   have hgA:base<=wr.heap.size:=Nat.le_trans hbase hb.size
   go_wp2_with ((with_reducible refine wp_clearArc rfl _ rfl base g j cap (cap-i) C hC i hij ?_ ?_); exact rfl; intro w5 hC5 hfr5)
   go_ret
   exact ⟨⟨i,rfl,by rw [<-hcx.out]; exact hC5⟩,hb.trans (hfr5.below (fun k hk=>by omega) hgA)⟩
theorem deleteT_any (xs:List Ac) (base G n cap:Nat) (ao:OA) (w:World) (h:FO 54 11 w base (.slice ao n cap) (xs.map acC)) (hG:Bl G [.int .i64 2,.slice none 0 0] 26 w) (hGb:G<base) (hbase:base<=w.heap.size) (hn:n<=4096) :
  Calls Tryz.prog 171 #[.slice ao n cap,.func (.func 172) #[] #[.pointer (some ⟨G,0,none⟩)]] w fun e w' =>
   (∃ ao' m cap',e=.returned (.slice ao' m cap')/\FO 54 11 w' base (.slice ao' m cap') ((xs.filter nz).map acC))/\Below base w w':=by
 rcases h.1.2 with ⟨hv,h0⟩ | ⟨g,cap',cur,hv,_⟩
 ·injection hv with e1 e2 e3
  subst e1 e2 e3
  have hx:xs=[]:=List.eq_nil_of_length_eq_zero (by simpa using h0)
  subst hx
  go_enter Tryz.func171,Tryz.ntmps171
  go_wp2_with fail
  refine (indexT_all [] (fun x hx=>by cases hx) G none 0 0 _ (Fl.none_ 11 w) hG).mono ?_; rintro e w1 ⟨rfl,hb1⟩
  go_wp2_with fail
  go_ret
  exact ⟨⟨_,_,_,rfl,FO.nil _ _ _ _⟩,hb1.mono hbase⟩
 ·injection hv with e1 e2 e3
  subst e1 e3
  rcases first_no (xs:=xs) with hall | ⟨i0,x0,hx0,hz0,hpre⟩
  ·exact (deleteS_all xs hall base G g n cap w h hG hbase).mono fun e w' ⟨⟨h1,h2⟩,h3⟩=>⟨⟨_,_,_,h1,by rw [List.filter_eq_self.2 hall]; exact h2⟩,h3⟩
  ·exact (deleteS_some xs i0 x0 hpre hx0 hz0 base G g n cap w h hG hGb hbase hn).mono fun e w' ⟨⟨m,h1,h2⟩,h3⟩=>⟨⟨_,_,_,h1,h2⟩,h3⟩
end
end Go.Proofs.YtnapapijhhldpaaGreatDoor

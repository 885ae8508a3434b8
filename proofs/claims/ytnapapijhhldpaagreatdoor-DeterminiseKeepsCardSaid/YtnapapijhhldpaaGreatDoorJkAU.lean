/-
  Texts joined by program: Tri, Trj, Trk, Trl. No condition of its own.
-/
import Derived.Test.YtnapapijhhldpaaGreatDoorJkAT
namespace Go.Proofs.YtnapapijhhldpaaGreatDoor
set_option linter.unusedSimpArgs false
set_option linter.unusedVariables false
set_option maxRecDepth 100000
set_option maxHeartbeats 4000000
section
open Go.RowKit
theorem j2o {ops:Array Oper} {rest:List Oper} {o:Oper} {a:Act} {w:World} {Q:EP} (hgd:o.guard=none) (x y:Operand) (ho:o.op=.store 45 x y)
  (X:Nat) (T:TypeId) (z:Ac) (hX:Bl X (acC z) T w) (hx:a.eval x=.pointer (some ⟨X,3,none⟩)) (v:Tw) (hy:a.eval y=.agg (twC v).toArray)
  (h:∀ w',Bl X (acC (z.1,z.2.1,z.2.2.1,v)) T w'->Fr (fun k=>k=X) w w'->wpList Tryz.prog ops Q rest (a.put o.dst undef) w'):wpList Tryz.prog ops Q (o::rest) a w :=
 wpList_plain hgd fun _ hK=>q3c _ x y ho X T (acC z) hX 3 hx (twC v) (Nat.le_refl 11) hy (q0f v) Tryz.sizeTw fun w' h2 h3=>hK _ _ (h w' h2 h3)
theorem z5t (x:Ac):(x.1,x.2.1,x.2.2.1,wt x)=x:=rfl
theorem j0z {w:World} {b o:Nat} {x:Ac} (h:Cs w b o (acC x)):Cs w b (o+3) (twC (wt x)):=fun c v hv=>by
 have:=h (c+3) v (by
  match c,hv with
  | 0,hv=>exact hv
  | 1,hv=>exact hv
  | 2,hv=>exact hv
  | 3,hv=>exact hv
  | 4,hv=>exact hv
  | 5,hv=>exact hv
  | 6,hv=>exact hv
  | 7,hv=>exact hv
  | c+8,hv=>simp at hv)
 rw [show o+3+c=o+(c+3) by omega]; exact this
theorem z4o:∀ {K:List Ac} {q:Nat} {y:Ac},Ss K->K[q]? = some y->∀ z∈K.drop (q+1),klt (ky y) (ky z)
 | [],q,y,_,h=>by simp at h
 | a::r,0,y,hs,h=>by
  simp at h; subst h
  intro z hz
  exact hs.1 z (by simpa using hz)
 | a::r,q+1,y,hs,h=>by
  intro z hz
  exact z4o hs.2 (by simpa using h) z (by simpa using hz)
theorem z1m {K l:List Ac} {x:Ac} {q:Nat} (h:At K x q) (hn:Nf K l) (hne:∀ y,K[q]? = some y->ky y≠ky x):Nf (K.take q++[x]++K.drop q) (l++[x]):=by
 obtain ⟨h1,h2,h3⟩:=h
 rw [List.append_assoc]
 refine Nf.new (p:=K.take q) (r:=K.drop q) (x:=x) (by rw [List.take_append_drop]; exact hn) (fun y hy=>?_) (fun y hy=>?_)
 ·obtain ⟨j,hj⟩:=List.getElem?_of_mem hy
  rw [List.getElem?_take] at hj
  split at hj
  ·rename_i hlt; exact h2 j y hlt hj
  ·cases hj
 ·by_cases hq:q<K.length
  ·have hk:K[q]? = some K[q]:=List.getElem?_eq_getElem hq
   have hlt:klt (ky x) (ky K[q]):=by
    rcases j6n (ky K[q]) (ky x) with e | e | e
    ·exact absurd e (h3 _ hk)
    ·exact absurd e (hne _ hk)
    ·exact e
   rw [kX hk] at hy
   rcases List.mem_cons.1 hy with rfl | hy
   ·exact hlt
   ·exact q1f hlt (z4o hn.1 hk y hy)
  ·rw [List.drop_eq_nil_of_le (by omega)] at hy; cases hy
theorem z4e {K l:List Ac} {x y:Ac} {q:Nat} (hn:Nf K l) (hy:K[q]? = some y) (he:ky y=ky x):Nf (K.set q (y.1,y.2.1,y.2.2.1,qP (wt y) (wt x))) (l++[x]):=by
 have hq:=(List.getElem?_eq_some_iff.1 hy).1
 have e1:K=K.take q++y::K.drop (q+1):=by
  rw [<-kX hy,List.take_append_drop]
 have e2:K.set q (y.1,y.2.1,y.2.2.1,qP (wt y) (wt x))=K.take q++(y.1,y.2.1,y.2.2.1,qP (wt y) (wt x))::K.drop (q+1):=by
  rw [List.set_eq_take_append_cons_drop,if_pos hq]
 rw [e2]
 exact Nf.same (by rw [<-e1]; exact hn) he
theorem z5i {K l:List Ac} (hn:Nf K l) (hl:∀ y∈l,ArB y):∀ y∈K,ArB y:=fun y hy=>by
 obtain ⟨⟨z,hz,hk,_⟩,_⟩:=hn.2.1 y hy
 have:=hl z hz
 have h1:z.1=y.1:=congrArg (fun q:Ky=>q.1) hk
 have h2:z.2.1=y.2.1:=congrArg (fun q:Ky=>q.2.1) hk
 have h3:z.2.2.1=y.2.2.1:=congrArg (fun q:Ky=>q.2.2) hk
 unfold ArB at *
 rw [<-h1,<-h2,<-h3]; exact this
theorem z6g {K l:List Ac} (hn:Nf K l) (hl:∀ y∈l,vW (wt y)):∀ y∈K,vW (wt y):=fun y hy=>by
 obtain ⟨⟨z,hz,_,hw⟩,_⟩:=hn.2.1 y hy
 rw [<-hw]; exact hl z hz
theorem z0o (W1:World) (L:List Ac) (lo:OA) (n lc B i:Nat) (hi:i<n) (hn:n<=2048) (hLB:Hid (∀ y∈L,ArB y)) (hLT:Hid (∀ y∈L,vW (wt y))) (hl:Hid (Fl 11 W1 lo n lc (L.map acC))) (hB:Bl B rgC 26 W1) (ov:Value) (K:List Ac) (w:World) (hb:Below W1.heap.size W1 w) (hK:Hid (Nf K (L.take i))) (hKl:K.length<=i) (hf:FO 54 11 w W1.heap.size ov (K.map acC))
  {c0 c3 c4 c7 c8 c9 Aa Ab Ad Ae Af Ag Ah Ak Al Am An Ao Ap Aq Ar As Av Aw Ax Ay Az Ba Bb Bc Be Bf Bh Bi Bj Bk Bm Bn Bo Bp Bq Br Bs Bt Bu Bv Bw Bx By Bz Ca Cb Cc Cd Ce Cf Cg Ch Ci Cj Ck Cl Cm Cn Co Cp Cq Cr Ct Cu Cv Cw Cx Cy Cz Da Db Dc Dd De Df Dg Dh Di Dj Dk Dl Dn Dp Dq Dr Dt Du Dv Dw Dx:Value} {Q0:EP} (hpan:∀ c (a:Act) d v w,Q0 (.panic c) (a.put d v) w->Q0 (.panic c) a w)
  (hexit:∀ (u7 u8 Dy Dz Ea Eb Ec Ed Ee Ef Eg Eh Ei Ej Ek El Em En Eo Ep Eq Er Es Et Eu Ev Ew Ex Ey Ez Fa Fb Fc Fd Fe Ff Fg Fh Fi Fj Fk Fm Fn Fo Fp Fq Fs Ft Fu Fv Fw Fx Fy Fz Ga Gb Gc Gd Ge Gf Gg Gh Gi:Value) (ov':Value) (K':List Ac) (w':World),Nf K' (L.take (i+1))->K'.length<=i+1->FO 54 11 w' W1.heap.size ov' (K'.map acC)->Below W1.heap.size W1 w'->Q0 .normal ⟨#[c0,.slice lo n lc,.pointer (some ⟨B,0,none⟩),c3,c4,ov',.int .i64 (i:Int),u7,u8,c9,Aa,Ab,Ad,Ae,Af,Ag,Ah,Dy,Dz,Ea,Eb,Ec,Ed,Ee,Ef,Eg,Eh,Ei,Ej,Ek,El,Em,En,Eo,Ep,Eq,Er,Es,Et,Eu,Ev,Ew,Ex,Ey,Ez,Fa,Fb,Fc,Fd,Fe,Ff,Fg,Fh,Fi,Fj,Fk,Fm,Fn,Fo,Fp,Fq,Fs,Ft,Fu,Fv,Fw,Fx,Fy,Fz,Ga,Gb,Gc,Gd,Ge,Gf,Gg,Gh,Gi,Cz,Da,Db,Dc,Dd,De,Df,Dg,Dh,Di,Dj,Dk,Dl,Dn,Dp,Dq,Dr,Dt,Du,Dv,Dw,Dx],[]⟩ w') :
  Code.wp Tryz.prog (rA 1) Q0 ⟨#[c0,.slice lo n lc,.pointer (some ⟨B,0,none⟩),c3,c4,ov,.int .i64 (i:Int),c7,c8,c9,Aa,Ab,Ad,Ae,Af,Ag,Ah,Ak,Al,Am,An,Ao,Ap,Aq,Ar,As,Av,Aw,Ax,Ay,Az,Ba,Bb,Bc,Be,Bf,Bh,Bi,Bj,Bk,Bm,Bn,Bo,Bp,Bq,Br,Bs,Bt,Bu,Bv,Bw,Bx,By,Bz,Ca,Cb,Cc,Cd,Ce,Cf,Cg,Ch,Ci,Cj,Ck,Cl,Cm,Cn,Co,Cp,Cq,Cr,Ct,Cu,Cv,Cw,Cx,Cy,Cz,Da,Db,Dc,Dd,De,Df,Dg,Dh,Di,Dj,Dk,Dl,Dn,Dp,Dq,Dr,Dt,Du,Dv,Dw,Dx],[]⟩ w:=by
 conv=>arg 2; whnf
 obtain ⟨x,hxk,b,off,hlo,hcs⟩:=(hl.out.next hb).get hi
 subst hlo
 have hxm:=List.mem_of_getElem? hxk
 have hxB:=hLB.out x hxm
 have hxT:=hid (hLT.out x hxm)
 have htk:Hid (L.take (i+1)=L.take i++[x]):=hid (jR hxk)
 have hKB:=hid (z5i hK.out (fun y hy=>hLB.out y (List.mem_of_mem_take hy)))
 have hKT:=hid (z6g hK.out (fun y hy=>hLT.out y (List.mem_of_mem_take hy)))
 have i1:(i:Int)<(n:Int):=by omega
 have i0:(0:Int)<=(i:Int):=by omega
 have hlb:=hl.out.bound
 have hBw:=hB.next hb
 have hbX:Below w.heap.size w (w.alloc (.cells (acC x).toArray 54)):=qJ _
 have hX:=Bl.fresh w (acC x) 54
 have hXs:W1.heap.size<=w.heap.size:=hb.size
 clear hxk hxm
 go_upto_region 6 with ((first | ((with_reducible refine jV rfl _ rfl b (off+i*11) ?_ x hcs ?_); exact rfl) | ((with_reducible refine jZ rfl _ _ rfl _ _ ?_ x ?_ ?_ ?_); exact rfl; exact rfl; exact rfl)))
 obtain ⟨X,hXe⟩:∃ X,w.heap.size=X:=⟨_,rfl⟩
 have hf2:=hid (hf.next hbX)
 replace hBw:=hBw.next hbX
 have hb2:=hid (hb.trans (hbX.mono hb.size))
 have hfX:Hid (∀ g,ov.ownBlock=some g->g≠X):=hid (fun g hg e=>by have:=(hf.lt hg).2; omega)
 rw [hXe] at hX hXs ⊢
 generalize (w.alloc (.cells (acC x).toArray 54))=W2 at *
 obtain ⟨r0,r1⟩:=hBw.two
 have hwc:=j0z hX.cs
 clear hcs hbX hf hb hXe
 go_wp2_with ((with_reducible refine jB rfl _ rfl X 3 ?_ (wt x) hwc ?_); exact rfl)
 refine (q0r (wt x) hxT.out _).mono ?_; rintro e w3 ⟨rfl,hb3⟩
 clear r0 r1 hwc
 replace hX:=hX.next hb3
 replace hBw:=hBw.next hb3
 replace hf2:=hid (hf2.out.next hb3)
 replace hb2:=hid (hb2.out.trans (hb3.mono hb2.out.size))
 replace hb3:=hid hb3
 go_upto_block 2 with ((with_reducible refine j2o rfl _ _ rfl X 54 x hX ?_ (wt x) ?_ ?_); exact rfl; exact rfl; intro w4 hX4 hfr4; rw [z5t] at hX4)
 have hBX:B≠X:=fun e=>by have:=hB.lt; omega
 have hB4:=hBw.fr hfr4 hBX
 have hf4:=hid (hf2.out.fr hfr4 (fun g hg e=>hfX.out g hg e))
 have hb4:=hid (hb2.out.trans (hfr4.below (fun k e=>by omega) hb2.out.size))
 obtain ⟨oo,oc,hov⟩:=hf4.out.form
 subst hov
 have hfl4:=kG hf4.out (j2c hf4.out)
 replace hf4:=hf4.out
 rw [List.length_map] at hf4 hfl4 ⊢
 replace hf4:=hid hf4
 obtain ⟨m,hm⟩:∃ m,K.length=m:=⟨_,rfl⟩
 rw [hm] at hKl hf4 hfl4 ⊢
 replace hm:=hid hm
 clear hX hBw hfr4 hf2 hb2
 refine z4g K x hKB hxB oo m oc X w4 hfl4 hX4 hpan ?_
 intro Gj Gk Gl Gm Gn Go Gp Gq Gr Gs Gt Gu Gv Gw Gx q w5 hat hb5
 have hf5:=hid (hf4.out.next hb5)
 have hX5:=hX4.next hb5
 have hB5:=hB4.next hb5
 have hb5':=hid (hb4.out.trans (hb5.mono hb4.out.size))
 have hqm:q<=m:=by rw [<-hm.out]; exact hat.1
 have q0:(0:Int)<=(q:Int):=by omega
 replace hat:=hid hat
 clear hX4 hB4 hfl4 hb5 hf4 hb4
 by_cases hlt:q<m
 ·obtain ⟨g,hoo⟩:∃ g,oo=some ⟨g,0,none⟩:=by
   rcases hf5.out.place with e | ⟨g,e⟩
   ·subst e
    have:=kG hf5.out (j2c hf5.out)
    have h1:=this.nil rfl
    have h2:=this.le
    omega
   ·exact ⟨g,e⟩
  subst hoo
  obtain ⟨y,hyk⟩:∃ y,K[q]? = some y:=⟨_,List.getElem?_eq_getElem (by have:=hm.out; omega)⟩
  have hyB:=hKB.out y (List.mem_of_getElem? hyk)
  have hyT:=hid (hKT.out y (List.mem_of_getElem? hyk))
  have hcy:Cs w5 g (q*11) (acC y):=hf5.out.cs (by rw [List.getElem?_map,hyk]; rfl)
  have i3:decide (q<m)=true:=decide_eq_true hlt
  have i4:(q:Int)<(m:Int):=by omega
  obtain ⟨z,hz⟩:∃ z,j2l (ky y) (ky x)=z:=⟨_,rfl⟩
  have hE:=hid (fun w=>by have h:=q5t y x hyB hxB w; rw [hz] at h; exact h)
  obtain ⟨bq,hbq⟩:∃ bq,(z==0)=bq:=⟨_,rfl⟩
  have hres:Hid (bq=true↔ky y=ky x):=hid (by rw [<-hbq,beq_iff_eq,<-hz]; exact q5d)
  replace hyk:=hid hyk
  replace hbq:=hid hbq
  clear hz
  go_upto_region 10 with fail
  have hdr:=(Below.refl w5.heap.size w5).drew
  have hS:Cs w5.drew g (q*11) (acC y)/\Cs w5.drew X 0 (acC x):=⟨hcy.next hdr,(hX5.next hdr).cs⟩
  have hK0:∀ w' w'',(Cs w' g (q*11) (acC y)/\Cs w' X 0 (acC x))->Below w'.heap.size w' w''->(Cs w'' g (q*11) (acC y)/\Cs w'' X 0 (acC x)):=fun w' w'' h hb=>⟨h.1.next hb,h.2.next hb⟩
  have hf6:=hf5.out.next hdr
  have hX6:=hX5.next hdr
  have hB6:=hB5.next hdr
  have hb6:=hb5'.out.trans (hdr.mono hb5'.out.size)
  clear hcy hdr hX5 hB5 hb5'
  refine qV (fun w'=>Cs w' g (q*11) (acC y)/\Cs w' X 0 (acC x)) [] (by kernel_rfl) ?_
  refine wBp 0 hpan (some 41) rfl rfl hS ?_
  refine wBp 1 hpan (some 42) rfl rfl hS ?_
  refine wBp 2 hpan (some 43) rfl rfl hS ?_
  refine wBl 3 hpan (some 44) (v:=.bool true) rfl rfl ?_ hS ?_
  ·intro wz _; first | (go_simp; done) | (go_simp; with_reducible rfl)
  refine wBl 4 hpan (some 45) (v:=.bool true) rfl rfl ?_ hS ?_
  ·intro wz _; first | (go_simp; done) | (go_simp; with_reducible rfl)
  refine wBg 5 hpan (some 46) rfl rfl hS ?_
  refine wBg 6 hpan (some 47) rfl rfl hS ?_
  refine wBg 7 hpan (some 48) rfl rfl hS ?_
  refine wBm 8 hpan (some 49) (v:=?_) rfl rfl ?_ hS ?_
  rotate_left
  ·intro wz hw; refine jQ g (q*11) ?_ y hw.1; go_simp
  refine wBm 9 hpan (some 50) (v:=?_) rfl rfl ?_ hS ?_
  rotate_left
  ·intro wz hw; refine jQ X 0 ?_ x hw.2; go_simp
  go_simp
  refine wpO (i:=10) rfl fun KK hKK=>?_
  rw [if_pos (by kernel_rfl)]
  go_simp
  go_at_call 42
  refine (hE.out _).mono ?_; rintro e w7 ⟨rfl,hb7⟩
  try go_simp
  refine hKK _ _ ⟨fun _=>(hK0 _ _ hS hb7),?_⟩; clear hKK KK
  refine wBg 11 hpan (some 52) rfl rfl (hK0 _ _ hS hb7) ?_
  refine wBp 12 hpan (some 53) rfl rfl (hK0 _ _ hS hb7) ?_
  go_simp
  refine qZ (by kernel_rfl) ?_ _
  have hf8:=hf6.next hb7
  have hX8:=hX6.next hb7
  have hB8:=hB6.next hb7
  have hb8:=hb6.trans (hb7.mono hb6.size)
  try go_simp
  rw [hbq.out]
  clear hf6 hX6 hB6 hb6
  cases bq with
  | true =>
   go_upto_region 11 with fail
   have hdr:=(Below.refl w7.heap.size w7).drew
   replace hf8:=hf8.next hdr
   replace hb8:=hb8.trans (hdr.mono hb8.size)
   have hS1:Cs w7.drew B 0 rgC/\Cs w7.drew g (q*11) (acC y)/\Cs w7.drew X 0 (acC x):=⟨(hB8.next hdr).cs,(hK0 _ _ (hK0 _ _ hS hb7) hdr).1,(hX8.next hdr).cs⟩
   have hK1:∀ w' w'',(Cs w' B 0 rgC/\Cs w' g (q*11) (acC y)/\Cs w' X 0 (acC x))->Below w'.heap.size w' w''->(Cs w'' B 0 rgC/\Cs w'' g (q*11) (acC y)/\Cs w'' X 0 (acC x)):=fun w' w'' h hb=>⟨h.1.next hb,h.2.1.next hb,h.2.2.next hb⟩
   clear hX8 hB8
   refine qV (fun w'=>Cs w' B 0 rgC/\Cs w' g (q*11) (acC y)/\Cs w' X 0 (acC x)) [13] (by kernel_rfl) ?_
   refine wBp 0 hpan (some 54) rfl rfl hS1 ?_
   refine wBp 1 hpan (some 55) rfl rfl hS1 ?_
   refine wBl 2 hpan (some 56) (v:=?_) rfl rfl ?_ hS1 ?_
   rotate_left
   ·intro wz hw; refine qX B 0 ?_ hw.1; go_simp
   refine wBp 3 hpan (some 57) rfl rfl hS1 ?_
   refine wBp 4 hpan (some 58) rfl rfl hS1 ?_
   refine wBp 5 hpan (some 59) rfl rfl hS1 ?_
   refine wBp 6 hpan (some 60) rfl rfl hS1 ?_
   refine wBl 7 hpan (some 61) (v:=?_) rfl rfl ?_ hS1 ?_
   rotate_left
   ·intro wz hw; refine qY g (q*11+3) ?_ (wt y) (j0z hw.2.1); go_simp
   refine wBp 8 hpan (some 62) rfl rfl hS1 ?_
   refine wBl 9 hpan (some 63) (v:=?_) rfl rfl ?_ hS1 ?_
   rotate_left
   ·intro wz hw; refine qY X 3 ?_ (wt x) (by have h:=j0z hw.2.2; rw [Nat.zero_add] at h; exact h); go_simp
   go_simp
   refine wpO (i:=10) rfl fun KK hKK=>?_
   go_simp
   go_at_call 81
   refine (q4o (wt y) (wt x) hyT.out hxT.out _).mono ?_; rintro e w9 ⟨rfl,hb9⟩
   have hf9:=hf8.next hb9
   have hb9':=hb8.trans (hb9.mono hb8.size)
   try go_simp
   refine hKK _ _ ⟨fun _=>(hK1 _ _ hS1 hb9),?_⟩; clear hKK KK
   refine wBp 11 hpan (some 65) rfl rfl (hK1 _ _ hS1 hb9) ?_
   refine wBp 12 hpan (some 66) rfl rfl (hK1 _ _ hS1 hb9) ?_
   go_simp
   refine wpO (i:=13) rfl fun KK hKK=>?_
   rw [if_pos (by rfl)]
   refine q5x 45 (.tmp 66) (.tmp 64) rfl 54 11 W1.heap.size g m oc (K.map acC) hf9 q (q*11+3) 3 (acC y) (by rw [List.getElem?_map,hyk.out]; rfl) rfl rfl (twC (qP (wt y) (wt x))) (Nat.le_refl 11) rfl (q0f _) Tryz.sizeTw ?_
   intro w10 hf10 hfr10
   refine lN hKK ?_; clear hKK KK
   refine qZ (by kernel_rfl) ?_ _
   have hf11:FO 54 11 w10 W1.heap.size (.slice (some ⟨g,0,none⟩) m oc) ((K.set q (y.1,y.2.1,y.2.2.1,qP (wt y) (wt x))).map acC):=by rw [List.map_set]; exact hf10
   have hb11:=hb9'.trans (hfr10.below (fun k e=>by have:=(hf9.lt (g:=g) rfl).1; omega) hb9'.size)
   replace hf11:=hid hf11
   go_wp2_with fail
   exact hexit _ _ _ _ _ _ _ _ _ _ _ _ _ _ _ _ _ _ _ _ _ _ _ _ _ _ _ _ _ _ _ _ _ _ _ _ _ _ _ _ _ _ _ _ _ _ _ _ _ _ _ _ _ _ _ _ _ _ _ _ _ _ _ _ (K.set q (y.1,y.2.1,y.2.2.1,qP (wt y) (wt x))) w10 (by rw [htk.out]; exact z4e hK.out hyk.out (hres.out.1 (by simp))) (by rw [List.length_set,hm.out]; omega) hf11.out hb11
  | false =>
   go_upto_region 12 with fail
   refine j2m K x (some ⟨g,0,none⟩) m oc X q W1.heap.size hqm (by omega) w7 hf8 hX8 hpan ?_
   intro Gy Gz Ha Hb Hc Hd He Hf Hg Hh Hi v' w20 hf20 hb20
   have hfin:=hid (z1m hat.out hK.out (fun y' hy' e=>by have h1:=hyk.out; rw [hy'] at h1; rw [Option.some.inj h1] at e; have:=hres.out.2 e; cases this))
   have hbf:=hb8.trans (hb20.mono hb8.size)
   replace hf20:=hid hf20
   go_wp2_with fail
   exact hexit _ _ _ _ _ _ _ _ _ _ _ _ _ _ _ _ _ _ _ _ _ _ _ _ _ _ _ _ _ _ _ _ _ _ _ _ _ _ _ _ _ _ _ _ _ _ _ _ _ _ _ _ _ _ _ _ _ _ _ _ _ _ _ v' (K.take q++[x]++K.drop q) w20 (by rw [htk.out]; exact hfin.out) (by have h1:=congrArg List.length (List.take_append_drop q K); rw [List.length_append] at h1; rw [List.length_append,List.length_append,List.length_singleton]; have:=hm.out; omega) (hf20.out.mono hb8.size) hbf
 ·obtain rfl:q=m:=by omega
  have hS:True:=trivial
  go_upto_region 10 with fail
  have hdr:=(Below.refl w5.heap.size w5).drew
  have hf6:=hf5.out.next hdr
  have hX6:=hX5.next hdr
  have hb6:=hb5'.out.trans (hdr.mono hb5'.out.size)
  refine qV (fun w'=>True) [] (by kernel_rfl) ?_
  refine wBp 0 hpan (some 41) rfl rfl hS ?_
  refine wBp 1 hpan (some 42) rfl rfl hS ?_
  refine wBp 2 hpan (some 43) rfl rfl hS ?_
  refine wBl 3 hpan (some 44) (v:=.bool false) rfl rfl ?_ hS ?_
  ·intro wz _; first | (go_simp; done) | (go_simp; with_reducible rfl)
  refine wBl 4 hpan (some 45) (v:=.bool false) rfl rfl ?_ hS ?_
  ·intro wz _; first | (go_simp; done) | (go_simp; with_reducible rfl)
  refine wBu 5 hpan (some 46) rfl rfl hS ?_
  go_simp
  refine wBu 6 hpan (some 47) rfl rfl hS ?_
  go_simp
  refine wBu 7 hpan (some 48) rfl rfl hS ?_
  go_simp
  refine wBu 8 hpan (some 49) rfl rfl hS ?_
  go_simp
  refine wBu 9 hpan (some 50) rfl rfl hS ?_
  go_simp
  refine wBu 10 hpan (some 51) rfl rfl hS ?_
  go_simp
  refine wBu 11 hpan (some 52) rfl rfl hS ?_
  go_simp
  refine wBl 12 hpan (some 53) (v:=.bool false) rfl rfl ?_ hS ?_
  ·intro wz _; first | (go_simp; done) | (go_simp; with_reducible rfl)
  go_simp
  refine qZ (by kernel_rfl) ?_ _
  go_upto_region 12 with fail
  refine j2m K x oo q oc X q W1.heap.size hqm (by omega) w5.drew hf6 hX6 hpan ?_
  intro Gy Gz Ha Hb Hc Hd He Hf Hg Hh Hi v' w20 hf20 hb20
  have hfin:=hid (z1m hat.out hK.out (fun y' hy' e=>by have h1:=(List.getElem?_eq_some_iff.1 hy').1; have:=hm.out; omega))
  have hbf:=hb6.trans (hb20.mono hb6.size)
  replace hf20:=hid hf20
  go_wp2_with fail
  exact hexit _ _ _ _ _ _ _ _ _ _ _ _ _ _ _ _ _ _ _ _ _ _ _ _ _ _ _ _ _ _ _ _ _ _ _ _ _ _ _ _ _ _ _ _ _ _ _ _ _ _ _ _ _ _ _ _ _ _ _ _ _ _ _ v' (K.take q++[x]++K.drop q) w20 (by rw [htk.out]; exact hfin.out) (by have h1:=congrArg List.length (List.take_append_drop q K); rw [List.length_append] at h1; rw [List.length_append,List.length_append,List.length_singleton]; have:=hm.out; omega) (hf20.out.mono hb6.size) hbf
end
section
open Go.RowKit
theorem z0p (W1:World) (L:List Ac) (lo:OA) (n lc B:Nat) (hn:n<=2048) (hLB:Hid (∀ y∈L,ArB y)) (hLT:Hid (∀ y∈L,vW (wt y))) (hl:Hid (Fl 11 W1 lo n lc (L.map acC))) (hB:Bl B rgC 26 W1)
  {c0 c3 c4 c7 c8 c9 Aa Ab Ad Ae Af Ag Ah Ak Al Am An Ao Ap Aq Ar As Av Aw Ax Ay Az Ba Bb Bc Be Bf Bh Bi Bj Bk Bm Bn Bo Bp Bq Br Bs Bt Bu Bv Bw Bx By Bz Ca Cb Cc Cd Ce Cf Cg Ch Ci Cj Ck Cl Cm Cn Co Cp Cq Cr Ct Cu Cv Cw Cx Cy Cz Da Db Dc Dd De Df Dg Dh Di Dj Dk Dl Dn Dp Dq Dr Dt Du Dv Dw Dx:Value} {Q0:EP} (hpan:∀ c (a:Act) d v w,Q0 (.panic c) (a.put d v) w->Q0 (.panic c) a w)
  (hexit:∀ (u6 u7 u8 Dy Dz Ea Eb Ec Ed Ee Ef Eg Eh Ei Ej Ek El Em En Eo Ep Eq Er Es Et Eu Ev Ew Ex Ey Ez Fa Fb Fc Fd Fe Ff Fg Fh Fi Fj Fk Fm Fn Fo Fp Fq Fs Ft Fu Fv Fw Fx Fy Fz Ga Gb Gc Gd Ge Gf Gg Gh Gi Gj Gk Gl Gm Gn Go:Value) (ov':Value) (K':List Ac) (w':World),Nf K' L->K'.length<=n->FO 54 11 w' W1.heap.size ov' (K'.map acC)->Below W1.heap.size W1 w'->Q0 .normal ⟨#[c0,.slice lo n lc,.pointer (some ⟨B,0,none⟩),c3,c4,ov',u6,u7,u8,c9,Aa,Dy,Dz,Ea,Eb,Ec,Ed,Ee,Ef,Eg,Eh,Ei,Ej,Ek,El,Em,En,Eo,Ep,Eq,Er,Es,Et,Eu,Ev,Ew,Ex,Ey,Ez,Fa,Fb,Fc,Fd,Fe,Ff,Fg,Fh,Fi,Fj,Fk,Fm,Fn,Fo,Fp,Fq,Fs,Ft,Fu,Fv,Fw,Fx,Fy,Fz,Ga,Gb,Gc,Gd,Ge,Gf,Gg,Gh,Gi,Gj,Gk,Gl,Gm,Gn,Go,Cz,Da,Db,Dc,Dd,De,Df,Dg,Dh,Di,Dj,Dk,Dl,Dn,Dp,Dq,Dr,Dt,Du,Dv,Dw,Dx],[]⟩ w') :
  Code.wp Tryz.prog (rA 0) Q0 ⟨#[c0,.slice lo n lc,.pointer (some ⟨B,0,none⟩),c3,c4,.slice none 0 0,.int .i64 0,c7,c8,c9,Aa,Ab,Ad,Ae,Af,Ag,Ah,Ak,Al,Am,An,Ao,Ap,Aq,Ar,As,Av,Aw,Ax,Ay,Az,Ba,Bb,Bc,Be,Bf,Bh,Bi,Bj,Bk,Bm,Bn,Bo,Bp,Bq,Br,Bs,Bt,Bu,Bv,Bw,Bx,By,Bz,Ca,Cb,Cc,Cd,Ce,Cf,Cg,Ch,Ci,Cj,Ck,Cl,Cm,Cn,Co,Cp,Cq,Cr,Ct,Cu,Cv,Cw,Cx,Cy,Cz,Da,Db,Dc,Dd,De,Df,Dg,Dh,Di,Dj,Dk,Dl,Dn,Dp,Dq,Dr,Dt,Du,Dv,Dw,Dx],[]⟩ W1:=by
 conv=>arg 2; whnf
 have hlb:=hl.out.bound
 have hll:=hid hl.out.lenMap
 go_wp2_with fail
 go_loopw [5,6] (fun ov iv wr=>∃ (i:Nat) (K:List Ac),i<=n/\iv=.int .i64 (i:Int)/\Hid (Nf K (L.take i))/\Hid (K.length<=i)/\FO 54 11 wr W1.heap.size ov (K.map acC)/\Below W1.heap.size W1 wr) (fun _ iv _=>n-(intOf iv).toNat)
 case atStart=>exact ⟨0,[],by omega,rfl,hid Nf.nil,hid (Nat.le_refl _),FO.nil _ _ _ _,Below.refl _ _⟩
 case round =>
  obtain ⟨i,K,hi,rfl,hK,hKl,hf,hb⟩:=hrel
  replace hf:=hid hf
  replace hb:=hid hb
  by_cases hlt:i<n
  ·have i1:(i:Int)<(n:Int):=by omega
   have i0:(0:Int)<=(i:Int):=by omega
   go_upto_block 1 with fail
   refine z0o W1 L lo n lc B i hlt hn hLB hLT hl hB _ K wr hb.out hK hKl.out hf.out hpan ?_
   intro x7 x8 Gp Gq Gr Gs Gt Gu Gv Gw Gx Gy Gz Ha Hb Hc Hd He Hf Hg Hh Hi Hj Hk Hl Hm Hn Ho Hp Hq Hr Hs Ht Hu Hv Hw Hx Hy Hz Ia Ib Ic Id Ie Ig Ih Ii Ij Ik Il Im Io Ip Iq Ir It Iu Iv Iw Ix Iy Iz Ja ov' K' w2 hK2 hKl2 hf2 hb2
   replace hK2:=hid hK2
   replace hKl2:=hid hKl2
   replace hf2:=hid hf2
   replace hb2:=hid hb2
   go_wp2_with fail
   go_roundw
   case rel=>exact ⟨i+1,K',by omega,by go_num,hK2,hKl2,hf2.out,hb2.out⟩
   case measure=>simp [intOf]; omega
  ·obtain rfl:i=n:=by omega
   have i1:¬ (i:Int)<(i:Int):=by omega
   have hK3:=hK.out
   rw [List.take_of_length_le (by rw [hll.out]; exact Nat.le_refl _)] at hK3
   replace hK3:=hid hK3
   go_wp2_with fail
   exact hexit _ _ _ _ _ _ _ _ _ _ _ _ _ _ _ _ _ _ _ _ _ _ _ _ _ _ _ _ _ _ _ _ _ _ _ _ _ _ _ _ _ _ _ _ _ _ _ _ _ _ _ _ _ _ _ _ _ _ _ _ _ _ _ _ _ _ _ _ _ _ _ K wr hK3.out hKl.out hf.out hb.out
theorem j7y (W1:World) (K:List Ac) (oo:OA) (m oc B:Nat) (hm:m<=2048) (hf:Hid (Fl 11 W1 oo m oc (K.map acC))) (hB:Bl B rgC 26 W1)
  {c0 c1 c3 c4 c6 c7 c8 Aa Ab Ad Ae Af Ag Ah Ak Al Am An Ao Ap Aq Ar As Av Aw Ax Ay Az Ba Bb Bc Be Bf Bh Bi Bj Bk Bm Bn Bo Bp Bq Br Bs Bt Bu Bv Bw Bx By Bz Ca Cb Cc Cd Ce Cf Cg Ch Ci Cj Ck Cl Cm Cn Co Cp Cq Cr Ct Cu Cv Cw Cx Cy Cz Da Db Dc Dd De Df Dg Dh Di Dj Dk Dl Dn Dp Dq Dr Dt Du Dv Dw:Value} {Q0:EP} (hpan:∀ c (a:Act) d v w,Q0 (.panic c) (a.put d v) w->Q0 (.panic c) a w)
  (hexit:∀ (Dx Dy Dz Ea Eb Ec Ed Ee Ef Eg Eh Ei Ej Ek El Em En Eo Ep Eq Er Es:Value) (kv:Value) (w':World),FO 54 11 w' W1.heap.size kv ((K.filter nz).map acC)->Below W1.heap.size W1 w'->Q0 .normal ⟨#[c0,c1,.pointer (some ⟨B,0,none⟩),c3,c4,.slice oo m oc,c6,c7,c8,kv,Dx,Aa,Ab,Ad,Ae,Af,Ag,Ah,Ak,Al,Am,An,Ao,Ap,Aq,Ar,As,Av,Aw,Ax,Ay,Az,Ba,Bb,Bc,Be,Bf,Bh,Bi,Bj,Bk,Bm,Bn,Bo,Bp,Bq,Br,Bs,Bt,Bu,Bv,Bw,Bx,By,Bz,Ca,Cb,Cc,Cd,Ce,Cf,Cg,Ch,Ci,Cj,Ck,Cl,Cm,Cn,Co,Cp,Cq,Cr,Ct,Cu,Cv,Cw,Cx,Dy,Dz,Ea,Eb,Ec,Ed,Ee,Ef,Eg,Eh,Ei,Ej,Ek,El,Em,En,Eo,Ep,Eq,Er,Es,Dw],[]⟩ w') :
  Code.wp Tryz.prog (rA 4) Q0 ⟨#[c0,c1,.pointer (some ⟨B,0,none⟩),c3,c4,.slice oo m oc,c6,c7,c8,.slice none 0 0,.int .i64 0,Aa,Ab,Ad,Ae,Af,Ag,Ah,Ak,Al,Am,An,Ao,Ap,Aq,Ar,As,Av,Aw,Ax,Ay,Az,Ba,Bb,Bc,Be,Bf,Bh,Bi,Bj,Bk,Bm,Bn,Bo,Bp,Bq,Br,Bs,Bt,Bu,Bv,Bw,Bx,By,Bz,Ca,Cb,Cc,Cd,Ce,Cf,Cg,Ch,Ci,Cj,Ck,Cl,Cm,Cn,Co,Cp,Cq,Cr,Ct,Cu,Cv,Cw,Cx,Cy,Cz,Da,Db,Dc,Dd,De,Df,Dg,Dh,Di,Dj,Dk,Dl,Dn,Dp,Dq,Dr,Dt,Du,Dv,Dw],[]⟩ W1:=by
 conv=>arg 2; whnf
 have hlb:=hf.out.bound
 have hll:=hid hf.out.lenMap
 go_wp2_with fail
 go_loopw [9,10] (fun kv iv wr=>∃ i:Nat,i<=m/\iv=.int .i64 (i:Int)/\FO 54 11 wr W1.heap.size kv (((K.take i).filter nz).map acC)/\Below W1.heap.size W1 wr) (fun _ iv _=>m-(intOf iv).toNat)
 case atStart=>exact ⟨0,by omega,rfl,FO.nil _ _ _ _,Below.refl _ _⟩
 case round =>
  obtain ⟨i,hi,rfl,hk,hb⟩:=hrel
  by_cases hlt:i<m
  ·obtain ⟨x,hxk,b,off,rfl,hcs⟩:=(hf.out.next hb).get hlt
   have i1:(i:Int)<(m:Int):=by omega
   have i0:(0:Int)<=(i:Int):=by omega
   have htk:Hid (K.take (i+1)=K.take i++[x]):=hid (jR hxk)
   have hkl:((K.take i).filter nz).length<=2048:=Nat.le_trans (List.length_filter_le _ _) (by rw [List.length_take]; omega)
   obtain ⟨bq,hbq⟩:∃ bq,decide (wt x=none)=bq:=⟨_,rfl⟩
   have hE:=hid (fun w=>by have h:=q4p (wt x) w; rw [hbq] at h; exact h)
   have hnz:Hid (nz x=!bq):=hid (by unfold nz; rw [<-hbq]; cases wt x<;>rfl)
   clear hxk hbq
   go_upto_region 17 with fail
   have hdr:=(Below.refl wr.heap.size wr).drew
   have hS:Cs wr.drew B 0 rgC/\Cs wr.drew b (off+i*11) (acC x):=⟨((hB.next hb).next hdr).cs,hcs.next hdr⟩
   have hK0:∀ w' w'',(Cs w' B 0 rgC/\Cs w' b (off+i*11) (acC x))->Below w'.heap.size w' w''->(Cs w'' B 0 rgC/\Cs w'' b (off+i*11) (acC x)):=fun w' w'' h hb=>⟨h.1.next hb,h.2.next hb⟩
   have hb1:=hb.trans (hdr.mono hb.size)
   have hk1:=hk.next hdr
   clear hcs hb hk hdr
   refine qV (fun w'=>Cs w' B 0 rgC/\Cs w' b (off+i*11) (acC x)) [] (by kernel_rfl) ?_
   refine wBl 0 hpan (some 84) (v:=?_) rfl rfl ?_ hS ?_
   rotate_left
   ·intro wz hw; refine qX B 0 ?_ hw.1; go_simp
   refine wBp 1 hpan (some 85) rfl rfl hS ?_
   refine wBp 2 hpan (some 86) rfl rfl hS ?_
   refine wBp 3 hpan (some 87) rfl rfl hS ?_
   refine wBp 4 hpan (some 88) rfl rfl hS ?_
   refine wBl 5 hpan (some 89) (v:=?_) rfl rfl ?_ hS ?_
   rotate_left
   ·intro wz hw; refine qY b (off+i*11+3) ?_ (wt x) (j0z hw.2); go_simp
   go_simp
   refine wpO (i:=6) rfl fun KK hKK=>?_
   go_simp
   go_at_call 141
   refine (hE.out _).mono ?_; rintro e w2 ⟨rfl,hb2⟩
   have hk2:=hk1.next hb2
   have hb3:=hb1.trans (hb2.mono hb1.size)
   have hcx:=(hK0 _ _ hS hb2).2
   try go_simp
   refine hKK _ _ ⟨fun _=>(hK0 _ _ hS hb2),?_⟩; clear hKK KK
   refine wBp 7 hpan (some 91) rfl rfl (hK0 _ _ hS hb2) ?_
   refine qZ (by kernel_rfl) ?_ _
   try go_simp
   cases bq with
   | true =>
    have hfl:Hid ((K.take (i+1)).filter nz=(K.take i).filter nz):=hid (by rw [htk.out,List.filter_append,List.filter_cons_of_neg (by rw [hnz.out]; simp)]; simp)
    replace hk2:=hid hk2
    go_wp2_with fail
    go_roundw
    case rel=>exact ⟨i+1,by omega,by go_num,by rw [hfl.out]; exact hk2.out,hb3⟩
    case measure=>simp [intOf]; omega
   | false =>
    have hfl:Hid ((K.take (i+1)).filter nz=(K.take i).filter nz++[x]):=hid (by rw [htk.out,List.filter_append,List.filter_cons_of_pos (by rw [hnz.out]; rfl)]; simp)
    have hbN:Below w2.heap.size w2 (w2.alloc (.cells (acC x).toArray 54)):=qJ _
    have hnew:=Fl.lit1 w2 (acC x) 54 11 rfl
    have hk3:=hk2.next hbN
    have hb4:=hb3.trans (hbN.mono hb3.size)
    go_wp2_with (first | ((with_reducible refine jV rfl _ rfl b (off+i*11) ?_ x hcx ?_); exact rfl) | (at_builtin; refine q2c rfl (.tmp 92) (.tmp 97) 28 rfl 54 _ 11 152 Tryz.underlying28 Tryz.infoArc rfl (by decide) W1.heap.size _ _ rfl hk3 ⟨w2.heap.size,0,none⟩ 1 1 [acC x] rfl hnew (vU [x]) (kK [x]) (by rw [List.length_map]; omega) (by rw [List.length_map]; omega) hb4.size ?_; intro kv2 w5 hk5 hg5 hb5; replace hk5:=hid hk5; replace hb5:=hid (hb4.trans hb5)))
    go_roundw
    case rel=>exact ⟨i+1,by omega,by go_num,by rw [hfl.out,List.map_append]; exact hk5.out,hb5.out⟩
    case measure=>simp [intOf]; omega
  ·obtain rfl:i=m:=by omega
   have i1:¬ (i:Int)<(i:Int):=by omega
   rw [List.take_of_length_le (by rw [hll.out]; exact Nat.le_refl _)] at hk
   replace hk:=hid hk
   go_wp2_with fail
   exact hexit _ _ _ _ _ _ _ _ _ _ _ _ _ _ _ _ _ _ _ _ _ _ _ wr hk.out hb
theorem q8h (L:List Ac) (lo:OA) (n lc:Nat) (hn:n<=2048) (hLB:∀ y∈L,ArB y) (hLT:∀ y∈L,vW (wt y)) (w:World) (hl:Fl 11 w lo n lc (L.map acC)) :
  Calls Tryz.prog 97 #[.agg #[.int .i64 2,.slice none 0 0],.slice lo n lc] w fun e w'=>(∃ (K:List Ac) (v:Value),e=.returned v/\Nf K L/\FO 54 11 w' w.heap.size v ((K.filter nz).map acC))/\Below w.heap.size w w':=by
 have hb0:Below w.heap.size w (w.alloc (.cells #[.int .i64 2,.slice none 0 0] 26)):=qJ _
 have hB:=Bl.fresh w rgC 26
 replace hl:=hid (hl.next hb0)
 replace hLB:=hid hLB
 replace hLT:=hid hLT
 go_enter Tryz.func97,Tryz.ntmps97
 go_upto_block 0 with fail
 generalize (w.alloc (.cells #[.int .i64 2,.slice none 0 0] 26))=W1 at *
 refine z0p W1 L lo n lc w.heap.size hn hLB hLT hl hB (fun _ _ d _ _ h=>by cases d<;>exact h) ?_
 intro x6 x7 x8 Aa Ab Ad Ae Af Ag Ah Ak Al Am An Ao Ap Aq Ar As Av Aw Ax Ay Az Ba Bb Bc Be Bf Bh Bi Bj Bk Bm Bn Bo Bp Bq Br Bs Bt Bu Bv Bw Bx By Bz Ca Cb Cc Cd Ce Cf Cg Ch Ci Cj Ck Cl Cm Cn Co Cp Cq Cr Ct Cu Cv Cw Cx ov K w2 hK hKl hf hb
 obtain ⟨oo,oc,hov⟩:=hf.form
 subst hov
 have hfl:=hid (kG hf (j2c hf))
 simp only [List.length_map] at hfl ⊢
 have hB2:=hB.next hb
 replace hK:=hid hK
 replace hf:=hid hf
 replace hb:=hid hb
 go_upto_block 4 with fail
 refine j7y w2 K oo K.length oc w.heap.size (by omega) hfl hB2 (fun _ _ d _ _ h=>by cases d<;>exact h) ?_
 intro Cy Cz Da Db Dc Dd De Df Dg Dh Di Dj Dk Dl Dn Dp Dq Dr Dt Du Dv Dw kv w3 hk3 hb3
 replace hk3:=hid hk3
 replace hb3:=hid hb3
 go_wp2_with fail
 go_ret
 exact ⟨⟨K,kv,rfl,hK.out,hk3.out.mono (Nat.le_trans hb0.size hb.out.size)⟩,qQ (qQ hb0 hb.out) hb3.out⟩
end
section
open Go.RowKit
theorem q1o {w:World} {b:Nat} {syms st:Nat} {iv fv rv:Value} (h:Cs w b 0 (auC syms st iv fv rv)):Cs w b 0 rgC:=fun c u hu=>h c u (by
 match c,hu with
 | 0,hu=>exact hu
 | 1,hu=>exact hu
 | c+2,hu=>simp at hu)
theorem z0v {syms:Nat} {A:Au} (hV:Vo syms A):∀ y∈A.arcs,ArB y:=fun y hy=>by
 have h1:=hV.arcs y hy
 have h2:=hV.st
 have h3:=hV.sym.2
 exact ⟨by have:=h1.1; omega,by have:=h1.2.2.1; omega,by have:=h1.2.1; omega⟩
def j8a (syms:Nat) (A:Au) (w:World) (v:Value) (w':World):Prop:=∃ (K:List Ac) (io:OA) (ci:Nat) (fo:OA) (cf:Nat) (ro:OA) (nr cr:Nat),v=.agg (auC syms A.st (.slice io A.st ci) (.slice fo A.st cf) (.slice ro nr cr)).toArray/\Nf K A.arcs/\MoF w' w.heap.size ⟨A.st,A.ini,A.fin,K.filter nz⟩ io ci fo cf ro nr cr/\Below w.heap.size w w'
theorem q4q (syms:Nat) (A:Au) (hV:Vo syms A) (io:OA) (ci:Nat) (fo:OA) (cf:Nat) (ro:OA) (nr cr:Nat) (w:World) (h:Mo w syms A io ci fo cf ro nr cr) :
  Calls Tryz.prog 70 #[.agg (auC syms A.st (.slice io A.st ci) (.slice fo A.st cf) (.slice ro nr cr)).toArray] w fun e w'=>∃ v,e=.returned v/\j8a syms A w v w':=by
 have hb0:Below w.heap.size w ((w.alloc (.cells (auC syms A.st (.slice io A.st ci) (.slice fo A.st cf) (.slice ro nr cr)).toArray 30)).alloc (.cells #[.int .i64 0,.slice none 0 0,.int .i64 0,.int .i64 0,.slice none 0 0,.slice none 0 0,.slice none 0 0] 30)):=qQ (qJ _) (qJ _)
 have hG:=(Bl.fresh w (auC syms A.st (.slice io A.st ci) (.slice fo A.st cf) (.slice ro nr cr)) 30).new (.cells #[.int .i64 0,.slice none 0 0,.int .i64 0,.int .i64 0,.slice none 0 0,.slice none 0 0,.slice none 0 0] 30)
 have hR:=Bl.fresh' (G:=w.heap.size+1) (w.alloc (.cells (auC syms A.st (.slice io A.st ci) (.slice fo A.st cf) (.slice ro nr cr)).toArray 30)) [.int .i64 0,.slice none 0 0,.int .i64 0,.int .i64 0,.slice none 0 0,.slice none 0 0,.slice none 0 0] 30 (by simp)
 have hm:=hid (h.next hb0)
 have hnr:nr<=2048:=by rw [<-h.arcs.lenMap]; exact hV.num
 have hst:=hV.st
 have hab:=hid (z0v hV)
 have hat:=hid (fun y hy=>(hV.arcs y hy).2.2.2)
 replace hV:=hid hV
 clear h
 go_enter Tryz.func70,Tryz.ntmps70
 go_upto_region 1 with fail
 obtain ⟨W1,hW1⟩:∃ W1,W1=((w.alloc (.cells (auC syms A.st (.slice io A.st ci) (.slice fo A.st cf) (.slice ro nr cr)).toArray 30)).alloc (.cells #[.int .i64 0,.slice none 0 0,.int .i64 0,.int .i64 0,.slice none 0 0,.slice none 0 0,.slice none 0 0] 30)):=⟨_,rfl⟩
 rw [<-hW1] at hb0 hG hR hm
 have hdr:=(Below.refl W1.heap.size W1).drew
 have hS:Cs W1.drew w.heap.size 0 (auC syms A.st (.slice io A.st ci) (.slice fo A.st cf) (.slice ro nr cr)):=(hG.next hdr).cs
 have hK0:∀ w' w'',Cs w' w.heap.size 0 (auC syms A.st (.slice io A.st ci) (.slice fo A.st cf) (.slice ro nr cr))->Below w'.heap.size w' w''->Cs w'' w.heap.size 0 (auC syms A.st (.slice io A.st ci) (.slice fo A.st cf) (.slice ro nr cr)):=fun w' w'' h hb=>h.next hb
 have hR1:=hR.next hdr
 have hm1:=hid (hm.out.next hdr)
 have hb1:=qQ hb0 hdr
 subst hW1
 clear hG hR hm hb0 hdr
 refine qV (fun w'=>Cs w' w.heap.size 0 (auC syms A.st (.slice io A.st ci) (.slice fo A.st cf) (.slice ro nr cr))) [23] (by kernel_rfl) ?_
 refine wAp 0 (some 3) rfl rfl hS ?_
 refine wAl 1 (some 4) (v:=?_) rfl rfl ?_ hS ?_
 rotate_left
 ·intro wz hw; refine qX w.heap.size 0 ?_ (q1o hw); go_simp
 refine wAp 3 (some 6) rfl rfl hS ?_
 refine wAl 4 (some 7) (v:=?_) rfl rfl ?_ hS ?_
 rotate_left
 ·intro wz hw; refine qK w.heap.size 2 ?_ (.int .i64 (syms:Int)) (by have h:=hw 2 _ rfl; simpa using h) _ Tryz.underlying3 rfl; go_simp
 refine wAp 5 (some 8) rfl rfl hS ?_
 refine wAl 6 (some 9) (v:=?_) rfl rfl ?_ hS ?_
 rotate_left
 ·intro wz hw; refine qK w.heap.size 3 ?_ (.int .i64 (A.st:Int)) (by have h:=hw 3 _ rfl; simpa using h) _ Tryz.underlying3 rfl; go_simp
 refine wAp 7 (some 10) rfl rfl hS ?_
 refine wAl 8 (some 11) (v:=?_) rfl rfl ?_ hS ?_
 rotate_left
 ·intro wz hw; refine qX w.heap.size 0 ?_ (q1o hw); go_simp
 refine wAp 9 (some 12) rfl rfl hS ?_
 refine wAl 10 (some 13) (v:=?_) rfl rfl ?_ hS ?_
 rotate_left
 ·intro wz hw; refine qK w.heap.size 4 ?_ (.slice io A.st ci) (by have h:=hw 4 _ rfl; simpa using h) _ Tryz.underlying27 rfl; go_simp
 refine wAp 12 (some 15) rfl rfl hS ?_
 refine wAl 13 (some 16) (v:=?_) rfl rfl ?_ hS ?_
 rotate_left
 ·intro wz hw; refine qX w.heap.size 0 ?_ (q1o hw); go_simp
 refine wAp 14 (some 17) rfl rfl hS ?_
 refine wAl 15 (some 18) (v:=?_) rfl rfl ?_ hS ?_
 rotate_left
 ·intro wz hw; refine qK w.heap.size 5 ?_ (.slice fo A.st cf) (by have h:=hw 5 _ rfl; simpa using h) _ Tryz.underlying27 rfl; go_simp
 refine wAp 17 (some 20) rfl rfl hS ?_
 refine wAl 18 (some 21) (v:=?_) rfl rfl ?_ hS ?_
 rotate_left
 ·intro wz hw; refine qX w.heap.size 0 ?_ (q1o hw); go_simp
 refine wAp 19 (some 22) rfl rfl hS ?_
 refine wAl 20 (some 23) (v:=?_) rfl rfl ?_ hS ?_
 rotate_left
 ·intro wz hw; refine qK w.heap.size 6 ?_ (.slice ro nr cr) (by have h:=hw 6 _ rfl; simpa using h) _ Tryz.underlying28 rfl; go_simp
 go_simp
 refine wpO (i:=2) rfl fun KK hKK=>?_
 go_simp
 go_at_call 95
 refine (j5i _).mono ?_; rintro e w2 ⟨rfl,hb2⟩
 have hb3:=qQ hb1 hb2
 have hm2:=hid (hm1.out.next hb2)
 have hR2:=hR1.next hb2
 try go_simp
 refine hKK _ _ ⟨fun _=>(hK0 _ _ hS hb2),?_⟩; clear hKK KK
 refine wpO (i:=11) rfl fun KK hKK=>?_
 go_simp
 go_at_call 96
 refine (q8b A.ini io A.st ci _ hV.out.ini hst hm2.out.ini).mono ?_; rintro e w4 ⟨⟨bo,cb,rfl,hi4⟩,hb4⟩
 have hb5:=qQ hb3 hb4
 have hm4:=hid (hm2.out.next hb4)
 have hR4:=hR2.next hb4
 replace hi4:=hi4.mono hR2.lt
 try go_simp
 refine hKK _ _ ⟨fun _=>(hK0 _ _ (hK0 _ _ hS hb2) hb4),?_⟩; clear hKK KK
 refine wpO (i:=16) rfl fun KK hKK=>?_
 go_simp
 go_at_call 96
 refine (q8b A.fin fo A.st cf _ hV.out.fin hst hm4.out.fin).mono ?_; rintro e w6 ⟨⟨do_,cd,rfl,hf6⟩,hb6⟩
 have hb7:=qQ hb5 hb6
 have hm6:=hid (hm4.out.next hb6)
 have hR6:=hR4.next hb6
 have hi6:=hi4.next hb6
 replace hf6:=hf6.mono hR4.lt
 try go_simp
 refine hKK _ _ ⟨fun _=>(hK0 _ _ (hK0 _ _ (hK0 _ _ hS hb2) hb4) hb6),?_⟩; clear hKK KK
 refine wpO (i:=21) rfl fun KK hKK=>?_
 go_simp
 go_at_call 97
 refine (q8h A.arcs ro nr cr hnr hab.out hat.out _ hm6.out.arcs).mono ?_; rintro e w8 ⟨⟨K,kv,rfl,hK,hk8⟩,hb8⟩
 have hb9:=qQ hb7 hb8
 have hR8:=hR6.next hb8
 have hi8:=hi6.next hb8
 have hf8:=hf6.next hb8
 replace hk8:=hk8.mono hR6.lt
 obtain ⟨ko,kc,hkv⟩:=hk8.form
 subst hkv
 rw [List.length_map] at hk8
 simp only [List.length_map]
 replace hK:=hid hK
 try go_simp
 refine hKK _ _ ⟨fun _=>(hK0 _ _ (hK0 _ _ (hK0 _ _ (hK0 _ _ hS hb2) hb4) hb6) hb8),?_⟩; clear hKK KK
 refine wAp 22 (some 25) rfl rfl (hK0 _ _ (hK0 _ _ (hK0 _ _ (hK0 _ _ hS hb2) hb4) hb6) hb8) ?_
 refine wpO (i:=23) rfl fun KK hKK=>?_
 rw [if_pos (by rfl)]
 with_reducible refine qB 30 (.tmp 2) (.tmp 25) ?_ (w.heap.size+1) 30 [.int .i64 0,.slice none 0 0,.int .i64 0,.int .i64 0,.slice none 0 0,.slice none 0 0,.slice none 0 0] hR8 ?_ (auC syms A.st (.slice bo A.st cb) (.slice do_ A.st cd) (.slice ko (K.filter nz).length kc)) ?_ ?_ ?_ ?_ ?_
 ·rfl
 ·go_simp
 ·rfl
 ·go_simp
 ·exact kV _ _ _ _ _ _ _ _ _ _ _
 ·exact Tryz.sizeAuto
 intro w10 hR10 hfr10
 refine lN hKK ?_; clear hKK KK
 refine qZ (by kernel_rfl) ?_ _
 have hMo:MoF w8 (w.heap.size+1+1) ⟨A.st,A.ini,A.fin,K.filter nz⟩ bo cb do_ cd ko (K.filter nz).length kc:=⟨hi8,hf8,hk8⟩
 have hMo2:=hid ((hMo.fr hfr10 (Nat.lt_succ_self _)).mono (show w.heap.size<=w.heap.size+1+1 by omega))
 go_wp2_with fail
 exact bodyPost_ret (qN rfl _ _ (w.heap.size+1) _ _ rfl hR10.cs Tryz.underlying30 rfl Tryz.sizeAuto) rfl ⟨_,rfl,K,bo,cb,do_,cd,ko,(K.filter nz).length,kc,rfl,hK.out,hMo2.out,hb9.trans (hfr10.below (fun k e=>by omega) hb9.size)⟩
end
section
open Go.RowKit
theorem j0i (syms:Nat) (A:Au) (hV:Vo syms A) (io:OA) (ci:Nat) (fo:OA) (cf:Nat) (ro:OA) (nr cr:Nat) (w:World) (h:Mo w syms A io ci fo cf ro nr cr) :
  Calls Tryz.prog 69 #[.agg (auC syms A.st (.slice io A.st ci) (.slice fo A.st cf) (.slice ro nr cr)).toArray] w fun e w'=>∃ v,e=.returned (.tuple #[v,.int .i64 0])/\j8a syms A w v w':=by
 have hb0:Below w.heap.size w ((w.alloc (.cells (auC syms A.st (.slice io A.st ci) (.slice fo A.st cf) (.slice ro nr cr)).toArray 30)).alloc (.cells #[.int .i64 0,.slice none 0 0,.int .i64 0,.int .i64 0,.slice none 0 0,.slice none 0 0,.slice none 0 0] 30)):=qQ (qJ _) (qJ _)
 have hG:=(Bl.fresh w (auC syms A.st (.slice io A.st ci) (.slice fo A.st cf) (.slice ro nr cr)) 30).new (.cells #[.int .i64 0,.slice none 0 0,.int .i64 0,.int .i64 0,.slice none 0 0,.slice none 0 0,.slice none 0 0] 30)
 have hR:=Bl.fresh' (G:=w.heap.size+1) (w.alloc (.cells (auC syms A.st (.slice io A.st ci) (.slice fo A.st cf) (.slice ro nr cr)).toArray 30)) [.int .i64 0,.slice none 0 0,.int .i64 0,.int .i64 0,.slice none 0 0,.slice none 0 0,.slice none 0 0] 30 (by simp)
 have hm:=hid (h.next hb0)
 clear h
 go_enter Tryz.func69,Tryz.ntmps69
 go_upto_region 1 with fail
 obtain ⟨W1,hW1⟩:∃ W1,W1=((w.alloc (.cells (auC syms A.st (.slice io A.st ci) (.slice fo A.st cf) (.slice ro nr cr)).toArray 30)).alloc (.cells #[.int .i64 0,.slice none 0 0,.int .i64 0,.int .i64 0,.slice none 0 0,.slice none 0 0,.slice none 0 0] 30)):=⟨_,rfl⟩
 rw [<-hW1] at hb0 hG hR hm
 have hGc:=hG.cs
 subst hW1
 go_wp2_with ((with_reducible refine qM rfl _ rfl w.heap.size 0 ?_ (auC syms A.st (.slice io A.st ci) (.slice fo A.st cf) (.slice ro nr cr)) rfl hGc ?_); exact rfl)
 refine (kN syms A hV io ci fo cf ro nr cr _ hm.out).mono ?_; rintro e w1 ⟨rfl,hb1⟩
 have hm1:=hid (hm.out.next hb1)
 replace hG:=hG.next hb1
 replace hR:=hR.next hb1
 replace hb0:=qQ hb0 hb1
 clear hGc hb1
 have hGc:=hG.cs
 go_wp2_with ((with_reducible refine qM rfl _ rfl w.heap.size 0 ?_ (auC syms A.st (.slice io A.st ci) (.slice fo A.st cf) (.slice ro nr cr)) rfl hGc ?_); exact rfl)
 refine (q4q syms A hV io ci fo cf ro nr cr _ hm1.out).mono ?_; rintro e w2 ⟨v,rfl,K,io',ci',fo',cf',ro',nr',cr',rfl,hK,hMo,hb2⟩
 have hR2:=hR.next hb2
 have hMo2:=hMo.mono hR.lt
 replace hb0:=qQ hb0 hb2
 replace hK:=hid hK
 clear hGc hb2 hMo
 go_wp2_with ((with_reducible refine jG rfl _ _ rfl (w.heap.size+1) 30 _ hR2 ?_ (auC syms A.st (.slice io' A.st ci') (.slice fo' A.st cf') (.slice ro' nr' cr')) rfl rfl ?_ (kV _ _ _ _ _ _ _ _ _ _ _) ?_); exact rfl; exact rfl; intro w9 hR9 hfr9)
 exact bodyPost_ret (jY rfl _ _ (w.heap.size+1) _ _ rfl hR9.cs Tryz.underlying30 rfl Tryz.sizeAuto) rfl ⟨_,rfl,K,io',ci',fo',cf',ro',nr',cr',rfl,hK.out,(hMo2.fr hfr9 (Nat.lt_succ_self _)).mono (show w.heap.size<=w.heap.size+1+1 by omega),hb0.trans (hfr9.below (fun k e=>by omega) hb0.size)⟩
end
end Go.Proofs.YtnapapijhhldpaaGreatDoor

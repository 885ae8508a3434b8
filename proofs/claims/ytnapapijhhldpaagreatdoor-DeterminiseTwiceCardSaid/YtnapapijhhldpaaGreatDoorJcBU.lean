/-
  Texts joined by program: Tta, Ttb. No condition of its own.
-/
import Derived.Test.YtnapapijhhldpaaGreatDoorJcBQ
namespace Go.Proofs.YtnapapijhhldpaaGreatDoor
set_option linter.unusedSimpArgs false
set_option linter.unusedVariables false
section
open Go.RowKit
noncomputable def wB (n:Nat):Code:=(Tryz.f6.body.bind (findB n)).getD .skip
noncomputable def wR (n:Nat):Code:=(Tryz.f6.body.bind (findR n)).getD .skip
structure Ta (w:World) (T:Nat) (lo:Option Addr) (n cap:Nat):Prop where
 ex:∃ a,a≤n∧Tp T lo n cap a w
 lst:TpL T lo n cap w
 big:n≤9223372036854775807
theorem Ta.lt {w:World} {T n cap:Nat} {lo:Option Addr} (h:Ta w T lo n cap):T<w.heap.size:=by obtain ⟨a,_,h1⟩:=h.ex; exact h1.lt
theorem Ta.next {w w':World} {T n cap:Nat} {lo:Option Addr} (h:Ta w T lo n cap) (hb:Below w.heap.size w w'):Ta w' T lo n cap:=by
 obtain ⟨a,h1,h2⟩:=h.ex
 exact ⟨⟨a,h1,h2.next hb⟩,h.lst.fr hb (Nat.le_of_lt h.lt),h.big⟩
theorem Ta.fr {w w':World} {T n cap:Nat} {lo:Option Addr} {K:Nat→Prop} (h:Ta w T lo n cap) (hf:Fr K w w') (hK:∀ k,K k→T<k):Ta w' T lo n cap:=by
 obtain ⟨a,h1,h2⟩:=h.ex
 exact ⟨⟨a,h1,h2.fr hf (fun e=>by have:=hK _ e; omega)⟩,h.lst.fr (hf.below (fun k e=>Nat.le_of_lt (hK k e)) (Nat.le_of_lt h.lt)) (Nat.le_refl _),h.big⟩
theorem Ta.to {w w':World} {T n cap b:Nat} {lo:Option Addr} (h:Ta w T lo n cap) (hf:Fr (fun k=>k=T) w w') (h1:Tp T lo n cap b w') (h2:b≤n):Ta w' T lo n cap :=
 ⟨⟨b,h2,h1⟩,h.lst.fr (hf.below (fun k e=>by subst e; exact Nat.le_refl _) (Nat.le_of_lt h.lt)) (Nat.le_refl _),h.big⟩
theorem tnext_any (T:Nat) (lo:Option Addr) (n cap:Nat) (m:Int) (h1:1≤m) (h2:m≤1000000) (w:World) (h:Ta w T lo n cap) :
  Calls Tryz.prog 21 #[.pointer (some ⟨T,0,none⟩),.int .i64 m] w fun e w'=>∃ r:Nat,e=.returned (.int .i64 (r:Int))∧(r:Int)<m∧Ta w' T lo n cap∧Fr (fun k=>k=T) w w':=by
 obtain ⟨a,ha,hT⟩:=h.ex
 refine (next_any T lo n cap a m h1 h2 w hT h.lst ha h.big).mono ?_
 rintro e w' ⟨r,b,rfl,hr,hT',hb,_,hf⟩
 exact ⟨r,rfl,hr,h.to hf hT' hb,hf⟩
theorem tweight_any (T:Nat) (lo:Option Addr) (n cap:Nat) (w:World) (h:Ta w T lo n cap) :
  Calls Tryz.prog 20 #[.int .i64 2,.pointer (some ⟨T,0,none⟩)] w fun e w'=>∃ v:Tw,e=.returned (.agg (twC v).toArray)∧tc v≤5∧Ta w' T lo n cap∧Fr (fun k=>k=T) w w':=by
 obtain ⟨a,ha,hT⟩:=h.ex
 refine (weightT_any T lo n cap a w hT h.lst ha h.big).mono ?_
 rintro e w' ⟨c,i,b,rfl,hc,hi,h1,h2,h3⟩
 cases i with
 | true =>
  obtain rfl:=hi rfl
  exact ⟨none,rfl,Nat.zero_le _,h.to h3 h1 h2,h3⟩
 | false=>exact ⟨some c,rfl,hc,h.to h3 h1 h2,h3⟩
set_option maxRecDepth 100000 in
set_option maxHeartbeats 4000000 in
theorem aut_b7 (T:Nat) (lo:Option Addr) (n cap:Nat) (PB s:Nat) (kst ksy:Int) (fw sg:Bool) (w:World) (hP:Bl PB [.int .i64 kst,.int .i64 ksy,.bool fw,.bool sg,.slice lo n cap] 24 w) (hTa:Ta w T lo n cap) (hPT:PB<T)
  (c0 c1 c2 c4 c5 c6 c8 Aa Ab Ad Ae Af Ag Ah Ak Al Am An Ao Ap Aq Ar As Av Aw Ax Ay Az Ba Bb Bc Be Bf Bh Bi Bj Bk Bm Bn Bo Bp Bq Br Bs Bt Bu Bv Bw Bx By Bz Ca Cb Cc Cd Ce Cf Cg Ch Ci Cj Ck Cl Cm Cn Co Cp Cq Cr Ct Cu Cv Cw Cx Cy Cz Da Db Dc Dd De Df Dg Dh Di Dj Dk Dl Dn Dp Dq Dr Dt Du Dv Dw Dx Dy Dz Ea Eb Ec Ed Ee Ef Eg Eh Ei Ej Ek El Em En Eo Ep Eq Er Es Et Eu Ev Ew Ex Ey Ez Fa Fb Fc Fd Fe Ff Fg Fh Fi Fj Fk Fm Fn Fo Fp Fq Fs Ft Fu Fv Fw Fx Fy Fz Ga Gb Gc Gd Ge Gf Gg Gh Gi Gj Gk Gl Gm Gn Go Gp Gq Gr Gs Gt Gu Gv Gw Gx Gy Gz Ha Hb Hc Hd He Hf Hg:Value) (Q0:Exit→Act→World→Prop) (hpan:∀ c (a:Act) d v w,Q0 (.panic c) (a.put d v) w→Q0 (.panic c) a w)
  (hexit:∀ (Hh Hi Hj Hk Hl Hm Hn Ho Hp Hq Hr Hs Ht Hu:Value) (b:Bool) (w':World),(sg=true→b=false→s=0)→Ta w' T lo n cap→Fr (fun k=>k=T) w w'→Q0 .normal ⟨#[c0,c1,c2,.pointer (some ⟨PB,0,none⟩),c4,c5,c6,.pointer (some ⟨T,0,none⟩),c8,.int .i64 (s:Int),Aa,Ab,Ad,Ae,Af,Ag,Ah,Ak,Al,Am,An,Ao,Ap,Aq,Ar,As,Av,Aw,Ax,Ay,Az,Ba,Bb,Bc,Be,Bf,Bh,Bi,Bj,Bk,Bm,Bn,Bo,Bp,Hh,Hi,Hj,Hk,Hl,Hm,Hn,Ho,Hp,Hq,Hr,Hs,Ht,Hu,.bool b,Cf,Cg,Ch,Ci,Cj,Ck,Cl,Cm,Cn,Co,Cp,Cq,Cr,Ct,Cu,Cv,Cw,Cx,Cy,Cz,Da,Db,Dc,Dd,De,Df,Dg,Dh,Di,Dj,Dk,Dl,Dn,Dp,Dq,Dr,Dt,Du,Dv,Dw,Dx,Dy,Dz,Ea,Eb,Ec,Ed,Ee,Ef,Eg,Eh,Ei,Ej,Ek,El,Em,En,Eo,Ep,Eq,Er,Es,Et,Eu,Ev,Ew,Ex,Ey,Ez,Fa,Fb,Fc,Fd,Fe,Ff,Fg,Fh,Fi,Fj,Fk,Fm,Fn,Fo,Fp,Fq,Fs,Ft,Fu,Fv,Fw,Fx,Fy,Fz,Ga,Gb,Gc,Gd,Ge,Gf,Gg,Gh,Gi,Gj,Gk,Gl,Gm,Gn,Go,Gp,Gq,Gr,Gs,Gt,Gu,Gv,Gw,Gx,Gy,Gz,Ha,Hb,Hc,Hd,He,Hf,Hg],[]⟩ w') :
  Code.wp Tryz.prog (wR 7) Q0 ⟨#[c0,c1,c2,.pointer (some ⟨PB,0,none⟩),c4,c5,c6,.pointer (some ⟨T,0,none⟩),c8,.int .i64 (s:Int),Aa,Ab,Ad,Ae,Af,Ag,Ah,Ak,Al,Am,An,Ao,Ap,Aq,Ar,As,Av,Aw,Ax,Ay,Az,Ba,Bb,Bc,Be,Bf,Bh,Bi,Bj,Bk,Bm,Bn,Bo,Bp,Bq,Br,Bs,Bt,Bu,Bv,Bw,Bx,By,Bz,Ca,Cb,Cc,Cd,Ce,Cf,Cg,Ch,Ci,Cj,Ck,Cl,Cm,Cn,Co,Cp,Cq,Cr,Ct,Cu,Cv,Cw,Cx,Cy,Cz,Da,Db,Dc,Dd,De,Df,Dg,Dh,Di,Dj,Dk,Dl,Dn,Dp,Dq,Dr,Dt,Du,Dv,Dw,Dx,Dy,Dz,Ea,Eb,Ec,Ed,Ee,Ef,Eg,Eh,Ei,Ej,Ek,El,Em,En,Eo,Ep,Eq,Er,Es,Et,Eu,Ev,Ew,Ex,Ey,Ez,Fa,Fb,Fc,Fd,Fe,Ff,Fg,Fh,Fi,Fj,Fk,Fm,Fn,Fo,Fp,Fq,Fs,Ft,Fu,Fv,Fw,Fx,Fy,Fz,Ga,Gb,Gc,Gd,Ge,Gf,Gg,Gh,Gi,Gj,Gk,Gl,Gm,Gn,Go,Gp,Gq,Gr,Gs,Gt,Gu,Gv,Gw,Gx,Gy,Gz,Ha,Hb,Hc,Hd,He,Hf,Hg],[]⟩ w:=by
 conv=>arg 2; whnf
 obtain ⟨q0,q1⟩:(Bl PB [.int .i64 kst,.int .i64 ksy,.bool fw,.bool sg,.slice lo n cap] 24 w)∧True:=⟨hP,trivial⟩
 have hexit:=hid hexit
 have hP:=hid hP
 go_wp2_with fail
 refine (tnext_any T lo n cap 2 (by omega) (by omega) w hTa).mono ?_; rintro e w1 ⟨r,rfl,hr,hT1,hf1⟩
 have y3:=(hP.out.fr hf1 (fun e=>by omega)).cell (i:=3) rfl
 have hT1:=hid hT1
 have hf1:=hid hf1
 clear q0 q1
 rcases (show r=0∨r=1 by omega) with hr0 | hr0
 ·have k1:((r:Int)==0)=true:=by rw [beq_iff_eq]; omega
  have k1':(r:Int)=0:=by omega
  clear hr0
  cases s with
  | zero =>
   have k2:¬ (0:Int)<((0:Nat):Int):=by omega
   cases sg with
   | true =>
    go_wp2_with fail
    exact hexit.out _ _ _ _ _ _ _ _ _ _ _ _ _ _ false w1 (by first | exact fun _ _=>rfl | simp) hT1.out hf1.out
   | false =>
    go_wp2_with fail
    exact hexit.out _ _ _ _ _ _ _ _ _ _ _ _ _ _ false w1 (fun h=>by cases h) hT1.out hf1.out
  | succ m =>
   have k2:(0:Int)<((m+1:Nat):Int):=by omega
   have k2':(0:Int)<(m:Int)+1:=by omega
   go_wp2_with fail
   exact hexit.out _ _ _ _ _ _ _ _ _ _ _ _ _ _ true w1 (fun _ h=>by cases h) hT1.out hf1.out
 ·have k1:((r:Int)==0)=false:=by rw [beq_eq_false_iff_ne]; omega
  have k1':¬ (r:Int)=0:=by omega
  have k1'':¬ r=0:=by omega
  clear hr0
  cases sg with
  | true =>
   cases s with
   | zero =>
    have k2:¬ (0:Int)<((0:Nat):Int):=by omega
    go_wp2_with fail
    exact hexit.out _ _ _ _ _ _ _ _ _ _ _ _ _ _ false w1 (by first | exact fun _ _=>rfl | simp) hT1.out hf1.out
   | succ m =>
    have k2:(0:Int)<((m+1:Nat):Int):=by omega
    have k2':(0:Int)<(m:Int)+1:=by omega
    go_wp2_with fail
    exact hexit.out _ _ _ _ _ _ _ _ _ _ _ _ _ _ true w1 (fun _ h=>by cases h) hT1.out hf1.out
  | false =>
   go_wp2_with fail
   exact hexit.out _ _ _ _ _ _ _ _ _ _ _ _ _ _ false w1 (fun h=>by cases h) hT1.out hf1.out
set_option maxRecDepth 100000 in
set_option maxHeartbeats 4000000 in
theorem aut_b9 (T:Nat) (lo:Option Addr) (n cap:Nat) (O s st:Nat) (w:World) (hO:w.cell? ⟨O,3,none⟩=some (.int .i64 (st:Int))) (hst:st≤64) (hTa:Ta w T lo n cap) (hTO:T<O)
  (c0 c1 c2 c3 c4 c5 c6 Aa Ab Ad Ae Af Ag Ah Ak Al Am An Ao Ap Aq Ar As Av Aw Ax Ay Az Ba Bb Bc Be Bf Bh Bi Bj Bk Bm Bn Bo Bp Bq Br Bs Bt Bu Bv Bw Bx By Bz Ca Cb Cc Cd Ce Cf Cg Ch Ci Cj Ck Cl Cm Cn Co Cp Cq Cr Ct Cu Cv Cw Cx Cy Cz Da Db Dc Dd De Df Dg Dh Di Dj Dk Dl Dn Dp Dq Dr Dt Du Dv Dw Dx Dy Dz Ea Eb Ec Ed Ee Ef Eg Eh Ei Ej Ek El Em En Eo Ep Eq Er Es Et Eu Ev Ew Ex Ey Ez Fa Fb Fc Fd Fe Ff Fg Fh Fi Fj Fk Fm Fn Fo Fp Fq Fs Ft Fu Fv Fw Fx Fy Fz Ga Gb Gc Gd Ge Gf Gg Gh Gi Gj Gk Gl Gm Gn Go Gp Gq Gr Gs Gt Gu Gv Gw Gx Gy Gz Ha Hb Hc Hd He Hf Hg:Value) (Q0:Exit→Act→World→Prop) (hpan:∀ c (a:Act) d v w,Q0 (.panic c) (a.put d v) w→Q0 (.panic c) a w)
  (hexit:∀ (Hh Hi Hj Hk Hl Hm Hn Ho Hp:Value) (b:Bool) (w':World),Ta w' T lo n cap→Fr (fun k=>k=T) w w'→Q0 .normal ⟨#[c0,c1,c2,c3,c4,c5,c6,.pointer (some ⟨T,0,none⟩),.pointer (some ⟨O,0,none⟩),.int .i64 (s:Int),Aa,Ab,Ad,Ae,Af,Ag,Ah,Ak,Al,Am,An,Ao,Ap,Aq,Ar,As,Av,Aw,Ax,Ay,Az,Ba,Bb,Bc,Be,Bf,Bh,Bi,Bj,Bk,Bm,Bn,Bo,Bp,Bq,Br,Bs,Bt,Bu,Bv,Bw,Bx,By,Bz,Ca,Cb,Cc,Cd,Ce,Cf,Cg,Ch,Hh,Hi,Hj,Hk,Hl,Hm,Hn,Ho,Hp,.bool b,Ct,Cu,Cv,Cw,Cx,Cy,Cz,Da,Db,Dc,Dd,De,Df,Dg,Dh,Di,Dj,Dk,Dl,Dn,Dp,Dq,Dr,Dt,Du,Dv,Dw,Dx,Dy,Dz,Ea,Eb,Ec,Ed,Ee,Ef,Eg,Eh,Ei,Ej,Ek,El,Em,En,Eo,Ep,Eq,Er,Es,Et,Eu,Ev,Ew,Ex,Ey,Ez,Fa,Fb,Fc,Fd,Fe,Ff,Fg,Fh,Fi,Fj,Fk,Fm,Fn,Fo,Fp,Fq,Fs,Ft,Fu,Fv,Fw,Fx,Fy,Fz,Ga,Gb,Gc,Gd,Ge,Gf,Gg,Gh,Gi,Gj,Gk,Gl,Gm,Gn,Go,Gp,Gq,Gr,Gs,Gt,Gu,Gv,Gw,Gx,Gy,Gz,Ha,Hb,Hc,Hd,He,Hf,Hg],[]⟩ w') :
  Code.wp Tryz.prog (wR 9) Q0 ⟨#[c0,c1,c2,c3,c4,c5,c6,.pointer (some ⟨T,0,none⟩),.pointer (some ⟨O,0,none⟩),.int .i64 (s:Int),Aa,Ab,Ad,Ae,Af,Ag,Ah,Ak,Al,Am,An,Ao,Ap,Aq,Ar,As,Av,Aw,Ax,Ay,Az,Ba,Bb,Bc,Be,Bf,Bh,Bi,Bj,Bk,Bm,Bn,Bo,Bp,Bq,Br,Bs,Bt,Bu,Bv,Bw,Bx,By,Bz,Ca,Cb,Cc,Cd,Ce,Cf,Cg,Ch,Ci,Cj,Ck,Cl,Cm,Cn,Co,Cp,Cq,Cr,Ct,Cu,Cv,Cw,Cx,Cy,Cz,Da,Db,Dc,Dd,De,Df,Dg,Dh,Di,Dj,Dk,Dl,Dn,Dp,Dq,Dr,Dt,Du,Dv,Dw,Dx,Dy,Dz,Ea,Eb,Ec,Ed,Ee,Ef,Eg,Eh,Ei,Ej,Ek,El,Em,En,Eo,Ep,Eq,Er,Es,Et,Eu,Ev,Ew,Ex,Ey,Ez,Fa,Fb,Fc,Fd,Fe,Ff,Fg,Fh,Fi,Fj,Fk,Fm,Fn,Fo,Fp,Fq,Fs,Ft,Fu,Fv,Fw,Fx,Fy,Fz,Ga,Gb,Gc,Gd,Ge,Gf,Gg,Gh,Gi,Gj,Gk,Gl,Gm,Gn,Go,Gp,Gq,Gr,Gs,Gt,Gu,Gv,Gw,Gx,Gy,Gz,Ha,Hb,Hc,Hd,He,Hf,Hg],[]⟩ w:=by
 conv=>arg 2; whnf
 have hexit:=hid hexit
 go_wp2_with fail
 refine (tnext_any T lo n cap 2 (by omega) (by omega) w hTa).mono ?_; rintro e w1 ⟨r,rfl,hr,hT1,hf1⟩
 have y3:=hf1.cell hO (fun e=>by omega)
 have hT1:=hid hT1
 have hf1:=hid hf1
 have hO:=hid hO
 rcases (show r=0∨r=1 by omega) with hr0 | hr0
 ·have k1:((r:Int)==0)=true:=by rw [beq_iff_eq]; omega
  have k1':(r:Int)=0:=by omega
  clear hr0
  go_wp2_with fail
  exact hexit.out _ _ _ _ _ _ _ _ _ _ w1 hT1.out hf1.out
 ·have k1:((r:Int)==0)=false:=by rw [beq_eq_false_iff_ne]; omega
  have k1':¬ (r:Int)=0:=by omega
  have k1'':¬ r=0:=by omega
  clear hr0
  go_wp2_with fail
  exact hexit.out _ _ _ _ _ _ _ _ _ false w1 hT1.out hf1.out
end
section
open Go.RowKit
set_option maxRecDepth 100000 in
set_option maxHeartbeats 4000000 in
theorem aut_app (O syms st X Y:Nat) (iv fv av:Value) (ini fin:List Tw) (arcs:List Ac) (x y:Tw) (w:World) (h:Om w O syms st iv fv av ini fin arcs) (hli:ini.length≤64) (hlf:fin.length≤64) (hX:Bl X (twC x) 45 w) (hY:Bl Y (twC y) 45 w) (hXi:¬ iv.ownBlock=some X) (hXf:¬ fv.ownBlock=some X) (hYi:¬ iv.ownBlock=some Y) (hYf:¬ fv.ownBlock=some Y)
  (c0 c1 c2 c3 c4 c5 c6 c7 c9 Aa Ab Ad Ae Af Ag Ah Ak Al Am An Ao Ap Aq Ar As Av Aw Ax Ay Az Ba Bb Bc Be Bf Bh Bi Bj Bk Bm Bn Bo Bp Bq Br Bs Bt Bu Bv Bw Bx By Bz Ca Cb Cc Cd Ce Cf Cg Ch Ci Cj Ck Cl Cm Cn Co Cp Cq Cr Ct Cu Cv Cw Cx Cy Cz Da Db Dc Dd De Df Dg Dh Di Dj Dk Dl Dn Dp Dq Dr Dt Du Dv Dw Dx Dy Dz Ea Eb Ec Ed Ee Ef Eg Eh Ei Ej Ek El Em En Eo Ep Eq Er Es Et Eu Ev Ew Ex Ey Ez Fa Fb Fc Fd Fe Ff Fg Fh Fi Fj Fk Fm Fn Fo Fp Fq Fs Ft Fu Fv Fw Fx Fy Fz Ga Gb Gc Gd Ge Gf Gg Gh Gi Gj Gk Gl Gm Gn Go Gp Gq Gr Gs Gt Gu Gv Gw Gx Gy Gz Ha Hb Hc Hd He:Value) (Q0:Exit→Act→World→Prop) (hpan:∀ c (a:Act) d v w,Q0 (.panic c) (a.put d v) w→Q0 (.panic c) a w)
  (hexit:∀ (Hf Hg Hh Hi Hj Hk Hl Hm Hn Ho Hp Hq:Value) (iv' fv':Value) (w':World),Om w' O syms st iv' fv' av (ini++[x]) (fin++[y]) arcs→Fr (fun k=>k=O∨iv.ownBlock=some k∨fv.ownBlock=some k) w w'→Q0 .normal ⟨#[c0,c1,c2,c3,c4,c5,c6,c7,.pointer (some ⟨O,0,none⟩),c9,.pointer (some ⟨X,0,none⟩),.pointer (some ⟨Y,0,none⟩),Aa,Ab,Ad,Ae,Af,Ag,Ah,Ak,Al,Am,An,Ao,Ap,Aq,Ar,As,Av,Aw,Ax,Ay,Az,Ba,Bb,Bc,Be,Bf,Bh,Bi,Bj,Bk,Bm,Bn,Bo,Bp,Bq,Br,Bs,Bt,Bu,Bv,Bw,Bx,By,Bz,Ca,Cb,Cc,Cd,Ce,Cf,Cg,Ch,Ci,Cj,Ck,Cl,Cm,Cn,Co,Cp,Cq,Cr,Ct,Hf,Hg,Hh,Hi,Hj,Hk,Hl,Hm,Hn,Ho,Hp,Hq,Dg,Dh,Di,Dj,Dk,Dl,Dn,Dp,Dq,Dr,Dt,Du,Dv,Dw,Dx,Dy,Dz,Ea,Eb,Ec,Ed,Ee,Ef,Eg,Eh,Ei,Ej,Ek,El,Em,En,Eo,Ep,Eq,Er,Es,Et,Eu,Ev,Ew,Ex,Ey,Ez,Fa,Fb,Fc,Fd,Fe,Ff,Fg,Fh,Fi,Fj,Fk,Fm,Fn,Fo,Fp,Fq,Fs,Ft,Fu,Fv,Fw,Fx,Fy,Fz,Ga,Gb,Gc,Gd,Ge,Gf,Gg,Gh,Gi,Gj,Gk,Gl,Gm,Gn,Go,Gp,Gq,Gr,Gs,Gt,Gu,Gv,Gw,Gx,Gy,Gz,Ha,Hb,Hc,Hd,He],[]⟩ w') :
  Code.wp Tryz.prog (wR 11) Q0 ⟨#[c0,c1,c2,c3,c4,c5,c6,c7,.pointer (some ⟨O,0,none⟩),c9,.pointer (some ⟨X,0,none⟩),.pointer (some ⟨Y,0,none⟩),Aa,Ab,Ad,Ae,Af,Ag,Ah,Ak,Al,Am,An,Ao,Ap,Aq,Ar,As,Av,Aw,Ax,Ay,Az,Ba,Bb,Bc,Be,Bf,Bh,Bi,Bj,Bk,Bm,Bn,Bo,Bp,Bq,Br,Bs,Bt,Bu,Bv,Bw,Bx,By,Bz,Ca,Cb,Cc,Cd,Ce,Cf,Cg,Ch,Ci,Cj,Ck,Cl,Cm,Cn,Co,Cp,Cq,Cr,Ct,Cu,Cv,Cw,Cx,Cy,Cz,Da,Db,Dc,Dd,De,Df,Dg,Dh,Di,Dj,Dk,Dl,Dn,Dp,Dq,Dr,Dt,Du,Dv,Dw,Dx,Dy,Dz,Ea,Eb,Ec,Ed,Ee,Ef,Eg,Eh,Ei,Ej,Ek,El,Em,En,Eo,Ep,Eq,Er,Es,Et,Eu,Ev,Ew,Ex,Ey,Ez,Fa,Fb,Fc,Fd,Fe,Ff,Fg,Fh,Fi,Fj,Fk,Fm,Fn,Fo,Fp,Fq,Fs,Ft,Fu,Fv,Fw,Fx,Fy,Fz,Ga,Gb,Gc,Gd,Ge,Gf,Gg,Gh,Gi,Gj,Gk,Gl,Gm,Gn,Go,Gp,Gq,Gr,Gs,Gt,Gu,Gv,Gw,Gx,Gy,Gz,Ha,Hb,Hc,Hd,He],[]⟩ w:=by
 conv=>arg 2; whnf
 have hdr:=(Below.refl w.heap.size w).drew
 have h1:=h.next hdr
 obtain ⟨hO,hi,hfi,ha,hne⟩:=h1
 replace hX:=(hX.next hdr).cs
 replace hY:=(hY.next hdr).cs
 have hiv0:∀ q,w.heap.size≤q→¬ iv.ownBlock=some q:=fun q hq e=>by have:=(h.ini.lt e).2; omega
 have hfv0:∀ q,w.heap.size≤q→¬ fv.ownBlock=some q:=fun q hq e=>by have:=(h.fin.lt e).2; omega
 have hF:Fr (fun k=>k=O∨iv.ownBlock=some k∨fv.ownBlock=some k) w w.drew:=below_fr hdr _
 have hsz:w.heap.size≤w.drew.heap.size:=hdr.size
 have hOw:O+1≤w.heap.size:=h.blk.lt
 have hS:(w.drew.cell? ⟨O,4,none⟩=some iv∧w.drew.cell? ⟨O,5,none⟩=some fv)∧Cs w.drew X 0 (twC x)∧Cs w.drew Y 0 (twC y):=⟨⟨hO.cell rfl,hO.cell rfl⟩,hX,hY⟩
 clear hdr
 refine wp_region_D (fun w'=>(w'.cell? ⟨O,4,none⟩=some iv∧w'.cell? ⟨O,5,none⟩=some fv)∧Cs w' X 0 (twC x)∧Cs w' Y 0 (twC y)) [11,12,13] (by kernel_rfl) ?_
 refine wpTh hpan (some 75) (i:=0) (v:=?_) rfl rfl (Or.inl ⟨by rfl,?_⟩) hS ?_
 rotate_left
 ·intro wz _; first | (have a1:=hw.1.1; have a2:=hw.1.2; go_simp; done) | (go_simp; done) | (go_simp; with_reducible rfl)
 refine wpTh hpan (some 76) (i:=1) (v:=?_) rfl rfl (Or.inl ⟨by rfl,?_⟩) hS ?_
 rotate_left
 ·intro wz hw; first | (have a1:=hw.1.1; have a2:=hw.1.2; go_simp; done) | (go_simp; done) | (go_simp; with_reducible rfl)
 refine wpTh hpan (some 77) (i:=2) (v:=?_) rfl rfl (Or.inl ⟨by kernel_rfl,?_⟩) hS ?_
 rotate_left
 ·intro wz hw; refine exec_loadTw X 0 ?_ x hw.2.1; go_simp
 refine wpTh hpan (some 80) (i:=5) (v:=?_) rfl rfl (Or.inl ⟨by rfl,?_⟩) hS ?_
 rotate_left
 ·intro wz _; first | (have a1:=hw.1.1; have a2:=hw.1.2; go_simp; done) | (go_simp; done) | (go_simp; with_reducible rfl)
 refine wpTh hpan (some 81) (i:=6) (v:=?_) rfl rfl (Or.inl ⟨by rfl,?_⟩) hS ?_
 rotate_left
 ·intro wz hw; first | (have a1:=hw.1.1; have a2:=hw.1.2; go_simp; done) | (go_simp; done) | (go_simp; with_reducible rfl)
 refine wpTh hpan (some 82) (i:=7) (v:=?_) rfl rfl (Or.inl ⟨by kernel_rfl,?_⟩) hS ?_
 rotate_left
 ·intro wz hw; refine exec_loadTw Y 0 ?_ y hw.2.2; go_simp
 go_simp
 refine wpAnyD_two (i:=3) (j:=8) ?_ rfl rfl (fun KK hKK=>?_) (fun KK hKK=>?_)
 ·kernel_rfl
 ·skip
  obtain ⟨wa,hwa⟩:∃ z,w.drew.alloc (.cells (twC x).toArray 45)=z:=⟨_,rfl⟩
  obtain ⟨lb3,hlb3⟩:∃ z,w.drew.heap.size=z:=⟨_,rfl⟩
  have hbl:Below w.drew.heap.size w.drew wa:=by rw [←hwa]; exact below_alloc _
  have hn3:Cs wa lb3 0 (twC x):=by rw [←hwa,←hlb3]; exact Cs.fresh _ _ _
  have hllb3:w.heap.size≤lb3:=by rw [←hlb3]; exact hsz
  replace hsz:w.heap.size≤wa.heap.size:=Nat.le_trans hsz hbl.size
  replace hO:=hO.next hbl
  replace hi:=hi.next hbl
  replace hfi:=hfi.next hbl
  replace ha:=ha.next hbl
  replace hX:=hX.next hbl
  replace hY:=hY.next hbl
  replace hF:=hF.trans (below_fr hbl _)
  go_simp
  try simp only [hwa,hlb3]
  clear hbl
  refine hKK _ _ ⟨fun _=>(⟨⟨hO.cell rfl,hO.cell rfl⟩,hX,hY⟩),?_⟩; clear hKK KK
  refine wpAnyD_two (i:=4) (j:=8) ?_ rfl rfl (fun KK hKK=>?_) (fun KK hKK=>?_)
  ·kernel_rfl
  ·skip
   rw [if_pos (by rfl)]
   refine op_appF (.tmp 76) (.tmp 78) 27 rfl 45 (.agg #[.bool false,.slice none 0 0,.slice none 0 0,.int .i64 0,.bool false,.int .u64 0,.slice none 0 0,.slice none 0 0]) 8 128 Tryz.underlying27 Tryz.infoTw rfl (by decide) (O+1) iv _ rfl hi lb3 0 1 1 [twC x] rfl rfl (by decide) (twC_len [x]) (by simpa using hn3) (twC_one [x]) (by rw [List.length_map]; omega) (by rw [List.length_map]; omega) (Nat.le_trans hOw hsz) ?_
   intro iv' wb hi5 hg5 hb5 ho5
   have hF5:Fr (fun k=>iv.ownBlock=some k) wa wb:=grown_fr hg5 fun g hg=>hg
   replace hO:=hO.under hb5 (Nat.lt_succ_self _)
   have hr5:∀ g,iv'.ownBlock=some g→fv.ownBlock≠some g:=fun g hg hg'=>by
    rcases ho5 with h | h
    ·exact hne g (h▸hg) hg'
    ·have e1:wa.heap.size=g:=Option.some.inj (h.symm.trans hg)
     have:=(hfi.lt hg').2; omega
   replace hfi:=hfi.fr hF5 (fun g hg hg'=>hne g hg' hg)
   replace ha:=ha.fr hF5 (fun g hg hg'=>own_ne' hi ha (by decide) g hg' hg)
   have hiv:∀ q,w.heap.size≤q→¬ iv.ownBlock=some q:=fun q hq=>hiv0 q hq
   replace hX:=hX.fr hF5 hXi
   replace hY:=hY.fr hF5 hYi
   replace hF:=hF.trans (hF5.mono fun k _ h=>Or.inr (Or.inl h))
   replace hsz:w.heap.size≤wb.heap.size:=Nat.le_trans hsz hF5.size
   replace hi:=hi5
   clear hi5
   refine hKK _ _ ⟨fun _=>(⟨⟨hO.cell rfl,hO.cell rfl⟩,hX,hY⟩),?_⟩; clear hKK KK
   refine wpTh hpan (some 85) (i:=10) (v:=?_) rfl rfl (Or.inl ⟨by rfl,?_⟩) (⟨⟨hO.cell rfl,hO.cell rfl⟩,hX,hY⟩) ?_
   rotate_left
   ·intro wz _; first | (have a1:=hw.1.1; have a2:=hw.1.2; go_simp; done) | (go_simp; done) | (go_simp; with_reducible rfl)
   refine wpAnyD_one (i:=8) (by kernel_rfl) rfl (fun KK hKK=>?_)
   obtain ⟨wc,hwc⟩:∃ z,wb.alloc (.cells (twC y).toArray 45)=z:=⟨_,rfl⟩
   obtain ⟨lb8,hlb8⟩:∃ z,wb.heap.size=z:=⟨_,rfl⟩
   have hbl:Below wb.heap.size wb wc:=by rw [←hwc]; exact below_alloc _
   have hn8:Cs wc lb8 0 (twC y):=by rw [←hwc,←hlb8]; exact Cs.fresh _ _ _
   have hllb8:w.heap.size≤lb8:=by rw [←hlb8]; exact hsz
   replace hsz:w.heap.size≤wc.heap.size:=Nat.le_trans hsz hbl.size
   replace hO:=hO.next hbl
   replace hi:=hi.next hbl
   replace hfi:=hfi.next hbl
   replace ha:=ha.next hbl
   replace hX:=hX.next hbl
   replace hY:=hY.next hbl
   replace hF:=hF.trans (below_fr hbl _)
   go_simp
   try simp only [hwc,hlb8]
   clear hbl
   refine hKK _ _ ⟨fun _=>(⟨⟨hO.cell rfl,hO.cell rfl⟩,hX,hY⟩),?_⟩; clear hKK KK
   refine wpAnyD_one (i:=9) (by kernel_rfl) rfl (fun KK hKK=>?_)
   rw [if_pos (by rfl)]
   refine op_appF (.tmp 81) (.tmp 83) 27 rfl 45 (.agg #[.bool false,.slice none 0 0,.slice none 0 0,.int .i64 0,.bool false,.int .u64 0,.slice none 0 0,.slice none 0 0]) 8 128 Tryz.underlying27 Tryz.infoTw rfl (by decide) (O+1) fv _ rfl hfi lb8 0 1 1 [twC y] rfl rfl (by decide) (twC_len [y]) (by simpa using hn8) (twC_one [y]) (by rw [List.length_map]; omega) (by rw [List.length_map]; omega) (Nat.le_trans hOw hsz) ?_
   intro fv' wd hf9 hg9 hb9 ho9
   have hF9:Fr (fun k=>fv.ownBlock=some k) wc wd:=grown_fr hg9 fun g hg=>hg
   replace hO:=hO.under hb9 (Nat.lt_succ_self _)
   have hr9:∀ g,iv'.ownBlock=some g→fv'.ownBlock≠some g:=fun g hg hg'=>by
    rcases ho9 with h | h
    ·exact hr5 g hg (h▸hg')
    ·have e1:wc.heap.size=g:=Option.some.inj (h.symm.trans hg')
     have:=(hi.lt hg).2; omega
   replace hi:=hi.fr hF9 (fun g hg hg'=>hr5 g hg hg')
   replace ha:=ha.fr hF9 (fun g hg hg'=>own_ne' hfi ha (by decide) g hg' hg)
   replace hX:=hX.fr hF9 hXf
   replace hY:=hY.fr hF9 hYf
   replace hF:=hF.trans (hF9.mono fun k _ h=>Or.inr (Or.inr h))
   obtain ⟨ai,ki,hiv'⟩:=hi.form
   obtain ⟨af,kf,hfv'⟩:=hf9.form
   subst hiv' hfv'
   have y4:=hO.cell (i:=4) rfl
   have y4f:=hO.free 4
   have y5:=hO.cell (i:=5) rfl
   have y5f:=hO.free 5
   refine hKK _ _ ⟨fun _=>(⟨⟨hO.cell rfl,hO.cell rfl⟩,hX,hY⟩),?_⟩; clear hKK KK
   refine wpAnyD_one (i:=11) (by kernel_rfl) rfl (fun KK hKK=>?_)
   go_simp
   refine hKK _ _ ⟨fun hn=>absurd (by simp) hn,?_⟩; clear hKK KK
   refine wpAnyD_one (i:=12) (by kernel_rfl) rfl (fun KK hKK=>?_)
   go_simp
   refine hKK _ _ ⟨fun hn=>absurd (by simp) hn,?_⟩; clear hKK KK
   refine wpAnyD_one (i:=13) (by kernel_rfl) rfl (fun KK hKK=>?_)
   go_simp
   refine hKK _ _ ⟨fun hn=>absurd (by simp) hn,?_⟩; clear hKK KK
   refine wpAnyD_done (by kernel_rfl) ?_ _
   have hF10:Fr (fun k=>k=O) wd ((wd.setCell ⟨O,4,none⟩ (.slice ai (ini.length+1) ki)).setCell ⟨O,5,none⟩ (.slice af (fin.length+1) kf)):=(Fr.set (T:=fun k=>k=O) wd (p:=⟨O,4,none⟩) rfl _).trans (Fr.set (T:=fun k=>k=O) _ (p:=⟨O,5,none⟩) rfl _)
   simp only [List.length_append,List.length_map,List.length_cons,List.length_nil] at *
   refine hexit _ _ _ _ _ _ _ _ _ _ _ _ (.slice ai (ini.length+1) ki) (.slice af (fin.length+1) kf) _ ?_ ?_
   ·refine ⟨(hO.put 4 _).put 5 _,?_,?_,?_,?_⟩
    ·rw [List.map_append]; exact hi.fr hF10 (fun g hg e=>by have:=(hi.lt hg).1; omega)
    ·rw [List.map_append]; exact hf9.fr hF10 (fun g hg e=>by have:=(hf9.lt hg).1; omega)
    ·exact ha.fr hF10 (fun g hg e=>by have:=(ha.lt hg).1; omega)
    ·exact hr9
   ·exact hF.trans (hF10.mono fun k _ h=>Or.inl h)
  ·skip
   obtain ⟨wc,hwc⟩:∃ z,wa.alloc (.cells (twC y).toArray 45)=z:=⟨_,rfl⟩
   obtain ⟨lb8,hlb8⟩:∃ z,wa.heap.size=z:=⟨_,rfl⟩
   have hbl:Below wa.heap.size wa wc:=by rw [←hwc]; exact below_alloc _
   have hn8:Cs wc lb8 0 (twC y):=by rw [←hwc,←hlb8]; exact Cs.fresh _ _ _
   have hllb8:w.heap.size≤lb8:=by rw [←hlb8]; exact hsz
   replace hsz:w.heap.size≤wc.heap.size:=Nat.le_trans hsz hbl.size
   replace hO:=hO.next hbl
   replace hi:=hi.next hbl
   replace hfi:=hfi.next hbl
   replace ha:=ha.next hbl
   replace hX:=hX.next hbl
   replace hY:=hY.next hbl
   replace hF:=hF.trans (below_fr hbl _)
   replace hn3:=hn3.next hbl
   go_simp
   try simp only [hwc,hlb8]
   clear hbl
   refine hKK _ _ ⟨fun _=>(⟨⟨hO.cell rfl,hO.cell rfl⟩,hX,hY⟩),?_⟩; clear hKK KK
   refine wpAnyD_one (i:=4) (by kernel_rfl) rfl (fun KK hKK=>?_)
   rw [if_pos (by rfl)]
   refine op_appF (.tmp 76) (.tmp 78) 27 rfl 45 (.agg #[.bool false,.slice none 0 0,.slice none 0 0,.int .i64 0,.bool false,.int .u64 0,.slice none 0 0,.slice none 0 0]) 8 128 Tryz.underlying27 Tryz.infoTw rfl (by decide) (O+1) iv _ rfl hi lb3 0 1 1 [twC x] rfl rfl (by decide) (twC_len [x]) (by simpa using hn3) (twC_one [x]) (by rw [List.length_map]; omega) (by rw [List.length_map]; omega) (Nat.le_trans hOw hsz) ?_
   intro iv' wb hi5 hg5 hb5 ho5
   have hF5:Fr (fun k=>iv.ownBlock=some k) wc wb:=grown_fr hg5 fun g hg=>hg
   replace hO:=hO.under hb5 (Nat.lt_succ_self _)
   have hr5:∀ g,iv'.ownBlock=some g→fv.ownBlock≠some g:=fun g hg hg'=>by
    rcases ho5 with h | h
    ·exact hne g (h▸hg) hg'
    ·have e1:wc.heap.size=g:=Option.some.inj (h.symm.trans hg)
     have:=(hfi.lt hg').2; omega
   replace hfi:=hfi.fr hF5 (fun g hg hg'=>hne g hg' hg)
   replace ha:=ha.fr hF5 (fun g hg hg'=>own_ne' hi ha (by decide) g hg' hg)
   have hiv:∀ q,w.heap.size≤q→¬ iv.ownBlock=some q:=fun q hq=>hiv0 q hq
   replace hX:=hX.fr hF5 hXi
   replace hY:=hY.fr hF5 hYi
   replace hF:=hF.trans (hF5.mono fun k _ h=>Or.inr (Or.inl h))
   replace hsz:w.heap.size≤wb.heap.size:=Nat.le_trans hsz hF5.size
   replace hn8:=hn8.fr hF5 (hiv _ hllb8)
   replace hi:=hi5
   clear hi5
   refine hKK _ _ ⟨fun _=>(⟨⟨hO.cell rfl,hO.cell rfl⟩,hX,hY⟩),?_⟩; clear hKK KK
   refine wpTh hpan (some 85) (i:=10) (v:=?_) rfl rfl (Or.inl ⟨by rfl,?_⟩) (⟨⟨hO.cell rfl,hO.cell rfl⟩,hX,hY⟩) ?_
   rotate_left
   ·intro wz _; first | (have a1:=hw.1.1; have a2:=hw.1.2; go_simp; done) | (go_simp; done) | (go_simp; with_reducible rfl)
   refine wpAnyD_one (i:=9) (by kernel_rfl) rfl (fun KK hKK=>?_)
   rw [if_pos (by rfl)]
   refine op_appF (.tmp 81) (.tmp 83) 27 rfl 45 (.agg #[.bool false,.slice none 0 0,.slice none 0 0,.int .i64 0,.bool false,.int .u64 0,.slice none 0 0,.slice none 0 0]) 8 128 Tryz.underlying27 Tryz.infoTw rfl (by decide) (O+1) fv _ rfl hfi lb8 0 1 1 [twC y] rfl rfl (by decide) (twC_len [y]) (by simpa using hn8) (twC_one [y]) (by rw [List.length_map]; omega) (by rw [List.length_map]; omega) (Nat.le_trans hOw hsz) ?_
   intro fv' wd hf9 hg9 hb9 ho9
   have hF9:Fr (fun k=>fv.ownBlock=some k) wb wd:=grown_fr hg9 fun g hg=>hg
   replace hO:=hO.under hb9 (Nat.lt_succ_self _)
   have hr9:∀ g,iv'.ownBlock=some g→fv'.ownBlock≠some g:=fun g hg hg'=>by
    rcases ho9 with h | h
    ·exact hr5 g hg (h▸hg')
    ·have e1:wb.heap.size=g:=Option.some.inj (h.symm.trans hg')
     have:=(hi.lt hg).2; omega
   replace hi:=hi.fr hF9 (fun g hg hg'=>hr5 g hg hg')
   replace ha:=ha.fr hF9 (fun g hg hg'=>own_ne' hfi ha (by decide) g hg' hg)
   replace hX:=hX.fr hF9 hXf
   replace hY:=hY.fr hF9 hYf
   replace hF:=hF.trans (hF9.mono fun k _ h=>Or.inr (Or.inr h))
   obtain ⟨ai,ki,hiv'⟩:=hi.form
   obtain ⟨af,kf,hfv'⟩:=hf9.form
   subst hiv' hfv'
   have y4:=hO.cell (i:=4) rfl
   have y4f:=hO.free 4
   have y5:=hO.cell (i:=5) rfl
   have y5f:=hO.free 5
   refine hKK _ _ ⟨fun _=>(⟨⟨hO.cell rfl,hO.cell rfl⟩,hX,hY⟩),?_⟩; clear hKK KK
   refine wpAnyD_one (i:=11) (by kernel_rfl) rfl (fun KK hKK=>?_)
   go_simp
   refine hKK _ _ ⟨fun hn=>absurd (by simp) hn,?_⟩; clear hKK KK
   refine wpAnyD_one (i:=12) (by kernel_rfl) rfl (fun KK hKK=>?_)
   go_simp
   refine hKK _ _ ⟨fun hn=>absurd (by simp) hn,?_⟩; clear hKK KK
   refine wpAnyD_one (i:=13) (by kernel_rfl) rfl (fun KK hKK=>?_)
   go_simp
   refine hKK _ _ ⟨fun hn=>absurd (by simp) hn,?_⟩; clear hKK KK
   refine wpAnyD_done (by kernel_rfl) ?_ _
   have hF10:Fr (fun k=>k=O) wd ((wd.setCell ⟨O,4,none⟩ (.slice ai (ini.length+1) ki)).setCell ⟨O,5,none⟩ (.slice af (fin.length+1) kf)):=(Fr.set (T:=fun k=>k=O) wd (p:=⟨O,4,none⟩) rfl _).trans (Fr.set (T:=fun k=>k=O) _ (p:=⟨O,5,none⟩) rfl _)
   simp only [List.length_append,List.length_map,List.length_cons,List.length_nil] at *
   refine hexit _ _ _ _ _ _ _ _ _ _ _ _ (.slice ai (ini.length+1) ki) (.slice af (fin.length+1) kf) _ ?_ ?_
   ·refine ⟨(hO.put 4 _).put 5 _,?_,?_,?_,?_⟩
    ·rw [List.map_append]; exact hi.fr hF10 (fun g hg e=>by have:=(hi.lt hg).1; omega)
    ·rw [List.map_append]; exact hf9.fr hF10 (fun g hg e=>by have:=(hf9.lt hg).1; omega)
    ·exact ha.fr hF10 (fun g hg e=>by have:=(ha.lt hg).1; omega)
    ·exact hr9
   ·exact hF.trans (hF10.mono fun k _ h=>Or.inl h)
 ·skip
  obtain ⟨wc,hwc⟩:∃ z,w.drew.alloc (.cells (twC y).toArray 45)=z:=⟨_,rfl⟩
  obtain ⟨lb8,hlb8⟩:∃ z,w.drew.heap.size=z:=⟨_,rfl⟩
  have hbl:Below w.drew.heap.size w.drew wc:=by rw [←hwc]; exact below_alloc _
  have hn8:Cs wc lb8 0 (twC y):=by rw [←hwc,←hlb8]; exact Cs.fresh _ _ _
  have hllb8:w.heap.size≤lb8:=by rw [←hlb8]; exact hsz
  replace hsz:w.heap.size≤wc.heap.size:=Nat.le_trans hsz hbl.size
  replace hO:=hO.next hbl
  replace hi:=hi.next hbl
  replace hfi:=hfi.next hbl
  replace ha:=ha.next hbl
  replace hX:=hX.next hbl
  replace hY:=hY.next hbl
  replace hF:=hF.trans (below_fr hbl _)
  go_simp
  try simp only [hwc,hlb8]
  clear hbl
  refine hKK _ _ ⟨fun _=>(⟨⟨hO.cell rfl,hO.cell rfl⟩,hX,hY⟩),?_⟩; clear hKK KK
  refine wpAnyD_one (i:=3) (by kernel_rfl) rfl (fun KK hKK=>?_)
  obtain ⟨wa,hwa⟩:∃ z,wc.alloc (.cells (twC x).toArray 45)=z:=⟨_,rfl⟩
  obtain ⟨lb3,hlb3⟩:∃ z,wc.heap.size=z:=⟨_,rfl⟩
  have hbl:Below wc.heap.size wc wa:=by rw [←hwa]; exact below_alloc _
  have hn3:Cs wa lb3 0 (twC x):=by rw [←hwa,←hlb3]; exact Cs.fresh _ _ _
  have hllb3:w.heap.size≤lb3:=by rw [←hlb3]; exact hsz
  replace hsz:w.heap.size≤wa.heap.size:=Nat.le_trans hsz hbl.size
  replace hO:=hO.next hbl
  replace hi:=hi.next hbl
  replace hfi:=hfi.next hbl
  replace ha:=ha.next hbl
  replace hX:=hX.next hbl
  replace hY:=hY.next hbl
  replace hF:=hF.trans (below_fr hbl _)
  replace hn8:=hn8.next hbl
  go_simp
  try simp only [hwa,hlb3]
  clear hbl
  refine hKK _ _ ⟨fun _=>(⟨⟨hO.cell rfl,hO.cell rfl⟩,hX,hY⟩),?_⟩; clear hKK KK
  refine wpAnyD_one (i:=4) (by kernel_rfl) rfl (fun KK hKK=>?_)
  rw [if_pos (by rfl)]
  refine op_appF (.tmp 76) (.tmp 78) 27 rfl 45 (.agg #[.bool false,.slice none 0 0,.slice none 0 0,.int .i64 0,.bool false,.int .u64 0,.slice none 0 0,.slice none 0 0]) 8 128 Tryz.underlying27 Tryz.infoTw rfl (by decide) (O+1) iv _ rfl hi lb3 0 1 1 [twC x] rfl rfl (by decide) (twC_len [x]) (by simpa using hn3) (twC_one [x]) (by rw [List.length_map]; omega) (by rw [List.length_map]; omega) (Nat.le_trans hOw hsz) ?_
  intro iv' wb hi5 hg5 hb5 ho5
  have hF5:Fr (fun k=>iv.ownBlock=some k) wa wb:=grown_fr hg5 fun g hg=>hg
  replace hO:=hO.under hb5 (Nat.lt_succ_self _)
  have hr5:∀ g,iv'.ownBlock=some g→fv.ownBlock≠some g:=fun g hg hg'=>by
   rcases ho5 with h | h
   ·exact hne g (h▸hg) hg'
   ·have e1:wa.heap.size=g:=Option.some.inj (h.symm.trans hg)
    have:=(hfi.lt hg').2; omega
  replace hfi:=hfi.fr hF5 (fun g hg hg'=>hne g hg' hg)
  replace ha:=ha.fr hF5 (fun g hg hg'=>own_ne' hi ha (by decide) g hg' hg)
  have hiv:∀ q,w.heap.size≤q→¬ iv.ownBlock=some q:=fun q hq=>hiv0 q hq
  replace hX:=hX.fr hF5 hXi
  replace hY:=hY.fr hF5 hYi
  replace hF:=hF.trans (hF5.mono fun k _ h=>Or.inr (Or.inl h))
  replace hsz:w.heap.size≤wb.heap.size:=Nat.le_trans hsz hF5.size
  replace hn8:=hn8.fr hF5 (hiv _ hllb8)
  replace hi:=hi5
  clear hi5
  refine hKK _ _ ⟨fun _=>(⟨⟨hO.cell rfl,hO.cell rfl⟩,hX,hY⟩),?_⟩; clear hKK KK
  refine wpTh hpan (some 85) (i:=10) (v:=?_) rfl rfl (Or.inl ⟨by rfl,?_⟩) (⟨⟨hO.cell rfl,hO.cell rfl⟩,hX,hY⟩) ?_
  rotate_left
  ·intro wz _; first | (have a1:=hw.1.1; have a2:=hw.1.2; go_simp; done) | (go_simp; done) | (go_simp; with_reducible rfl)
  refine wpAnyD_one (i:=9) (by kernel_rfl) rfl (fun KK hKK=>?_)
  rw [if_pos (by rfl)]
  refine op_appF (.tmp 81) (.tmp 83) 27 rfl 45 (.agg #[.bool false,.slice none 0 0,.slice none 0 0,.int .i64 0,.bool false,.int .u64 0,.slice none 0 0,.slice none 0 0]) 8 128 Tryz.underlying27 Tryz.infoTw rfl (by decide) (O+1) fv _ rfl hfi lb8 0 1 1 [twC y] rfl rfl (by decide) (twC_len [y]) (by simpa using hn8) (twC_one [y]) (by rw [List.length_map]; omega) (by rw [List.length_map]; omega) (Nat.le_trans hOw hsz) ?_
  intro fv' wd hf9 hg9 hb9 ho9
  have hF9:Fr (fun k=>fv.ownBlock=some k) wb wd:=grown_fr hg9 fun g hg=>hg
  replace hO:=hO.under hb9 (Nat.lt_succ_self _)
  have hr9:∀ g,iv'.ownBlock=some g→fv'.ownBlock≠some g:=fun g hg hg'=>by
   rcases ho9 with h | h
   ·exact hr5 g hg (h▸hg')
   ·have e1:wb.heap.size=g:=Option.some.inj (h.symm.trans hg')
    have:=(hi.lt hg).2; omega
  replace hi:=hi.fr hF9 (fun g hg hg'=>hr5 g hg hg')
  replace ha:=ha.fr hF9 (fun g hg hg'=>own_ne' hfi ha (by decide) g hg' hg)
  replace hX:=hX.fr hF9 hXf
  replace hY:=hY.fr hF9 hYf
  replace hF:=hF.trans (hF9.mono fun k _ h=>Or.inr (Or.inr h))
  obtain ⟨ai,ki,hiv'⟩:=hi.form
  obtain ⟨af,kf,hfv'⟩:=hf9.form
  subst hiv' hfv'
  have y4:=hO.cell (i:=4) rfl
  have y4f:=hO.free 4
  have y5:=hO.cell (i:=5) rfl
  have y5f:=hO.free 5
  refine hKK _ _ ⟨fun _=>(⟨⟨hO.cell rfl,hO.cell rfl⟩,hX,hY⟩),?_⟩; clear hKK KK
  refine wpAnyD_one (i:=11) (by kernel_rfl) rfl (fun KK hKK=>?_)
  go_simp
  refine hKK _ _ ⟨fun hn=>absurd (by simp) hn,?_⟩; clear hKK KK
  refine wpAnyD_one (i:=12) (by kernel_rfl) rfl (fun KK hKK=>?_)
  go_simp
  refine hKK _ _ ⟨fun hn=>absurd (by simp) hn,?_⟩; clear hKK KK
  refine wpAnyD_one (i:=13) (by kernel_rfl) rfl (fun KK hKK=>?_)
  go_simp
  refine hKK _ _ ⟨fun hn=>absurd (by simp) hn,?_⟩; clear hKK KK
  refine wpAnyD_done (by kernel_rfl) ?_ _
  have hF10:Fr (fun k=>k=O) wd ((wd.setCell ⟨O,4,none⟩ (.slice ai (ini.length+1) ki)).setCell ⟨O,5,none⟩ (.slice af (fin.length+1) kf)):=(Fr.set (T:=fun k=>k=O) wd (p:=⟨O,4,none⟩) rfl _).trans (Fr.set (T:=fun k=>k=O) _ (p:=⟨O,5,none⟩) rfl _)
  simp only [List.length_append,List.length_map,List.length_cons,List.length_nil] at *
  refine hexit _ _ _ _ _ _ _ _ _ _ _ _ (.slice ai (ini.length+1) ki) (.slice af (fin.length+1) kf) _ ?_ ?_
  ·refine ⟨(hO.put 4 _).put 5 _,?_,?_,?_,?_⟩
   ·rw [List.map_append]; exact hi.fr hF10 (fun g hg e=>by have:=(hi.lt hg).1; omega)
   ·rw [List.map_append]; exact hf9.fr hF10 (fun g hg e=>by have:=(hf9.lt hg).1; omega)
   ·exact ha.fr hF10 (fun g hg e=>by have:=(ha.lt hg).1; omega)
   ·exact hr9
  ·exact hF.trans (hF10.mono fun k _ h=>Or.inl h)
end
end Go.Proofs.YtnapapijhhldpaaGreatDoor

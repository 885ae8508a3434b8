/-
  Texts joined by program: TwM, TwMb, TwN, TwNa, TwNb, TwNc. No condition of its own.
-/
import Derived.Test.YtnapapijhhldpaaGreatDoorJtAO
namespace Go.Proofs.YtnapapijhhldpaaGreatDoor
set_option linter.unusedSimpArgs false
set_option linter.unusedVariables false
set_option maxRecDepth 100000
set_option maxHeartbeats 4000000
section
open Go.RowKit
open Go.Maps (Keyed)
theorem Tryz.keysStr:Keyed Tryz.prog 9:=Go.Maps.string_keyed Tryz.underlying9
def Mk (w:World) (b:Nat) (subs:List Vx):Prop:=∃ D:DataW Value,w.ownsMap Tryz.prog 9 (plainElem Tryz.prog 3) b subs.length D /\
 (∀ (j:Nat) (S:Vx),subs[j]? = some S->Maps.has D (.string (keyT S))=true/\D.atKey (.string (keyT S)) (.lit (.int .i64 0))=.lit (.int .i64 (j:Int))) /\
 ∀ x,Maps.has D (.string x)=true->∃ S,S∈subs/\x=keyT S
theorem Mk.next {w w':World} {b:Nat} {subs:List Vx} (h:Mk w b subs) (hb:Below w.heap.size w w'):Mk w' b subs:=by
 obtain ⟨D,h1,h2⟩:=h
 have hg:w.grownBy w' none:=⟨hb.os,hb.tape,hb.output,hb.size,fun k hk _=>hb.block k hk⟩
 exact ⟨D,h1.kept hg (by simp),h2⟩
theorem Mk.made (w:World):Mk (w.alloc (.map #[] 0)) w.heap.size [] :=
 ⟨_,World.ownsMap_made w _ _ _,fun j S h=>by simp at h,fun x h=>by cases h⟩
theorem Mk.find {w:World} {b:Nat} {subs:List Vx} (h:Mk w b subs) {t:TypeId} (ht:Tryz.prog.underlying t=some (.map 9 3)) {S:Vx} {s:ByteArray} (hs:s.data.toList=keyT S) (hm:s.size<=maxLen) :
  ∃ (c:Int) (f:Bool),(Instr.lookup t (.map (some b)) (.string s) true).run Tryz.prog w=.ok (.tuple #[.int .i64 c,.bool f]) w/\(f=true->∃ j:Nat,c=(j:Int)/\subs[j]? = some S)/\(f=false->S∉subs):=by
 obtain ⟨D,h1,h2,h3⟩:=h
 have hk:keyOf Tryz.prog 9 (.string s)=some (.string (keyT S)):=by rw [<-hs]; exact Go.WideMaps.keyOf_string_mk Tryz.underlying9 hm
 obtain ⟨v,ps,hrun,hv⟩:=h1.look_ok Tryz.keysStr ht (z:=.int .i64 0) (zd:=.lit (.int .i64 0)) (zp:=[]) (by kernel_rfl) (plainElem_int Tryz.underlying3 (by decide)) hk
 obtain ⟨c,rfl,hc,_⟩:=plainElem_int_inv Tryz.underlying3 hv
 have hat:D.atKey (.string (keyT S)) (.lit (.int .i64 0))=.lit (.int .i64 c):=by injection hc
 refine ⟨c,_,hrun,fun hf=>?_,fun hf hS=>?_⟩
 ·obtain ⟨T,hT,hx⟩:=h3 _ hf
  obtain rfl:=keyT_inj _ _ hx
  obtain ⟨j,hj⟩:=List.getElem?_of_mem hT
  obtain ⟨_,k2⟩:=h2 j _ hj
  rw [k2] at hat
  refine ⟨j,?_,hj⟩
  simpa using hat.symm
 ·obtain ⟨j,hj⟩:=List.getElem?_of_mem hS
  rw [(h2 j S hj).1] at hf
  cases hf
theorem mk_put {w:World} {b:Nat} {subs:List Vx} {S:Vx} (hS:S∉subs) {D:DataW Value} (hD:Maps.IsMap D)
  (h2:∀ (j:Nat) (T:Vx),subs[j]? = some T->Maps.has D (.string (keyT T))=true/\D.atKey (.string (keyT T)) (.lit (.int .i64 0))=.lit (.int .i64 (j:Int)))
  (h3:∀ x,Maps.has D (.string x)=true->∃ T,T∈subs/\x=keyT T)
  (h1:w.ownsMap Tryz.prog 9 (plainElem Tryz.prog 3) b (subs.length+1) (D.put (.string (keyT S)) (.lit (.int .i64 (subs.length:Int))))):Mk w b (subs++[S]):=by
 refine ⟨_,by rw [List.length_append]; exact h1,fun j T hT=>?_,fun x hx=>?_⟩
 ·by_cases hj:j<subs.length
  ·rw [List.getElem?_append_left hj] at hT
   obtain ⟨k1,k2⟩:=h2 j T hT
   have hne:(Lit.string (keyT T))≠.string (keyT S):=fun e=>by
    injection e with e
    exact hS (keyT_inj _ _ e▸List.mem_of_getElem? hT)
   exact ⟨by rw [Maps.has_put_other hne]; exact k1,by rw [Maps.atKey_put_other hne]; exact k2⟩
  ·rw [List.getElem?_append_right (by omega)] at hT
   obtain ⟨i,hi⟩:∃ i,j-subs.length=i:=⟨_,rfl⟩
   rw [hi] at hT
   cases i with
   | zero =>
    simp at hT; subst hT
    obtain rfl:j=subs.length:=by omega
    exact ⟨Maps.has_put_same (k:=.string (keyT S)) hD (show WideAt.IsKeyLit (.string (keyT S)) from trivial) _,Maps.atKey_put_same (k:=.string (keyT S)) hD (show WideAt.IsKeyLit (.string (keyT S)) from trivial) _ _⟩
   | succ i=>simp at hT
 ·by_cases hxe:x=keyT S
  ·exact ⟨S,by simp,hxe⟩
  ·have hne:(Lit.string x)≠.string (keyT S):=fun e=>by injection e with e; exact hxe e
   rw [Maps.has_put_other hne] at hx
   obtain ⟨T,hT,rfl⟩:=h3 x hx
   exact ⟨T,List.mem_append_left _ hT,rfl⟩
theorem Mk.lay {w:World} {b:Nat} {subs:List Vx} (h:Mk w b subs) {t:TypeId} (ht:Tryz.prog.underlying t=some (.map 9 3)) {S:Vx} (hS:S∉subs) {s:ByteArray} (hs:s.data.toList=keyT S) (hm:s.size<=maxLen) (hn:subs.length<1000000) :
  ∃ w',(Instr.mapUpdate t (.map (some b)) (.string s) (.int .i64 (subs.length:Int))).run Tryz.prog w=.ok () w'/\Mk w' b (subs++[S])/\w.grownBy w' (some b):=by
 obtain ⟨D,h1,h2,h3⟩:=h
 have hk:keyOf Tryz.prog 9 (.string s)=some (.string (keyT S)):=by rw [<-hs]; exact Go.WideMaps.keyOf_string_mk Tryz.underlying9 hm
 have hwf:(Lit.int .i64 (subs.length:Int)).wf=true:=by
  have e1:IntKind.i64.min = -9223372036854775808:=by decide
  have e2:IntKind.i64.max=9223372036854775807:=by decide
  simp only [Lit.wf,e1,e2,Bool.and_eq_true,decide_eq_true_eq]; omega
 obtain ⟨w',hrun,k1,k2⟩:=h1.update Tryz.keysStr ht (by unfold maxLen; omega) hk (plainElem_int Tryz.underlying3 (a:=(subs.length:Int)) hwf)
 exact ⟨w',hrun,mk_put hS h1.isMap h2 h3 k1,k2⟩
end
section
open Go.RowKit Go.ChangeMaps
theorem Mk.entry {w:World} {b:Nat} {subs:List Vx} (h:Mk w b subs) {t:TypeId} (ht:Tryz.prog.underlying t=some (.map 9 3)) {S:Vx} (hS:S∉subs) {s:ByteArray} (hs:s.data.toList=keyT S) (hm:s.size<=maxLen) (hn:subs.length<1000000) :
  ∃ (v0:Value) (st:Nat) (w1 w2:World),(Instr.mapEntry t (.map (some b)) (.string s)).run Tryz.prog w=.ok (.tuple #[v0,goInt st]) w1 /\
   (Instr.entryStore t (.map (some b)) (goInt st) (.int .i64 (subs.length:Int))).run Tryz.prog w1=.ok () w2/\Mk w2 b (subs++[S])/\w.grownBy w2 (some b):=by
 have hk:keyOf Tryz.prog 9 (.string s)=some (.string (keyT S)):=by rw [<-hs]; exact Go.WideMaps.keyOf_string_mk Tryz.underlying9 hm
 obtain ⟨w',hrun,k1,k2⟩:=h.lay ht hS hs hm hn
 obtain ⟨D,⟨es,clock,hb,F,_,_⟩,_⟩:=h
 obtain ⟨v0,st,es1,clock1,e1,_,e2⟩:=Go.WideElems.entry_then_store (Go.WideMaps.string_law Tryz.underlying9) ht (z:=.int .i64 0) (fun u=>by kernel_rfl) hb F hk
 obtain ⟨es',clock',e3,e4⟩:=e2 (setBlock w b (.map es1 clock1)) (.int .i64 (subs.length:Int)) (by have:=(Array.getElem?_eq_some_iff.1 hb).1; simp [setBlock,this])
 rw [hrun] at e4
 have hw:w'=setBlock w b (.map es' clock'):=by simpa using e4
 refine ⟨v0,st,_,_,e1,e3,?_,?_⟩
 ·have:setBlock (setBlock w b (.map es1 clock1)) b (.map es' clock')=w':=by rw [hw]; simp [setBlock]
  rw [this]; exact k1
 ·have:setBlock (setBlock w b (.map es1 clock1)) b (.map es' clock')=w':=by rw [hw]; simp [setBlock]
  rw [this]; exact k2
end
section
open Go.RowKit
def findB (n:Nat):Code->Option Code
 | .block m c=>if m=n then some (.block m c) else findB n c
 | .seq a b=>match findB n a with
  | some c=>some c
  | none=>findB n b
 | .loop c=>findB n c
 | .scope c=>findB n c
 | .cond _ a b=>match findB n a with
  | some c=>some c
  | none=>findB n b
 | _=>none
def findR (n:Nat):Code->Option Code
 | .region m o d=>if m=n then some (.region m o d) else none
 | .block _ c=>findR n c
 | .seq a b=>match findR n a with
  | some c=>some c
  | none=>findR n b
 | .loop c=>findR n c
 | .scope c=>findR n c
 | .cond _ a b=>match findR n a with
  | some c=>some c
  | none=>findR n b
 | _=>none
noncomputable def dB (n:Nat):Code:=(Tryz.f7.body.bind (findB n)).getD .skip
noncomputable def dR (n:Nat):Code:=(Tryz.f7.body.bind (findR n)).getD .skip
theorem Fl.fr {T:Nat->Prop} {k n cap:Nat} {w w':World} {ao:OA} {css:List (List Value)} (h:Fl k w ao n cap css) (hf:Fr T w w') (hT:∀ b o,ao=some ⟨b,o,none⟩->¬ T b):Fl k w' ao n cap css :=
 ⟨h.len,h.le,h.most,h.nil,fun i cs hi=>by
  obtain ⟨b,o,e,hc⟩:=h.at_ i cs hi
  exact ⟨b,o,e,fun c v hv=>hf.cell (hc c v hv) (hT b o e)⟩⟩
theorem Fl.ne_sb {w:World} {b o n c base g:Nat} {L:List Ac} {S:Vx} (h:Fl 11 w (some ⟨b,o,none⟩) n c (L.map acC)) (hL:0<n) (hS:Sb w base g S):b≠g:=by
 intro e
 subst e
 obtain ⟨x,hx,b',o',e,hc⟩:=h.get hL
 injection e with e
 injection e with e1 e2
 subst e1 e2
 have h3:=hc 3 (.bool false) rfl
 rcases hS.2 with ⟨hv,_⟩ | ⟨g',cap,cur,hv,hg,hh,hn,hm,hcs,ht⟩
 ·cases hv
 ·injection hv with hv _ hcap
  injection hv with hv
  injection hv with hv
  subst hv hcap
  rw [cell_of_row w b (o+0*11+3) cur _ (0,0) hh] at h3
  generalize o+0*11+3=j at h3
  have hj:j<cur.size:=(Array.getElem?_eq_some_iff.1 h3).1
  rw [Nat.mul_one] at hcs ht
  have h4:(cur.toList.take S.length)[j]? = some (.bool false):=by
   rw [List.getElem?_take,if_pos (by omega)]; simpa using h3
  rw [ht,fnl_get (by omega)] at h4
  injection h4 with h4
  unfold fS oV at h4
  cases h4
structure Sta (W:World) (V gu syms C:Nat) (N:Au) (us:List Bool) (io:OA) (ci:Nat) (fo:OA) (cf:Nat) (ro:OA) (nr cr:Nat) (vo:OA) (cv:Nat):Prop where
 vm:Vm W syms N io ci fo cf ro nr cr vo cv
 row:ro=none\/∃ b,ro=some ⟨b,0,none⟩
 vw:Bl V (viC syms N.st (.slice io N.st ci) (.slice fo N.st cf) (.slice ro nr cr) (.slice vo (N.st+1) cv)) 63 W
 uf:Rw 4 W 0 (.slice (some ⟨gu,0,none⟩) N.st N.st) N.st (fBo fun q=>us.getD q false)
 ss:Ss N.arcs
 st:N.st<=64
 num:nr<=4096
 ini:N.ini.length=N.st
 fin:N.fin.length=N.st
 arc:∀ x∈N.arcs,x.1<N.st/\x.2.2.1<N.st
 lu:us.length=N.st
 cst:(∀ x∈N.arcs,cst x<=C)/\(∀ v∈N.ini,tc v<=C)/\∀ v∈N.fin,tc v<=C
 cC:C<=1048576
 sym:syms<=32
 pow:Pow W
theorem Sta.next {W W':World} {V gu syms C:Nat} {N:Au} {us:List Bool} {io fo ro vo:OA} {ci cf nr cr cv:Nat} (h:Sta W V gu syms C N us io ci fo cf ro nr cr vo cv) (hb:Below W.heap.size W W'):Sta W' V gu syms C N us io ci fo cf ro nr cr vo cv :=
 ⟨h.vm.next hb,h.row,h.vw.next hb,h.uf.next hb,h.ss,h.st,h.num,h.ini,h.fin,h.arc,h.lu,h.cst,h.cC,h.sym,h.pow.next hb⟩
theorem stepQ_app (us:List Bool) (r:Nat):∀ (L M:List Ac) (S:Vx),stepQ us r (L++M) S=stepQ us r M (stepQ us r L S)
 | [],M,S=>rfl
 | x::L,M,S=>by
  show stepQ us r (L++M) _=_
  rw [stepQ_app us r L M]; rfl
theorem stepQ_snoc {us:List Bool} {r:Nat} {L:List Ac} {k:Nat} {x:Ac} (h:L[k]? = some x) (S:Vx) :
  stepQ us r (L.take (k+1)) S=if us.getD x.2.2.1 false then noteV (stepQ us r (L.take k) S) x.2.2.1 (r+tc (wt x)) else stepQ us r (L.take k) S:=by
 rw [List.take_succ_eq_append_getElem (List.getElem?_eq_some_iff.1 h).1,(List.getElem?_eq_some_iff.1 h).2,stepQ_app]
 rfl
end
section
open Go.RowKit
theorem det_pos (W:World) (V gu syms C:Nat) (N:Au) (us:List Bool) (io:OA) (ci:Nat) (fo:OA) (cf:Nat) (ro:OA) (nr cr:Nat) (vo:OA) (cv:Nat) (hS:Hid (Sta W V gu syms C N us io ci fo cf ro nr cr vo cv)) (base g r:Nat) (S:Vx) (hSl:Hid (S.length=N.st)) (L:List Ac) (lo:OA) (ln lc:Nat) (w:World) (hb:Below W.heap.size W w) (hr:r<=1000000000000) (hL:Hid (∀ x∈L,x∈N.arcs)) (hl:Fl 11 w lo ln lc (L.map acC)) (hg:Sb w base g S) (hgb:W.heap.size<=g)
  {c0 c1 c2 c3 c4 c5 c7 c8 c9 Aa Ab Ad Ae Af Ag Ah Ak Al Am An Ao Ap Aq Ar As Av Aw Ax Ay Az Ba Bb Bc Be Bf Bh Bi Bj Bk Bm Bn Bo Bp Bq Br Bs Bt Bu Bv Bw Bx By Bz Ca Cb Cc Cd Ce Cf Cg Ch Ci Cj Ck Cl Cm Cn Co Cp Cq Cr Ct Cu Cv Cw Cx Cy Cz Da Db Dc Dd De Df Dg Dh Di Dj Dk Dl Dn Dp Dq Dr Dt Du Dv Dw Dx Dy Dz Ea Eb Ec Ed Ee Ef Eg Eh Ei Ej Ek El Em En Eo Ep Eq Er Es Et Eu Ev Ew Ex Ey Ez Fa Fb Fc Fd Fe Ff Fg Fh Fi Fj Fk Fm Fn Fo Fp Fq Fs Ft Fu Fv Fw Fx Fy Fz Ga Gb Gc Gd Ge Gf Gg Gh Gi Gj Gk Gl Gm Gn Go Gp Gq Gr Gs Gt Gu Gv Gw Gx Gy Gz Ha Hb Hc Hd He Hf Hg Hh Hi Hj Hk Hl Hm Hn Ho Hp Hq Hr Hs Ht Hu Hv Hw Hx Hy Hz Ia Ib Ic Id Ie Ig Ih Ii Ij Ik Il Im Io Ip Iq Ir It Iu Iv Iw Ix Iy Iz Ja Jb Jc Jd Je Jf Jg Jh Ji Jj Jk Jl Jm Jn Jo Jp Jq Jr Js Jt:Value} {Q0:EP}
  (hexit:∀ (Ju Jv Jw Jx Jy Jz Ka Kb Kc Kd Ke Kf Kg Kh Ki Kj Kk Kl Km Kn:Value) (w':World),Sb w' base g (stepQ us r L S)->Fr (fun k=>k=g) w w'->Q0 .normal ⟨#[c0,c1,c2,c3,c4,c5,.slice (some ⟨gu,0,none⟩) N.st N.st,c7,c8,c9,Aa,Ab,Ad,Ae,Af,Ag,Ah,Ak,.slice (some ⟨g,0,none⟩) N.st N.st,Al,.int .i64 (r:Int),Am,Ju,Ao,Ap,Aq,Ar,As,Av,Aw,Ax,Ay,Az,Ba,Bb,Bc,Be,Bf,Bh,Bi,Bj,Bk,Bm,Bn,Bo,Bp,Bq,Br,Bs,Bt,Bu,Bv,Bw,Bx,By,Bz,Ca,Cb,Cc,Cd,Ce,Cf,Cg,Ch,Ci,Cj,Ck,Cl,Cm,Cn,Co,Cp,Cq,Cr,Ct,Cu,Cv,Cw,Cx,Cy,Cz,Da,Db,Dc,Dd,De,Df,Dg,Dh,Di,Dj,Dk,Dl,Dn,Dp,Dq,Dr,Dt,Du,Dv,Dw,Dx,Dy,Dz,Ea,Eb,Ec,Ed,Ee,Ef,Eg,Eh,Ei,Ej,Ek,El,Em,En,Eo,Ep,Eq,Er,Es,Et,Eu,Ev,Ew,Ex,Ey,Ez,Fa,Fb,Fc,Fd,Fe,Ff,Fg,Fh,Fi,Fj,Fk,Fm,Fn,Fo,Fp,Fq,Fs,Ft,Fu,Fv,Fw,Fx,Fy,Fz,Ga,Gb,Gc,Gd,Ge,Gf,Gg,Gh,Gi,Gj,Gk,Gl,Gm,Gn,Go,Gp,Gq,Gr,Gs,Gt,.slice lo ln lc,.int .i64 (ln:Int),Jv,Jw,Jx,Jy,Jz,Ka,Kb,Kc,Kd,Ke,Kf,Kg,Kh,Ki,Kj,Kk,Kl,Km,Kn,Hm,Hn,Ho,Hp,Hq,Hr,Hs,Ht,Hu,Hv,Hw,Hx,Hy,Hz,Ia,Ib,Ic,Id,Ie,Ig,Ih,Ii,Ij,Ik,Il,Im,Io,Ip,Iq,Ir,It,Iu,Iv,Iw,Ix,Iy,Iz,Ja,Jb,Jc,Jd,Je,Jf,Jg,Jh,Ji,Jj,Jk,Jl,Jm,Jn,Jo,Jp,Jq,Jr,Js,Jt],[]⟩ w') :
  Code.wp Tryz.prog (dB 10) Q0 ⟨#[c0,c1,c2,c3,c4,c5,.slice (some ⟨gu,0,none⟩) N.st N.st,c7,c8,c9,Aa,Ab,Ad,Ae,Af,Ag,Ah,Ak,.slice (some ⟨g,0,none⟩) N.st N.st,Al,.int .i64 (r:Int),Am,An,Ao,Ap,Aq,Ar,As,Av,Aw,Ax,Ay,Az,Ba,Bb,Bc,Be,Bf,Bh,Bi,Bj,Bk,Bm,Bn,Bo,Bp,Bq,Br,Bs,Bt,Bu,Bv,Bw,Bx,By,Bz,Ca,Cb,Cc,Cd,Ce,Cf,Cg,Ch,Ci,Cj,Ck,Cl,Cm,Cn,Co,Cp,Cq,Cr,Ct,Cu,Cv,Cw,Cx,Cy,Cz,Da,Db,Dc,Dd,De,Df,Dg,Dh,Di,Dj,Dk,Dl,Dn,Dp,Dq,Dr,Dt,Du,Dv,Dw,Dx,Dy,Dz,Ea,Eb,Ec,Ed,Ee,Ef,Eg,Eh,Ei,Ej,Ek,El,Em,En,Eo,Ep,Eq,Er,Es,Et,Eu,Ev,Ew,Ex,Ey,Ez,Fa,Fb,Fc,Fd,Fe,Ff,Fg,Fh,Fi,Fj,Fk,Fm,Fn,Fo,Fp,Fq,Fs,Ft,Fu,Fv,Fw,Fx,Fy,Fz,Ga,Gb,Gc,Gd,Ge,Gf,Gg,Gh,Gi,Gj,Gk,Gl,Gm,Gn,Go,Gp,Gq,Gr,Gs,Gt,.slice lo ln lc,.int .i64 (ln:Int),.int .i64 0,Gu,Gv,Gw,Gx,Gy,Gz,Ha,Hb,Hc,Hd,He,Hf,Hg,Hh,Hi,Hj,Hk,Hl,Hm,Hn,Ho,Hp,Hq,Hr,Hs,Ht,Hu,Hv,Hw,Hx,Hy,Hz,Ia,Ib,Ic,Id,Ie,Ig,Ih,Ii,Ij,Ik,Il,Im,Io,Ip,Iq,Ir,It,Iu,Iv,Iw,Ix,Iy,Iz,Ja,Jb,Jc,Jd,Je,Jf,Jg,Jh,Ji,Jj,Jk,Jl,Jm,Jn,Jo,Jp,Jq,Jr,Js,Jt],[]⟩ w:=by
 conv=>arg 2; whnf
 have hlen:=hid hl.lenMap
 have hlb:=hl.bound
 have hl0:=hid hl
 have hg0:=hid hg
 have hb0:=hid hb
 have hne:Hid (0<ln->∀ b o,lo=some ⟨b,o,none⟩->¬ b=g):=hid fun h0 b o e=>by
  subst e; exact hl.ne_sb h0 hg
 have hr0:(r:Int)<=1000000000000:=by omega
 have hr1:(0:Int)<=(r:Int):=by omega
 have hexit:=hid hexit
 clear hg hl hb
 go_wp2_with fail
 go_loopw [176] (fun iv wr=>∃ j:Nat,j<=ln/\iv=.int .i64 (j:Int)/\Sb wr base g (stepQ us r (L.take j) S)/\Fr (fun k=>k=g) w wr) (fun iv _=>ln-(intOf iv).toNat)
 case atStart=>exact ⟨0,by omega,rfl,hg0.out,Fr.refl _ _⟩
 case round =>
  obtain ⟨j,hj,rfl,hrow,hfr⟩:=hrel
  by_cases hlt:j<ln
  ·obtain ⟨x,hxk,b,off,rfl,hcs⟩:=(hl0.out.fr hfr (hne.out (by omega))).get hlt
   have hxN:=hL.out x (List.mem_of_getElem? hxk)
   have hst:=hS.out.arc x hxN
   have hcx:tc (wt x)<=C:=hS.out.cst.1 x hxN
   have hC:=hS.out.cC
   have hbr:Below W.heap.size W wr:=hb0.out.trans (hfr.below (fun k e=>by subst e; exact hgb) hb0.out.size)
   have hsn:=hid (stepQ_snoc (us:=us) (r:=r) hxk S)
   obtain ⟨Sj,hSj⟩:∃ Sj,stepQ us r (L.take j) S=Sj:=⟨_,rfl⟩
   have hSjl:Hid (Sj.length=N.st):=hid (by rw [<-hSj,stepQ_len]; exact hSl.out)
   rw [hSj] at hrow hsn
   clear hSj
   have i1:(j:Int)<(ln:Int):=by omega
   have i0:(0:Int)<=(j:Int):=by omega
   have i2:(x.2.2.1:Int)<(N.st:Int):=by omega
   have i3:(0:Int)<=(x.2.2.1:Int):=by omega
   have i4:(tc (wt x):Int)<=1048576:=by omega
   have i5:(0:Int)<=(tc (wt x):Int):=by omega
   have hbX:Below wr.heap.size wr (wr.alloc (.cells (acC x).toArray 54)):=below_alloc _
   have hX:=Bl.fresh wr (acC x) 54
   have z2:=hX.cell (i:=2) rfl
   have z6:=hX.cell (i:=6) rfl
   have hrow2:=hid (hrow.next hbX)
   have hfr2:=hid (hfr.trans (below_fr hbX _))
   have c1:=((hS.out.next hbr).uf.next hbX).cell hst.2
   obtain ⟨e1,he1⟩:∃ e1,us.getD x.2.2.1 false=e1:=⟨_,rfl⟩
   simp only [fBo] at c1
   rw [he1] at c1
   replace hsn:=hsn.out
   rw [he1] at hsn
   replace hsn:=hid hsn
   clear he1 hX hxk hrow hfr hxN hcx hC
   go_upto_region 40 with ((first | ((with_reducible refine wp_loadArc rfl _ rfl b (off+j*11) ?_ x hcs ?_); exact rfl) | ((with_reducible refine wp_storeVArc rfl _ _ rfl _ _ ?_ x ?_ ?_ ?_); exact rfl; exact rfl; exact rfl)))
   generalize hW2:(wr.alloc (.cells (acC x).toArray 54))=W2 at *
   clear hW2
   cases e1 with
   | false =>
    go_wp2_with fail
    go_roundw
    case rel=>exact ⟨j+1,by omega,by go_num,by rw [hsn.out,if_neg (by simp)]; exact hrow2.out,hfr2.out⟩
    case measure=>simp [intOf]; omega
   | true =>
    have hnote:=note_any base g x.2.2.1 (r+tc (wt x)) Sj (by rw [hSjl.out]; exact hst.2) W2 hrow2.out
    rw [hSjl.out,Int.natCast_add] at hnote
    have hnote:=hid hnote
    go_wp2_with fail
    refine hnote.out.mono ?_; rintro e w3 ⟨rfl,hrow3,hfr3⟩
    have hrow3:=hid hrow3
    have hfr3:=hid (hfr2.out.trans hfr3)
    go_wp2_with fail
    go_roundw
    case rel=>exact ⟨j+1,by omega,by go_num,by rw [hsn.out]; first | (rw [if_pos rfl]; exact hrow3.out) | (rw [if_pos trivial]; exact hrow3.out),hfr3.out⟩
    case measure=>simp [intOf]; omega
  ·obtain rfl:j=ln:=by omega
   have i1:¬ (j:Int)<(j:Int):=by omega
   have htk:L.take j=L:=List.take_of_length_le (by rw [hlen.out]; exact Nat.le_refl _)
   rw [htk] at hrow
   clear htk
   have hrow:=hid hrow
   go_wp2_with fail
   exact hexit.out _ _ _ _ _ _ _ _ _ _ _ _ _ _ _ _ _ _ _ _ _ hrow.out hfr
end
section
open Go.RowKit
theorem nextTo_some {N:List Ac} {us:List Bool} {R:Vx} {l q r:Nat} (h:R[q]? = some (some r)):nextTo N us R l (q+1)=stepQ us r (stp N q l) (nextTo N us R l q):=by
 show (match R[q]? with | some (some r)=>_ | _=>_)=_
 rw [h]
theorem nextTo_none {N:List Ac} {us:List Bool} {R:Vx} {l q:Nat} (h:R[q]? = some none):nextTo N us R l (q+1)=nextTo N us R l q:=by
 show (match R[q]? with | some (some r)=>_ | _=>_)=_
 rw [h]
theorem det_sts (W:World) (V gu syms C:Nat) (N:Au) (us:List Bool) (io:OA) (ci:Nat) (fo:OA) (cf:Nat) (ro:OA) (nr cr:Nat) (vo:OA) (cv:Nat) (hS:Hid (Sta W V gu syms C N us io ci fo cf ro nr cr vo cv)) (base g bk gk l:Nat) (R:Vx) (hRl:Hid (R.length=N.st)) (w:World) (hb:Below W.heap.size W w) (hl:l<=32) (hR:Hid (Bd 1000000000000 R)) (hk:Sb w bk gk R) (hg:Sb w base g (List.replicate R.length none)) (hgb:W.heap.size<=g) (hne:gk≠g)
  {c0 c1 c2 c3 c5 c7 c8 c9 Aa Ab Ad Ae Af Ag Ah Ak Al Am An Ao Ap Aq Ar As Av Aw Ax Ay Az Ba Bb Bc Be Bf Bh Bi Bj Bk Bm Bn Bo Bp Bq Br Bs Bt Bu Bv Bw Bx By Bz Ca Cb Cc Cd Ce Cf Cg Ch Ci Cj Ck Cl Cm Cn Co Cp Cq Cr Ct Cu Cv Cw Cx Cy Cz Da Db Dc Dd De Df Dg Dh Di Dj Dk Dl Dn Dp Dq Dr Dt Du Dv Dw Dx Dy Dz Ea Eb Ec Ed Ee Ef Eg Eh Ei Ej Ek El Em En Eo Ep Eq Er Es Et Eu Ev Ew Ex Ey Ez Fa Fb Fc Fd Fe Ff Fg Fh Fi Fj Fk Fm Fn Fo Fp Fq Fs Ft Fu Fv Fw Fx Fy Fz Ga Gb Gc Gd Ge Gf Gg Gh Gi Gj Gk Gl Gm Gn Go Gp Gq Gr Gs Gt Gu Gv Gw Gx Gy Gz Ha Hb Hc Hd He Hf Hg Hh Hi Hj Hk Hl Hm Hn Ho Hp Hq Hr Hs Ht Hu Hv Hw Hx Hy Hz Ia Ib Ic Id Ie Ig Ih Ii Ij Ik Il Im Io Ip Iq Ir It Iu Iv Iw Ix Iy Iz Ja Jb Jc Jd Je Jf Jg Jh Ji Jj Jk Jl Jm Jn Jo Jp Jq Jr Js Jt:Value} {Q0:EP}
  (hexit:∀ (Ju Jv Jw Jx Jy Jz Ka Kb Kc Kd Ke Kf Kg Kh Ki Kj Kk Kl Km Kn Ko Kp Kq Kr Ks Kt Ku Kv Kw Kx Kz La Lb Lc Ld:Value) (w':World),Sb w' base g (nextV N.arcs us R l)->Fr (fun k=>k=g) w w'->Q0 .normal ⟨#[c0,c1,c2,c3,.pointer (some ⟨V,0,none⟩),c5,.slice (some ⟨gu,0,none⟩) N.st N.st,c7,c8,c9,Aa,Ab,Ad,Ae,Af,Ag,Ah,.int .i64 (l:Int),.slice (some ⟨g,0,none⟩) N.st N.st,Ju,Jv,Am,Jw,Ao,Ap,Aq,Ar,As,Av,Aw,Ax,Ay,Az,Ba,Bb,Bc,Be,Bf,Bh,Bi,Bj,Bk,Bm,Bn,Bo,Bp,Bq,Br,Bs,Bt,Bu,Bv,Bw,Bx,By,Bz,Ca,Cb,Cc,Cd,Ce,Cf,Cg,Ch,Ci,Cj,Ck,Cl,Cm,Cn,Co,Cp,Cq,Cr,Ct,Cu,Cv,Cw,Cx,Cy,Cz,Da,Db,Dc,Dd,De,Df,Dg,Dh,Di,Dj,Dk,Dl,Dn,Dp,Dq,Dr,Dt,Du,Dv,Dw,Dx,Dy,Dz,Ea,Eb,Ec,Ed,Ee,Ef,Eg,Eh,Ei,Ej,Ek,El,Em,En,Eo,Ep,Eq,Er,Es,Et,Eu,Ev,Ew,Ex,Ey,Ez,Fa,Fb,Fc,Fd,Fe,Ff,Fg,Fh,Fi,Fj,Fk,Fm,Fn,Fo,Fp,Fq,Fs,Ft,Fu,Fv,Fw,Fx,Fy,Fz,Ga,Gb,Gc,Gd,Ge,Gf,Gg,Gh,.slice (some ⟨gk,0,none⟩) N.st N.st,.int .i64 (N.st:Int),Jx,Jy,Jz,Ka,Kb,Kc,Kd,Ke,Kf,Kg,Kh,Ki,Kj,Kk,Kl,Km,Kn,Ko,Kp,Kq,Kr,Ks,Kt,Ku,Kv,Kw,Kx,Kz,La,Lb,Lc,Ld,Hn,Ho,Hp,Hq,Hr,Hs,Ht,Hu,Hv,Hw,Hx,Hy,Hz,Ia,Ib,Ic,Id,Ie,Ig,Ih,Ii,Ij,Ik,Il,Im,Io,Ip,Iq,Ir,It,Iu,Iv,Iw,Ix,Iy,Iz,Ja,Jb,Jc,Jd,Je,Jf,Jg,Jh,Ji,Jj,Jk,Jl,Jm,Jn,Jo,Jp,Jq,Jr,Js,Jt],[]⟩ w') :
  Code.wp Tryz.prog (dB 8) Q0 ⟨#[c0,c1,c2,c3,.pointer (some ⟨V,0,none⟩),c5,.slice (some ⟨gu,0,none⟩) N.st N.st,c7,c8,c9,Aa,Ab,Ad,Ae,Af,Ag,Ah,.int .i64 (l:Int),.slice (some ⟨g,0,none⟩) N.st N.st,Ak,Al,Am,An,Ao,Ap,Aq,Ar,As,Av,Aw,Ax,Ay,Az,Ba,Bb,Bc,Be,Bf,Bh,Bi,Bj,Bk,Bm,Bn,Bo,Bp,Bq,Br,Bs,Bt,Bu,Bv,Bw,Bx,By,Bz,Ca,Cb,Cc,Cd,Ce,Cf,Cg,Ch,Ci,Cj,Ck,Cl,Cm,Cn,Co,Cp,Cq,Cr,Ct,Cu,Cv,Cw,Cx,Cy,Cz,Da,Db,Dc,Dd,De,Df,Dg,Dh,Di,Dj,Dk,Dl,Dn,Dp,Dq,Dr,Dt,Du,Dv,Dw,Dx,Dy,Dz,Ea,Eb,Ec,Ed,Ee,Ef,Eg,Eh,Ei,Ej,Ek,El,Em,En,Eo,Ep,Eq,Er,Es,Et,Eu,Ev,Ew,Ex,Ey,Ez,Fa,Fb,Fc,Fd,Fe,Ff,Fg,Fh,Fi,Fj,Fk,Fm,Fn,Fo,Fp,Fq,Fs,Ft,Fu,Fv,Fw,Fx,Fy,Fz,Ga,Gb,Gc,Gd,Ge,Gf,Gg,Gh,.slice (some ⟨gk,0,none⟩) N.st N.st,.int .i64 (N.st:Int),.int .i64 0,Gi,Gj,Gk,Gl,Gm,Gn,Go,Gp,Gq,Gr,Gs,Gt,Gu,Gv,Gw,Gx,Gy,Gz,Ha,Hb,Hc,Hd,He,Hf,Hg,Hh,Hi,Hj,Hk,Hl,Hm,Hn,Ho,Hp,Hq,Hr,Hs,Ht,Hu,Hv,Hw,Hx,Hy,Hz,Ia,Ib,Ic,Id,Ie,Ig,Ih,Ii,Ij,Ik,Il,Im,Io,Ip,Iq,Ir,It,Iu,Iv,Iw,Ix,Iy,Iz,Ja,Jb,Jc,Jd,Je,Jf,Jg,Jh,Ji,Jj,Jk,Jl,Jm,Jn,Jo,Jp,Jq,Jr,Js,Jt],[]⟩ w:=by
 conv=>arg 2; whnf
 have hk0:=hid hk
 have hg0:=hid hg
 have hb0:=hid hb
 have hexit:=hid hexit
 have hne:=hid hne
 have hst:=hS.out.st
 clear hg hk hb
 go_wp2_with fail
 go_loopw [164] (fun iv wr=>∃ q:Nat,q<=N.st/\iv=.int .i64 (q:Int)/\Sb wr base g (nextTo N.arcs us R l q)/\Fr (fun k=>k=g) w wr) (fun iv _=>N.st-(intOf iv).toNat)
 case atStart=>exact ⟨0,by omega,rfl,hg0.out,Fr.refl _ _⟩
 case round =>
  obtain ⟨q,hq,rfl,hrow,hfr⟩:=hrel
  by_cases hlt:q<N.st
  ·have i1:(q:Int)<(N.st:Int):=by omega
   have i0:(0:Int)<=(q:Int):=by omega
   obtain ⟨o,ho⟩:∃ o,R[q]? = some o:=⟨_,List.getElem?_eq_getElem (by rw [hRl.out]; exact hlt)⟩
   have hbr:Below W.heap.size W wr:=hb0.out.trans (hfr.below (fun k e=>by subst e; exact hgb) hb0.out.size)
   have hkr:=hk0.out.fr hfr hne.out
   unfold Sb at hkr
   rw [hRl.out] at hkr
   have c1:=hkr.cell hlt
   have e1:fS R q=oV o:=by unfold fS; rw [List.getD_eq_getElem?_getD,ho]; rfl
   rw [e1] at c1
   clear e1 hkr
   unfold oV at c1
   have hrow:=hid hrow
   cases o with
   | none =>
    rw [oI_none] at c1
    have hnx:=hid (nextTo_none (N:=N.arcs) (us:=us) (l:=l) ho)
    clear ho
    go_wp2_with fail
    go_roundw
    case rel=>exact ⟨q+1,by omega,by go_num,by rw [hnx.out]; exact hrow.out,hfr⟩
    case measure=>simp [intOf]; omega
   | some r =>
    rw [oI_some] at c1
    have k2:((r:Int) == -1)=false:=by rw [beq_eq_false_iff_ne]; omega
    have k3:¬ (r:Int) = -1:=by omega
    have hr:=hR.out r (List.mem_of_getElem? ho)
    have hnx:=hid (nextTo_some (N:=N.arcs) (us:=us) (l:=l) ho)
    have hSr:=hS.out.next hbr
    have hXc:=hSr.vw.cs
    have hstep:=hid (step_any syms N hSr.ss (.slice io N.st ci) (.slice fo N.st cf) ro hSr.row nr cr vo cv q l hlt hSr.st hSr.num wr hSr.vm.mo.arcs hSr.vm.fst)
    have hnl:Hid ((nextTo N.arcs us R l q).length=N.st):=hid (by rw [nextTo_len]; exact hRl.out)
    have hfr:=hid hfr
    have hbr:=hid hbr
    clear ho hSr
    go_upto_block 10 with (first | ((with_reducible refine wp_loadView rfl _ rfl V 0 ?_ (viC syms N.st (.slice io N.st ci) (.slice fo N.st cf) (.slice ro nr cr) (.slice vo (N.st+1) cv)) rfl hXc ?_); exact rfl) | ((with_reducible refine hstep.out.mono ?_); rintro e w3 ⟨⟨lo,ln,lc,rfl,hl3⟩,hb3⟩; have hl3:=hid hl3; have hb3:=hid hb3))
    refine det_pos W V gu syms C N us io ci fo cf ro nr cr vo cv hS base g r (nextTo N.arcs us R l q) hnl (stp N.arcs q l) lo ln lc w3 (hbr.out.trans (hb3.out.mono hbr.out.size)) hr (hid fun x hx=>(List.mem_filter.1 hx).1) hl3.out (hrow.out.next hb3.out) hgb ?_
    intro Le Lf Lg Lh Li Lj Lk Ll Lm Ln Lo Lp Lq Lr Lt Lu Lv Lx Ly Lz w4 hrow4 hfr4
    have hrow4:=hid hrow4
    have hfr4:=hid (hfr.out.trans ((below_fr hb3.out _).trans hfr4))
    go_wp2_with fail
    go_roundw
    case rel=>exact ⟨q+1,by omega,by go_num,by rw [hnx.out]; exact hrow4.out,hfr4.out⟩
    case measure=>simp [intOf]; omega
  ·obtain rfl:q=N.st:=by omega
   have i1:¬ (N.st:Int)<(N.st:Int):=by omega
   have hrow:=hid hrow
   go_wp2_with fail
   exact hexit.out _ _ _ _ _ _ _ _ _ _ _ _ _ _ _ _ _ _ _ _ _ _ _ _ _ _ _ _ _ _ _ _ _ _ _ _ (by unfold nextV; rw [hRl.out]; exact hrow.out) hfr
end
section
open Go.RowKit
theorem det_end (W:World) (V gu syms C:Nat) (N:Au) (us:List Bool) (io:OA) (ci:Nat) (fo:OA) (cf:Nat) (ro:OA) (nr cr:Nat) (vo:OA) (cv:Nat) (hS:Hid (Sta W V gu syms C N us io ci fo cf ro nr cr vo cv)) (bk gk:Nat) (R:Vx) (hRl:Hid (R.length=N.st)) (w:World) (hb:Below W.heap.size W w) (hR:Hid (Bd 1000000000000 R)) (hk:Sb w bk gk R)
  {c0 c1 c2 c3 c5 c6 c7 c8 c9 Aa Ab Ad Ae Af Ag Ah Ak Al Am An Ao Ap Aq Ar As Av Aw Ax Ay Az Ba Bb Bc Be Bf Bh Bi Bj Bk Bm Bn Bo Bp Bq Br Bs Bt Bu Bv Bw Bx By Bz Ca Cb Cc Cd Ce Cf Cg Ch Ci Cj Ck Cl Cm Cn Co Cp Cq Cr Ct Cu Cv Cw Cx Cy Cz Da Db Dc Dd De Df Dg Dh Di Dj Dk Dl Dn Dp Dq Dr Dt Du Dv Dw Dx Dy Dz Ea Eb Ec Ed Ee Ef Eg Eh Ei Ej Ek El Em En Eo Ep Eq Er Es Et Eu Ev Ew Ex Ey Ez Fa Fb Fc Fd Fe Ff Fg Fh Fi Fj Fk Fm Fn Fo Fp Fq Fs Ft Fu Fv Fw Fx Fy Fz Ga Gb Gc Gd Ge Gf Gg Gh Gi Gj Gk Gl Gm Gn Go Gp Gq Gr Gs Gt Gu Gv Gw Gx Gy Gz Ha Hb Hc Hd He Hf Hg Hh Hi Hj Hk Hl Hm Hn Ho Hp Hq Hr Hs Ht Hu Hv Hw Hx Hy Hz Ia Ib Ic Id Ie Ig Ih Ii Ij Ik Il Im Io Ip Iq Ir It Iu Iv Iw Ix Iy Iz Ja Jb Jc Jd Je Jf Jg Jh Ji Jj Jk Jl Jm Jn Jo Jp Jq Jr Js Jt Ju:Value} {Q0:EP}
  (hexit:∀ (Jv Jw Jx Jy Jz Ka Kb Kc Kd Ke Kf Kg Kh Ki Kj Kk Kl Km Kn Ko Kp Kq Kr Ks Kt Ku Kv Kw Kx Kz La Lb Lc Ld Le Lf Lg Lh Li Lj Lk:Value) (w':World),Below w.heap.size w w'->Q0 .normal ⟨#[c0,c1,c2,c3,.pointer (some ⟨V,0,none⟩),c5,c6,c7,c8,c9,Aa,Ab,Ad,Ae,oV (endV N.fin R),Jv,Jw,Ah,Ak,Al,Am,An,Ao,Ap,Aq,Ar,As,Av,Aw,Ax,Ay,Az,Ba,Bb,Bc,Be,Bf,Bh,Bi,Bj,Bk,Bm,Bn,Bo,Bp,Bq,Br,Bs,Bt,Bu,Bv,Bw,Bx,By,Bz,Ca,Cb,Cc,Cd,Ce,Cf,Cg,Ch,Ci,Cj,Ck,Cl,Cm,Cn,Co,Cp,Cq,Cr,Ct,Cu,Cv,Cw,Cx,Cy,Cz,Da,Db,Dc,Dd,De,Df,Dg,Dh,Di,Dj,Dk,Dl,Dn,.slice (some ⟨gk,0,none⟩) N.st N.st,.int .i64 (N.st:Int),Jx,Jy,Jz,Ka,Kb,Kc,Kd,Ke,Kf,Kg,Kh,Ki,Kj,Kk,Kl,Km,Kn,Ko,Kp,Kq,Kr,Ks,Kt,Ku,Kv,Kw,Kx,Kz,La,Lb,Lc,Ld,Le,Lf,Lg,Lh,Li,Lj,Lk,Fc,Fd,Fe,Ff,Fg,Fh,Fi,Fj,Fk,Fm,Fn,Fo,Fp,Fq,Fs,Ft,Fu,Fv,Fw,Fx,Fy,Fz,Ga,Gb,Gc,Gd,Ge,Gf,Gg,Gh,Gi,Gj,Gk,Gl,Gm,Gn,Go,Gp,Gq,Gr,Gs,Gt,Gu,Gv,Gw,Gx,Gy,Gz,Ha,Hb,Hc,Hd,He,Hf,Hg,Hh,Hi,Hj,Hk,Hl,Hm,Hn,Ho,Hp,Hq,Hr,Hs,Ht,Hu,Hv,Hw,Hx,Hy,Hz,Ia,Ib,Ic,Id,Ie,Ig,Ih,Ii,Ij,Ik,Il,Im,Io,Ip,Iq,Ir,It,Iu,Iv,Iw,Ix,Iy,Iz,Ja,Jb,Jc,Jd,Je,Jf,Jg,Jh,Ji,Jj,Jk,Jl,Jm,Jn,Jo,Jp,Jq,Jr,Js,Jt,Ju],[]⟩ w') :
  Code.wp Tryz.prog (dB 4) Q0 ⟨#[c0,c1,c2,c3,.pointer (some ⟨V,0,none⟩),c5,c6,c7,c8,c9,Aa,Ab,Ad,Ae,.int .i64 (-1),Af,Ag,Ah,Ak,Al,Am,An,Ao,Ap,Aq,Ar,As,Av,Aw,Ax,Ay,Az,Ba,Bb,Bc,Be,Bf,Bh,Bi,Bj,Bk,Bm,Bn,Bo,Bp,Bq,Br,Bs,Bt,Bu,Bv,Bw,Bx,By,Bz,Ca,Cb,Cc,Cd,Ce,Cf,Cg,Ch,Ci,Cj,Ck,Cl,Cm,Cn,Co,Cp,Cq,Cr,Ct,Cu,Cv,Cw,Cx,Cy,Cz,Da,Db,Dc,Dd,De,Df,Dg,Dh,Di,Dj,Dk,Dl,Dn,.slice (some ⟨gk,0,none⟩) N.st N.st,.int .i64 (N.st:Int),.int .i64 0,Dp,Dq,Dr,Dt,Du,Dv,Dw,Dx,Dy,Dz,Ea,Eb,Ec,Ed,Ee,Ef,Eg,Eh,Ei,Ej,Ek,El,Em,En,Eo,Ep,Eq,Er,Es,Et,Eu,Ev,Ew,Ex,Ey,Ez,Fa,Fb,Fc,Fd,Fe,Ff,Fg,Fh,Fi,Fj,Fk,Fm,Fn,Fo,Fp,Fq,Fs,Ft,Fu,Fv,Fw,Fx,Fy,Fz,Ga,Gb,Gc,Gd,Ge,Gf,Gg,Gh,Gi,Gj,Gk,Gl,Gm,Gn,Go,Gp,Gq,Gr,Gs,Gt,Gu,Gv,Gw,Gx,Gy,Gz,Ha,Hb,Hc,Hd,He,Hf,Hg,Hh,Hi,Hj,Hk,Hl,Hm,Hn,Ho,Hp,Hq,Hr,Hs,Ht,Hu,Hv,Hw,Hx,Hy,Hz,Ia,Ib,Ic,Id,Ie,Ig,Ih,Ii,Ij,Ik,Il,Im,Io,Ip,Iq,Ir,It,Iu,Iv,Iw,Ix,Iy,Iz,Ja,Jb,Jc,Jd,Je,Jf,Jg,Jh,Ji,Jj,Jk,Jl,Jm,Jn,Jo,Jp,Jq,Jr,Js,Jt,Ju],[]⟩ w:=by
 conv=>arg 2; whnf
 have hk0:=hid hk
 have hb0:=hid hb
 have hexit:=hid hexit
 have hst:=hS.out.st
 clear hk hb
 obtain ⟨EZ,hEZ⟩:∃ EZ,List.zipWith ends1 R N.fin=EZ:=⟨_,rfl⟩
 have hEl:Hid (EZ.length=N.st):=hid (by rw [<-hEZ,List.length_zipWith,hRl.out,hS.out.fin,Nat.min_self])
 have hend:Hid (endV N.fin R=leastV EZ):=hid (by unfold endV; rw [hEZ])
 have hEq:Hid (∀ (q:Nat) (o:Option Nat) (v:Tw),R[q]? = some o->N.fin[q]? = some v->EZ[q]? = some (ends1 o v)):=hid fun q o v h1 h2=>by
  rw [<-hEZ,List.getElem?_zipWith,h1,h2]
 clear hEZ
 go_wp2_with fail
 go_loopw [14,95] (fun ev iv wr=>∃ q:Nat,q<=N.st/\iv=.int .i64 (q:Int)/\ev=oV (leastV (EZ.take q))/\Below w.heap.size w wr) (fun _ iv _=>N.st-(intOf iv).toNat)
 case atStart=>exact ⟨0,by omega,rfl,rfl,Below.refl _ _⟩
 case round =>
  obtain ⟨q,hq,rfl,rfl,hbw⟩:=hrel
  by_cases hlt:q<N.st
  ·have i1:(q:Int)<(N.st:Int):=by omega
   have i0:(0:Int)<=(q:Int):=by omega
   obtain ⟨o,ho⟩:∃ o,R[q]? = some o:=⟨_,List.getElem?_eq_getElem (by rw [hRl.out]; exact hlt)⟩
   have hbr:Below W.heap.size W wr:=hb0.out.trans (hbw.mono hb0.out.size)
   have hkr:=hk0.out.fr (below_fr hbw (fun _=>False)) (fun h=>h)
   unfold Sb at hkr
   rw [hRl.out] at hkr
   have c1:=hkr.cell hlt
   have e1:fS R q=oV o:=by unfold fS; rw [List.getD_eq_getElem?_getD,ho]; rfl
   rw [e1] at c1
   clear e1 hkr
   unfold oV at c1
   obtain ⟨v,hv,b,off,rfl,hcs⟩:=(hS.out.next hbr).vm.mo.fin.get hlt
   have hsn:Hid (leastV (EZ.take (q+1))=twPlus (leastV (EZ.take q)) (ends1 o v)):=hid (by
    have h:=hEq.out q o v ho hv
    rw [List.take_succ_eq_append_getElem (List.getElem?_eq_some_iff.1 h).1,(List.getElem?_eq_some_iff.1 h).2,leastV_snoc])
   obtain ⟨L,hL⟩:∃ L,leastV (EZ.take q)=L:=⟨_,rfl⟩
   rw [hL] at hsn ⊢
   have hvC:=hS.out.cst.2.2 v (List.mem_of_getElem? hv)
   have hC:=hS.out.cC
   have HL:=hid hL
   clear hL
   have hSr:=hid (hS.out.next hbr)
   have hXc:=hSr.out.vw.cs
   have hends:=hid (ends_any syms N.st (.slice io N.st ci) (.slice ro nr cr) (.slice vo (N.st+1) cv) (some ⟨b,off,none⟩) cf N.fin q v hv wr hSr.out.vm.mo.fin)
   clear hv
   cases o with
   | none =>
    rw [oI_none] at c1
    have h2:Hid (leastV (EZ.take (q+1))=L):=hid (by rw [hsn.out]; exact twPlus_none L)
    have hbw:=hid hbw
    obtain ⟨ev,hev⟩:∃ ev,oV L=ev:=⟨_,rfl⟩
    rw [hev]
    have hev:=hid hev
    clear hcs
    go_wp2_with fail
    go_roundw
    case rel=>exact ⟨q+1,by omega,by go_num,by rw [h2.out]; exact hev.out.symm,hbw.out⟩
    case measure=>simp [intOf]; omega
   | some r =>
    rw [oI_some] at c1
    have hr:=hR.out r (List.mem_of_getElem? ho)
    clear ho
    have k1:((r:Int) != -1)=true:=by simp
    have k1':((r:Int) == -1)=false:=by rw [beq_eq_false_iff_ne]; omega
    have k2:¬ (r:Int) = -1:=by omega
    have hbw:=hid hbw
    have hbr:=hid hbr
    cases v with
    | none =>
     have h2:Hid (leastV (EZ.take (q+1))=L):=hid (by rw [hsn.out]; exact twPlus_none L)
     obtain ⟨ev,hev⟩:∃ ev,oV L=ev:=⟨_,rfl⟩
     rw [hev]
     have hev:=hid hev
     clear hcs
     obtain ⟨⟨y0,y1,y2,y3⟩,y4,y5,y6,y7⟩:=hSr.out.vw.eight
     go_wp2_with fail
     clear y0 y1 y2 y3 y4 y5 y6 y7
     refine hends.out.mono ?_; rintro e w2 ⟨rfl,hb2⟩
     have hb2:=hid hb2
     go_wp2_with fail
     go_roundw
     case rel=>exact ⟨q+1,by omega,by go_num,by rw [h2.out]; exact hev.out.symm,hbw.out.trans (hb2.out.mono hbw.out.size)⟩
     case measure=>simp [intOf]; omega
    | some c =>
     have c3:=hcs 3 _ rfl
     have hce:tc (some c)=c:=rfl
     rw [hce] at c3
     have hcb:c<=1048576:=Nat.le_trans hvC hC
     have i4:(c:Int)<=1048576:=by omega
     have i5:(0:Int)<=(c:Int):=by omega
     have i6:(r:Int)<=1000000000000:=by omega
     have i7:(0:Int)<=(r:Int):=by omega
     clear hvC hC hce hcs
     have c3:=hid c3
     cases L with
     | none =>
      have h2:Hid (leastV (EZ.take (q+1))=some (r+c)):=hid (by rw [hsn.out]; exact none_twPlus _)
      unfold oV
      rw [oI_none]
      obtain ⟨⟨y0,y1,y2,y3⟩,y4,y5,y6,y7⟩:=hSr.out.vw.eight
      go_wp2_with fail
      clear y0 y1 y2 y3 y4 y5 y6 y7
      refine hends.out.mono ?_; rintro e w2 ⟨rfl,hb2⟩
      have z5:=(hSr.out.next hb2).vw.cell (i:=5) rfl
      have z3:=(c3.out)
      have z3:=cell_later hb2 z3
      have hb2:=hid hb2
      go_wp2_with fail
      go_roundw
      case rel=>exact ⟨q+1,by omega,by go_num,by rw [h2.out]; show _=Value.int .i64 (((r+c:Nat):Int)); rw [Int.natCast_add],hbw.out.trans (hb2.out.mono hbw.out.size)⟩
      case measure=>simp [intOf]; omega
     | some m =>
      unfold oV
      rw [oI_some]
      have k3:((m:Int) == -1)=false:=by rw [beq_eq_false_iff_ne]; omega
      have k4:¬ (m:Int) = -1:=by omega
      by_cases hrm:r+c<m
      ·have h2:Hid (leastV (EZ.take (q+1))=some (r+c)):=hid (by rw [hsn.out]; show twPlus (some m) (some (r+c))=_; rw [twPlus_some,Nat.min_eq_right (by omega)])
       have k5:(r:Int)+(c:Int)<(m:Int):=by omega
       obtain ⟨⟨y0,y1,y2,y3⟩,y4,y5,y6,y7⟩:=hSr.out.vw.eight
       go_wp2_with fail
       clear y0 y1 y2 y3 y4 y5 y6 y7
       refine hends.out.mono ?_; rintro e w2 ⟨rfl,hb2⟩
       have z5:=(hSr.out.next hb2).vw.cell (i:=5) rfl
       have z3:=(c3.out)
       have z3:=cell_later hb2 z3
       have hb2:=hid hb2
       go_wp2_with fail
       go_roundw
       case rel=>exact ⟨q+1,by omega,by go_num,by rw [h2.out]; show _=Value.int .i64 (((r+c:Nat):Int)); rw [Int.natCast_add],hbw.out.trans (hb2.out.mono hbw.out.size)⟩
       case measure=>simp [intOf]; omega
      ·have h2:Hid (leastV (EZ.take (q+1))=some m):=hid (by rw [hsn.out]; show twPlus (some m) (some (r+c))=_; rw [twPlus_some,Nat.min_eq_left (by omega)])
       have k5:¬ (r:Int)+(c:Int)<(m:Int):=by omega
       obtain ⟨⟨y0,y1,y2,y3⟩,y4,y5,y6,y7⟩:=hSr.out.vw.eight
       go_wp2_with fail
       clear y0 y1 y2 y3 y4 y5 y6 y7
       refine hends.out.mono ?_; rintro e w2 ⟨rfl,hb2⟩
       have z5:=(hSr.out.next hb2).vw.cell (i:=5) rfl
       have z3:=(c3.out)
       have z3:=cell_later hb2 z3
       have hb2:=hid hb2
       go_wp2_with fail
       go_roundw
       case rel=>exact ⟨q+1,by omega,by go_num,by rw [h2.out]; rfl,hbw.out.trans (hb2.out.mono hbw.out.size)⟩
       case measure=>simp [intOf]; omega
  ·obtain rfl:q=N.st:=by omega
   have i1:¬ (N.st:Int)<(N.st:Int):=by omega
   have htk:EZ.take N.st=EZ:=List.take_of_length_le (by rw [hEl.out]; exact Nat.le_refl _)
   rw [htk,<-hend.out]
   clear htk
   have hbw:=hid hbw
   obtain ⟨ev,hev⟩:∃ ev,oV (endV N.fin R)=ev:=⟨_,rfl⟩
   rw [hev] at hexit ⊢
   go_wp2_with fail
   exact hexit.out _ _ _ _ _ _ _ _ _ _ _ _ _ _ _ _ _ _ _ _ _ _ _ _ _ _ _ _ _ _ _ _ _ _ _ _ _ _ _ _ _ _ hbw.out
end
end Go.Proofs.YtnapapijhhldpaaGreatDoor

/-
  Texts joined by program: Tsd, Tse, Tsf. No condition of its own.
-/
import Derived.Test.YtnapapijhhldpaaGreatDoorJcBN
namespace Go.Proofs.YtnapapijhhldpaaGreatDoor
set_option linter.unusedSimpArgs false
set_option linter.unusedVariables false
section
open Go.RowKit
def endQ (fin:List Tw) (P:List (Nat×Nat)):Tw:=P.foldl (fun m p=>twPlus m (ends1 (some p.2) (fin.getD p.1 none))) none
theorem endQ_snoc (fin:List Tw) {P:List (Nat×Nat)} {i:Nat} {p:Nat×Nat} (h:P[i]? = some p):endQ fin (P.take (i+1))=twPlus (endQ fin (P.take i)) (ends1 (some p.2) (fin.getD p.1 none)):=by
 unfold endQ; rw [take_snoc h,List.foldl_append]; rfl
theorem endQ_to (fin:List Tw) (R:Vx) (h:fin.length=R.length):∀ k,k≤R.length→endQ fin (supTo R k)=leastV ((List.zipWith ends1 R fin).take k)
 | 0,_=>rfl
 | k+1,hk=>by
  obtain ⟨o,ho⟩:∃ o,R[k]? = some o:=⟨_,List.getElem?_eq_getElem (by omega)⟩
  obtain ⟨v,hv⟩:∃ v,fin[k]? = some v:=⟨_,List.getElem?_eq_getElem (by omega)⟩
  have hz:(List.zipWith ends1 R fin)[k]? = some (ends1 o v):=by rw [List.getElem?_zipWith,ho,hv]
  rw [take_snoc hz,leastV_snoc,←endQ_to fin R h k (by omega)]
  cases o with
  | none=>rw [supTo_none ho]; show _=twPlus _ none; rw [twPlus_none]
  | some r =>
   rw [supTo_some ho]
   unfold endQ; rw [List.foldl_append]
   show twPlus _ (ends1 (some r) (fin.getD k none))=_
   rw [List.getD_eq_getElem?_getD,hv]; rfl
theorem endQ_all (fin:List Tw) (R:Vx) (h:fin.length=R.length):endQ fin (sup R)=endV fin R:=by
 unfold sup endV
 rw [endQ_to fin R h _ (Nat.le_refl _),List.take_of_length_le (by simp [h])]
set_option maxRecDepth 100000 in
set_option maxHeartbeats 4000000 in
theorem rd_fin (W:World) (V syms C:Nat) (A:Au) (io:Option Addr) (ci:Nat) (fo:Option Addr) (cf:Nat) (ro:Option Addr) (nr cr:Nat) (hS:Hid (Rta W V syms C A io ci fo cf ro nr cr)) (lb loff ln lc k:Nat) (hk:k<ln) (hln:ln≤64) (so:Option Addr) (sc:Nat) (uo:Option Addr) (uc pn:Nat) (P:List (Nat×Nat)) (hE:Hid (Cs W lb (loff+k*2) [.slice so pn sc,.slice uo pn uc])) (hR:Hid (Rs W so sc uo uc pn P)) (Z:Nat) (hpn:pn≤64) (hr:Hid (∀ p∈P,p.1<A.st∧p.2≤1000000000)) (w:World) (hb:Below W.heap.size W w) (hZW:W.heap.size≤Z) (hZ:Bl Z (twC none) 45 w)
  (c0 c1 c2 c3 c4 c6 c7 c8 c9 Aa Ab Ad Ae Af Ag Ah Ak Al Am An Ao Ap Aq Ar As Av Aw Ax Ay Az Ba Bb Bc Be Bf Bh Bi Bj Bk Bm Bn Bo Bp Bq Br Bs Bt Bu Bv Bw Bx By Bz Ca Cb Cc Cd Ce Cf Cg Ch Ci Cj Ck Cl Cm Cn Co Cp Cq Cr Ct Cu Cv Cw Cx Cy Cz Da Db Dc Dd De Df Dg Dh Di Dj Dk Dl Dn Dp Dq Dr Dt Du Dv Dw Dx Dy Dz Ea Eb Ec Ed Ee Ef Eg Eh Ei Ej Ek El Em En Eo Ep Eq Er Es Et Eu Ev Ew Ex Ey Ez Fa Fb Fc Fd Fe Ff Fg Fh Fi Fj Fk Fm Fn Fo Fp Fq Fs Ft Fu Fv Fw Fx Fy Fz Ga Gb Gc Gd Ge Gf Gg Gh Gi Gj Gk Gl Gm Gn Go Gp Gq Gr Gs Gt Gu Gv Gw Gx Gy Gz Ha Hb Hc Hd He Hf Hg Hh Hi Hj Hk Hl Hm Hn Ho Hp Hq Hr Hs Ht Hu Hv Hw Hx Hy Hz Ia Ib Ic Id Ie Ig Ih Ii Ij Ik Il Im Io Ip Iq Ir It Iu Iv Iw Ix Iy Iz Ja Jb Jc Jd Je Jf Jg Jh Ji Jj Jk Jl Jm Jn Jo Jp Jq Jr Js Jt Ju Jv Jw Jx Jy Jz Ka Kb Kc Kd Ke Kf Kg Kh Ki Kj Kk Kl Km Kn Ko Kp Kq Kr Ks Kt Ku Kv Kw Kx Kz La Lb Lc Ld Le Lf Lg Lh Li Lj Lk Ll Lm Ln Lo Lp Lq Lr Lt Lu Lv Lx Ly Lz Ma Mb Mc Md Me:Value) (Q0:Exit→Act→World→Prop) (hpan:∀ c (a:Act) d v w,Q0 (.panic c) (a.put d v) w→Q0 (.panic c) a w)
  (hexit:∀ (Mf Mg Mh Mi Mj Ml Mm Mn Mp Mq Mr Ms Mt Mu Mw Mx My Mz Na Nb Nc Nd Ne Ng Nh Ni Nj Nk Nl Nm Nn Np Nq Nr Ns Nt Nu Nv Nw Nx Ny Nz Oa Ob Oc Od Oe Og Oh Oi Oj Ok Ol Oo Op Oq Os Ot:Value) (w':World),Bl Z (twC (endQ A.fin P)) 45 w'→Fr (fun k=>k=Z) w w'→Q0 .normal ⟨#[c0,c1,c2,c3,c4,.pointer (some ⟨V,0,none⟩),c6,c7,c8,c9,Aa,Ab,Ad,.slice (some ⟨lb,loff,none⟩) ln lc,.int .i64 (k:Int),.pointer (some ⟨Z,0,none⟩),Mf,Mg,Af,Ag,Ah,Ak,Al,Am,An,Ao,Ap,Aq,Ar,As,Av,Aw,Ax,Ay,Az,Ba,Bb,Bc,Be,Bf,Bh,Bi,Bj,Bk,Bm,Bn,Bo,Bp,Bq,Br,Bs,Bt,Bu,Bv,Bw,Bx,By,Bz,Ca,Cb,Cc,Cd,Ce,Cf,Cg,Ch,Ci,Cj,Ck,Cl,Cm,Cn,Co,Cp,Cq,Cr,Ct,Cu,Cv,Cw,Cx,Cy,Cz,Da,Db,Dc,Dd,De,Df,Dg,Dh,Mh,Mi,Mj,Ml,Mm,Mn,Mp,Mq,Mr,Ms,Mt,Mu,Mw,Mx,My,Mz,Na,Nb,Nc,Nd,Ne,Ng,Nh,Ni,Nj,Nk,Nl,Nm,Nn,Np,Nq,Nr,Ns,Nt,Nu,Nv,Nw,Nx,Ny,Nz,Oa,Ob,Oc,Od,Oe,Og,Oh,Oi,Oj,Ok,Ol,Oo,Op,Oq,Os,Ot,Fq,Fs,Ft,Fu,Fv,Fw,Fx,Fy,Fz,Ga,Gb,Gc,Gd,Ge,Gf,Gg,Gh,Gi,Gj,Gk,Gl,Gm,Gn,Go,Gp,Gq,Gr,Gs,Gt,Gu,Gv,Gw,Gx,Gy,Gz,Ha,Hb,Hc,Hd,He,Hf,Hg,Hh,Hi,Hj,Hk,Hl,Hm,Hn,Ho,Hp,Hq,Hr,Hs,Ht,Hu,Hv,Hw,Hx,Hy,Hz,Ia,Ib,Ic,Id,Ie,Ig,Ih,Ii,Ij,Ik,Il,Im,Io,Ip,Iq,Ir,It,Iu,Iv,Iw,Ix,Iy,Iz,Ja,Jb,Jc,Jd,Je,Jf,Jg,Jh,Ji,Jj,Jk,Jl,Jm,Jn,Jo,Jp,Jq,Jr,Js,Jt,Ju,Jv,Jw,Jx,Jy,Jz,Ka,Kb,Kc,Kd,Ke,Kf,Kg,Kh,Ki,Kj,Kk,Kl,Km,Kn,Ko,Kp,Kq,Kr,Ks,Kt,Ku,Kv,Kw,Kx,Kz,La,Lb,Lc,Ld,Le,Lf,Lg,Lh,Li,Lj,Lk,Ll,Lm,Ln,Lo,Lp,Lq,Lr,Lt,Lu,Lv,Lx,Ly,Lz,Ma,Mb,Mc,Md,Me],[]⟩ w') :
  Code.wp Tryz.prog (eB 4) Q0 ⟨#[c0,c1,c2,c3,c4,.pointer (some ⟨V,0,none⟩),c6,c7,c8,c9,Aa,Ab,Ad,.slice (some ⟨lb,loff,none⟩) ln lc,.int .i64 (k:Int),.pointer (some ⟨Z,0,none⟩),.int .i64 0,Ae,Af,Ag,Ah,Ak,Al,Am,An,Ao,Ap,Aq,Ar,As,Av,Aw,Ax,Ay,Az,Ba,Bb,Bc,Be,Bf,Bh,Bi,Bj,Bk,Bm,Bn,Bo,Bp,Bq,Br,Bs,Bt,Bu,Bv,Bw,Bx,By,Bz,Ca,Cb,Cc,Cd,Ce,Cf,Cg,Ch,Ci,Cj,Ck,Cl,Cm,Cn,Co,Cp,Cq,Cr,Ct,Cu,Cv,Cw,Cx,Cy,Cz,Da,Db,Dc,Dd,De,Df,Dg,Dh,Di,Dj,Dk,Dl,Dn,Dp,Dq,Dr,Dt,Du,Dv,Dw,Dx,Dy,Dz,Ea,Eb,Ec,Ed,Ee,Ef,Eg,Eh,Ei,Ej,Ek,El,Em,En,Eo,Ep,Eq,Er,Es,Et,Eu,Ev,Ew,Ex,Ey,Ez,Fa,Fb,Fc,Fd,Fe,Ff,Fg,Fh,Fi,Fj,Fk,Fm,Fn,Fo,Fp,Fq,Fs,Ft,Fu,Fv,Fw,Fx,Fy,Fz,Ga,Gb,Gc,Gd,Ge,Gf,Gg,Gh,Gi,Gj,Gk,Gl,Gm,Gn,Go,Gp,Gq,Gr,Gs,Gt,Gu,Gv,Gw,Gx,Gy,Gz,Ha,Hb,Hc,Hd,He,Hf,Hg,Hh,Hi,Hj,Hk,Hl,Hm,Hn,Ho,Hp,Hq,Hr,Hs,Ht,Hu,Hv,Hw,Hx,Hy,Hz,Ia,Ib,Ic,Id,Ie,Ig,Ih,Ii,Ij,Ik,Il,Im,Io,Ip,Iq,Ir,It,Iu,Iv,Iw,Ix,Iy,Iz,Ja,Jb,Jc,Jd,Je,Jf,Jg,Jh,Ji,Jj,Jk,Jl,Jm,Jn,Jo,Jp,Jq,Jr,Js,Jt,Ju,Jv,Jw,Jx,Jy,Jz,Ka,Kb,Kc,Kd,Ke,Kf,Kg,Kh,Ki,Kj,Kk,Kl,Km,Kn,Ko,Kp,Kq,Kr,Ks,Kt,Ku,Kv,Kw,Kx,Kz,La,Lb,Lc,Ld,Le,Lf,Lg,Lh,Li,Lj,Lk,Ll,Lm,Ln,Lo,Lp,Lq,Lr,Lt,Lu,Lv,Lx,Ly,Lz,Ma,Mb,Mc,Md,Me],[]⟩ w:=by
 conv=>arg 2; whnf
 have hZ0:=hid hZ
 have hb0:=hid hb
 have hexit:=hid hexit
 have ik:(k:Int)<(ln:Int):=by omega
 have ik0:(0:Int)≤(k:Int):=by omega
 clear hZ hb
 go_wp2_with fail
 go_loopw [16] (fun iv wr=>∃ i:Nat,i≤pn∧iv=.int .i64 (i:Int)∧Bl Z (twC (endQ A.fin (P.take i))) 45 wr∧Fr (fun k=>k=Z) w wr) (fun iv _=>pn-(intOf iv).toNat)
 case atStart=>exact ⟨0,by omega,rfl,hZ0.out,Fr.refl _ _⟩
 case round =>
  obtain ⟨i,hi,rfl,hZr,hfr⟩:=hrel
  have hbr:Below W.heap.size W wr:=hb0.out.trans (hfr.below (fun k e=>by subst e; exact hZW) hb0.out.size)
  have l0:=(hE.out.next hbr) 0 _ rfl
  simp only [Nat.add_zero] at l0
  by_cases hlt:i<pn
  ·obtain ⟨q,r,_,_,_,_,hP,_,_,_,_⟩:=hR.out.get hlt
   have i1:(i:Int)<(pn:Int):=by omega
   have i0:(0:Int)≤(i:Int):=by omega
   have hrr:=hr.out _ (List.mem_of_getElem? hP)
   obtain ⟨y,hy,_⟩:=hS.out.mo.fin.get hrr.1
   have hy2:=hid hy
   have hsn:Hid (endQ A.fin (P.take (i+1))=twPlus (endQ A.fin (P.take i)) (ends1 (some r) y)):=hid (by rw [endQ_snoc A.fin hP,List.getD_eq_getElem?_getD,hy]; rfl)
   have hP2:=hid hP
   have hZ2:=hid hZr
   have hfr2:=hid hfr
   have hbr2:=hid hbr
   clear hP hZr hfr hbr hy
   go_upto_block 5 with fail
   refine rd_fin1 W V syms C A io ci fo cf ro nr cr hS lb loff ln lc k hk hln so sc uo uc pn P hE hR i q r Z _ y hP2 hlt hpn hrr.1 hrr.2 hy2 wr hbr2.out hZ2.out hZW _ _ _ _ _ _ _ _ _ _ _ _ _ _ _ _ _ _ _ _ _ _ _ _ _ _ _ _ _ _ _ _ _ _ _ _ _ _ _ _ _ _ _ _ _ _ _ _ _ _ _ _ _ _ _ _ _ _ _ _ _ _ _ _ _ _ _ _ _ _ _ _ _ _ _ _ _ _ _ _ _ _ _ _ _ _ _ _ _ _ _ _ _ _ _ _ _ _ _ _ _ _ _ _ _ _ _ _ _ _ _ _ _ _ _ _ _ _ _ _ _ _ _ _ _ _ _ _ _ _ _ _ _ _ _ _ _ _ _ _ _ _ _ _ _ _ _ _ _ _ _ _ _ _ _ _ _ _ _ _ _ _ _ _ _ _ _ _ _ _ _ _ _ _ _ _ _ _ _ _ _ _ _ _ _ _ _ _ _ _ _ _ _ _ _ _ _ _ _ _ _ _ _ _ _ _ _ _ _ _ _ _ _ _ _ _ _ _ _ _ _ _ _ _ _ _ _ _ _ _ _ _ _ _ _ _ _ _ _ _ _ _ _ _ _ _ _ _ _ _ _ _ _ _ _ _ _ _ _ _ _ _ _ _ _ _ _ _ _ _ _ _ _ _ _ _ _ _ _ _ _ _ _ _ _ _ _ _ _ _ _ _ _ _ _ _ _ _ _ _ _ _ _ _ _ _ _ hpan ?_
   intro _ _ _ _ _ _ _ _ _ _ _ _ _ _ _ _ _ _ _ _ _ _ _ _ _ _ _ _ _ _ _ _ _ _ _ _ _ _ _ _ _ _ _ _ _ _ _ w3 hZ3 hf3
   have hZ3:=hid hZ3
   have hf3:=hid (hfr2.out.trans hf3)
   go_wp2_with fail
   go_roundw
   case rel=>exact ⟨i+1,by omega,by go_num,by rw [hsn.out]; exact hZ3.out,hf3.out⟩
   case measure=>simp [intOf]; omega
  ·obtain rfl:i=pn:=by omega
   have i1:¬ (i:Int)<(i:Int):=by omega
   rw [List.take_of_length_le (by rw [hR.out.len]; exact Nat.le_refl _)] at hZr
   have hZr:=hid hZr
   go_wp2_with fail
   exact hexit.out _ _ _ _ _ _ _ _ _ _ _ _ _ _ _ _ _ _ _ _ _ _ _ _ _ _ _ _ _ _ _ _ _ _ _ _ _ _ _ _ _ _ _ _ _ _ _ _ _ _ _ _ _ _ _ _ _ _ _ hZr.out hfr
end
section
open Go.RowKit
theorem wp_appF {P:Program} {w:World} {ops:Array Oper} {rest:List Oper} {o:Oper} {a:Act} {Q:Exit→Act→World→Prop} (hgd:o.guard=none) (s x:Operand) (t:TypeId)
  (ho:o.op=.call { callee:=.builtin .append,args:=#[s,x],argTypes:=#[t,t] }) (e:TypeId) (z:Value) (k bytes:Nat) (ht:P.underlying t=some (.slice e))
  (hinfo:(P.info? e).map (fun i=>(i.zero,i.size,i.bytes))=some (some z,k,bytes)) (hzs:z.cells.size=k) (hk:0<k)
  (base:Nat) (v:Value) (css:List (List Value)) (hs:a.eval s=v) (hown:FO e k w base v css)
  (b off m c:Nat) (new:List (List Value)) (hx:a.eval x=.slice (some ⟨b,off,none⟩) m c) (hm:new.length=m) (hm0:0<m) (hnk:∀ cs∈new,cs.length=k) (hnews:Cs w b off new.flatten) (h1:∀ cs∈new,∀ u∈cs,u.oneCell'=true)
  (hroom:(css.length+m)*bytes≤140737488355328) (hml:css.length+m≤9223372036854775807) (hbase:base≤w.heap.size)
  (h:∀ v' w',FO e k w' base v' (css++new)→w.grownBy w' v.ownBlock→Below base w w'→(v'.ownBlock=v.ownBlock∨v'.ownBlock=some w.heap.size)→wpList P ops Q rest (a.put o.dst v') w'):wpList P ops Q (o::rest) a w :=
 wpList_plain hgd fun _ hK=>op_appF s x t ho e z k bytes ht hinfo hzs hk base v css hs hown b off m c new hx hm hm0 hnk hnews h1 hroom hml hbase fun v' w' a b c d=>hK _ _ (h v' w' a b c d)
set_option maxRecDepth 100000 in
set_option maxHeartbeats 4000000 in
theorem rd_app27 (O syms n:Nat) (iv fv av:Value) (ini fin:List Tw) (arcs:List Ac) (Z:Nat) (e:Tw) (w:World) (h:Om w O syms n iv fv av ini fin arcs) (hf:fin.length≤64) (hZ:Bl Z (twC e) 45 w)
  (c0 c1 c2 c3 c4 c5 c6 c8 c9 Aa Ab Ad Ae Af Ag Ah Ak Al Am An Ao Ap Aq Ar As Av Aw Ax Ay Az Ba Bb Bc Be Bf Bh Bi Bj Bk Bm Bn Bo Bp Bq Br Bs Bt Bu Bv Bw Bx By Bz Ca Cb Cc Cd Ce Cf Cg Ch Ci Cj Ck Cl Cm Cn Co Cp Cq Cr Ct Cu Cv Cw Cx Cy Cz Da Db Dc Dd De Df Dg Dh Di Dj Dk Dl Dn Dp Dq Dr Dt Du Dv Dw Dx Dy Dz Ea Eb Ec Ed Ee Ef Eg Eh Ei Ej Ek El Em En Eo Ep Eq Er Es Et Eu Ev Ew Ex Ey Ez Fa Fb Fc Fd Fe Ff Fg Fh Fi Fj Fk Fm Fn Fo Fp Fq Fs Ft Fu Fv Fw Fx Fy Fz Ga Gb Gc Gd Ge Gf Gg Gh Gi Gj Gk Gl Gm Gn Go Gp Gq Gr Gs Gt Gu Gv Gw Gx Gy Gz Ha Hb Hc Hd He Hf Hg Hh Hi Hj Hk Hl Hm Hn Ho Hp Hq Hr Hs Ht Hu Hv Hw Hx Hy Hz Ia Ib Ic Id Ie Ig Ih Ii Ij Ik Il Im Io Ip Iq Ir It Iu Iv Iw Ix Iy Iz Ja Jb Jc Jd Je Jf Jg Jh Ji Jj Jk Jl Jm Jn Jo Jp Jq Jr Js Jt Ju Jv Jw Jx Jy Jz Ka Kb Kc Kd Ke Kf Kg Kh Ki Kj Kk Kl Km Kn Ko Kp Kq Kr Ks Kt Ku Kv Kw Kx Kz La Lb Lc Ld Le Lf Lg Lh Li Lj Lk Ll Lm Ln Lo Lp Lq Lr Lt Lu Lv Lx Ly Lz Ma Mb Mc Md Me Mf Mg Mh:Value) (Q0:Exit→Act→World→Prop) (hpan:∀ c (a:Act) d v w,Q0 (.panic c) (a.put d v) w→Q0 (.panic c) a w)
  (hexit:∀ (Mi Mj Ml Mm Mn Mp:Value) (fv':Value) (w':World),Om w' O syms n iv fv' av ini (fin++[e]) arcs→Fr (fun k=>k=O∨fv.ownBlock=some k) w w'→Q0 .normal ⟨#[c0,c1,c2,c3,c4,c5,c6,.pointer (some ⟨O,0,none⟩),c8,c9,Aa,Ab,Ad,Ae,Af,.pointer (some ⟨Z,0,none⟩),Ag,Ah,Ak,Al,Am,An,Ao,Ap,Aq,Ar,As,Av,Aw,Ax,Ay,Az,Ba,Bb,Bc,Be,Bf,Bh,Bi,Bj,Bk,Bm,Bn,Bo,Bp,Bq,Br,Bs,Bt,Bu,Bv,Bw,Bx,By,Bz,Ca,Cb,Cc,Cd,Ce,Cf,Cg,Ch,Ci,Cj,Ck,Cl,Cm,Cn,Co,Cp,Cq,Cr,Ct,Cu,Cv,Cw,Cx,Cy,Cz,Da,Db,Dc,Dd,De,Df,Dg,Dh,Di,Dj,Dk,Dl,Dn,Dp,Dq,Dr,Dt,Du,Dv,Dw,Dx,Dy,Dz,Ea,Eb,Ec,Ed,Ee,Ef,Eg,Eh,Ei,Ej,Ek,El,Em,En,Eo,Ep,Eq,Er,Es,Et,Eu,Ev,Ew,Ex,Ey,Ez,Fa,Fb,Fc,Fd,Fe,Ff,Fg,Fh,Fi,Fj,Fk,Fm,Fn,Fo,Fp,Fq,Fs,Ft,Mi,Mj,Ml,Mm,Mn,Mp,Ga,Gb,Gc,Gd,Ge,Gf,Gg,Gh,Gi,Gj,Gk,Gl,Gm,Gn,Go,Gp,Gq,Gr,Gs,Gt,Gu,Gv,Gw,Gx,Gy,Gz,Ha,Hb,Hc,Hd,He,Hf,Hg,Hh,Hi,Hj,Hk,Hl,Hm,Hn,Ho,Hp,Hq,Hr,Hs,Ht,Hu,Hv,Hw,Hx,Hy,Hz,Ia,Ib,Ic,Id,Ie,Ig,Ih,Ii,Ij,Ik,Il,Im,Io,Ip,Iq,Ir,It,Iu,Iv,Iw,Ix,Iy,Iz,Ja,Jb,Jc,Jd,Je,Jf,Jg,Jh,Ji,Jj,Jk,Jl,Jm,Jn,Jo,Jp,Jq,Jr,Js,Jt,Ju,Jv,Jw,Jx,Jy,Jz,Ka,Kb,Kc,Kd,Ke,Kf,Kg,Kh,Ki,Kj,Kk,Kl,Km,Kn,Ko,Kp,Kq,Kr,Ks,Kt,Ku,Kv,Kw,Kx,Kz,La,Lb,Lc,Ld,Le,Lf,Lg,Lh,Li,Lj,Lk,Ll,Lm,Ln,Lo,Lp,Lq,Lr,Lt,Lu,Lv,Lx,Ly,Lz,Ma,Mb,Mc,Md,Me,Mf,Mg,Mh],[]⟩ w') :
  Code.wp Tryz.prog (eR 27) Q0 ⟨#[c0,c1,c2,c3,c4,c5,c6,.pointer (some ⟨O,0,none⟩),c8,c9,Aa,Ab,Ad,Ae,Af,.pointer (some ⟨Z,0,none⟩),Ag,Ah,Ak,Al,Am,An,Ao,Ap,Aq,Ar,As,Av,Aw,Ax,Ay,Az,Ba,Bb,Bc,Be,Bf,Bh,Bi,Bj,Bk,Bm,Bn,Bo,Bp,Bq,Br,Bs,Bt,Bu,Bv,Bw,Bx,By,Bz,Ca,Cb,Cc,Cd,Ce,Cf,Cg,Ch,Ci,Cj,Ck,Cl,Cm,Cn,Co,Cp,Cq,Cr,Ct,Cu,Cv,Cw,Cx,Cy,Cz,Da,Db,Dc,Dd,De,Df,Dg,Dh,Di,Dj,Dk,Dl,Dn,Dp,Dq,Dr,Dt,Du,Dv,Dw,Dx,Dy,Dz,Ea,Eb,Ec,Ed,Ee,Ef,Eg,Eh,Ei,Ej,Ek,El,Em,En,Eo,Ep,Eq,Er,Es,Et,Eu,Ev,Ew,Ex,Ey,Ez,Fa,Fb,Fc,Fd,Fe,Ff,Fg,Fh,Fi,Fj,Fk,Fm,Fn,Fo,Fp,Fq,Fs,Ft,Fu,Fv,Fw,Fx,Fy,Fz,Ga,Gb,Gc,Gd,Ge,Gf,Gg,Gh,Gi,Gj,Gk,Gl,Gm,Gn,Go,Gp,Gq,Gr,Gs,Gt,Gu,Gv,Gw,Gx,Gy,Gz,Ha,Hb,Hc,Hd,He,Hf,Hg,Hh,Hi,Hj,Hk,Hl,Hm,Hn,Ho,Hp,Hq,Hr,Hs,Ht,Hu,Hv,Hw,Hx,Hy,Hz,Ia,Ib,Ic,Id,Ie,Ig,Ih,Ii,Ij,Ik,Il,Im,Io,Ip,Iq,Ir,It,Iu,Iv,Iw,Ix,Iy,Iz,Ja,Jb,Jc,Jd,Je,Jf,Jg,Jh,Ji,Jj,Jk,Jl,Jm,Jn,Jo,Jp,Jq,Jr,Js,Jt,Ju,Jv,Jw,Jx,Jy,Jz,Ka,Kb,Kc,Kd,Ke,Kf,Kg,Kh,Ki,Kj,Kk,Kl,Km,Kn,Ko,Kp,Kq,Kr,Ks,Kt,Ku,Kv,Kw,Kx,Kz,La,Lb,Lc,Ld,Le,Lf,Lg,Lh,Li,Lj,Lk,Ll,Lm,Ln,Lo,Lp,Lq,Lr,Lt,Lu,Lv,Lx,Ly,Lz,Ma,Mb,Mc,Md,Me,Mf,Mg,Mh],[]⟩ w:=by
 conv=>arg 2; whnf
 have y5:=h.blk.cell (i:=5) rfl
 have hbN:Below w.heap.size w (w.alloc (.cells (twC e).toArray 45)):=below_alloc _
 have hnew:=Cs.fresh w (twC e) 45
 have hlit:(twC e)=twC e:=by rfl
 have h3:=h.next hbN
 have hexit:=hid hexit
 have hZc:=hZ.cs
 go_wp2_with (first | ((with_reducible refine wp_loadTw rfl _ rfl Z 0 ?_ e hZc ?_); exact rfl) | (at_builtin; refine wp_appF rfl (.tmp 148) (.tmp 150) 27 rfl 45 (.agg #[.bool false,.slice none 0 0,.slice none 0 0,.int .i64 0,.bool false,.int .u64 0,.slice none 0 0,.slice none 0 0]) 8 128 Tryz.underlying27 Tryz.infoTw rfl (by decide) (O+1) fv _ rfl h3.fin w.heap.size 0 1 1 [(twC e)] rfl rfl (by decide) (by intro cs hc; rw [List.mem_singleton.1 hc]; rfl) (by simp only [List.flatten_cons,List.flatten_nil,List.append_nil]; exact hnew) (by rw [hlit]; exact twC_one [e]) (by rw [List.length_map]; omega) (by rw [List.length_map]; omega) h3.blk.lt ?_; intro v5 w5 hv5 hg5 hb5 ho5; have hO5:=h3.blk.under hb5 (Nat.lt_succ_self _); obtain ⟨ai,ki,rfl⟩:=hv5.form; have z5f:=hO5.free 5; have z5:=hO5.cell (i:=5) rfl))
 simp only [List.length_append,List.length_map,List.length_cons,List.length_nil,Nat.zero_add] at hv5 ho5 ⊢
 try rw [hlit] at hv5
 have hF5:=grown_fr (T:=fun k=>fv.ownBlock=some k) hg5 fun g hg=>hg
 have hF9:Fr (fun k=>k=O) w5 (w5.setCell ⟨O,5,none⟩ (.slice ai (fin.length+1) ki)):=Fr.set (T:=fun k=>k=O) w5 (p:=⟨O,5,none⟩) rfl _
 have ho:FO 45 8 w5 (O+1) iv (ini.map twC):=(h3.ini).fr hF5 (fun g hg hg'=>h.ne g hg hg')
 have ha:FO 54 11 w5 (O+1) av (arcs.map acC):=h3.arcs.fr hF5 (fun g hg hg'=>own_ne' h3.fin h3.arcs (by decide) g hg' hg)
 have hr:∀ g,iv.ownBlock=some g→(Value.slice ai (fin.length+1) ki).ownBlock≠some g:=fun g hg hg'=>by
  rcases ho5 with e1 | e1
  ·rw [e1] at hg'; exact h.ne g hg hg'
  ·have e2:=Option.some.inj (e1.symm.trans hg')
   have e3:=(h.ini.lt hg).2
   simp at e2
   omega
 refine hexit.out _ _ _ _ _ _ (.slice ai (fin.length+1) ki) _ ?_ ?_
 ·refine ⟨hO5.put 5 _,ho.fr hF9 (fun g hg e=>by have:=(ho.lt hg).1; omega),by rw [List.map_append]; exact hv5.fr hF9 (fun g hg e=>by have:=(hv5.lt hg).1; omega),ha.fr hF9 (fun g hg e=>by have:=(ha.lt hg).1; omega),hr⟩
 ·exact (((below_fr hbN _).trans hF5).mono (T':=fun k=>k=O∨fv.ownBlock=some k) fun k _ h=>.inr h).trans (hF9.mono fun k _ h=>.inl h)
set_option maxRecDepth 100000 in
set_option maxHeartbeats 4000000 in
theorem rd_app49 (O syms n:Nat) (iv fv av:Value) (ini fin:List Tw) (arcs:List Ac) (w:World) (h:Om w O syms n iv fv av ini fin arcs) (hf:ini.length≤64)
  (c0 c1 c2 c3 c4 c5 c6 c8 c9 Aa Ab Ad Ae Af Ag Ah Ak Al Am An Ao Ap Aq Ar As Av Aw Ax Ay Az Ba Bb Bc Be Bf Bh Bi Bj Bk Bm Bn Bo Bp Bq Br Bs Bt Bu Bv Bw Bx By Bz Ca Cb Cc Cd Ce Cf Cg Ch Ci Cj Ck Cl Cm Cn Co Cp Cq Cr Ct Cu Cv Cw Cx Cy Cz Da Db Dc Dd De Df Dg Dh Di Dj Dk Dl Dn Dp Dq Dr Dt Du Dv Dw Dx Dy Dz Ea Eb Ec Ed Ee Ef Eg Eh Ei Ej Ek El Em En Eo Ep Eq Er Es Et Eu Ev Ew Ex Ey Ez Fa Fb Fc Fd Fe Ff Fg Fh Fi Fj Fk Fm Fn Fo Fp Fq Fs Ft Fu Fv Fw Fx Fy Fz Ga Gb Gc Gd Ge Gf Gg Gh Gi Gj Gk Gl Gm Gn Go Gp Gq Gr Gs Gt Gu Gv Gw Gx Gy Gz Ha Hb Hc Hd He Hf Hg Hh Hi Hj Hk Hl Hm Hn Ho Hp Hq Hr Hs Ht Hu Hv Hw Hx Hy Hz Ia Ib Ic Id Ie Ig Ih Ii Ij Ik Il Im Io Ip Iq Ir It Iu Iv Iw Ix Iy Iz Ja Jb Jc Jd Je Jf Jg Jh Ji Jj Jk Jl Jm Jn Jo Jp Jq Jr Js Jt Ju Jv Jw Jx Jy Jz Ka Kb Kc Kd Ke Kf Kg Kh Ki Kj Kk Kl Km Kn Ko Kp Kq Kr Ks Kt Ku Kv Kw Kx Kz La Lb Lc Ld Le Lf Lg Lh Li Lj Lk Ll Lm Ln Lo Lp Lq Lr Lt Lu Lv Lx Ly Lz Ma Mb Mc Md Me Mf Mg Mh Mi:Value) (Q0:Exit→Act→World→Prop) (hpan:∀ c (a:Act) d v w,Q0 (.panic c) (a.put d v) w→Q0 (.panic c) a w)
  (hexit:∀ (Mj Ml Mm Mn Mp Mq:Value) (iv':Value) (w':World),Om w' O syms n iv' fv av (ini++[none]) fin arcs→Fr (fun k=>k=O∨iv.ownBlock=some k) w w'→Q0 .normal ⟨#[c0,c1,c2,c3,c4,c5,c6,.pointer (some ⟨O,0,none⟩),c8,c9,Aa,Ab,Ad,Ae,Af,Ag,Ah,Ak,Al,Am,An,Ao,Ap,Aq,Ar,As,Av,Aw,Ax,Ay,Az,Ba,Bb,Bc,Be,Bf,Bh,Bi,Bj,Bk,Bm,Bn,Bo,Bp,Bq,Br,Bs,Bt,Bu,Bv,Bw,Bx,By,Bz,Ca,Cb,Cc,Cd,Ce,Cf,Cg,Ch,Ci,Cj,Ck,Cl,Cm,Cn,Co,Cp,Cq,Cr,Ct,Cu,Cv,Cw,Cx,Cy,Cz,Da,Db,Dc,Dd,De,Df,Dg,Dh,Di,Dj,Dk,Dl,Dn,Dp,Dq,Dr,Dt,Du,Dv,Dw,Dx,Dy,Dz,Ea,Eb,Ec,Ed,Ee,Ef,Eg,Eh,Ei,Ej,Ek,El,Em,En,Eo,Ep,Eq,Er,Es,Et,Eu,Ev,Ew,Ex,Ey,Ez,Fa,Fb,Fc,Fd,Fe,Ff,Fg,Fh,Fi,Fj,Fk,Fm,Fn,Fo,Fp,Fq,Fs,Ft,Fu,Fv,Fw,Fx,Fy,Fz,Ga,Gb,Gc,Gd,Ge,Gf,Gg,Gh,Gi,Gj,Gk,Gl,Gm,Gn,Go,Gp,Gq,Gr,Gs,Gt,Gu,Gv,Gw,Gx,Gy,Gz,Ha,Hb,Hc,Hd,He,Hf,Hg,Hh,Hi,Hj,Hk,Hl,Hm,Hn,Ho,Hp,Hq,Hr,Hs,Ht,Hu,Hv,Hw,Hx,Hy,Hz,Ia,Ib,Ic,Id,Ie,Ig,Ih,Ii,Ij,Ik,Il,Im,Io,Ip,Iq,Ir,It,Iu,Iv,Iw,Ix,Iy,Iz,Ja,Jb,Jc,Jd,Je,Jf,Jg,Jh,Ji,Jj,Jk,Jl,Jm,Jn,Jo,Jp,Jq,Jr,Js,Jt,Ju,Jv,Jw,Jx,Jy,Jz,Ka,Kb,Kc,Kd,Ke,Kf,Kg,Kh,Ki,Kj,Kk,Kl,Km,Mj,Ml,Mm,Mn,Mp,Mq,Kt,Ku,Kv,Kw,Kx,Kz,La,Lb,Lc,Ld,Le,Lf,Lg,Lh,Li,Lj,Lk,Ll,Lm,Ln,Lo,Lp,Lq,Lr,Lt,Lu,Lv,Lx,Ly,Lz,Ma,Mb,Mc,Md,Me,Mf,Mg,Mh,Mi],[]⟩ w') :
  Code.wp Tryz.prog (eR 49) Q0 ⟨#[c0,c1,c2,c3,c4,c5,c6,.pointer (some ⟨O,0,none⟩),c8,c9,Aa,Ab,Ad,Ae,Af,Ag,Ah,Ak,Al,Am,An,Ao,Ap,Aq,Ar,As,Av,Aw,Ax,Ay,Az,Ba,Bb,Bc,Be,Bf,Bh,Bi,Bj,Bk,Bm,Bn,Bo,Bp,Bq,Br,Bs,Bt,Bu,Bv,Bw,Bx,By,Bz,Ca,Cb,Cc,Cd,Ce,Cf,Cg,Ch,Ci,Cj,Ck,Cl,Cm,Cn,Co,Cp,Cq,Cr,Ct,Cu,Cv,Cw,Cx,Cy,Cz,Da,Db,Dc,Dd,De,Df,Dg,Dh,Di,Dj,Dk,Dl,Dn,Dp,Dq,Dr,Dt,Du,Dv,Dw,Dx,Dy,Dz,Ea,Eb,Ec,Ed,Ee,Ef,Eg,Eh,Ei,Ej,Ek,El,Em,En,Eo,Ep,Eq,Er,Es,Et,Eu,Ev,Ew,Ex,Ey,Ez,Fa,Fb,Fc,Fd,Fe,Ff,Fg,Fh,Fi,Fj,Fk,Fm,Fn,Fo,Fp,Fq,Fs,Ft,Fu,Fv,Fw,Fx,Fy,Fz,Ga,Gb,Gc,Gd,Ge,Gf,Gg,Gh,Gi,Gj,Gk,Gl,Gm,Gn,Go,Gp,Gq,Gr,Gs,Gt,Gu,Gv,Gw,Gx,Gy,Gz,Ha,Hb,Hc,Hd,He,Hf,Hg,Hh,Hi,Hj,Hk,Hl,Hm,Hn,Ho,Hp,Hq,Hr,Hs,Ht,Hu,Hv,Hw,Hx,Hy,Hz,Ia,Ib,Ic,Id,Ie,Ig,Ih,Ii,Ij,Ik,Il,Im,Io,Ip,Iq,Ir,It,Iu,Iv,Iw,Ix,Iy,Iz,Ja,Jb,Jc,Jd,Je,Jf,Jg,Jh,Ji,Jj,Jk,Jl,Jm,Jn,Jo,Jp,Jq,Jr,Js,Jt,Ju,Jv,Jw,Jx,Jy,Jz,Ka,Kb,Kc,Kd,Ke,Kf,Kg,Kh,Ki,Kj,Kk,Kl,Km,Kn,Ko,Kp,Kq,Kr,Ks,Kt,Ku,Kv,Kw,Kx,Kz,La,Lb,Lc,Ld,Le,Lf,Lg,Lh,Li,Lj,Lk,Ll,Lm,Ln,Lo,Lp,Lq,Lr,Lt,Lu,Lv,Lx,Ly,Lz,Ma,Mb,Mc,Md,Me,Mf,Mg,Mh,Mi],[]⟩ w:=by
 conv=>arg 2; whnf
 have y5:=h.blk.cell (i:=4) rfl
 have hbN:Below w.heap.size w (w.alloc (.cells [.bool false,.slice none 0 0,.slice none 0 0,.int .i64 0,.bool true,.int .u64 0,.slice none 0 0,.slice none 0 0].toArray 45)):=below_alloc _
 have hnew:=Cs.fresh w [.bool false,.slice none 0 0,.slice none 0 0,.int .i64 0,.bool true,.int .u64 0,.slice none 0 0,.slice none 0 0] 45
 have hlit:[.bool false,.slice none 0 0,.slice none 0 0,.int .i64 0,.bool true,.int .u64 0,.slice none 0 0,.slice none 0 0]=twC none:=by rfl
 have h3:=h.next hbN
 have hexit:=hid hexit
 go_wp2_with (first | (at_builtin; refine wp_appF rfl (.tmp 267) (.tmp 269) 27 rfl 45 (.agg #[.bool false,.slice none 0 0,.slice none 0 0,.int .i64 0,.bool false,.int .u64 0,.slice none 0 0,.slice none 0 0]) 8 128 Tryz.underlying27 Tryz.infoTw rfl (by decide) (O+1) iv _ rfl h3.ini w.heap.size 0 1 1 [[.bool false,.slice none 0 0,.slice none 0 0,.int .i64 0,.bool true,.int .u64 0,.slice none 0 0,.slice none 0 0]] rfl rfl (by decide) (by intro cs hc; rw [List.mem_singleton.1 hc]; rfl) (by simp only [List.flatten_cons,List.flatten_nil,List.append_nil]; exact hnew) (by rw [hlit]; exact twC_one [none]) (by rw [List.length_map]; omega) (by rw [List.length_map]; omega) h3.blk.lt ?_; intro v5 w5 hv5 hg5 hb5 ho5; have hO5:=h3.blk.under hb5 (Nat.lt_succ_self _); obtain ⟨ai,ki,rfl⟩:=hv5.form; have z5f:=hO5.free 4; have z5:=hO5.cell (i:=4) rfl))
 simp only [List.length_append,List.length_map,List.length_cons,List.length_nil,Nat.zero_add] at hv5 ho5 ⊢
 try rw [hlit] at hv5
 have hF5:=grown_fr (T:=fun k=>iv.ownBlock=some k) hg5 fun g hg=>hg
 have hF9:Fr (fun k=>k=O) w5 (w5.setCell ⟨O,4,none⟩ (.slice ai (ini.length+1) ki)):=Fr.set (T:=fun k=>k=O) w5 (p:=⟨O,4,none⟩) rfl _
 have ho:FO 45 8 w5 (O+1) fv (fin.map twC):=(h3.fin).fr hF5 (fun g hg hg'=>h.ne g hg' hg)
 have ha:FO 54 11 w5 (O+1) av (arcs.map acC):=h3.arcs.fr hF5 (fun g hg hg'=>own_ne' h3.ini h3.arcs (by decide) g hg' hg)
 have hr:∀ g,fv.ownBlock=some g→(Value.slice ai (ini.length+1) ki).ownBlock≠some g:=fun g hg hg'=>by
  rcases ho5 with e1 | e1
  ·rw [e1] at hg'; exact h.ne g hg' hg
  ·have e2:=Option.some.inj (e1.symm.trans hg')
   have e3:=(h.fin.lt hg).2
   simp at e2
   omega
 refine hexit.out _ _ _ _ _ _ (.slice ai (ini.length+1) ki) _ ?_ ?_
 ·refine ⟨hO5.put 4 _,by rw [List.map_append]; exact hv5.fr hF9 (fun g hg e=>by have:=(hv5.lt hg).1; omega),ho.fr hF9 (fun g hg e=>by have:=(ho.lt hg).1; omega),ha.fr hF9 (fun g hg e=>by have:=(ha.lt hg).1; omega),fun g hg hg'=>hr g hg' hg⟩
 ·exact (((below_fr hbN _).trans hF5).mono (T':=fun k=>k=O∨iv.ownBlock=some k) fun k _ h=>.inr h).trans (hF9.mono fun k _ h=>.inl h)
end
section
open Go.RowKit
structure Ls (w:World) (O:Nat) (lv:Value) (vs:List (Value×Value)) (subs:List Vx):Prop where
 row:FO 84 2 w (O+1) lv (vs.map fun p=>[p.1,p.2])
 num:vs.length=subs.length
 lie:∀ (i:Nat) (S:Vx) (p:Value×Value),subs[i]? = some S→vs[i]? = some p→Sq w (O+1) p.1 p.2 (sup S)
section
variable {w w':World} {O:Nat} {lv:Value} {vs:List (Value×Value)} {subs:List Vx}
theorem Ls.next (h:Ls w O lv vs subs) (hb:Below w.heap.size w w'):Ls w' O lv vs subs:=⟨h.row.next hb,h.num,fun i S p hS hp=>(h.lie i S p hS hp).next hb⟩
theorem Ls.fr {K:Nat→Prop} (h:Ls w O lv vs subs) (hf:Fr K w w') (h1:∀ g,lv.ownBlock=some g→¬ K g) (h2:∀ (i:Nat) (p:Value×Value),vs[i]? = some p→∀ g,p.1.ownBlock=some g∨p.2.ownBlock=some g→¬ K g):Ls w' O lv vs subs :=
 ⟨h.row.fr hf h1,h.num,fun i S p hS hp=>(h.lie i S p hS hp).fr hf (fun g hg=>h2 i p hp g (.inl hg)) (fun g hg=>h2 i p hp g (.inr hg))⟩
theorem Ls.each (h:Ls w O lv vs subs) {i:Nat} {p:Value×Value} (hp:vs[i]? = some p):∃ S,subs[i]? = some S∧Sq w (O+1) p.1 p.2 (sup S):=by
 have hl:i<subs.length:=by rw [←h.num]; exact (List.getElem?_eq_some_iff.1 hp).1
 exact ⟨_,List.getElem?_eq_getElem hl,h.lie i _ p (List.getElem?_eq_getElem hl) hp⟩
theorem Ls.out (h:Ls w O lv vs subs) {syms n:Nat} {iv fv av:Value} {ini fin:List Tw} {arcs:List Ac} (ho:Om w O syms n iv fv av ini fin arcs) (hf:Fr (OmB O iv fv av) w w'):Ls w' O lv vs subs:=by
 refine h.fr hf (fun g hg hk=>?_) (fun i p hp g hg hk=>?_)
 ·rcases hk with rfl | hk | hk | hk
  ·have:=(h.row.lt hg).1; omega
  ·exact own_ne' h.row ho.ini (by decide) g hg hk
  ·exact own_ne' h.row ho.fin (by decide) g hg hk
  ·exact own_ne' h.row ho.arcs (by decide) g hg hk
 ·obtain ⟨S,_,hS⟩:=h.each hp
  rcases hg with hg | hg
  ·rcases hk with rfl | hk | hk | hk
   ·have:=(hS.sts.lt hg).1; omega
   ·exact own_ne' hS.sts ho.ini (by decide) g hg hk
   ·exact own_ne' hS.sts ho.fin (by decide) g hg hk
   ·exact own_ne' hS.sts ho.arcs (by decide) g hg hk
  ·rcases hk with rfl | hk | hk | hk
   ·have:=(hS.rst.lt hg).1; omega
   ·exact own_ne' hS.rst ho.ini (by decide) g hg hk
   ·exact own_ne' hS.rst ho.fin (by decide) g hg hk
   ·exact own_ne' hS.rst ho.arcs (by decide) g hg hk
theorem Ls.get (h:Ls w O lv vs subs) {k:Nat} {S:Vx} (hk:subs[k]? = some S):∃ (lb lc:Nat) (so:Option Addr) (sc:Nat) (uo:Option Addr) (uc:Nat),lv=.slice (some ⟨lb,0,none⟩) subs.length lc ∧
  Cs w lb (0+k*2) [.slice so (sup S).length sc,.slice uo (sup S).length uc]∧Rs w so sc uo uc (sup S).length (sup S):=by
 have hl:k<vs.length:=by rw [h.num]; exact (List.getElem?_eq_some_iff.1 hk).1
 obtain ⟨p,hp⟩:∃ p,vs[k]? = some p:=⟨_,List.getElem?_eq_getElem hl⟩
 obtain ⟨so,sc,uo,uc,e1,e2,hR⟩:=(h.lie k S p hk hp).rs
 obtain ⟨lo,lc,hlv⟩:=h.row.form
 subst hlv
 have hfl:=fl_of h.row (by simp)
 rw [List.length_map] at hfl
 obtain ⟨p',hp',b,off,e3,hcs⟩:=hfl.get hl
 obtain rfl:p'=p:=Option.some.inj (hp'.symm.trans hp)
 rcases h.row.place with e | ⟨b',e⟩
 ·rw [e] at e3; cases e3
 ·rw [e] at e3
  injection e3 with e3; injection e3 with e3 e4
  subst e3 e4
  rw [e1,e2] at hcs
  exact ⟨b',lc,so,sc,uo,uc,by rw [List.length_map,h.num,e],hcs,hR⟩
theorem Ls.nil (w:World) (O:Nat):Ls w O (.slice none 0 0) [] []:=⟨FO.nil _ _ _ _,rfl,fun i S p h=>by simp at h⟩
theorem Ls.app {lv' sv rv:Value} {S:Vx} (h:Ls w O lv vs subs) (hr:FO 84 2 w (O+1) lv' ((vs.map fun p=>[p.1,p.2])++[[sv,rv]])) (hS:Sq w (O+1) sv rv (sup S)):Ls w O lv' (vs++[(sv,rv)]) (subs++[S]) :=
 ⟨by rw [List.map_append]; exact hr,by simp [h.num],fun i Q p hQ hp=>by
  by_cases hi:i<subs.length
  ·rw [List.getElem?_append_left hi] at hQ
   rw [List.getElem?_append_left (by rw [h.num]; exact hi)] at hp
   exact h.lie i Q p hQ hp
  ·rw [List.getElem?_append_right (by omega)] at hQ
   rw [List.getElem?_append_right (by rw [h.num]; omega),h.num] at hp
   obtain ⟨j,hj⟩:∃ j,i-subs.length=j:=⟨_,rfl⟩
   rw [hj] at hQ hp
   cases j with
   | zero=>simp at hQ hp; subst hQ hp; exact hS
   | succ j=>simp at hQ⟩
end
end
end Go.Proofs.YtnapapijhhldpaaGreatDoor

/-
  Texts joined by program: Tse, Tsf, Tsg, Tsh, Tsi. No condition of its own.
-/
import Derived.Test.YtnapapijhhldpaaGreatDoorJkBB
namespace Go.Proofs.YtnapapijhhldpaaGreatDoor
set_option linter.unusedSimpArgs false
set_option linter.unusedVariables false
set_option maxRecDepth 100000
set_option maxHeartbeats 4000000
section
open Go.RowKit
theorem q1w {P:Program} {w:World} {ops:Array Oper} {rest:List Oper} {o:Oper} {a:Act} {Q:EP} (hgd:o.guard=none) (s x:Operand) (t:TypeId)
  (ho:o.op=.call { callee:=.builtin .append,args:=#[s,x],argTypes:=#[t,t] }) (e:TypeId) (z:Value) (k bytes:Nat) (ht:P.underlying t=some (.slice e))
  (hinfo:(P.info? e).map (fun i=>(i.zero,i.size,i.bytes))=some (some z,k,bytes)) (hzs:z.cells.size=k) (hk:0<k)
  (base:Nat) (v:Value) (css:List (List Value)) (hs:a.eval s=v) (hown:FO e k w base v css)
  (b off m c:Nat) (new:List (List Value)) (hx:a.eval x=.slice (some ⟨b,off,none⟩) m c) (hm:new.length=m) (hm0:0<m) (hnk:∀ cs∈new,cs.length=k) (hnews:Cs w b off new.flatten) (h1:∀ cs∈new,∀ u∈cs,u.oneCell'=true)
  (hroom:(css.length+m)*bytes<=140737488355328) (hml:css.length+m<=9223372036854775807) (hbase:base<=w.heap.size)
  (h:∀ v' w',FO e k w' base v' (css++new)->w.grownBy w' v.ownBlock->Below base w w'->(v'.ownBlock=v.ownBlock\/v'.ownBlock=some w.heap.size)->wpList P ops Q rest (a.put o.dst v') w'):wpList P ops Q (o::rest) a w :=
 wpList_plain hgd fun _ hK=>jP s x t ho e z k bytes ht hinfo hzs hk base v css hs hown b off m c new hx hm hm0 hnk hnews h1 hroom hml hbase fun v' w' a b c d=>hK _ _ (h v' w' a b c d)
theorem j9a (O syms n:Nat) (iv fv av:Value) (ini fin:List Tw) (arcs:List Ac) (Z:Nat) (e:Tw) (w:World) (h:Om w O syms n iv fv av ini fin arcs) (hf:fin.length<=64) (hZ:Bl Z (twC e) 45 w)
  {c0 c1 c2 c3 c4 c5 c6 c8 c9 Aa Ab Ad Ae Af Ag Ah Ak Al Am An Ao Ap Aq Ar As Av Aw Ax Ay Az Ba Bb Bc Be Bf Bh Bi Bj Bk Bm Bn Bo Bp Bq Br Bs Bt Bu Bv Bw Bx By Bz Ca Cb Cc Cd Ce Cf Cg Ch Ci Cj Ck Cl Cm Cn Co Cp Cq Cr Ct Cu Cv Cw Cx Cy Cz Da Db Dc Dd De Df Dg Dh Di Dj Dk Dl Dn Dp Dq Dr Dt Du Dv Dw Dx Dy Dz Ea Eb Ec Ed Ee Ef Eg Eh Ei Ej Ek El Em En Eo Ep Eq Er Es Et Eu Ev Ew Ex Ey Ez Fa Fb Fc Fd Fe Ff Fg Fh Fi Fj Fk Fm Fn Fo Fp Fq Fs Ft Fu Fv Fw Fx Fy Fz Ga Gb Gc Gd Ge Gf Gg Gh Gi Gj Gk Gl Gm Gn Go Gp Gq Gr Gs Gt Gu Gv Gw Gx Gy Gz Ha Hb Hc Hd He Hf Hg Hh Hi Hj Hk Hl Hm Hn Ho Hp Hq Hr Hs Ht Hu Hv Hw Hx Hy Hz Ia Ib Ic Id Ie Ig Ih Ii Ij Ik Il Im Io Ip Iq Ir It Iu Iv Iw Ix Iy Iz Ja Jb Jc Jd Je Jf Jg Jh Ji Jj Jk Jl Jm Jn Jo Jp Jq Jr Js Jt Ju Jv Jw Jx Jy Jz Ka Kb Kc Kd Ke Kf Kg Kh Ki Kj Kk Kl Km Kn Ko Kp Kq Kr Ks Kt Ku Kv Kw Kx Kz La Lb Lc Ld Le Lf Lg Lh Li Lj Lk Ll Lm Ln Lo Lp Lq Lr Lt Lu Lv Lx Ly Lz Ma Mb Mc Md Me Mf Mg Mh:Value} {Q0:EP} (hpan:∀ c (a:Act) d v w,Q0 (.panic c) (a.put d v) w->Q0 (.panic c) a w)
  (hexit:∀ (Mi Mj Ml Mm Mn Mp:Value) (fv':Value) (w':World),Om w' O syms n iv fv' av ini (fin++[e]) arcs->Fr (fun k=>k=O\/fv.ownBlock=some k) w w'->Q0 .normal ⟨#[c0,c1,c2,c3,c4,c5,c6,.pointer (some ⟨O,0,none⟩),c8,c9,Aa,Ab,Ad,Ae,Af,.pointer (some ⟨Z,0,none⟩),Ag,Ah,Ak,Al,Am,An,Ao,Ap,Aq,Ar,As,Av,Aw,Ax,Ay,Az,Ba,Bb,Bc,Be,Bf,Bh,Bi,Bj,Bk,Bm,Bn,Bo,Bp,Bq,Br,Bs,Bt,Bu,Bv,Bw,Bx,By,Bz,Ca,Cb,Cc,Cd,Ce,Cf,Cg,Ch,Ci,Cj,Ck,Cl,Cm,Cn,Co,Cp,Cq,Cr,Ct,Cu,Cv,Cw,Cx,Cy,Cz,Da,Db,Dc,Dd,De,Df,Dg,Dh,Di,Dj,Dk,Dl,Dn,Dp,Dq,Dr,Dt,Du,Dv,Dw,Dx,Dy,Dz,Ea,Eb,Ec,Ed,Ee,Ef,Eg,Eh,Ei,Ej,Ek,El,Em,En,Eo,Ep,Eq,Er,Es,Et,Eu,Ev,Ew,Ex,Ey,Ez,Fa,Fb,Fc,Fd,Fe,Ff,Fg,Fh,Fi,Fj,Fk,Fm,Fn,Fo,Fp,Fq,Fs,Ft,Mi,Mj,Ml,Mm,Mn,Mp,Ga,Gb,Gc,Gd,Ge,Gf,Gg,Gh,Gi,Gj,Gk,Gl,Gm,Gn,Go,Gp,Gq,Gr,Gs,Gt,Gu,Gv,Gw,Gx,Gy,Gz,Ha,Hb,Hc,Hd,He,Hf,Hg,Hh,Hi,Hj,Hk,Hl,Hm,Hn,Ho,Hp,Hq,Hr,Hs,Ht,Hu,Hv,Hw,Hx,Hy,Hz,Ia,Ib,Ic,Id,Ie,Ig,Ih,Ii,Ij,Ik,Il,Im,Io,Ip,Iq,Ir,It,Iu,Iv,Iw,Ix,Iy,Iz,Ja,Jb,Jc,Jd,Je,Jf,Jg,Jh,Ji,Jj,Jk,Jl,Jm,Jn,Jo,Jp,Jq,Jr,Js,Jt,Ju,Jv,Jw,Jx,Jy,Jz,Ka,Kb,Kc,Kd,Ke,Kf,Kg,Kh,Ki,Kj,Kk,Kl,Km,Kn,Ko,Kp,Kq,Kr,Ks,Kt,Ku,Kv,Kw,Kx,Kz,La,Lb,Lc,Ld,Le,Lf,Lg,Lh,Li,Lj,Lk,Ll,Lm,Ln,Lo,Lp,Lq,Lr,Lt,Lu,Lv,Lx,Ly,Lz,Ma,Mb,Mc,Md,Me,Mf,Mg,Mh],[]⟩ w') :
  Code.wp Tryz.prog (eR 27) Q0 ⟨#[c0,c1,c2,c3,c4,c5,c6,.pointer (some ⟨O,0,none⟩),c8,c9,Aa,Ab,Ad,Ae,Af,.pointer (some ⟨Z,0,none⟩),Ag,Ah,Ak,Al,Am,An,Ao,Ap,Aq,Ar,As,Av,Aw,Ax,Ay,Az,Ba,Bb,Bc,Be,Bf,Bh,Bi,Bj,Bk,Bm,Bn,Bo,Bp,Bq,Br,Bs,Bt,Bu,Bv,Bw,Bx,By,Bz,Ca,Cb,Cc,Cd,Ce,Cf,Cg,Ch,Ci,Cj,Ck,Cl,Cm,Cn,Co,Cp,Cq,Cr,Ct,Cu,Cv,Cw,Cx,Cy,Cz,Da,Db,Dc,Dd,De,Df,Dg,Dh,Di,Dj,Dk,Dl,Dn,Dp,Dq,Dr,Dt,Du,Dv,Dw,Dx,Dy,Dz,Ea,Eb,Ec,Ed,Ee,Ef,Eg,Eh,Ei,Ej,Ek,El,Em,En,Eo,Ep,Eq,Er,Es,Et,Eu,Ev,Ew,Ex,Ey,Ez,Fa,Fb,Fc,Fd,Fe,Ff,Fg,Fh,Fi,Fj,Fk,Fm,Fn,Fo,Fp,Fq,Fs,Ft,Fu,Fv,Fw,Fx,Fy,Fz,Ga,Gb,Gc,Gd,Ge,Gf,Gg,Gh,Gi,Gj,Gk,Gl,Gm,Gn,Go,Gp,Gq,Gr,Gs,Gt,Gu,Gv,Gw,Gx,Gy,Gz,Ha,Hb,Hc,Hd,He,Hf,Hg,Hh,Hi,Hj,Hk,Hl,Hm,Hn,Ho,Hp,Hq,Hr,Hs,Ht,Hu,Hv,Hw,Hx,Hy,Hz,Ia,Ib,Ic,Id,Ie,Ig,Ih,Ii,Ij,Ik,Il,Im,Io,Ip,Iq,Ir,It,Iu,Iv,Iw,Ix,Iy,Iz,Ja,Jb,Jc,Jd,Je,Jf,Jg,Jh,Ji,Jj,Jk,Jl,Jm,Jn,Jo,Jp,Jq,Jr,Js,Jt,Ju,Jv,Jw,Jx,Jy,Jz,Ka,Kb,Kc,Kd,Ke,Kf,Kg,Kh,Ki,Kj,Kk,Kl,Km,Kn,Ko,Kp,Kq,Kr,Ks,Kt,Ku,Kv,Kw,Kx,Kz,La,Lb,Lc,Ld,Le,Lf,Lg,Lh,Li,Lj,Lk,Ll,Lm,Ln,Lo,Lp,Lq,Lr,Lt,Lu,Lv,Lx,Ly,Lz,Ma,Mb,Mc,Md,Me,Mf,Mg,Mh],[]⟩ w:=by
 conv=>arg 2; whnf
 have y5:=h.blk.cell (i:=5) rfl
 have hbN:Below w.heap.size w (w.alloc (.cells (twC e).toArray 45)):=qJ _
 have hnew:=Cs.fresh w (twC e) 45
 have hlit:(twC e)=twC e:=by rfl
 have h3:=h.next hbN
 have hexit:=hid hexit
 have hZc:=hZ.cs
 go_wp2_with (first | ((with_reducible refine jB rfl _ rfl Z 0 ?_ e hZc ?_); exact rfl) | (at_builtin; refine q1w rfl (.tmp 148) (.tmp 150) 27 rfl 45 (.agg #[.bool false,.slice none 0 0,.slice none 0 0,.int .i64 0,.bool false,.int .u64 0,.slice none 0 0,.slice none 0 0]) 8 128 Tryz.underlying27 Tryz.infoTw rfl (by decide) (O+1) fv _ rfl h3.fin w.heap.size 0 1 1 [(twC e)] rfl rfl (by decide) (by intro cs hc; rw [List.mem_singleton.1 hc]; rfl) (by simp only [List.flatten_cons,List.flatten_nil,List.append_nil]; exact hnew) (by rw [hlit]; exact zG [e]) (by rw [List.length_map]; omega) (by rw [List.length_map]; omega) h3.blk.lt ?_; intro v5 w5 hv5 hg5 hb5 ho5; have hO5:=h3.blk.under hb5 (Nat.lt_succ_self _); obtain ⟨ai,ki,rfl⟩:=hv5.form; have z5f:=hO5.free 5; have z5:=hO5.cell (i:=5) rfl))
 simp only [List.length_append,List.length_map,List.length_cons,List.length_nil,Nat.zero_add] at hv5 ho5 ⊢
 try rw [hlit] at hv5
 have hF5:=qS (T:=fun k=>fv.ownBlock=some k) hg5 fun g hg=>hg
 have hF9:Fr (fun k=>k=O) w5 (w5.setCell ⟨O,5,none⟩ (.slice ai (fin.length+1) ki)):=Fr.set (T:=fun k=>k=O) w5 (p:=⟨O,5,none⟩) rfl _
 have ho:FO 45 8 w5 (O+1) iv (ini.map twC):=(h3.ini).fr hF5 (fun g hg hg'=>h.ne g hg hg')
 have ha:FO 54 11 w5 (O+1) av (arcs.map acC):=h3.arcs.fr hF5 (fun g hg hg'=>jK h3.fin h3.arcs (by decide) g hg' hg)
 have hr:∀ g,iv.ownBlock=some g->(Value.slice ai (fin.length+1) ki).ownBlock≠some g:=fun g hg hg'=>by
  rcases ho5 with e1 | e1
  ·rw [e1] at hg'; exact h.ne g hg hg'
  ·have e2:=Option.some.inj (e1.symm.trans hg')
   have e3:=(h.ini.lt hg).2
   simp at e2
   omega
 refine hexit.out _ _ _ _ _ _ (.slice ai (fin.length+1) ki) _ ?_ ?_
 ·refine ⟨hO5.put 5 _,ho.fr hF9 (fun g hg e=>by have:=(ho.lt hg).1; omega),by rw [List.map_append]; exact hv5.fr hF9 (fun g hg e=>by have:=(hv5.lt hg).1; omega),ha.fr hF9 (fun g hg e=>by have:=(ha.lt hg).1; omega),hr⟩
 ·exact (((qH hbN _).trans hF5).mono (T':=fun k=>k=O\/fv.ownBlock=some k) fun k _ h=>.inr h).trans (hF9.mono fun k _ h=>.inl h)
theorem j8z (O syms n:Nat) (iv fv av:Value) (ini fin:List Tw) (arcs:List Ac) (w:World) (h:Om w O syms n iv fv av ini fin arcs) (hf:ini.length<=64)
  {c0 c1 c2 c3 c4 c5 c6 c8 c9 Aa Ab Ad Ae Af Ag Ah Ak Al Am An Ao Ap Aq Ar As Av Aw Ax Ay Az Ba Bb Bc Be Bf Bh Bi Bj Bk Bm Bn Bo Bp Bq Br Bs Bt Bu Bv Bw Bx By Bz Ca Cb Cc Cd Ce Cf Cg Ch Ci Cj Ck Cl Cm Cn Co Cp Cq Cr Ct Cu Cv Cw Cx Cy Cz Da Db Dc Dd De Df Dg Dh Di Dj Dk Dl Dn Dp Dq Dr Dt Du Dv Dw Dx Dy Dz Ea Eb Ec Ed Ee Ef Eg Eh Ei Ej Ek El Em En Eo Ep Eq Er Es Et Eu Ev Ew Ex Ey Ez Fa Fb Fc Fd Fe Ff Fg Fh Fi Fj Fk Fm Fn Fo Fp Fq Fs Ft Fu Fv Fw Fx Fy Fz Ga Gb Gc Gd Ge Gf Gg Gh Gi Gj Gk Gl Gm Gn Go Gp Gq Gr Gs Gt Gu Gv Gw Gx Gy Gz Ha Hb Hc Hd He Hf Hg Hh Hi Hj Hk Hl Hm Hn Ho Hp Hq Hr Hs Ht Hu Hv Hw Hx Hy Hz Ia Ib Ic Id Ie Ig Ih Ii Ij Ik Il Im Io Ip Iq Ir It Iu Iv Iw Ix Iy Iz Ja Jb Jc Jd Je Jf Jg Jh Ji Jj Jk Jl Jm Jn Jo Jp Jq Jr Js Jt Ju Jv Jw Jx Jy Jz Ka Kb Kc Kd Ke Kf Kg Kh Ki Kj Kk Kl Km Kn Ko Kp Kq Kr Ks Kt Ku Kv Kw Kx Kz La Lb Lc Ld Le Lf Lg Lh Li Lj Lk Ll Lm Ln Lo Lp Lq Lr Lt Lu Lv Lx Ly Lz Ma Mb Mc Md Me Mf Mg Mh Mi:Value} {Q0:EP} (hpan:∀ c (a:Act) d v w,Q0 (.panic c) (a.put d v) w->Q0 (.panic c) a w)
  (hexit:∀ (Mj Ml Mm Mn Mp Mq:Value) (iv':Value) (w':World),Om w' O syms n iv' fv av (ini++[none]) fin arcs->Fr (fun k=>k=O\/iv.ownBlock=some k) w w'->Q0 .normal ⟨#[c0,c1,c2,c3,c4,c5,c6,.pointer (some ⟨O,0,none⟩),c8,c9,Aa,Ab,Ad,Ae,Af,Ag,Ah,Ak,Al,Am,An,Ao,Ap,Aq,Ar,As,Av,Aw,Ax,Ay,Az,Ba,Bb,Bc,Be,Bf,Bh,Bi,Bj,Bk,Bm,Bn,Bo,Bp,Bq,Br,Bs,Bt,Bu,Bv,Bw,Bx,By,Bz,Ca,Cb,Cc,Cd,Ce,Cf,Cg,Ch,Ci,Cj,Ck,Cl,Cm,Cn,Co,Cp,Cq,Cr,Ct,Cu,Cv,Cw,Cx,Cy,Cz,Da,Db,Dc,Dd,De,Df,Dg,Dh,Di,Dj,Dk,Dl,Dn,Dp,Dq,Dr,Dt,Du,Dv,Dw,Dx,Dy,Dz,Ea,Eb,Ec,Ed,Ee,Ef,Eg,Eh,Ei,Ej,Ek,El,Em,En,Eo,Ep,Eq,Er,Es,Et,Eu,Ev,Ew,Ex,Ey,Ez,Fa,Fb,Fc,Fd,Fe,Ff,Fg,Fh,Fi,Fj,Fk,Fm,Fn,Fo,Fp,Fq,Fs,Ft,Fu,Fv,Fw,Fx,Fy,Fz,Ga,Gb,Gc,Gd,Ge,Gf,Gg,Gh,Gi,Gj,Gk,Gl,Gm,Gn,Go,Gp,Gq,Gr,Gs,Gt,Gu,Gv,Gw,Gx,Gy,Gz,Ha,Hb,Hc,Hd,He,Hf,Hg,Hh,Hi,Hj,Hk,Hl,Hm,Hn,Ho,Hp,Hq,Hr,Hs,Ht,Hu,Hv,Hw,Hx,Hy,Hz,Ia,Ib,Ic,Id,Ie,Ig,Ih,Ii,Ij,Ik,Il,Im,Io,Ip,Iq,Ir,It,Iu,Iv,Iw,Ix,Iy,Iz,Ja,Jb,Jc,Jd,Je,Jf,Jg,Jh,Ji,Jj,Jk,Jl,Jm,Jn,Jo,Jp,Jq,Jr,Js,Jt,Ju,Jv,Jw,Jx,Jy,Jz,Ka,Kb,Kc,Kd,Ke,Kf,Kg,Kh,Ki,Kj,Kk,Kl,Km,Mj,Ml,Mm,Mn,Mp,Mq,Kt,Ku,Kv,Kw,Kx,Kz,La,Lb,Lc,Ld,Le,Lf,Lg,Lh,Li,Lj,Lk,Ll,Lm,Ln,Lo,Lp,Lq,Lr,Lt,Lu,Lv,Lx,Ly,Lz,Ma,Mb,Mc,Md,Me,Mf,Mg,Mh,Mi],[]⟩ w') :
  Code.wp Tryz.prog (eR 49) Q0 ⟨#[c0,c1,c2,c3,c4,c5,c6,.pointer (some ⟨O,0,none⟩),c8,c9,Aa,Ab,Ad,Ae,Af,Ag,Ah,Ak,Al,Am,An,Ao,Ap,Aq,Ar,As,Av,Aw,Ax,Ay,Az,Ba,Bb,Bc,Be,Bf,Bh,Bi,Bj,Bk,Bm,Bn,Bo,Bp,Bq,Br,Bs,Bt,Bu,Bv,Bw,Bx,By,Bz,Ca,Cb,Cc,Cd,Ce,Cf,Cg,Ch,Ci,Cj,Ck,Cl,Cm,Cn,Co,Cp,Cq,Cr,Ct,Cu,Cv,Cw,Cx,Cy,Cz,Da,Db,Dc,Dd,De,Df,Dg,Dh,Di,Dj,Dk,Dl,Dn,Dp,Dq,Dr,Dt,Du,Dv,Dw,Dx,Dy,Dz,Ea,Eb,Ec,Ed,Ee,Ef,Eg,Eh,Ei,Ej,Ek,El,Em,En,Eo,Ep,Eq,Er,Es,Et,Eu,Ev,Ew,Ex,Ey,Ez,Fa,Fb,Fc,Fd,Fe,Ff,Fg,Fh,Fi,Fj,Fk,Fm,Fn,Fo,Fp,Fq,Fs,Ft,Fu,Fv,Fw,Fx,Fy,Fz,Ga,Gb,Gc,Gd,Ge,Gf,Gg,Gh,Gi,Gj,Gk,Gl,Gm,Gn,Go,Gp,Gq,Gr,Gs,Gt,Gu,Gv,Gw,Gx,Gy,Gz,Ha,Hb,Hc,Hd,He,Hf,Hg,Hh,Hi,Hj,Hk,Hl,Hm,Hn,Ho,Hp,Hq,Hr,Hs,Ht,Hu,Hv,Hw,Hx,Hy,Hz,Ia,Ib,Ic,Id,Ie,Ig,Ih,Ii,Ij,Ik,Il,Im,Io,Ip,Iq,Ir,It,Iu,Iv,Iw,Ix,Iy,Iz,Ja,Jb,Jc,Jd,Je,Jf,Jg,Jh,Ji,Jj,Jk,Jl,Jm,Jn,Jo,Jp,Jq,Jr,Js,Jt,Ju,Jv,Jw,Jx,Jy,Jz,Ka,Kb,Kc,Kd,Ke,Kf,Kg,Kh,Ki,Kj,Kk,Kl,Km,Kn,Ko,Kp,Kq,Kr,Ks,Kt,Ku,Kv,Kw,Kx,Kz,La,Lb,Lc,Ld,Le,Lf,Lg,Lh,Li,Lj,Lk,Ll,Lm,Ln,Lo,Lp,Lq,Lr,Lt,Lu,Lv,Lx,Ly,Lz,Ma,Mb,Mc,Md,Me,Mf,Mg,Mh,Mi],[]⟩ w:=by
 conv=>arg 2; whnf
 have y5:=h.blk.cell (i:=4) rfl
 have hbN:Below w.heap.size w (w.alloc (.cells [.bool false,.slice none 0 0,.slice none 0 0,.int .i64 0,.bool true,.int .u64 0,.slice none 0 0,.slice none 0 0].toArray 45)):=qJ _
 have hnew:=Cs.fresh w [.bool false,.slice none 0 0,.slice none 0 0,.int .i64 0,.bool true,.int .u64 0,.slice none 0 0,.slice none 0 0] 45
 have hlit:[.bool false,.slice none 0 0,.slice none 0 0,.int .i64 0,.bool true,.int .u64 0,.slice none 0 0,.slice none 0 0]=twC none:=by rfl
 have h3:=h.next hbN
 have hexit:=hid hexit
 go_wp2_with (first | (at_builtin; refine q1w rfl (.tmp 267) (.tmp 269) 27 rfl 45 (.agg #[.bool false,.slice none 0 0,.slice none 0 0,.int .i64 0,.bool false,.int .u64 0,.slice none 0 0,.slice none 0 0]) 8 128 Tryz.underlying27 Tryz.infoTw rfl (by decide) (O+1) iv _ rfl h3.ini w.heap.size 0 1 1 [[.bool false,.slice none 0 0,.slice none 0 0,.int .i64 0,.bool true,.int .u64 0,.slice none 0 0,.slice none 0 0]] rfl rfl (by decide) (by intro cs hc; rw [List.mem_singleton.1 hc]; rfl) (by simp only [List.flatten_cons,List.flatten_nil,List.append_nil]; exact hnew) (by rw [hlit]; exact zG [none]) (by rw [List.length_map]; omega) (by rw [List.length_map]; omega) h3.blk.lt ?_; intro v5 w5 hv5 hg5 hb5 ho5; have hO5:=h3.blk.under hb5 (Nat.lt_succ_self _); obtain ⟨ai,ki,rfl⟩:=hv5.form; have z5f:=hO5.free 4; have z5:=hO5.cell (i:=4) rfl))
 simp only [List.length_append,List.length_map,List.length_cons,List.length_nil,Nat.zero_add] at hv5 ho5 ⊢
 try rw [hlit] at hv5
 have hF5:=qS (T:=fun k=>iv.ownBlock=some k) hg5 fun g hg=>hg
 have hF9:Fr (fun k=>k=O) w5 (w5.setCell ⟨O,4,none⟩ (.slice ai (ini.length+1) ki)):=Fr.set (T:=fun k=>k=O) w5 (p:=⟨O,4,none⟩) rfl _
 have ho:FO 45 8 w5 (O+1) fv (fin.map twC):=(h3.fin).fr hF5 (fun g hg hg'=>h.ne g hg' hg)
 have ha:FO 54 11 w5 (O+1) av (arcs.map acC):=h3.arcs.fr hF5 (fun g hg hg'=>jK h3.ini h3.arcs (by decide) g hg' hg)
 have hr:∀ g,fv.ownBlock=some g->(Value.slice ai (ini.length+1) ki).ownBlock≠some g:=fun g hg hg'=>by
  rcases ho5 with e1 | e1
  ·rw [e1] at hg'; exact h.ne g hg' hg
  ·have e2:=Option.some.inj (e1.symm.trans hg')
   have e3:=(h.fin.lt hg).2
   simp at e2
   omega
 refine hexit.out _ _ _ _ _ _ (.slice ai (ini.length+1) ki) _ ?_ ?_
 ·refine ⟨hO5.put 4 _,by rw [List.map_append]; exact hv5.fr hF9 (fun g hg e=>by have:=(hv5.lt hg).1; omega),ho.fr hF9 (fun g hg e=>by have:=(ho.lt hg).1; omega),ha.fr hF9 (fun g hg e=>by have:=(ha.lt hg).1; omega),fun g hg hg'=>hr g hg' hg⟩
 ·exact (((qH hbN _).trans hF5).mono (T':=fun k=>k=O\/iv.ownBlock=some k) fun k _ h=>.inr h).trans (hF9.mono fun k _ h=>.inl h)
end
section
open Go.RowKit
structure Ls (w:World) (O:Nat) (lv:Value) (vs:List (Value×Value)) (subs:List Vx):Prop where
 row:FO 84 2 w (O+1) lv (vs.map fun p=>[p.1,p.2])
 num:vs.length=subs.length
 lie:∀ (i:Nat) (S:Vx) (p:Value×Value),subs[i]? = some S->vs[i]? = some p->Sq w (O+1) p.1 p.2 (sup S)
section
variable {w w':World} {O:Nat} {lv:Value} {vs:List (Value×Value)} {subs:List Vx}
theorem Ls.next (h:Ls w O lv vs subs) (hb:Below w.heap.size w w'):Ls w' O lv vs subs:=⟨h.row.next hb,h.num,fun i S p hS hp=>(h.lie i S p hS hp).next hb⟩
theorem Ls.fr {K:Nat->Prop} (h:Ls w O lv vs subs) (hf:Fr K w w') (h1:∀ g,lv.ownBlock=some g->¬ K g) (h2:∀ (i:Nat) (p:Value×Value),vs[i]? = some p->∀ g,p.1.ownBlock=some g\/p.2.ownBlock=some g->¬ K g):Ls w' O lv vs subs :=
 ⟨h.row.fr hf h1,h.num,fun i S p hS hp=>(h.lie i S p hS hp).fr hf (fun g hg=>h2 i p hp g (.inl hg)) (fun g hg=>h2 i p hp g (.inr hg))⟩
theorem Ls.each (h:Ls w O lv vs subs) {i:Nat} {p:Value×Value} (hp:vs[i]? = some p):∃ S,subs[i]? = some S/\Sq w (O+1) p.1 p.2 (sup S):=by
 have hl:i<subs.length:=by rw [<-h.num]; exact (List.getElem?_eq_some_iff.1 hp).1
 exact ⟨_,List.getElem?_eq_getElem hl,h.lie i _ p (List.getElem?_eq_getElem hl) hp⟩
theorem Ls.out (h:Ls w O lv vs subs) {syms n:Nat} {iv fv av:Value} {ini fin:List Tw} {arcs:List Ac} (ho:Om w O syms n iv fv av ini fin arcs) (hf:Fr (OmB O iv fv av) w w'):Ls w' O lv vs subs:=by
 refine h.fr hf (fun g hg hk=>?_) (fun i p hp g hg hk=>?_)
 ·rcases hk with rfl | hk | hk | hk
  ·have:=(h.row.lt hg).1; omega
  ·exact jK h.row ho.ini (by decide) g hg hk
  ·exact jK h.row ho.fin (by decide) g hg hk
  ·exact jK h.row ho.arcs (by decide) g hg hk
 ·obtain ⟨S,_,hS⟩:=h.each hp
  rcases hg with hg | hg
  ·rcases hk with rfl | hk | hk | hk
   ·have:=(hS.sts.lt hg).1; omega
   ·exact jK hS.sts ho.ini (by decide) g hg hk
   ·exact jK hS.sts ho.fin (by decide) g hg hk
   ·exact jK hS.sts ho.arcs (by decide) g hg hk
  ·rcases hk with rfl | hk | hk | hk
   ·have:=(hS.rst.lt hg).1; omega
   ·exact jK hS.rst ho.ini (by decide) g hg hk
   ·exact jK hS.rst ho.fin (by decide) g hg hk
   ·exact jK hS.rst ho.arcs (by decide) g hg hk
theorem Ls.get (h:Ls w O lv vs subs) {k:Nat} {S:Vx} (hk:subs[k]? = some S):∃ (lb lc:Nat) (so:OA) (sc:Nat) (uo:OA) (uc:Nat),lv=.slice (some ⟨lb,0,none⟩) subs.length lc /\
  Cs w lb (0+k*2) [.slice so (sup S).length sc,.slice uo (sup S).length uc]/\Rs w so sc uo uc (sup S).length (sup S):=by
 have hl:k<vs.length:=by rw [h.num]; exact (List.getElem?_eq_some_iff.1 hk).1
 obtain ⟨p,hp⟩:∃ p,vs[k]? = some p:=⟨_,List.getElem?_eq_getElem hl⟩
 obtain ⟨so,sc,uo,uc,e1,e2,hR⟩:=(h.lie k S p hk hp).rs
 obtain ⟨lo,lc,hlv⟩:=h.row.form
 subst hlv
 have hfl:=kG h.row (by simp)
 rw [List.length_map] at hfl
 obtain ⟨p',hp',b,off,e3,hcs⟩:=hfl.get hl
 obtain rfl:p'=p:=Option.some.inj (hp'.symm.trans hp)
 rcases h.row.place with e | ⟨b',e⟩
 ·rw [e] at e3; cases e3
 ·rw [e] at e3
  injection e3 with e3; injection e3 with e3 e4
  subst e3 e4
  rw [e1,e2] at hcs
  exact ⟨b',lc,so,sc,uo,uc,by rw [List.length_map,h.num,e],hcs,hR⟩
theorem Ls.nil (w:World) (O:Nat):Ls w O (.slice none 0 0) [] []:=⟨FO.nil _ _ _ _,rfl,fun i S p h=>by simp at h⟩
theorem Ls.app {lv' sv rv:Value} {S:Vx} (h:Ls w O lv vs subs) (hr:FO 84 2 w (O+1) lv' ((vs.map fun p=>[p.1,p.2])++[[sv,rv]])) (hS:Sq w (O+1) sv rv (sup S)):Ls w O lv' (vs++[(sv,rv)]) (subs++[S]) :=
 ⟨by rw [List.map_append]; exact hr,by simp [h.num],fun i Q p hQ hp=>by
  by_cases hi:i<subs.length
  ·rw [List.getElem?_append_left hi] at hQ
   rw [List.getElem?_append_left (by rw [h.num]; exact hi)] at hp
   exact h.lie i Q p hQ hp
  ·rw [List.getElem?_append_right (by omega)] at hQ
   rw [List.getElem?_append_right (by rw [h.num]; omega),h.num] at hp
   obtain ⟨j,hj⟩:∃ j,i-subs.length=j:=⟨_,rfl⟩
   rw [hj] at hQ hp
   cases j with
   | zero=>simp at hQ hp; subst hQ hp; exact hS
   | succ j=>simp at hQ⟩
end
end
section
open Go.RowKit
theorem q3n {dst:Option Tmp} {ty:TypeId} {pos:String} {after:Array Edge} {guard:Option (Nat×Bool)} {x:Operand} {a:Act} {w:World}
  (b off:Nat) (hx:a.eval x=.pointer (some ⟨b,off,none⟩)) (y z:Value) (hc:Cs w b off [y,z]):(execOp a.eval ⟨dst,.load 84 x,ty,pos,after,guard⟩).run Tryz.prog w=.ok (.value (.agg #[y,z])) w :=
 kZ _ x rfl b off hx [y,z] hc _ Tryz.underlying84 rfl Tryz.sizeSub
theorem q4g {S:Vx} {q r:Nat}:(q,r)∈sup S↔S[q]? = some (some r):=by
 unfold sup q0z
 rw [List.mem_filterMap]
 constructor
 ·rintro ⟨k,hk,e⟩
  cases h:S.getD k none with
  | none=>rw [h] at e; cases e
  | some u =>
   rw [h] at e
   injection e with e; injection e with e1 e2
   subst e1 e2
   rw [List.getD_eq_getElem?_getD] at h
   cases h2:S[k]? with
   | none=>rw [h2] at h; cases h
   | some o=>rw [h2] at h; exact congrArg some h
 ·intro h
  refine ⟨q,List.mem_range.2 (List.getElem?_eq_some_iff.1 h).1,?_⟩
  rw [List.getD_eq_getElem?_getD,h]; rfl
theorem z1v {S U:Vx} (hl:S.length=U.length) (h:sup S=sup U):S=U:=by
 refine List.ext_getElem? fun q=>?_
 have key:∀ r,S[q]? = some (some r)↔U[q]? = some (some r):=fun r=>by rw [<-q4g,<-q4g,h]
 by_cases hq:q<S.length
 ·obtain ⟨o,ho⟩:∃ o,S[q]? = some o:=⟨_,List.getElem?_eq_getElem hq⟩
  obtain ⟨v,hv⟩:∃ v,U[q]? = some v:=⟨_,List.getElem?_eq_getElem (by omega)⟩
  cases o with
  | some r=>rw [ho,(key r).1 ho]
  | none =>
   cases v with
   | none=>rw [ho,hv]
   | some r=>rw [(key r).2 hv] at ho; cases ho
 ·rw [List.getElem?_eq_none (by omega),List.getElem?_eq_none (by omega)]
theorem z2i (lb nn lc Y O st:Nat) (vs:List (Value×Value)) (subs:List Vx) (nx:Vx) (to_:OA) (tc_:Nat) (vo:OA) (vc pm:Nat) (w:World) (hL:Ls w O (.slice (some ⟨lb,0,none⟩) nn lc) vs subs) (hn:subs.length=nn) (hn6:nn<=65) (hst:st<=64) (hlen:Hid (∀ S∈subs,S.length=st)) (hnx:Hid (nx.length=st)) (hpm:(sup nx).length=pm) (hY:Bl Y [.slice to_ pm tc_,.slice vo pm vc] 84 w) (hR:Rs w to_ tc_ vo vc pm (sup nx))
  {c0 c1 c2 c3 c4 c5 c6 c7 c8 c9 Aa Ab Ad Ae Af Ag Ah Ak Al Am An Ao Ap Aq Ar As Av Aw Ax Ay Az Ba Bb Bc Be Bf Bh Bi Bj Bk Bm Bn Bo Bp Bq Br Bs Bt Bu Bv Bw Bx By Bz Ca Cb Cc Cd Ce Cf Cg Ch Ci Cj Ck Cl Cm Cn Co Cp Cq Cr Ct Cu Cv Cw Cx Cy Cz Da Db Dc Dd De Df Dg Dh Di Dj Dk Dl Dn Dp Dq Dr Dt Du Dv Dw Dx Dy Dz Ea Eb Ec Ed Ee Ef Eg Eh Ei Ej Ek El Em En Eo Ep Eq Er Es Et Eu Ev Ew Ex Ey Ez Fa Fb Fc Fd Fe Ff Fg Fh Fi Fj Fk Fm Fn Fo Fp Fq Fs Ft Fu Fv Fw Fx Fy Fz Ga Gb Gc Gd Ge Gf Gg Gh Gi Gj Gk Gl Gm Gn Go Gp Gq Gr Gs Gt Gu Gv Gw Gx Gy Gz Ha Hb Hc Hd He Hf Hg Hh Hi Hj Hk Hl Hm Hn Ho Hp Hq Hr Hs Ht Hu Hv Hw Hx Hy Hz Ia Ib Ic Id Ie Ig Ih Ii Ij Ik Il Im Io Ip Iq Ir It Iu Iv Iw Ix Iy Iz Ja Jb Jc Jd Je Jf Jg Jh Ji Jj Jk Jl Jm Jn Jo Jp Jq Jr Js Jt Ju Jv Jw Jx Jy Jz Ka Kb Kc Kd Ke Kf Kg Kh Ki Kj Kk Kl Km Kn Ko Kp Kq Kr Ks Kt Ku Kv Kw Kx Kz La Lb Lc Ld Le Lf Lg Lh Li Lj Lk Ll Lm Ln Lo Lp Lq Lr Lt Lu Lv Lx Ly Lz Ma Mb Mc Md Me Mf:Value} {Q0:EP} (hpan:∀ c (a:Act) d v w,Q0 (.panic c) (a.put d v) w->Q0 (.panic c) a w)
  (hexit:∀ (Mg Mh Mi Mj Ml Mm Mn Mp Mq Mr Ms Mt Mu Mw Mx:Value) (f:Nat) (w':World),Hid ((subs.findIdx? (· == nx)).getD nn=f)->f<=nn->Below w.heap.size w w'->Q0 .normal ⟨#[c0,c1,c2,c3,c4,c5,c6,c7,c8,c9,Aa,Ab,Ad,.slice (some ⟨lb,0,none⟩) nn lc,Ae,Af,Ag,Ah,Ak,Al,Am,An,Ao,Ap,.pointer (some ⟨Y,0,none⟩),Aq,Ar,.int .i64 (f:Int),As,Av,Aw,Ax,Ay,Az,Ba,Bb,Bc,Be,Bf,Bh,Bi,Bj,Bk,Bm,Bn,Bo,Bp,Bq,Br,Bs,Bt,Bu,Bv,Bw,Bx,By,Bz,Ca,Cb,Cc,Cd,Ce,Cf,Cg,Ch,Ci,Cj,Ck,Cl,Cm,Cn,Co,Cp,Cq,Cr,Ct,Cu,Cv,Cw,Cx,Cy,Cz,Da,Db,Dc,Dd,De,Df,Dg,Dh,Di,Dj,Dk,Dl,Dn,Dp,Dq,Dr,Dt,Du,Dv,Dw,Dx,Dy,Dz,Ea,Eb,Ec,Ed,Ee,Ef,Eg,Eh,Ei,Ej,Ek,El,Em,En,Eo,Ep,Eq,Er,Es,Et,Eu,Ev,Ew,Ex,Ey,Ez,Fa,Fb,Fc,Fd,Fe,Ff,Fg,Fh,Fi,Fj,Fk,Fm,Fn,Fo,Fp,Fq,Fs,Ft,Fu,Fv,Fw,Fx,Fy,Fz,Ga,Gb,Gc,Gd,Ge,Gf,Gg,Gh,Gi,Gj,Gk,Gl,Gm,Gn,Go,Gp,Gq,Gr,Gs,Gt,Gu,Gv,Gw,Gx,Gy,Gz,Ha,Hb,Hc,Hd,He,Hf,Hg,Hh,Hi,Hj,Hk,Hl,Hm,Hn,Ho,Hp,Hq,Hr,Hs,Ht,Hu,Hv,Hw,Hx,Hy,Hz,Ia,Ib,Ic,Id,Ie,Ig,Ih,Ii,Ij,Ik,Il,Im,Io,Ip,Iq,Ir,It,Iu,Iv,Iw,Ix,Iy,Iz,Ja,Jb,Jc,Jd,Je,Jf,Jg,Jh,Ji,Jj,Jk,Jl,Jm,Mg,Mh,Mi,Mj,Ml,Mm,Mn,Mp,Mq,Mr,Ms,Mt,Mu,Mw,Mx,Kc,Kd,Ke,Kf,Kg,Kh,Ki,Kj,Kk,Kl,Km,Kn,Ko,Kp,Kq,Kr,Ks,Kt,Ku,Kv,Kw,Kx,Kz,La,Lb,Lc,Ld,Le,Lf,Lg,Lh,Li,Lj,Lk,Ll,Lm,Ln,Lo,Lp,Lq,Lr,Lt,Lu,Lv,Lx,Ly,Lz,Ma,Mb,Mc,Md,Me,Mf],[]⟩ w') :
  Code.wp Tryz.prog (eB 12) Q0 ⟨#[c0,c1,c2,c3,c4,c5,c6,c7,c8,c9,Aa,Ab,Ad,.slice (some ⟨lb,0,none⟩) nn lc,Ae,Af,Ag,Ah,Ak,Al,Am,An,Ao,Ap,.pointer (some ⟨Y,0,none⟩),Aq,Ar,.int .i64 0,As,Av,Aw,Ax,Ay,Az,Ba,Bb,Bc,Be,Bf,Bh,Bi,Bj,Bk,Bm,Bn,Bo,Bp,Bq,Br,Bs,Bt,Bu,Bv,Bw,Bx,By,Bz,Ca,Cb,Cc,Cd,Ce,Cf,Cg,Ch,Ci,Cj,Ck,Cl,Cm,Cn,Co,Cp,Cq,Cr,Ct,Cu,Cv,Cw,Cx,Cy,Cz,Da,Db,Dc,Dd,De,Df,Dg,Dh,Di,Dj,Dk,Dl,Dn,Dp,Dq,Dr,Dt,Du,Dv,Dw,Dx,Dy,Dz,Ea,Eb,Ec,Ed,Ee,Ef,Eg,Eh,Ei,Ej,Ek,El,Em,En,Eo,Ep,Eq,Er,Es,Et,Eu,Ev,Ew,Ex,Ey,Ez,Fa,Fb,Fc,Fd,Fe,Ff,Fg,Fh,Fi,Fj,Fk,Fm,Fn,Fo,Fp,Fq,Fs,Ft,Fu,Fv,Fw,Fx,Fy,Fz,Ga,Gb,Gc,Gd,Ge,Gf,Gg,Gh,Gi,Gj,Gk,Gl,Gm,Gn,Go,Gp,Gq,Gr,Gs,Gt,Gu,Gv,Gw,Gx,Gy,Gz,Ha,Hb,Hc,Hd,He,Hf,Hg,Hh,Hi,Hj,Hk,Hl,Hm,Hn,Ho,Hp,Hq,Hr,Hs,Ht,Hu,Hv,Hw,Hx,Hy,Hz,Ia,Ib,Ic,Id,Ie,Ig,Ih,Ii,Ij,Ik,Il,Im,Io,Ip,Iq,Ir,It,Iu,Iv,Iw,Ix,Iy,Iz,Ja,Jb,Jc,Jd,Je,Jf,Jg,Jh,Ji,Jj,Jk,Jl,Jm,Jn,Jo,Jp,Jq,Jr,Js,Jt,Ju,Jv,Jw,Jx,Jy,Jz,Ka,Kb,Kc,Kd,Ke,Kf,Kg,Kh,Ki,Kj,Kk,Kl,Km,Kn,Ko,Kp,Kq,Kr,Ks,Kt,Ku,Kv,Kw,Kx,Kz,La,Lb,Lc,Ld,Le,Lf,Lg,Lh,Li,Lj,Lk,Ll,Lm,Ln,Lo,Lp,Lq,Lr,Lt,Lu,Lv,Lx,Ly,Lz,Ma,Mb,Mc,Md,Me,Mf],[]⟩ w:=by
 conv=>arg 2; whnf
 have hexit:=hid hexit
 have hL:=hid hL
 have hY:=hid hY
 have hR:=hid hR
 have hn:=hid hn
 have hpm1:pm<=64:=by rw [<-hpm]; exact Nat.le_trans (q0o _ _) (by rw [hnx.out]; exact hst)
 replace hpm:=hid hpm
 go_wp2_with fail
 go_loopw [27] (fun iv wr=>∃ j:Nat,j<=nn/\iv=.int .i64 (j:Int)/\Hid (∀ i,i<j->subs[i]? ≠ some nx)/\Below w.heap.size w wr) (fun iv _=>nn-(intOf iv).toNat)
 case atStart=>exact ⟨0,by omega,rfl,hid (fun i h=>by omega),Below.refl _ _⟩
 case round =>
  obtain ⟨j,hj,rfl,hno,hb⟩:=hrel
  by_cases hlt:j<nn
  ·have i1:(j:Int)<(nn:Int):=by omega
   have i0:(0:Int)<=(j:Int):=by omega
   obtain ⟨S,hSj⟩:∃ S,subs[j]? = some S:=⟨_,List.getElem?_eq_getElem (by rw [hn.out]; exact hlt)⟩
   obtain ⟨lb',lc',so,sc,uo,uc,e,hcs,hRs⟩:=(hL.out.next hb).get hSj
   have e5:lb=lb':=by
    injection e with e _ _; injection e with e; injection e with e
   clear e
   subst e5
   rw [Nat.zero_add] at hcs
   have hSl:=hlen.out S (List.mem_of_getElem? hSj)
   have hpn:(sup S).length<=64:=Nat.le_trans (q0o _ _) (by rw [hSl]; exact hst)
   obtain ⟨PS,hPS⟩:∃ PS,sup S=PS:=⟨_,rfl⟩
   obtain ⟨PX,hPX⟩:∃ PX,sup nx=PX:=⟨_,rfl⟩
   obtain ⟨bq,hbq⟩:∃ bq,decide (PS=PX)=bq:=⟨_,rfl⟩
   have hRq:=(hR.out.next hb).next (Below.refl _ _).drew
   have hRs2:=hRs.next (Below.refl _ _).drew
   rw [hPX] at hRq
   rw [hPS] at hRs2 hcs hpn
   obtain ⟨pn,hpl⟩:∃ pn,PS.length=pn:=⟨_,rfl⟩
   rw [hpl] at hRs2 hcs hpn
   have hcall:=hid (j0g PS PX pn pm so sc uo uc to_ tc_ vo vc hpn hpm1 _ hRs2 hRq)
   rw [hbq] at hcall
   have hdr:=(Below.refl wr.heap.size wr).drew
   have hS0:Cs wr.drew lb (j*2) [.slice so pn sc,.slice uo pn uc]/\Cs wr.drew Y 0 [.slice to_ pm tc_,.slice vo pm vc]:=⟨hcs.next hdr,((hY.out.next hb).next hdr).cs⟩
   have hb1:=hb.trans (hdr.mono hb.size)
   have heq:Hid (bq=true↔S=nx):=hid (by
    rw [<-hbq,decide_eq_true_iff,<-hPS,<-hPX]
    exact ⟨fun h=>z1v (by rw [hSl,hnx.out]) h,fun h=>by rw [h]⟩)
   replace hSj:=hid hSj
   replace hSl:=hid hSl
   clear hcs hRs hRs2 hRq hb hdr hbq hPS hPX hpl
   have hK:∀ w' w'':World,(Cs w' lb (j*2) [.slice so pn sc,.slice uo pn uc]/\Cs w' Y 0 [.slice to_ pm tc_,.slice vo pm vc])->Below w'.heap.size w' w''->(Cs w'' lb (j*2) [.slice so pn sc,.slice uo pn uc]/\Cs w'' Y 0 [.slice to_ pm tc_,.slice vo pm vc]):=fun w' w'' h hb=>⟨h.1.next hb,h.2.next hb⟩
   go_upto_region 45 with fail
   refine qV (fun w'=>Cs w' lb (j*2) [.slice so pn sc,.slice uo pn uc]/\Cs w' Y 0 [.slice to_ pm tc_,.slice vo pm vc]) [] (by kernel_rfl) ?_
   refine wBp 0 hpan (some 243) rfl rfl hS0 ?_
   refine wBp 1 hpan (some 244) rfl rfl hS0 ?_
   refine wBp 2 hpan (some 245) rfl rfl hS0 ?_
   refine wBp 3 hpan (some 246) rfl rfl hS0 ?_
   refine wBp 4 hpan (some 247) rfl rfl hS0 ?_
   refine wBg 5 hpan (some 248) rfl rfl hS0 ?_
   refine wBg 6 hpan (some 249) rfl rfl hS0 ?_
   refine wBg 7 hpan (some 250) rfl rfl hS0 ?_
   refine wBm 8 hpan (some 251) (v:=?_) rfl rfl ?_ hS0 ?_
   rotate_left
   ·intro wz hw; refine q3n lb (j*2) ?_ (.slice so pn sc) (.slice uo pn uc) hw.1; go_simp
   refine wBm 9 hpan (some 252) (v:=?_) rfl rfl ?_ hS0 ?_
   rotate_left
   ·intro wz hw; refine q3n Y 0 ?_ (.slice to_ pm tc_) (.slice vo pm vc) hw.2; go_simp
   go_simp
   refine wpO (i:=10) rfl fun KK hKK=>?_
   go_simp
   go_at_call 39
   refine hcall.out.mono ?_; rintro e w2 ⟨rfl,hb2⟩
   have hb3:=hid (hb1.trans (hb2.mono hb1.size))
   try go_simp
   refine hKK _ _ ⟨fun _=>(hK _ _ hS0 hb2),?_⟩; clear hKK KK
   refine wBg 11 hpan (some 254) rfl rfl (hK _ _ hS0 hb2) ?_
   refine wBp 12 hpan (some 255) rfl rfl (hK _ _ hS0 hb2) ?_
   go_simp
   refine qZ (by kernel_rfl) ?_ _
   clear hcall hS0 hK hb1 hb2
   cases bq with
   | true =>
    have hfx:Hid ((subs.findIdx? (· == nx)).getD nn=j):=hid (by
     have hj2:subs[j]? = some nx:=by rw [hSj.out,heq.out.1 rfl]
     have:subs.findIdx? (· == nx)=some j:=by
      rw [List.findIdx?_eq_some_iff_getElem]
      refine ⟨(List.getElem?_eq_some_iff.1 hj2).1,by rw [(List.getElem?_eq_some_iff.1 hj2).2]; simp,fun i hi=>?_⟩
      have h1:=hno.out i hi
      have h2:i<subs.length:=by rw [hn.out]; omega
      rw [List.getElem?_eq_getElem h2] at h1
      simpa using fun e=>h1 (by rw [e])
     rw [this]; rfl)
    clear hSl
    go_wp2_with fail
    exact hexit.out _ _ _ _ _ _ _ _ _ _ _ _ _ _ _ j _ hfx (by omega) hb3.out
   | false =>
    have hno2:Hid (∀ i,i<j+1->subs[i]? ≠ some nx):=hid (fun i hi e=>by
     by_cases h:i=j
     ·subst h; rw [hSj.out] at e; have:=heq.out.2 (Option.some.inj e); cases this
     ·exact hno.out i (by omega) e)
    clear hSl
    go_wp2_with fail
    go_roundw
    case rel=>exact ⟨j+1,by omega,by go_num,hno2,hb3.out⟩
    case measure=>simp [intOf]; omega
  ·obtain rfl:j=nn:=by omega
   have i1:¬ (j:Int)<(j:Int):=by omega
   have hfx:Hid ((subs.findIdx? (· == nx)).getD j=j):=hid (by
    have:subs.findIdx? (· == nx)=none:=q3m (fun h=>by
     obtain ⟨i,hi⟩:=List.getElem?_of_mem h
     exact hno.out i (by rw [<-hn.out]; exact (List.getElem?_eq_some_iff.1 hi).1) hi)
    rw [this]; rfl)
   replace hb:=hid hb
   have hdr:=(Below.refl wr.heap.size wr).drew
   have hb1:=hid (hb.out.trans (hdr.mono hb.out.size))
   have hS0:Cs wr.drew Y 0 [.slice to_ pm tc_,.slice vo pm vc]:=((hY.out.next hb.out).next hdr).cs
   clear hdr
   go_upto_region 45 with fail
   refine qV (fun w'=>Cs w' Y 0 [.slice to_ pm tc_,.slice vo pm vc]) [] (by kernel_rfl) ?_
   refine wBp 0 hpan (some 243) rfl rfl hS0 ?_
   refine wBp 1 hpan (some 244) rfl rfl hS0 ?_
   refine wBp 2 hpan (some 245) rfl rfl hS0 ?_
   refine wBp 3 hpan (some 246) rfl rfl hS0 ?_
   refine wBp 4 hpan (some 247) rfl rfl hS0 ?_
   refine wBu 5 hpan (some 248) rfl rfl hS0 ?_
   refine wBu 6 hpan (some 249) rfl rfl hS0 ?_
   refine wBu 7 hpan (some 250) rfl rfl hS0 ?_
   refine wBu 8 hpan (some 251) rfl rfl hS0 ?_
   refine wBu 9 hpan (some 252) rfl rfl hS0 ?_
   refine wBu 10 hpan (some 253) rfl rfl hS0 ?_
   refine wBu 11 hpan (some 254) rfl rfl hS0 ?_
   refine wBl 12 hpan (some 255) (v:=.bool false) rfl rfl ?_ hS0 ?_
   ·intro wz _; first | (go_simp; done) | (go_simp; with_reducible rfl)
   go_simp
   refine qZ (by kernel_rfl) ?_ _
   clear hS0
   go_wp2_with fail
   exact hexit.out _ _ _ _ _ _ _ _ _ _ _ _ _ _ _ j _ hfx (by omega) hb1.out
end
section
open Go.RowKit
theorem z4t (base g n:Nat) (S:Vx) (hn:S.length=n) (hn6:n<=64) (hB:Bd 1000000000000000 S) (w:World) (hg:Sb w base g S)
  {c0 c1 c2 c3 c4 c5 c6 c7 c8 c9 Aa Ab Ad Ae Af Ag Ah Ak Al Am An Ao Ap Aq Ar As Av Aw Ax Ay Az Ba Bb Bc Be Bf Bh Bi Bj Bk Bm Bn Bo Bp Bq Br Bs Bt Bu Bv Bw Bx By Bz Ca Cb Cc Cd Ce Cf Cg Ch Ci Cj Ck Cl Cm Cn Co Cp Cq Cr Ct Cu Cv Cw Cx Cy Cz Da Db Dc Dd De Df Dg Dh Di Dj Dk Dl Dn Dp Dq Dr Dt Du Dv Dw Dx Dy Dz Ea Eb Ec Ed Ee Ef Eg Eh Ei Ej Ek El Em En Eo Ep Eq Er Es Et Eu Ev Ew Ex Ey Ez Fa Fb Fc Fd Fe Ff Fg Fh Fi Fj Fk Fm Fn Fo Fp Fq Fs Ft Fu Fv Fw Fx Fy Fz Ga Gb Gc Gd Ge Gf Gg Gh Gi Gj Gk Gl Gm Gn Go Gp Gq Gr Gs Gt Gu Gv Gw Gx Gy Gz Ha Hb Hc Hd He Hf Hg Hh Hi Hj Hk Hl Hm Hn Ho Hp Hq Hr Hs Ht Hu Hv Hw Hx Hy Hz Ia Ib Ic Id Ie Ig Ih Ii Ij Ik Il Im Io Ip Iq Ir It Iu Iv Iw Ix Iy Iz Ja Jb Jc Jd Je Jf Jg Jh Ji Jj Jk Jl Jm Jn Jo Jp Jq Jr Js Jt Ju Jv Jw Jx Jy Jz Ka Kb Kc Kd Ke Kf Kg Kh Ki Kj Kk Kl Km Kn Ko Kp Kq Kr Ks Kt Ku Kv Kw Kx Kz La Lb Lc Ld Le Lf Lg Lh Li Lj Lk Ll Lm Ln Lo Lp Lq Lr Lt Lu Lv Lx Ly Lz Ma Mb Mc Md Me Mf Mg Mh:Value} {Q0:EP} (hpan:∀ c (a:Act) d v w,Q0 (.panic c) (a.put d v) w->Q0 (.panic c) a w)
  (hexit:∀ (Mi Mj Ml Mm Mn Mp:Value) (Y:Nat) (sv rv:Value) (w':World),Bl Y [sv,rv] 84 w'->w.heap.size<=Y->Sq w' w.heap.size sv rv (sup (vR S ((qG S).getD 0)))->Below w.heap.size w w'->Q0 .normal ⟨#[c0,c1,c2,c3,c4,c5,c6,c7,c8,c9,Aa,Ab,Ad,Ae,Af,Ag,Ah,Ak,Al,.slice (some ⟨g,0,none⟩) n n,Am,An,Ao,Ap,.pointer (some ⟨Y,0,none⟩),oV (qG S),.bool (qG S).isSome,Av,Aw,Ax,Ay,Az,Ba,Bb,Bc,Be,Bf,Bh,Bi,Bj,Bk,Bm,Bn,Bo,Bp,Bq,Br,Bs,Bt,Bu,Bv,Bw,Bx,By,Bz,Ca,Cb,Cc,Cd,Ce,Cf,Cg,Ch,Ci,Cj,Ck,Cl,Cm,Cn,Co,Cp,Cq,Cr,Ct,Cu,Cv,Cw,Cx,Cy,Cz,Da,Db,Dc,Dd,De,Df,Dg,Dh,Di,Dj,Dk,Dl,Dn,Dp,Dq,Dr,Dt,Du,Dv,Dw,Dx,Dy,Dz,Ea,Eb,Ec,Ed,Ee,Ef,Eg,Eh,Ei,Ej,Ek,El,Em,En,Eo,Ep,Eq,Er,Es,Et,Eu,Ev,Ew,Ex,Ey,Ez,Fa,Fb,Fc,Fd,Fe,Ff,Fg,Fh,Fi,Fj,Fk,Fm,Fn,Fo,Fp,Fq,Fs,Ft,Fu,Fv,Fw,Fx,Fy,Fz,Ga,Gb,Gc,Gd,Ge,Gf,Gg,Gh,Gi,Gj,Gk,Gl,Gm,Gn,Go,Gp,Gq,Gr,Gs,Gt,Gu,Gv,Gw,Gx,Gy,Gz,Ha,Hb,Hc,Hd,He,Hf,Hg,Hh,Hi,Hj,Hk,Hl,Hm,Hn,Ho,Hp,Hq,Hr,Hs,Ht,Hu,Hv,Hw,Hx,Hy,Hz,Ia,Ib,Ic,Id,Ie,Ig,Ih,Ii,Ij,Ik,Il,Im,Io,Ip,Iq,Ir,It,Iu,Iv,Iw,Ix,Iy,Iz,Ja,Jb,Jc,Jd,Je,Jf,Jg,Mi,Mj,Ml,Mm,Mn,Mp,Jn,Jo,Jp,Jq,Jr,Js,Jt,Ju,Jv,Jw,Jx,Jy,Jz,Ka,Kb,Kc,Kd,Ke,Kf,Kg,Kh,Ki,Kj,Kk,Kl,Km,Kn,Ko,Kp,Kq,Kr,Ks,Kt,Ku,Kv,Kw,Kx,Kz,La,Lb,Lc,Ld,Le,Lf,Lg,Lh,Li,Lj,Lk,Ll,Lm,Ln,Lo,Lp,Lq,Lr,Lt,Lu,Lv,Lx,Ly,Lz,Ma,Mb,Mc,Md,Me,Mf,Mg,Mh],[]⟩ w') :
  Code.wp Tryz.prog (eR 42) Q0 ⟨#[c0,c1,c2,c3,c4,c5,c6,c7,c8,c9,Aa,Ab,Ad,Ae,Af,Ag,Ah,Ak,Al,.slice (some ⟨g,0,none⟩) n n,Am,An,Ao,Ap,Aq,Ar,As,Av,Aw,Ax,Ay,Az,Ba,Bb,Bc,Be,Bf,Bh,Bi,Bj,Bk,Bm,Bn,Bo,Bp,Bq,Br,Bs,Bt,Bu,Bv,Bw,Bx,By,Bz,Ca,Cb,Cc,Cd,Ce,Cf,Cg,Ch,Ci,Cj,Ck,Cl,Cm,Cn,Co,Cp,Cq,Cr,Ct,Cu,Cv,Cw,Cx,Cy,Cz,Da,Db,Dc,Dd,De,Df,Dg,Dh,Di,Dj,Dk,Dl,Dn,Dp,Dq,Dr,Dt,Du,Dv,Dw,Dx,Dy,Dz,Ea,Eb,Ec,Ed,Ee,Ef,Eg,Eh,Ei,Ej,Ek,El,Em,En,Eo,Ep,Eq,Er,Es,Et,Eu,Ev,Ew,Ex,Ey,Ez,Fa,Fb,Fc,Fd,Fe,Ff,Fg,Fh,Fi,Fj,Fk,Fm,Fn,Fo,Fp,Fq,Fs,Ft,Fu,Fv,Fw,Fx,Fy,Fz,Ga,Gb,Gc,Gd,Ge,Gf,Gg,Gh,Gi,Gj,Gk,Gl,Gm,Gn,Go,Gp,Gq,Gr,Gs,Gt,Gu,Gv,Gw,Gx,Gy,Gz,Ha,Hb,Hc,Hd,He,Hf,Hg,Hh,Hi,Hj,Hk,Hl,Hm,Hn,Ho,Hp,Hq,Hr,Hs,Ht,Hu,Hv,Hw,Hx,Hy,Hz,Ia,Ib,Ic,Id,Ie,Ig,Ih,Ii,Ij,Ik,Il,Im,Io,Ip,Iq,Ir,It,Iu,Iv,Iw,Ix,Iy,Iz,Ja,Jb,Jc,Jd,Je,Jf,Jg,Jh,Ji,Jj,Jk,Jl,Jm,Jn,Jo,Jp,Jq,Jr,Js,Jt,Ju,Jv,Jw,Jx,Jy,Jz,Ka,Kb,Kc,Kd,Ke,Kf,Kg,Kh,Ki,Kj,Kk,Kl,Km,Kn,Ko,Kp,Kq,Kr,Ks,Kt,Ku,Kv,Kw,Kx,Kz,La,Lb,Lc,Ld,Le,Lf,Lg,Lh,Li,Lj,Lk,Ll,Lm,Ln,Lo,Lp,Lq,Lr,Lt,Lu,Lv,Lx,Ly,Lz,Ma,Mb,Mc,Md,Me,Mf,Mg,Mh],[]⟩ w:=by
 conv=>arg 2; whnf
 have hexit:=hid hexit
 subst hn
 have hcall:=hid (q3k base g S hn6 hB w hg)
 go_wp2_with fail
 refine hcall.out.mono ?_; rintro e w2 ⟨sv,rv,rfl,hSq,hb2⟩
 obtain ⟨so,sc,rfl⟩:=hSq.sts.form
 obtain ⟨uo,uc,rfl⟩:=hSq.rst.form
 have hbN:Below w2.heap.size w2 (w2.alloc (.cells #[.slice none 0 0,.slice none 0 0] 84)):=qJ _
 have hY:=Bl.fresh w2 [.slice none 0 0,.slice none 0 0] 84
 have y0:=hY.cell (i:=0) rfl
 have y1:=hY.cell (i:=1) rfl
 have y0f:=hY.free 0
 have y1f:=hY.free 1
 have hSq2:=hid (hSq.next hbN)
 have hs1:=hid hSq.sts
 have hs2:=hid hSq.rst
 replace hbN:=hid hbN
 replace hb2:=hid hb2
 replace hY:=hid hY
 have hSqK:=hSq
 clear hSq
 have hSq0:=hid (show Sq w2 w.heap.size _ _ (sup (vR S ((qG S).getD 0))) from hSqK)
 simp only [List.length_map] at hSq0
 go_wp2_with fail
 refine hexit.out _ _ _ _ _ _ w2.heap.size _ _ _ (Bl.fresh w2 _ 84) hb2.out.size (hSq0.out.next (qJ _)) (hb2.out.trans ((qJ _).mono hb2.out.size))
end
section
open Go.RowKit
theorem Tryz.infoSubR:(Tryz.prog.info? 84).map (fun i=>(i.zero,i.size,i.bytes))=some (some (.agg #[.slice none 0 0,.slice none 0 0]),2,48):=by kernel_rfl
theorem Ls.more {w w':World} {O:Nat} {lv lv' sv rv:Value} {vs:List (Value×Value)} {subs:List Vx} {S:Vx} (h:Ls w O lv vs subs) (hf:Fr (fun k=>lv.ownBlock=some k) w w') (hr:FO 84 2 w' (O+1) lv' ((vs.map fun p=>[p.1,p.2])++[[sv,rv]])) (hS:Sq w' (O+1) sv rv (sup S)):Ls w' O lv' (vs++[(sv,rv)]) (subs++[S]):=by
 refine ⟨by rw [List.map_append]; exact hr,by simp [h.num],fun i Q p hQ hp=>?_⟩
 by_cases hi:i<subs.length
 ·rw [List.getElem?_append_left hi] at hQ
  rw [List.getElem?_append_left (by rw [h.num]; exact hi)] at hp
  have hq:=h.lie i Q p hQ hp
  exact hq.fr hf (fun g hg hk=>jK h.row hq.sts (by decide) g hk hg) (fun g hg hk=>jK h.row hq.rst (by decide) g hk hg)
 ·rw [List.getElem?_append_right (by omega)] at hQ
  rw [List.getElem?_append_right (by rw [h.num]; omega),h.num] at hp
  obtain ⟨j,hj⟩:∃ j,i-subs.length=j:=⟨_,rfl⟩
  rw [hj] at hQ hp
  cases j with
  | zero=>simp at hQ hp; subst hQ hp; exact hS
  | succ j=>simp at hQ
theorem z4s (O Y:Nat) (lv sv rv:Value) (vs:List (Value×Value)) (subs:List Vx) (S:Vx) (w:World) (hL:Ls w O lv vs subs) (hn6:subs.length<=65) (hY:Bl Y [sv,rv] 84 w) (hS:Sq w (O+1) sv rv (sup S)) (hO:O+1<=w.heap.size)
  {c0 c1 c2 c3 c4 c5 c6 c7 c8 c9 Aa Ab Ad Ae Af Ag Ah Ak Al Am An Ao Ap Aq Ar As Av Aw Ax Ay Az Ba Bb Bc Be Bf Bh Bi Bj Bk Bm Bn Bo Bp Bq Br Bs Bt Bu Bv Bw Bx By Bz Ca Cb Cc Cd Ce Cf Cg Ch Ci Cj Ck Cl Cm Cn Co Cp Cq Cr Ct Cu Cv Cw Cx Cy Cz Da Db Dc Dd De Df Dg Dh Di Dj Dk Dl Dn Dp Dq Dr Dt Du Dv Dw Dx Dy Dz Ea Eb Ec Ed Ee Ef Eg Eh Ei Ej Ek El Em En Eo Ep Eq Er Es Et Eu Ev Ew Ex Ey Ez Fa Fb Fc Fd Fe Ff Fg Fh Fi Fj Fk Fm Fn Fo Fp Fq Fs Ft Fu Fv Fw Fx Fy Fz Ga Gb Gc Gd Ge Gf Gg Gh Gi Gj Gk Gl Gm Gn Go Gp Gq Gr Gs Gt Gu Gv Gw Gx Gy Gz Ha Hb Hc Hd He Hf Hg Hh Hi Hj Hk Hl Hm Hn Ho Hp Hq Hr Hs Ht Hu Hv Hw Hx Hy Hz Ia Ib Ic Id Ie Ig Ih Ii Ij Ik Il Im Io Ip Iq Ir It Iu Iv Iw Ix Iy Iz Ja Jb Jc Jd Je Jf Jg Jh Ji Jj Jk Jl Jm Jn Jo Jp Jq Jr Js Jt Ju Jv Jw Jx Jy Jz Ka Kb Kc Kd Ke Kf Kg Kh Ki Kj Kk Kl Km Kn Ko Kp Kq Kr Ks Kt Ku Kv Kw Kx Kz La Lb Lc Ld Le Lf Lg Lh Li Lj Lk Ll Lm Ln Lo Lp Lq Lr Lt Lu Lv Lx Ly Lz Ma Mb Mc Md Me Mf Mg:Value} {Q0:EP} (hpan:∀ c (a:Act) d v w,Q0 (.panic c) (a.put d v) w->Q0 (.panic c) a w)
  (hexit:∀ (Mh Mi Mj Ml:Value) (lv':Value) (w':World),Ls w' O lv' (vs++[(sv,rv)]) (subs++[S])->Fr (fun k=>lv.ownBlock=some k) w w'->Below (O+1) w w'->Q0 .normal ⟨#[c0,c1,c2,c3,c4,c5,c6,c7,c8,c9,Aa,Ab,Ad,lv',Ae,Af,Ag,Ah,Ak,Al,Am,An,Ao,Ap,.pointer (some ⟨Y,0,none⟩),Aq,Ar,As,Av,Aw,Ax,Ay,Az,Ba,Bb,Bc,Be,Bf,Bh,Bi,Bj,Bk,Bm,Bn,Bo,Bp,Bq,Br,Bs,Bt,Bu,Bv,Bw,Bx,By,Bz,Ca,Cb,Cc,Cd,Ce,Cf,Cg,Ch,Ci,Cj,Ck,Cl,Cm,Cn,Co,Cp,Cq,Cr,Ct,Cu,Cv,Cw,Cx,Cy,Cz,Da,Db,Dc,Dd,De,Df,Dg,Dh,Di,Dj,Dk,Dl,Dn,Dp,Dq,Dr,Dt,Du,Dv,Dw,Dx,Dy,Dz,Ea,Eb,Ec,Ed,Ee,Ef,Eg,Eh,Ei,Ej,Ek,El,Em,En,Eo,Ep,Eq,Er,Es,Et,Eu,Ev,Ew,Ex,Ey,Ez,Fa,Fb,Fc,Fd,Fe,Ff,Fg,Fh,Fi,Fj,Fk,Fm,Fn,Fo,Fp,Fq,Fs,Ft,Fu,Fv,Fw,Fx,Fy,Fz,Ga,Gb,Gc,Gd,Ge,Gf,Gg,Gh,Gi,Gj,Gk,Gl,Gm,Gn,Go,Gp,Gq,Gr,Gs,Gt,Gu,Gv,Gw,Gx,Gy,Gz,Ha,Hb,Hc,Hd,He,Hf,Hg,Hh,Hi,Hj,Hk,Hl,Hm,Hn,Ho,Hp,Hq,Hr,Hs,Ht,Hu,Hv,Hw,Hx,Hy,Hz,Ia,Ib,Ic,Id,Ie,Ig,Ih,Ii,Ij,Ik,Il,Im,Io,Ip,Iq,Ir,It,Iu,Iv,Iw,Ix,Iy,Iz,Ja,Jb,Jc,Jd,Je,Jf,Jg,Jh,Ji,Jj,Jk,Jl,Jm,Jn,Jo,Jp,Jq,Jr,Js,Jt,Ju,Jv,Jw,Jx,Jy,Jz,Ka,Kb,Kc,Kd,Ke,Kf,Kg,Mh,Mi,Mj,Ml,Kl,Km,Kn,Ko,Kp,Kq,Kr,Ks,Kt,Ku,Kv,Kw,Kx,Kz,La,Lb,Lc,Ld,Le,Lf,Lg,Lh,Li,Lj,Lk,Ll,Lm,Ln,Lo,Lp,Lq,Lr,Lt,Lu,Lv,Lx,Ly,Lz,Ma,Mb,Mc,Md,Me,Mf,Mg],[]⟩ w') :
  Code.wp Tryz.prog (eR 48) Q0 ⟨#[c0,c1,c2,c3,c4,c5,c6,c7,c8,c9,Aa,Ab,Ad,lv,Ae,Af,Ag,Ah,Ak,Al,Am,An,Ao,Ap,.pointer (some ⟨Y,0,none⟩),Aq,Ar,As,Av,Aw,Ax,Ay,Az,Ba,Bb,Bc,Be,Bf,Bh,Bi,Bj,Bk,Bm,Bn,Bo,Bp,Bq,Br,Bs,Bt,Bu,Bv,Bw,Bx,By,Bz,Ca,Cb,Cc,Cd,Ce,Cf,Cg,Ch,Ci,Cj,Ck,Cl,Cm,Cn,Co,Cp,Cq,Cr,Ct,Cu,Cv,Cw,Cx,Cy,Cz,Da,Db,Dc,Dd,De,Df,Dg,Dh,Di,Dj,Dk,Dl,Dn,Dp,Dq,Dr,Dt,Du,Dv,Dw,Dx,Dy,Dz,Ea,Eb,Ec,Ed,Ee,Ef,Eg,Eh,Ei,Ej,Ek,El,Em,En,Eo,Ep,Eq,Er,Es,Et,Eu,Ev,Ew,Ex,Ey,Ez,Fa,Fb,Fc,Fd,Fe,Ff,Fg,Fh,Fi,Fj,Fk,Fm,Fn,Fo,Fp,Fq,Fs,Ft,Fu,Fv,Fw,Fx,Fy,Fz,Ga,Gb,Gc,Gd,Ge,Gf,Gg,Gh,Gi,Gj,Gk,Gl,Gm,Gn,Go,Gp,Gq,Gr,Gs,Gt,Gu,Gv,Gw,Gx,Gy,Gz,Ha,Hb,Hc,Hd,He,Hf,Hg,Hh,Hi,Hj,Hk,Hl,Hm,Hn,Ho,Hp,Hq,Hr,Hs,Ht,Hu,Hv,Hw,Hx,Hy,Hz,Ia,Ib,Ic,Id,Ie,Ig,Ih,Ii,Ij,Ik,Il,Im,Io,Ip,Iq,Ir,It,Iu,Iv,Iw,Ix,Iy,Iz,Ja,Jb,Jc,Jd,Je,Jf,Jg,Jh,Ji,Jj,Jk,Jl,Jm,Jn,Jo,Jp,Jq,Jr,Js,Jt,Ju,Jv,Jw,Jx,Jy,Jz,Ka,Kb,Kc,Kd,Ke,Kf,Kg,Kh,Ki,Kj,Kk,Kl,Km,Kn,Ko,Kp,Kq,Kr,Ks,Kt,Ku,Kv,Kw,Kx,Kz,La,Lb,Lc,Ld,Le,Lf,Lg,Lh,Li,Lj,Lk,Ll,Lm,Ln,Lo,Lp,Lq,Lr,Lt,Lu,Lv,Lx,Ly,Lz,Ma,Mb,Mc,Md,Me,Mf,Mg],[]⟩ w:=by
 conv=>arg 2; whnf
 have hexit:=hid hexit
 obtain ⟨lo,lc,rfl⟩:=hL.row.form
 obtain ⟨so,sc,rfl⟩:=hS.sts.form
 obtain ⟨uo,uc,rfl⟩:=hS.rst.form
 simp only [List.length_map] at hL hY hS hexit ⊢
 obtain ⟨m,hm⟩:∃ m,(sup S).length=m:=⟨_,rfl⟩
 rw [hm] at hY hS hexit
 replace hm:=hid hm
 have hbN:Below w.heap.size w (w.alloc (.cells #[.slice so m sc,.slice uo m uc] 84)):=qJ _
 have hnew:=Cs.fresh w [.slice so m sc,.slice uo m uc] 84
 have hL3:=hL.next hbN
 have hS3:=hid (hS.next hbN)
 have hYc:=hY.cs
 have y0:=hY.cell (i:=0) rfl
 have y1:=hY.cell (i:=1) rfl
 have hvl:(vs.map fun p=>[p.1,p.2]).length<=65:=by rw [List.length_map,hL.num]; exact hn6
 have hO3:=Nat.le_trans hO hbN.size
 replace hS:=hid hS
 replace hbN:=hid hbN
 go_wp2_with (at_builtin; refine q1w rfl (.tmp 262) (.tmp 264) 87 rfl 84 _ 2 48 Tryz.underlying87 Tryz.infoSubR rfl (by decide) (O+1) _ _ rfl hL3.row w.heap.size 0 1 1 [[.slice so m sc,.slice uo m uc]] rfl rfl (by decide) (by intro cs hc; rw [List.mem_singleton.1 hc]; rfl) (by simp only [List.flatten_cons,List.flatten_nil,List.append_nil]; exact hnew) (by intro cs hc u hu; rw [List.mem_singleton.1 hc] at hu; simp only [List.mem_cons,List.not_mem_nil,or_false] at hu; rcases hu with rfl | rfl<;>rfl) (by omega) (by omega) hO3 ?_; intro lv5 w5 hv5 hg5 hb5 ho5)
 have hF5:=qS (T:=fun k=>(Value.slice lo vs.length lc).ownBlock=some k) hg5 fun g hg=>hg
 refine hexit.out _ _ _ _ lv5 _ (hL3.more hF5 hv5 ?_) ((qH hbN.out _).trans hF5) ((hbN.out.mono hO).trans hb5)
 exact hS3.out.fr hF5 (fun g hg hk=>jK hL3.row hS3.out.sts (by decide) g hk hg) (fun g hg hk=>jK hL3.row hS3.out.rst (by decide) g hk hg)
end
end Go.Proofs.YtnapapijhhldpaaGreatDoor

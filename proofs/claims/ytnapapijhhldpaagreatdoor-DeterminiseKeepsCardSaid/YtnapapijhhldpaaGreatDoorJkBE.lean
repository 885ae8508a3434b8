/-
  Texts joined by program: Tsj, Tsk, Tsl, Tsm. No condition of its own.
-/
import Derived.Test.YtnapapijhhldpaaGreatDoorJkBD
namespace Go.Proofs.YtnapapijhhldpaaGreatDoor
set_option linter.unusedSimpArgs false
set_option linter.unusedVariables false
set_option maxRecDepth 100000
set_option maxHeartbeats 4000000
section
open Go.RowKit
theorem z1e (O syms n k l to_ c:Nat) (iv fv av:Value) (ini fin:List Tw) (arcs:List Ac) (w:World) (h:Om w O syms n iv fv av ini fin arcs) (ha:arcs.length<=4096)
  {c0 c1 c2 c3 c4 c5 c6 c8 c9 Aa Ab Ad Ae Af Ag Ah Ak Al Am An Ao Ap Aq Ar As Av Aw Ax Ay Az Ba Bb Bc Be Bf Bh Bi Bj Bk Bm Bn Bo Bp Bq Br Bs Bt Bu Bv Bw Bx By Bz Ca Cb Cc Cd Ce Cf Cg Ch Ci Cj Ck Cl Cm Cn Co Cp Cq Cr Ct Cu Cv Cw Cx Cy Cz Da Db Dc Dd De Df Dg Dh Di Dj Dk Dl Dn Dp Dq Dr Dt Du Dv Dw Dx Dy Dz Ea Eb Ec Ed Ee Ef Eg Eh Ei Ej Ek El Em En Eo Ep Eq Er Es Et Eu Ev Ew Ex Ey Ez Fa Fb Fc Fd Fe Ff Fg Fh Fi Fj Fk Fm Fn Fo Fp Fq Fs Ft Fu Fv Fw Fx Fy Fz Ga Gb Gc Gd Ge Gf Gg Gh Gi Gj Gk Gl Gm Gn Go Gp Gq Gr Gs Gt Gu Gv Gw Gx Gy Gz Ha Hb Hc Hd He Hf Hg Hh Hi Hj Hk Hl Hm Hn Ho Hp Hq Hr Hs Ht Hu Hv Hw Hx Hy Hz Ia Ib Ic Id Ie Ig Ih Ii Ij Ik Il Im Io Ip Iq Ir It Iu Iv Iw Ix Iy Iz Ja Jb Jc Jd Je Jf Jg Jh Ji Jj Jk Jl Jm Jn Jo Jp Jq Jr Js Jt Ju Jv Jw Jx Jy Jz Ka Kb Kc Kd Ke Kf Kg Kh Ki Kj Kk Kl Km Kn Ko Kp Kq Kr Ks Kt Ku Kv Kw Kx Kz La Lb Lc Ld Le Lf Lg Lh Li Lj Lk Ll Lm Ln Lo Lp Lq Lr Lt Lu Lv Lx Ly Lz Ma Mb Mc Md Me:Value} {Q0:EP} (hpan:∀ c (a:Act) d v w,Q0 (.panic c) (a.put d v) w->Q0 (.panic c) a w)
  (hexit:∀ (Mf Mg Mh Mi Mj Ml Mm Mn Mp Mq Mr:Value) (ao:OA) (ac:Nat) (w':World),Om w' O syms n iv fv (.slice ao (arcs.length+1) ac) ini fin (arcs++[(k,l,to_,some c)])->Fr (fun k=>k=O\/av.ownBlock=some k) w w'->Q0 .normal ⟨#[c0,c1,c2,c3,c4,c5,c6,.pointer (some ⟨O,0,none⟩),c8,c9,Aa,Ab,Ad,Ae,.int .i64 (k:Int),Af,Ag,Ah,.int .i64 (l:Int),Ak,Al,Am,An,Ao,Ap,.int .i64 (c:Int),Aq,.int .i64 (to_:Int),Ar,As,Av,Aw,Ax,Ay,Az,Ba,Bb,Bc,Be,Bf,Bh,Bi,Bj,Bk,Bm,Bn,Bo,Bp,Bq,Br,Bs,Bt,Bu,Bv,Bw,Bx,By,Bz,Ca,Cb,Cc,Cd,Ce,Cf,Cg,Ch,Ci,Cj,Ck,Cl,Cm,Cn,Co,Cp,Cq,Cr,Ct,Cu,Cv,Cw,Cx,Cy,Cz,Da,Db,Dc,Dd,De,Df,Dg,Dh,Di,Dj,Dk,Dl,Dn,Dp,Dq,Dr,Dt,Du,Dv,Dw,Dx,Dy,Dz,Ea,Eb,Ec,Ed,Ee,Ef,Eg,Eh,Ei,Ej,Ek,El,Em,En,Eo,Ep,Eq,Er,Es,Et,Eu,Ev,Ew,Ex,Ey,Ez,Fa,Fb,Fc,Fd,Fe,Ff,Fg,Fh,Fi,Fj,Fk,Fm,Fn,Fo,Fp,Fq,Fs,Ft,Fu,Fv,Fw,Fx,Fy,Fz,Ga,Gb,Gc,Gd,Ge,Gf,Gg,Gh,Gi,Gj,Gk,Gl,Gm,Gn,Go,Gp,Gq,Gr,Gs,Gt,Gu,Gv,Gw,Gx,Gy,Gz,Ha,Hb,Hc,Hd,He,Hf,Hg,Hh,Hi,Hj,Hk,Hl,Hm,Hn,Ho,Hp,Hq,Hr,Hs,Ht,Hu,Hv,Hw,Hx,Hy,Hz,Ia,Ib,Ic,Id,Ie,Ig,Ih,Ii,Ij,Ik,Il,Im,Io,Ip,Iq,Ir,It,Iu,Iv,Iw,Ix,Iy,Iz,Ja,Jb,Jc,Jd,Je,Jf,Jg,Jh,Ji,Jj,Jk,Jl,Jm,Jn,Jo,Jp,Jq,Jr,Js,Jt,Ju,Jv,Jw,Jx,Jy,Jz,Ka,Kb,Kc,Kd,Ke,Kf,Kg,Kh,Ki,Kj,Kk,Kl,Km,Kn,Ko,Kp,Kq,Kr,Ks,Kt,Ku,Kv,Kw,Kx,Kz,La,Lb,Lc,Ld,Mf,Mg,Mh,Mi,Mj,Ml,Mm,Mn,Mp,Mq,Mr,Lp,Lq,Lr,Lt,Lu,Lv,Lx,Ly,Lz,Ma,Mb,Mc,Md,Me],[]⟩ w') :
  Code.wp Tryz.prog (eR 55) Q0 ⟨#[c0,c1,c2,c3,c4,c5,c6,.pointer (some ⟨O,0,none⟩),c8,c9,Aa,Ab,Ad,Ae,.int .i64 (k:Int),Af,Ag,Ah,.int .i64 (l:Int),Ak,Al,Am,An,Ao,Ap,.int .i64 (c:Int),Aq,.int .i64 (to_:Int),Ar,As,Av,Aw,Ax,Ay,Az,Ba,Bb,Bc,Be,Bf,Bh,Bi,Bj,Bk,Bm,Bn,Bo,Bp,Bq,Br,Bs,Bt,Bu,Bv,Bw,Bx,By,Bz,Ca,Cb,Cc,Cd,Ce,Cf,Cg,Ch,Ci,Cj,Ck,Cl,Cm,Cn,Co,Cp,Cq,Cr,Ct,Cu,Cv,Cw,Cx,Cy,Cz,Da,Db,Dc,Dd,De,Df,Dg,Dh,Di,Dj,Dk,Dl,Dn,Dp,Dq,Dr,Dt,Du,Dv,Dw,Dx,Dy,Dz,Ea,Eb,Ec,Ed,Ee,Ef,Eg,Eh,Ei,Ej,Ek,El,Em,En,Eo,Ep,Eq,Er,Es,Et,Eu,Ev,Ew,Ex,Ey,Ez,Fa,Fb,Fc,Fd,Fe,Ff,Fg,Fh,Fi,Fj,Fk,Fm,Fn,Fo,Fp,Fq,Fs,Ft,Fu,Fv,Fw,Fx,Fy,Fz,Ga,Gb,Gc,Gd,Ge,Gf,Gg,Gh,Gi,Gj,Gk,Gl,Gm,Gn,Go,Gp,Gq,Gr,Gs,Gt,Gu,Gv,Gw,Gx,Gy,Gz,Ha,Hb,Hc,Hd,He,Hf,Hg,Hh,Hi,Hj,Hk,Hl,Hm,Hn,Ho,Hp,Hq,Hr,Hs,Ht,Hu,Hv,Hw,Hx,Hy,Hz,Ia,Ib,Ic,Id,Ie,Ig,Ih,Ii,Ij,Ik,Il,Im,Io,Ip,Iq,Ir,It,Iu,Iv,Iw,Ix,Iy,Iz,Ja,Jb,Jc,Jd,Je,Jf,Jg,Jh,Ji,Jj,Jk,Jl,Jm,Jn,Jo,Jp,Jq,Jr,Js,Jt,Ju,Jv,Jw,Jx,Jy,Jz,Ka,Kb,Kc,Kd,Ke,Kf,Kg,Kh,Ki,Kj,Kk,Kl,Km,Kn,Ko,Kp,Kq,Kr,Ks,Kt,Ku,Kv,Kw,Kx,Kz,La,Lb,Lc,Ld,Le,Lf,Lg,Lh,Li,Lj,Lk,Ll,Lm,Ln,Lo,Lp,Lq,Lr,Lt,Lu,Lv,Lx,Ly,Lz,Ma,Mb,Mc,Md,Me],[]⟩ w:=by
 conv=>arg 2; whnf
 have hexit:=hid hexit
 obtain ⟨ao0,ac0,rfl⟩:=h.arcs.form
 simp only [List.length_map] at h hexit ⊢
 have y5:=h.blk.cell (i:=6) rfl
 have hbN:Below w.heap.size w (w.alloc (.cells #[.int .i64 (k:Int),.int .i64 (l:Int),.int .i64 (to_:Int),.bool false,.slice none 0 0,.slice none 0 0,.int .i64 (c:Int),.bool false,.int .u64 0,.slice none 0 0,.slice none 0 0] 54)):=qJ _
 have hnew:=Cs.fresh w [.int .i64 (k:Int),.int .i64 (l:Int),.int .i64 (to_:Int),.bool false,.slice none 0 0,.slice none 0 0,.int .i64 (c:Int),.bool false,.int .u64 0,.slice none 0 0,.slice none 0 0] 54
 have hlit:Hid ([.int .i64 (k:Int),.int .i64 (l:Int),.int .i64 (to_:Int),.bool false,.slice none 0 0,.slice none 0 0,.int .i64 (c:Int),.bool false,.int .u64 0,.slice none 0 0,.slice none 0 0]=acC (k,l,to_,some c)):=hid rfl
 have h3:=h.next hbN
 replace hbN:=hid hbN
 go_wp2_with (at_builtin; refine q1w rfl (.tmp 287) (.tmp 294) 28 rfl 54 _ 11 152 Tryz.underlying28 Tryz.infoArc rfl (by decide) (O+1) _ _ rfl h3.arcs w.heap.size 0 1 1 [[.int .i64 (k:Int),.int .i64 (l:Int),.int .i64 (to_:Int),.bool false,.slice none 0 0,.slice none 0 0,.int .i64 (c:Int),.bool false,.int .u64 0,.slice none 0 0,.slice none 0 0]] rfl rfl (by decide) (by intro cs hc; rw [List.mem_singleton.1 hc]; rfl) (by simp only [List.flatten_cons,List.flatten_nil,List.append_nil]; exact hnew) (by rw [hlit.out]; exact kK [(k,l,to_,some c)]) (by rw [List.length_map]; omega) (by rw [List.length_map]; omega) h3.blk.lt ?_; intro v5 w5 hv5 hg5 hb5 ho5; have hO5:=h3.blk.under hb5 (Nat.lt_succ_self _); obtain ⟨ai,ki,rfl⟩:=hv5.form; have z5f:=hO5.free 6; have z5:=hO5.cell (i:=6) rfl)
 simp only [List.length_append,List.length_map,List.length_cons,List.length_nil,Nat.zero_add] at hv5 ho5 ⊢
 rw [hlit.out] at hv5
 have hF5:=qS (T:=fun k=>(Value.slice ao0 arcs.length ac0).ownBlock=some k) hg5 fun g hg=>hg
 have hF9:Fr (fun k=>k=O) w5 (w5.setCell ⟨O,6,none⟩ (.slice ai (arcs.length+1) ki)):=Fr.set (T:=fun k=>k=O) w5 (p:=⟨O,6,none⟩) rfl _
 have hi5:FO 45 8 w5 (O+1) iv (ini.map twC):=h3.ini.fr hF5 (fun g hg hg'=>jK h3.arcs h3.ini (by decide) g hg' hg)
 have hf5:FO 45 8 w5 (O+1) fv (fin.map twC):=h3.fin.fr hF5 (fun g hg hg'=>jK h3.arcs h3.fin (by decide) g hg' hg)
 refine hexit.out _ _ _ _ _ _ _ _ _ _ _ ai ki _ ?_ ?_
 ·refine ⟨hO5.put 6 _,hi5.fr hF9 (fun g hg e=>by have:=(hi5.lt hg).1; omega),hf5.fr hF9 (fun g hg e=>by have:=(hf5.lt hg).1; omega),by rw [List.map_append]; exact hv5.fr hF9 (fun g hg e=>by have:=(hv5.lt hg).1; omega),h.ne⟩
 ·exact (((qH hbN.out _).trans hF5).mono (T':=fun k=>k=O\/(Value.slice ao0 arcs.length ac0).ownBlock=some k) fun k _ h=>.inr h).trans (hF9.mono fun k _ h=>.inl h)
end
section
open Go.RowKit
theorem j5o (Y pm:Nat) (to_:OA) (tc_:Nat) (vo:OA) (vc:Nat) (P:List (Nat×Nat)) (hpm:pm<=64) (hP:Hid (∀ p∈P,p.2<=1000000000)) (w:World) (hY:Bl Y [.slice to_ pm tc_,.slice vo pm vc] 84 w) (hR:Rs w to_ tc_ vo vc pm P)
  {c0 c1 c2 c3 c4 c5 c6 c7 c8 c9 Aa Ab Ad Ae Af Ag Ah Ak Al Am An Ao Ap Aq Ar As Av Aw Ax Ay Az Ba Bb Bc Be Bf Bh Bi Bj Bk Bm Bn Bo Bp Bq Br Bs Bt Bu Bv Bw Bx By Bz Ca Cb Cc Cd Ce Cf Cg Ch Ci Cj Ck Cl Cm Cn Co Cp Cq Cr Ct Cu Cv Cw Cx Cy Cz Da Db Dc Dd De Df Dg Dh Di Dj Dk Dl Dn Dp Dq Dr Dt Du Dv Dw Dx Dy Dz Ea Eb Ec Ed Ee Ef Eg Eh Ei Ej Ek El Em En Eo Ep Eq Er Es Et Eu Ev Ew Ex Ey Ez Fa Fb Fc Fd Fe Ff Fg Fh Fi Fj Fk Fm Fn Fo Fp Fq Fs Ft Fu Fv Fw Fx Fy Fz Ga Gb Gc Gd Ge Gf Gg Gh Gi Gj Gk Gl Gm Gn Go Gp Gq Gr Gs Gt Gu Gv Gw Gx Gy Gz Ha Hb Hc Hd He Hf Hg Hh Hi Hj Hk Hl Hm Hn Ho Hp Hq Hr Hs Ht Hu Hv Hw Hx Hy Hz Ia Ib Ic Id Ie Ig Ih Ii Ij Ik Il Im Io Ip Iq Ir It Iu Iv Iw Ix Iy Iz Ja Jb Jc Jd Je Jf Jg Jh Ji Jj Jk Jl Jm Jn Jo Jp Jq Jr Js Jt Ju Jv Jw Jx Jy Jz Ka Kb Kc Kd Ke Kf Kg Kh Ki Kj Kk Kl Km Kn Ko Kp Kq Kr Ks Kt Ku Kv Kw Kx Kz La Lb Lc Ld Le Lf Lg Lh Li Lj Lk Ll Lm Ln Lo Lp Lq Lr Lt Lu Lv Lx Ly Lz Ma Mb Mc Md Me Mf Mg:Value} {Q0:EP} (hpan:∀ c (a:Act) d v w,Q0 (.panic c) (a.put d v) w->Q0 (.panic c) a w)
  (hexit:∀ (u3 Mh Mi Mj Ml Mm Mn Mp Mq Mr Ms Mt Mu Mw Mx My:Value),Q0 .normal ⟨#[c0,c1,c2,u3,c4,c5,c6,c7,c8,c9,Aa,Ab,Ad,Ae,Af,Ag,Ah,Ak,Al,Am,An,Ao,Ap,Aq,.pointer (some ⟨Y,0,none⟩),Ar,As,Av,Mh,Aw,Ax,Ay,Az,Ba,Bb,Bc,Be,Bf,Bh,Bi,Bj,Bk,Bm,Bn,Bo,Bp,Bq,Br,Bs,Bt,Bu,Bv,Bw,Bx,By,Bz,Ca,Cb,Cc,Cd,Ce,Cf,Cg,Ch,Ci,Cj,Ck,Cl,Cm,Cn,Co,Cp,Cq,Cr,Ct,Cu,Cv,Cw,Cx,Cy,Cz,Da,Db,Dc,Dd,De,Df,Dg,Dh,Di,Dj,Dk,Dl,Dn,Dp,Dq,Dr,Dt,Du,Dv,Dw,Dx,Dy,Dz,Ea,Eb,Ec,Ed,Ee,Ef,Eg,Eh,Ei,Ej,Ek,El,Em,En,Eo,Ep,Eq,Er,Es,Et,Eu,Ev,Ew,Ex,Ey,Ez,Fa,Fb,Fc,Fd,Fe,Ff,Fg,Fh,Fi,Fj,Fk,Fm,Fn,Fo,Fp,Fq,Fs,Ft,Fu,Fv,Fw,Fx,Fy,Fz,Ga,Gb,Gc,Gd,Ge,Gf,Gg,Gh,Gi,Gj,Gk,Gl,Gm,Gn,Go,Gp,Gq,Gr,Gs,Gt,Gu,Gv,Gw,Gx,Gy,Gz,Ha,Hb,Hc,Hd,He,Hf,Hg,Hh,Hi,Hj,Hk,Hl,Hm,Hn,Ho,Hp,Hq,Hr,Hs,Ht,Hu,Hv,Hw,Hx,Hy,Hz,Ia,Ib,Ic,Id,Ie,Ig,Ih,Ii,Ij,Ik,Il,Im,Io,Ip,Iq,Ir,It,Iu,Iv,Iw,Ix,Iy,Iz,Ja,Jb,Jc,Jd,Je,Jf,Jg,Jh,Ji,Jj,Jk,Jl,Jm,Jn,Jo,Jp,Jq,Jr,Js,Jt,Ju,Jv,Jw,Jx,Jy,Jz,Ka,Kb,Kc,Kd,Ke,Kf,Kg,Kh,Ki,Kj,Kk,Kl,Km,Kn,Ko,Kp,Kq,Mi,Mj,Ml,Mm,Mn,Mp,Mq,Mr,Ms,Mt,Mu,Mw,Mx,My,Lg,Lh,Li,Lj,Lk,Ll,Lm,Ln,Lo,Lp,Lq,Lr,Lt,Lu,Lv,Lx,Ly,Lz,Ma,Mb,Mc,Md,Me,Mf,Mg],[]⟩ w) :
  Code.wp Tryz.prog (eB 14) Q0 ⟨#[c0,c1,c2,c3,c4,c5,c6,c7,c8,c9,Aa,Ab,Ad,Ae,Af,Ag,Ah,Ak,Al,Am,An,Ao,Ap,Aq,.pointer (some ⟨Y,0,none⟩),Ar,As,Av,.int .i64 0,Aw,Ax,Ay,Az,Ba,Bb,Bc,Be,Bf,Bh,Bi,Bj,Bk,Bm,Bn,Bo,Bp,Bq,Br,Bs,Bt,Bu,Bv,Bw,Bx,By,Bz,Ca,Cb,Cc,Cd,Ce,Cf,Cg,Ch,Ci,Cj,Ck,Cl,Cm,Cn,Co,Cp,Cq,Cr,Ct,Cu,Cv,Cw,Cx,Cy,Cz,Da,Db,Dc,Dd,De,Df,Dg,Dh,Di,Dj,Dk,Dl,Dn,Dp,Dq,Dr,Dt,Du,Dv,Dw,Dx,Dy,Dz,Ea,Eb,Ec,Ed,Ee,Ef,Eg,Eh,Ei,Ej,Ek,El,Em,En,Eo,Ep,Eq,Er,Es,Et,Eu,Ev,Ew,Ex,Ey,Ez,Fa,Fb,Fc,Fd,Fe,Ff,Fg,Fh,Fi,Fj,Fk,Fm,Fn,Fo,Fp,Fq,Fs,Ft,Fu,Fv,Fw,Fx,Fy,Fz,Ga,Gb,Gc,Gd,Ge,Gf,Gg,Gh,Gi,Gj,Gk,Gl,Gm,Gn,Go,Gp,Gq,Gr,Gs,Gt,Gu,Gv,Gw,Gx,Gy,Gz,Ha,Hb,Hc,Hd,He,Hf,Hg,Hh,Hi,Hj,Hk,Hl,Hm,Hn,Ho,Hp,Hq,Hr,Hs,Ht,Hu,Hv,Hw,Hx,Hy,Hz,Ia,Ib,Ic,Id,Ie,Ig,Ih,Ii,Ij,Ik,Il,Im,Io,Ip,Iq,Ir,It,Iu,Iv,Iw,Ix,Iy,Iz,Ja,Jb,Jc,Jd,Je,Jf,Jg,Jh,Ji,Jj,Jk,Jl,Jm,Jn,Jo,Jp,Jq,Jr,Js,Jt,Ju,Jv,Jw,Jx,Jy,Jz,Ka,Kb,Kc,Kd,Ke,Kf,Kg,Kh,Ki,Kj,Kk,Kl,Km,Kn,Ko,Kp,Kq,Kr,Ks,Kt,Ku,Kv,Kw,Kx,Kz,La,Lb,Lc,Ld,Le,Lf,Lg,Lh,Li,Lj,Lk,Ll,Lm,Ln,Lo,Lp,Lq,Lr,Lt,Lu,Lv,Lx,Ly,Lz,Ma,Mb,Mc,Md,Me,Mf,Mg],[]⟩ w:=by
 conv=>arg 2; whnf
 have hexit:=hid hexit
 have y1:=hY.cell (i:=1) rfl
 have hR:=hid hR
 clear hY
 go_wp2_with fail
 go_loopw [28] (fun iv wr=>∃ i:Nat,i<=pm/\iv=.int .i64 (i:Int)/\w=wr) (fun iv _=>pm-(intOf iv).toNat)
 case atStart=>exact ⟨0,by omega,rfl,by first | rfl | trivial⟩
 case round =>
  obtain ⟨i,hi,rfl,hw⟩:=hrel
  subst hw
  by_cases hlt:i<pm
  ·obtain ⟨q,r,b1,o1,b2,o2,hP0,_,rfl,_,p2⟩:=hR.out.get hlt
   have hr:r<=1000000000:=hP.out _ (List.mem_of_getElem? hP0)
   have i1:(i:Int)<(pm:Int):=by omega
   have i0:(0:Int)<=(i:Int):=by omega
   have k1:¬ (1099511627776:Int)<(r:Int):=by omega
   clear hP0
   go_wp2_with fail
   go_roundw
   case rel=>exact ⟨i+1,by omega,by go_num,by first | rfl | trivial⟩
   case measure=>simp [intOf]; omega
  ·obtain rfl:i=pm:=by omega
   have i1:¬ (i:Int)<(i:Int):=by omega
   go_wp2_with fail
   exact hexit.out _ _ _ _ _ _ _ _ _ _ _ _ _ _ _ _
end
section
open Go.RowKit
theorem j6t {c n:Nat} (h:1<=n):q1s c n++[none]=q1s c (n+1):=by
 rw [<-q8s]; unfold bK; rw [if_neg (by omega)]
theorem FO.nlt {e:TypeId} {k B:Nat} {w:World} {v:Value} {css:List (List Value)} (h:FO e k w B v css) {Y:Nat} (hY:w.heap.size<=Y):¬ v.ownBlock=some Y:=fun e=>by have:=(h.lt e).2; omega
theorem Sq.mono {w:World} {O O':Nat} {sv rv:Value} {P:List (Nat×Nat)} (h:Sq w O sv rv P) (hO:O'<=O):Sq w O' sv rv P:=⟨h.sts.mono hO,h.rst.mono hO,h.ne⟩
theorem j8x (W:World) (V syms C:Nat) (A:Au) (io:OA) (ci:Nat) (fo:OA) (cf:Nat) (ro:OA) (nr cr:Nat) (hS:Hid (Rta W V syms C A io ci fo cf ro nr cr)) (G0 RB O k l b0:Nat) (lv iv fv av:Value) (vs:List (Value×Value)) (fin:List Tw) (X:Ds) (w:World) (hb:Below W.heap.size W w) (hl:l<=32) (hk:k<X.subs.length) (hX:Hid (Dok A.st C k X)) (hL:Ls w O lv vs X.subs) (hO:Om w O syms 0 iv fv av (q1s b0 X.subs.length) fin X.arcs) (hla:X.arcs.length<=2047) (hG:G0<=RB/\RB<W.heap.size) (hOW:W.heap.size<=O) (hRB:Bl RB [.int .i64 0,.slice none 0 0,.int .i64 0,.int .i64 0,.slice none 0 0,.slice none 0 0,.slice none 0 0] 30 W)
  {c0 c1 c3 c4 c6 c8 c9 Aa Ab Ad Ae Af Ag Ah Ak Al Am An Ao Ap Aq Ar As Av Aw Ax Ay Az Ba Bb Bc Be Bf Bh Bi Bj Bk Bm Bn Bo Bp Bq Br Bs Bt Bu Bv Bw Bx By Bz Ca Cb Cc Cd Ce Cf Cg Ch Ci Cj Ck Cl Cm Cn Co Cp Cq Cr Ct Cu Cv Cw Cx Cy Cz Da Db Dc Dd De Df Dg Dh Di Dj Dk Dl Dn Dp Dq Dr Dt Du Dv Dw Dx Dy Dz Ea Eb Ec Ed Ee Ef Eg Eh Ei Ej Ek El Em En Eo Ep Eq Er Es Et Eu Ev Ew Ex Ey Ez Fa Fb Fc Fd Fe Ff Fg Fh Fi Fj Fk Fm Fn Fo Fp Fq Fs Ft Fu Fv Fw Fx Fy Fz Ga Gb Gc Gd Ge Gf Gg Gh Gi Gj Gk Gl Gm Gn Go Gp Gq Gr Gs Gt Gu Gv Gw Gx Gy Gz Ha Hb Hc Hd He Hf Hg Hh Hi Hj Hk Hl Hm Hn Ho Hp Hq Hr Hs Ht Hu Hv Hw Hx Hy Hz Ia Ib Ic Id Ie Ig Ih Ii Ij Ik Il Im Io Ip Iq Ir It Iu Iv Iw Ix Iy Iz Ja Jb Jc Jd Je Jf Jg Jh Ji Jj Jk Jl Jm Jn Jo Jp Jq Jr Js Jt Ju Jv Jw Jx Jy Jz Ka Kb Kc Kd Ke Kf Kg Kh Ki Kj Kk Kl Km Kn Ko Kp Kq Kr Ks Kt Ku Kv Kw Kx Kz La Lb Lc Ld Le Lf Lg Lh Li Lj Lk Ll Lm Ln Lo Lp Lq Lr Lt Lu Lv Lx Ly Lz Ma Mb Mc Md Me Mf:Value} {Q0:EP} (hpan:∀ c (a:Act) d v w,Q0 (.panic c) (a.put d v) w->Q0 (.panic c) a w)
  (hexit:∀ (u3 Mg Mh Mi Mj Ml Mm Mn Mp Mq Mr Ms Mt Mu Mw Mx My Mz Na Nb Nc Nd Ne Ng Nh Ni Nj Nk Nl Nm Nn Np Nq Nr Ns Nt Nu Nv Nw Nx Ny Nz Oa Ob Oc Od Oe Og Oh Oi Oj Ok Ol Oo Op Oq Os Ot Ou Ov Ow Ox Oy Oz Pa Pb Pc Pd Pe Pf Pg Ph Pi Pj Pk Pl Pm Pn Po Pp Pq Ps Pt Pu Pv Pw Px Py Pz Qa Qb Qc Qd Qe Qf Qg Qh Qi Qj Qk Ql Qm Qn Qo Qp Qq Qr Qs Qt Qu Qv Qw Qx Qy Qz Ra Rb Rc Re Rf Rg Rh Ri Rj Rk Rl Rm Rn Ro Rp Rq Rr Rt Ru Rv Rx Ry Rz Sa Sc Sd Se Sf Sg Sh Si Sj Sk Sm Sn So Sr St Sv Sx Sy Sz Tb Tc:Value) (Y:Ds) (lv' iv' av':Value) (vs':List (Value×Value)) (w':World),q0m A.arcs (List.replicate A.st true) k l X=some Y->Ls w' O lv' vs' Y.subs->Om w' O syms 0 iv' fv av' (q1s b0 Y.subs.length) fin Y.arcs->Below W.heap.size W w'->Q0 .normal ⟨#[c0,c1,.pointer (some ⟨RB,0,none⟩),u3,c4,.pointer (some ⟨V,0,none⟩),c6,.pointer (some ⟨O,0,none⟩),c8,c9,Aa,Ab,Ad,lv',.int .i64 (k:Int),Ae,Af,Ag,.int .i64 (l:Int),Mg,Mh,Mi,Mj,Ml,Mm,Mn,Mp,Mq,Mr,Av,Aw,Ax,Ay,Az,Ba,Bb,Bc,Be,Bf,Bh,Bi,Bj,Bk,Bm,Bn,Bo,Bp,Bq,Br,Bs,Bt,Bu,Bv,Bw,Bx,By,Bz,Ca,Cb,Cc,Cd,Ce,Cf,Cg,Ch,Ci,Cj,Ck,Cl,Cm,Cn,Co,Cp,Cq,Cr,Ct,Cu,Cv,Cw,Cx,Cy,Cz,Da,Db,Dc,Dd,De,Df,Dg,Dh,Di,Dj,Dk,Dl,Dn,Dp,Dq,Dr,Dt,Du,Dv,Dw,Dx,Dy,Dz,Ea,Eb,Ec,Ed,Ee,Ef,Eg,Eh,Ei,Ej,Ek,El,Em,En,Eo,Ep,Eq,Er,Es,Et,Eu,Ev,Ew,Ex,Ey,Ez,Fa,Fb,Fc,Fd,Fe,Ff,Fg,Fh,Fi,Fj,Fk,Fm,Fn,Fo,Fp,Fq,Fs,Ft,Fu,Fv,Fw,Fx,Fy,Fz,Ga,Gb,Gc,Gd,Ms,Mt,Mu,Mw,Mx,My,Mz,Na,Nb,Nc,Nd,Ne,Ng,Nh,Ni,Nj,Nk,Nl,Nm,Nn,Np,Nq,Nr,Ns,Nt,Nu,Nv,Nw,Nx,Ny,Nz,Oa,Ob,Oc,Od,Oe,Og,Oh,Oi,Oj,Ok,Ol,Oo,Op,Oq,Os,Ot,Ou,Ov,Ow,Ox,Oy,Oz,Pa,Pb,Pc,Pd,Pe,Pf,Pg,Ph,Pi,Pj,Pk,Pl,Pm,Pn,Po,Pp,Pq,Ps,Pt,Pu,Pv,Pw,Px,Py,Pz,Qa,Qb,Qc,Qd,Qe,Qf,Qg,Qh,Qi,Qj,Qk,Ql,Qm,Qn,Qo,Qp,Qq,Qr,Qs,Qt,Qu,Qv,Qw,Qx,Qy,Qz,Ra,Rb,Rc,Re,Rf,Rg,Rh,Ri,Rj,Rk,Rl,Rm,Rn,Ro,Rp,Rq,Rr,Rt,Ru,Rv,Rx,Ry,Rz,Sa,Sc,Sd,Se,Sf,Sg,Sh,Si,Sj,Sk,Sm,Sn,So,Sr,St,Sv,Sx,Sy,Sz,Tb,Tc,Mc,Md,Me,Mf],[]⟩ w')
  (hret:∀ (Td Mg Mh Mi Mj Ml Mm Mn Mp Mq Mr Ms Mt Mu Mw Mx My Mz Na Nb Nc Nd Ne Ng Nh Ni Nj Nk Nl Nm Nn Np Nq Nr Ns Nt Nu Nv Nw Nx Ny Nz Oa Ob Oc Od Oe Og Oh Oi Oj Ok Ol Oo Op Oq Os Ot Ou Ov Ow Ox Oy Oz Pa Pb Pc Pd Pe Pf Pg Ph Pi Pj Pk Pl Pm Pn Po Pp Pq Ps Pt Pu Pv Pw Px Py Pz Qa Qb Qc Qd Qe Qf Qg Qh Qi Qj Qk Ql Qm Qn Qo Qp Qq Qr Qs Qt Qu Qv Qw Qx Qy Qz Ra Rb Rc Re Rf Rg Rh Ri Rj Rk Rl Rm Rn Ro Rp Rq Rr Rt Ru Rv Rx Ry Rz Sa Sc Sd Se Sf Sg Sh Si Sj Sk Sm Sn So Sr St Sv Sx Sy Sz Tb Tc:Value) (w':World),q0m A.arcs (List.replicate A.st true) k l X=none->Bl RB [.int .i64 0,.slice none 0 0,.int .i64 0,.int .i64 0,.slice none 0 0,.slice none 0 0,.slice none 0 0] 30 w'->Below G0 W w'->Q0 .ret ⟨#[c0,c1,.pointer (some ⟨RB,0,none⟩),.int .i64 2,c4,.pointer (some ⟨V,0,none⟩),c6,.pointer (some ⟨O,0,none⟩),c8,c9,Aa,Ab,Ad,Td,.int .i64 (k:Int),Ae,Af,Ag,.int .i64 (l:Int),Mg,Mh,Mi,Mj,Ml,Mm,Mn,Mp,Mq,Mr,Av,Aw,Ax,Ay,Az,Ba,Bb,Bc,Be,Bf,Bh,Bi,Bj,Bk,Bm,Bn,Bo,Bp,Bq,Br,Bs,Bt,Bu,Bv,Bw,Bx,By,Bz,Ca,Cb,Cc,Cd,Ce,Cf,Cg,Ch,Ci,Cj,Ck,Cl,Cm,Cn,Co,Cp,Cq,Cr,Ct,Cu,Cv,Cw,Cx,Cy,Cz,Da,Db,Dc,Dd,De,Df,Dg,Dh,Di,Dj,Dk,Dl,Dn,Dp,Dq,Dr,Dt,Du,Dv,Dw,Dx,Dy,Dz,Ea,Eb,Ec,Ed,Ee,Ef,Eg,Eh,Ei,Ej,Ek,El,Em,En,Eo,Ep,Eq,Er,Es,Et,Eu,Ev,Ew,Ex,Ey,Ez,Fa,Fb,Fc,Fd,Fe,Ff,Fg,Fh,Fi,Fj,Fk,Fm,Fn,Fo,Fp,Fq,Fs,Ft,Fu,Fv,Fw,Fx,Fy,Fz,Ga,Gb,Gc,Gd,Ms,Mt,Mu,Mw,Mx,My,Mz,Na,Nb,Nc,Nd,Ne,Ng,Nh,Ni,Nj,Nk,Nl,Nm,Nn,Np,Nq,Nr,Ns,Nt,Nu,Nv,Nw,Nx,Ny,Nz,Oa,Ob,Oc,Od,Oe,Og,Oh,Oi,Oj,Ok,Ol,Oo,Op,Oq,Os,Ot,Ou,Ov,Ow,Ox,Oy,Oz,Pa,Pb,Pc,Pd,Pe,Pf,Pg,Ph,Pi,Pj,Pk,Pl,Pm,Pn,Po,Pp,Pq,Ps,Pt,Pu,Pv,Pw,Px,Py,Pz,Qa,Qb,Qc,Qd,Qe,Qf,Qg,Qh,Qi,Qj,Qk,Ql,Qm,Qn,Qo,Qp,Qq,Qr,Qs,Qt,Qu,Qv,Qw,Qx,Qy,Qz,Ra,Rb,Rc,Re,Rf,Rg,Rh,Ri,Rj,Rk,Rl,Rm,Rn,Ro,Rp,Rq,Rr,Rt,Ru,Rv,Rx,Ry,Rz,Sa,Sc,Sd,Se,Sf,Sg,Sh,Si,Sj,Sk,Sm,Sn,So,Sr,St,Sv,Sx,Sy,Sz,Tb,Tc,Mc,Md,Me,Mf],[]⟩ w') :
  Code.wp Tryz.prog (eB 7) Q0 ⟨#[c0,c1,.pointer (some ⟨RB,0,none⟩),c3,c4,.pointer (some ⟨V,0,none⟩),c6,.pointer (some ⟨O,0,none⟩),c8,c9,Aa,Ab,Ad,lv,.int .i64 (k:Int),Ae,Af,Ag,.int .i64 (l:Int),Ah,Ak,Al,Am,An,Ao,Ap,Aq,Ar,As,Av,Aw,Ax,Ay,Az,Ba,Bb,Bc,Be,Bf,Bh,Bi,Bj,Bk,Bm,Bn,Bo,Bp,Bq,Br,Bs,Bt,Bu,Bv,Bw,Bx,By,Bz,Ca,Cb,Cc,Cd,Ce,Cf,Cg,Ch,Ci,Cj,Ck,Cl,Cm,Cn,Co,Cp,Cq,Cr,Ct,Cu,Cv,Cw,Cx,Cy,Cz,Da,Db,Dc,Dd,De,Df,Dg,Dh,Di,Dj,Dk,Dl,Dn,Dp,Dq,Dr,Dt,Du,Dv,Dw,Dx,Dy,Dz,Ea,Eb,Ec,Ed,Ee,Ef,Eg,Eh,Ei,Ej,Ek,El,Em,En,Eo,Ep,Eq,Er,Es,Et,Eu,Ev,Ew,Ex,Ey,Ez,Fa,Fb,Fc,Fd,Fe,Ff,Fg,Fh,Fi,Fj,Fk,Fm,Fn,Fo,Fp,Fq,Fs,Ft,Fu,Fv,Fw,Fx,Fy,Fz,Ga,Gb,Gc,Gd,Ge,Gf,Gg,Gh,Gi,Gj,Gk,Gl,Gm,Gn,Go,Gp,Gq,Gr,Gs,Gt,Gu,Gv,Gw,Gx,Gy,Gz,Ha,Hb,Hc,Hd,He,Hf,Hg,Hh,Hi,Hj,Hk,Hl,Hm,Hn,Ho,Hp,Hq,Hr,Hs,Ht,Hu,Hv,Hw,Hx,Hy,Hz,Ia,Ib,Ic,Id,Ie,Ig,Ih,Ii,Ij,Ik,Il,Im,Io,Ip,Iq,Ir,It,Iu,Iv,Iw,Ix,Iy,Iz,Ja,Jb,Jc,Jd,Je,Jf,Jg,Jh,Ji,Jj,Jk,Jl,Jm,Jn,Jo,Jp,Jq,Jr,Js,Jt,Ju,Jv,Jw,Jx,Jy,Jz,Ka,Kb,Kc,Kd,Ke,Kf,Kg,Kh,Ki,Kj,Kk,Kl,Km,Kn,Ko,Kp,Kq,Kr,Ks,Kt,Ku,Kv,Kw,Kx,Kz,La,Lb,Lc,Ld,Le,Lf,Lg,Lh,Li,Lj,Lk,Ll,Lm,Ln,Lo,Lp,Lq,Lr,Lt,Lu,Lv,Lx,Ly,Lz,Ma,Mb,Mc,Md,Me,Mf],[]⟩ w:=by
 conv=>arg 2; whnf
 have hSw:=hid (hS.out.next hb)
 have hst:=hSw.out.st
 have y3:=hSw.out.vw.cell (i:=3) rfl
 have hCC:=hSw.out.cC
 obtain ⟨v,hv⟩:∃ v,X.subs[k]? = some v:=⟨_,List.getElem?_eq_getElem hk⟩
 have hvR:=hid (show X.subs.getD k []=v by rw [List.getD_eq_getElem?_getD,hv]; rfl)
 have hvl:=hX.out.len v (List.mem_of_getElem? hv)
 have hnum:=hX.out.num
 have hvB:=hX.out.bd k v hv
 have hbdR:Hid (∀ p∈sup v,p.2<=1000000000):=hid fun p hp=>by
  have h1:=hvB p.2 (List.mem_of_getElem? (q4g.1 (show (p.1,p.2)∈sup v from hp)))
  have h2:C*(k+1)<=1048576*64:=Nat.mul_le_mul hCC (by omega)
  omega
 have hbdS:Bd (C*66) (vQ A.arcs (List.replicate A.st true) v l):=(q0v hvB hS.out.cst.1 _).mono (by
  have e:C*(k+1)+C=C*(k+2):=by rw [Nat.mul_add,Nat.mul_add]; omega
  rw [e]; exact Nat.mul_le_mul_left _ (by omega))
 have hC66:C*66<=69206016:=by omega
 obtain ⟨lb,lc,so,sc,uo,uc,hlv,hcs,hRs⟩:=hL.get hv
 subst hlv
 have hpn:(sup v).length<=64:=Nat.le_trans (q0o _ _) (by rw [hvl]; exact hst)
 obtain ⟨pn,hpe⟩:∃ pn,(sup v).length=pn:=⟨_,rfl⟩
 rw [hpe] at hcs hRs hpn
 obtain ⟨m,hm⟩:∃ m,X.subs.length=m:=⟨_,rfl⟩
 rw [hm] at hk hnum hL ⊢
 replace hm:=hid hm
 replace hL:=hid hL
 replace hO:=hid hO
 replace hcs:=hid hcs
 replace hRs:=hid hRs
 replace hbdS:=hid hbdS
 have hvl:=hid hvl
 have hOl:=hid hO.out.blk.lt
 clear hv hvB hpe
 go_wp2_with fail
 refine (q8d A.st hst w).mono ?_; rintro e w1 ⟨⟨g,rfl,hg1⟩,hb1⟩
 have hglt:=hid (hg1.lt).1
 have hrl:Hid ((List.replicate A.st (none:Option Nat)).length=A.st):=hid (by simp)
 replace hb1:=hid hb1
 replace hg1:=hid hg1
 go_upto_block 8 with fail
 refine z4q w V syms C A io ci fo cf ro nr cr hSw lb 0 m lc k hk hnum so sc uo uc pn (sup v) hcs hRs w.heap.size g l (List.replicate A.st none) hrl hpn hbdR w1 hb1.out hglt.out hg1.out hpan ?_
 intro Te Tf Tg Th Ti Tj Tk Tl Tm Tn Tq Tr Ts Tt Tu Tv Tx Ty Tz Ua Ub Uc Ud Ue Uf Ug Uh Ui Uj Uk Ul Um Un Uo Up Ur Ut Uu Uv Uw Ux Uy Uz Va Vb Vc Vd Ve Vf Vg Vh Vi Vj Vk Vl Vm Vn Vp Vq Vr Vs Vt Vu Vv Vw Vy Vz Wa Wb Wc We Wf Wg Wh Wi Wj Wl w2 hg2 hf2
 rw [<-hvl.out,j8r A l v] at hg2
 have hb2:Hid (Below w.heap.size w w2):=hid (hb1.out.trans (hf2.below (fun q e=>by subst e; exact hglt.out) hb1.out.size))
 obtain ⟨S,hSv⟩:∃ S,vQ A.arcs (List.replicate A.st true) v l=S:=⟨_,rfl⟩
 have hSB:=hbdS.out
 rw [hSv] at hg2 hSB
 have hSl:S.length=A.st:=by rw [<-hSv,kB]; exact hvl.out
 replace hSv:=hid hSv
 replace hf2:=hid hf2
 go_upto_region 42 with fail
 refine z4t w.heap.size g A.st S hSl hst (hSB.mono (by omega)) w2 hg2 hpan ?_
 intro Wm Wn Wo Wp Wq Wr Y sv rv w3 hY3 hYw hSq3 hb3
 have hb3w:Hid (Below w.heap.size w w3):=hid (qQ hb2.out hb3)
 have hbW3:Hid (Below W.heap.size W w3):=hid (hb.trans (hb3w.out.mono hb.size))
 have hYw2:Hid (w.heap.size<=Y):=hid (Nat.le_trans hb2.out.size hYw)
 have hSqO:Hid (Sq w3 (O+1) sv rv (sup (vR S ((qG S).getD 0)))):=hid (hSq3.mono (by have:=hOl.out; have:=hb2.out.size; omega))
 have hSqW:Hid (Sq w3 w.heap.size sv rv (sup (vR S ((qG S).getD 0)))):=hid (hSq3.mono hb2.out.size)
 replace hY3:=hid hY3
 replace hb3:=hid hb3
 clear hSq3 hg2
 cases hlS:qG S with
 | none =>
  have hone:Hid (q0m A.arcs (List.replicate A.st true) k l X=some X):=hid (by unfold q0m; rw [hvR.out,hSv.out,q1x,hlS]; rfl)
  replace hlS:=hid hlS
  clear hSqO hSqW
  unfold oV
  rw [zP]
  go_wp2_with fail
  exact hexit _ _ _ _ _ _ _ _ _ _ _ _ _ _ _ _ _ _ _ _ _ _ _ _ _ _ _ _ _ _ _ _ _ _ _ _ _ _ _ _ _ _ _ _ _ _ _ _ _ _ _ _ _ _ _ _ _ _ _ _ _ _ _ _ _ _ _ _ _ _ _ _ _ _ _ _ _ _ _ _ _ _ _ _ _ _ _ _ _ _ _ _ _ _ _ _ _ _ _ _ _ _ _ _ _ _ _ _ _ _ _ _ _ _ _ _ _ _ _ _ _ _ _ _ _ _ _ _ _ _ _ _ _ _ _ _ _ _ _ _ _ _ _ _ _ _ _ _ _ _ _ _ _ _ _ _ _ _ _ X _ iv av vs w3 hone.out (hL.out.next hb3w.out) (hO.out.next hb3w.out) hbW3.out
 | some c =>
  rw [hlS] at hSqO hSqW
  obtain ⟨S',hS'⟩:∃ S',vR S c=S':=⟨_,rfl⟩
  have hSqO:Hid (Sq w3 (O+1) sv rv (sup S')):=hid (by rw [<-hS']; exact hSqO.out)
  have hSqW:Hid (Sq w3 w.heap.size sv rv (sup S')):=hid (by rw [<-hS']; exact hSqW.out)
  have hSl':S'.length=A.st:=by rw [<-hS',vZ]; exact hSl
  have hSB':Bd (C*66) S':=by rw [<-hS']; exact q9h hSB
  have hres:Hid (∀ p∈sup S',p.2<=1000000000):=hid fun p hp=>by
   have h1:=hSB' p.2 (List.mem_of_getElem? (q4g.1 (show (p.1,p.2)∈sup S' from hp)))
   omega
  have hone1:∀ num,X.subs.findIdx? (· == S')=some num->q0m A.arcs (List.replicate A.st true) k l X=some ⟨X.subs,X.arcs++[(k,l,num,some c)]⟩:=fun num hn=>j1s hvR.out hSv.out hlS (by rw [hS']; exact hn)
  have hone2:X.subs.findIdx? (· == S')=none->q0m A.arcs (List.replicate A.st true) k l X=if X.subs.length=64 then none else some ⟨X.subs++[S'],X.arcs++[(k,l,X.subs.length,some c)]⟩:=fun hn=>by rw [j1t hvR.out hSv.out hlS (by rw [hS']; exact hn),hS']
  replace hone1:=hid hone1
  replace hone2:=hid hone2
  have hc66:c<=C*66:=hSB c (zZ hlS)
  replace hlS:=hid hlS
  replace hS':=hid hS'
  have hpm:(sup S').length<=64:=Nat.le_trans (q0o _ _) (by rw [hSl']; exact hst)
  obtain ⟨so',sc',uo',uc',e1,e2,hRs'⟩:=hSqW.out.rs
  subst e1 e2
  obtain ⟨pm,hpe⟩:∃ pm,(sup S').length=pm:=⟨_,rfl⟩
  rw [hpe] at hRs' hpm
  have hY3':=hY3.out
  rw [hpe] at hY3'
  have hY3':=hid hY3'
  replace hRs':=hid hRs'
  replace hSl':=hid hSl'
  have hlen:Hid (∀ S∈X.subs,S.length=A.st):=hid hX.out.len
  have hLn:=hL.out
  have hL3:=hid (hL.out.next hb3w.out)
  have hcv:Hid (oV (some c)=.int .i64 (c:Int)):=hid rfl
  unfold oV
  rw [zN]
  clear hSB hSB' hbdS
  go_upto_block 12 with fail
  refine z2i lb m lc Y O A.st vs X.subs S' so' sc' uo' uc' pm w3 hL3.out hm.out (by omega) hst hlen hSl' hpe hY3'.out hRs'.out hpan ?_
  intro Ws Wt Wu Wv Ww Wx Wy Wz Xa Xb Xc Xd Xe Xf Xg f w4 hf hfm hb4
  have hb4w:Hid (Below w.heap.size w w4):=hid (qQ hb3w.out hb4)
  have hbW4:Hid (Below W.heap.size W w4):=hid (hb.trans (hb4w.out.mono hb.size))
  have hO4:=hid (hO.out.next hb4w.out)
  have hL4:=hid (hL.out.next hb4w.out)
  have hY4:=hid (hY3'.out.next hb4)
  have hYs:Y<w3.heap.size:=hY3'.out.lt
  have hRs4:=hid (hRs'.out.next hb4)
  have hSq4:=hid (hSqO.out.next hb4)
  have hSqW4:=hid (hSqW.out.next hb4)
  replace hb4:=hid hb4
  by_cases hfe:f=m
  ·subst hfe
   have hnone:X.subs.findIdx? (· == S')=none:=by
    cases hi:X.subs.findIdx? (· == S') with
    | none=>rfl
    | some j =>
     have h1:=hf.out
     rw [hi] at h1
     have:=(List.findIdx?_eq_some_iff_getElem.1 hi).1
     have h2:j=f:=h1
     have:=hm.out
     omega
   have hone:=hone2.out hnone
   rw [hm.out] at hone
   replace hone:=hid hone
   clear hnone
   go_upto_region 48 with fail
   refine z4s O Y (.slice (some ⟨lb,0,none⟩) f lc) _ _ vs X.subs S' w4 hL4.out (by rw [hm.out]; omega) (by rw [hpe]; exact hY4.out) hSq4.out (by have:=hOl.out; have:=hb4w.out.size; omega) hpan ?_
   intro Xh Xi Xj Xk lv5 w5 hL5 hf5 hb5
   have hno5:∀ q,OmB O iv fv av q->¬ (Value.slice (some ⟨lb,0,none⟩) f lc).ownBlock=some q:=fun q hq e=>by
    rcases hq with rfl | hq | hq | hq
    ·have:=(hL4.out.row.lt e).1; omega
    ·exact jK hL4.out.row hO4.out.ini (by decide) q e hq
    ·exact jK hL4.out.row hO4.out.fin (by decide) q e hq
    ·exact jK hL4.out.row hO4.out.arcs (by decide) q e hq
   have hO5:=hid (hO4.out.fr hf5 hno5)
   have hnl5:∀ q,w.heap.size<=q->¬ (Value.slice (some ⟨lb,0,none⟩) f lc).ownBlock=some q:=fun q hq=>hLn.row.nlt hq
   have hY5:=hid (hY4.out.fr hf5 (hnl5 Y hYw2.out))
   have hSq5:=hid (hSqW4.out.fr hf5 (fun q hq=>hnl5 q (hSqW4.out.sts.lt hq).1) (fun q hq=>hnl5 q (hSqW4.out.rst.lt hq).1))
   have hbW5:=hid (hbW4.out.trans (hb5.mono (by omega)))
   replace hL5:=hid hL5
   replace hf5:=hid hf5
   go_upto_region 49 with fail
   refine j8z O syms 0 iv fv av (q1s b0 X.subs.length) fin X.arcs w5 hO5.out (by rw [q3x,hm.out]; omega) hpan ?_
   intro Xl Xm Xn Xo Xp Xq iv6 w6 hO6 hf6
   rw [j6t (by rw [hm.out]; omega)] at hO6
   have hno6:∀ q,(q=O\/iv.ownBlock=some q)->OmB O iv fv av q:=fun q hq=>by
    rcases hq with rfl | hq
    ·exact .inl rfl
    ·exact .inr (.inl hq)
   have hL6:=hid (hL5.out.out hO5.out (hf6.mono fun q _ h=>hno6 q h))
   have hivs:∀ q,w.heap.size<=q->¬ (q=O\/iv.ownBlock=some q):=fun q hq e=>by
    rcases e with rfl | e
    ·have:=hOl.out; omega
    ·have:=(hO.out.ini.lt e).2; omega
   have hY6:=hid (hY5.out.fr hf6 (hivs Y hYw2.out))
   have hSq6:=hid (hSq5.out.fr hf6 (fun q hq=>hivs q (hSq5.out.sts.lt hq).1) (fun q hq=>hivs q (hSq5.out.rst.lt hq).1))
   have hbW6:=hid (hbW5.out.trans (hf6.below (fun q e=>by
    rcases e with rfl | e
    ·exact hOW
    ·have:=(hO5.out.ini.lt e).1; omega) hbW5.out.size))
   obtain ⟨_,_,_,_,q1,q2,hRs6⟩:=hSq6.out.rs
   injection q1 with q1 q1' q1''; subst q1 q1''
   injection q2 with q2 q2' q2''; subst q2 q2''
   rw [hpe] at hRs6
   replace hO6:=hid hO6
   replace hf6:=hid hf6
   replace hRs6:=hid hRs6
   clear q1' q2'
   go_upto_block 14 with fail
   refine j5o Y pm _ _ _ _ (sup S') hpm hres w6 hY6.out hRs6.out hpan ?_
   intro z3 Xr Xs Xt Xu Xv Xw Xx Xy Xz Ya Yb Yc Yd Ye Yf
   go_upto_region 55 with fail
   refine z1e O syms 0 k l f c iv6 fv av (q1s b0 (X.subs.length+1)) fin X.arcs w6 hO6.out (by omega) hpan ?_
   intro Yg Yh Yi Yj Yk Yl Ym Yn Yo Yp Yq ao ac w7 hO7 hf7
   have hno7:∀ q,(q=O\/av.ownBlock=some q)->OmB O iv6 fv av q:=fun q hq=>by
    rcases hq with rfl | hq
    ·exact .inl rfl
    ·exact .inr (.inr (.inr hq))
   have hL7:=hid (hL6.out.out hO6.out (hf7.mono fun q _ h=>hno7 q h))
   have hbW7:=hid (hbW6.out.trans (hf7.below (fun q e=>by
    rcases e with rfl | e
    ·exact hOW
    ·have:=(hO6.out.arcs.lt e).1; omega) hbW6.out.size))
   have y6:=hO7.blk.cell (i:=6) rfl
   replace hO7:=hid hO7
   replace hf7:=hid hf7
   obtain ⟨lo7,lc7,hlv7⟩:=hL5.out.row.form
   have hvn:((vs++[(Value.slice so' (sup S').length sc',Value.slice uo' (sup S').length uc')]).map fun p=>[p.1,p.2]).length=f+1:=by
    rw [List.length_map,List.length_append,hLn.num,hm.out]; rfl
   rw [hvn] at hlv7
   clear hvn
   subst hlv7
   have k2:¬ (2048:Int)<((X.arcs.length+1:Nat):Int):=by omega
   by_cases h64:f=64
   ·rw [if_pos h64] at hone
    subst h64
    have hRBn:=hid (hRB.next hbW7.out)
    go_wp2_with ((with_reducible refine jG rfl _ _ rfl RB 30 _ hRBn.out ?_ [.int .i64 0,.slice none 0 0,.int .i64 0,.int .i64 0,.slice none 0 0,.slice none 0 0,.slice none 0 0] rfl rfl ?_ j8d ?_); exact rfl; exact rfl; intro w9 hR9 hfr9)
    exact hret _ _ _ _ _ _ _ _ _ _ _ _ _ _ _ _ _ _ _ _ _ _ _ _ _ _ _ _ _ _ _ _ _ _ _ _ _ _ _ _ _ _ _ _ _ _ _ _ _ _ _ _ _ _ _ _ _ _ _ _ _ _ _ _ _ _ _ _ _ _ _ _ _ _ _ _ _ _ _ _ _ _ _ _ _ _ _ _ _ _ _ _ _ _ _ _ _ _ _ _ _ _ _ _ _ _ _ _ _ _ _ _ _ _ _ _ _ _ _ _ _ _ _ _ _ _ _ _ _ _ _ _ _ _ _ _ _ _ _ _ _ _ _ _ _ _ _ _ _ _ _ _ _ _ _ _ _ _ _ w9 hone.out hR9 ((hbW7.out.mono (by omega)).trans (hfr9.below (fun q e=>by subst e; exact hG.1) (by have:=hbW7.out.size; omega)))
   ·rw [if_neg h64] at hone
    have k1:¬ (64:Int)<((f+1:Nat):Int):=by omega
    clear h64
    go_wp2_with fail
    exact hexit _ _ _ _ _ _ _ _ _ _ _ _ _ _ _ _ _ _ _ _ _ _ _ _ _ _ _ _ _ _ _ _ _ _ _ _ _ _ _ _ _ _ _ _ _ _ _ _ _ _ _ _ _ _ _ _ _ _ _ _ _ _ _ _ _ _ _ _ _ _ _ _ _ _ _ _ _ _ _ _ _ _ _ _ _ _ _ _ _ _ _ _ _ _ _ _ _ _ _ _ _ _ _ _ _ _ _ _ _ _ _ _ _ _ _ _ _ _ _ _ _ _ _ _ _ _ _ _ _ _ _ _ _ _ _ _ _ _ _ _ _ _ _ _ _ _ _ _ _ _ _ _ _ _ _ _ _ _ _ ⟨X.subs++[S'],X.arcs++[(k,l,f,some c)]⟩ _ iv6 _ _ w7 hone.out hL7.out (by rw [List.length_append]; exact hO7.out) hbW7.out
  ·have hlt:f<m:=by omega
   have hsome:X.subs.findIdx? (· == S')=some f:=by
    cases hi:X.subs.findIdx? (· == S') with
    | none=>have h1:=hf.out; rw [hi] at h1; exact absurd h1.symm hfe
    | some j=>have h1:=hf.out; rw [hi] at h1; exact congrArg some h1
   have hone:=hid (hone1.out f hsome)
   have k0:((f:Int)==(m:Int))=false:=by rw [beq_eq_false_iff_ne]; omega
   have k0':¬ (f:Int)=(m:Int):=by omega
   clear hsome hfe
   go_upto_block 14 with fail
   refine j5o Y pm _ _ _ _ (sup S') hpm hres w4 hY4.out hRs4.out hpan ?_
   intro z3 Xr Xs Xt Xu Xv Xw Xx Xy Xz Ya Yb Yc Yd Ye Yf
   go_upto_region 55 with fail
   refine z1e O syms 0 k l f c iv fv av (q1s b0 X.subs.length) fin X.arcs w4 hO4.out (by omega) hpan ?_
   intro Yg Yh Yi Yj Yk Yl Ym Yn Yo Yp Yq ao ac w7 hO7 hf7
   have hno7:∀ q,(q=O\/av.ownBlock=some q)->OmB O iv fv av q:=fun q hq=>by
    rcases hq with rfl | hq
    ·exact .inl rfl
    ·exact .inr (.inr (.inr hq))
   have hL7:=hid (hL4.out.out hO4.out (hf7.mono fun q _ h=>hno7 q h))
   have hbW7:=hid (hbW4.out.trans (hf7.below (fun q e=>by
    rcases e with rfl | e
    ·exact hOW
    ·have:=(hO4.out.arcs.lt e).1; omega) hbW4.out.size))
   have y6:=hO7.blk.cell (i:=6) rfl
   replace hO7:=hid hO7
   replace hf7:=hid hf7
   have k2:¬ (2048:Int)<((X.arcs.length+1:Nat):Int):=by omega
   have k1:¬ (64:Int)<(m:Int):=by omega
   go_wp2_with fail
   exact hexit _ _ _ _ _ _ _ _ _ _ _ _ _ _ _ _ _ _ _ _ _ _ _ _ _ _ _ _ _ _ _ _ _ _ _ _ _ _ _ _ _ _ _ _ _ _ _ _ _ _ _ _ _ _ _ _ _ _ _ _ _ _ _ _ _ _ _ _ _ _ _ _ _ _ _ _ _ _ _ _ _ _ _ _ _ _ _ _ _ _ _ _ _ _ _ _ _ _ _ _ _ _ _ _ _ _ _ _ _ _ _ _ _ _ _ _ _ _ _ _ _ _ _ _ _ _ _ _ _ _ _ _ _ _ _ _ _ _ _ _ _ _ _ _ _ _ _ _ _ _ _ _ _ _ _ _ _ _ _ ⟨X.subs,X.arcs++[(k,l,f,some c)]⟩ _ iv _ vs w7 hone.out hL7.out hO7.out hbW7.out
end
section
open Go.RowKit
theorem z4r (W:World) (V syms C:Nat) (A:Au) (io:OA) (ci:Nat) (fo:OA) (cf:Nat) (ro:OA) (nr cr:Nat) (hS:Hid (Rta W V syms C A io ci fo cf ro nr cr)) (aio:OA) (aci:Nat) (afo:OA) (acf:Nat) (aro:OA) (anr acr ast G:Nat) (hGb:Bl G (auC syms ast (.slice aio ast aci) (.slice afo ast acf) (.slice aro anr acr)) 30 W) (G0 RB O k b0:Nat) (lv iv fv av:Value) (vs:List (Value×Value)) (fin:List Tw) (X:Ds) (w:World) (hb:Below W.heap.size W w) (hk:k<X.subs.length) (hX:Hid (Dok A.st C k X)) (hL:Ls w O lv vs X.subs) (hO:Om w O syms 0 iv fv av (q1s b0 X.subs.length) fin X.arcs) (hla:X.arcs.length+syms<=2048) (hG:G0<=RB/\RB<W.heap.size) (hOW:W.heap.size<=O) (hRB:Bl RB [.int .i64 0,.slice none 0 0,.int .i64 0,.int .i64 0,.slice none 0 0,.slice none 0 0,.slice none 0 0] 30 W)
  {c0 c3 c4 c6 c8 c9 Aa Ab Ad Ae Af Ag Ah Ak Al Am An Ao Ap Aq Ar As Av Aw Ax Ay Az Ba Bb Bc Be Bf Bh Bi Bj Bk Bm Bn Bo Bp Bq Br Bs Bt Bu Bv Bw Bx By Bz Ca Cb Cc Cd Ce Cf Cg Ch Ci Cj Ck Cl Cm Cn Co Cp Cq Cr Ct Cu Cv Cw Cx Cy Cz Da Db Dc Dd De Df Dg Dh Di Dj Dk Dl Dn Dp Dq Dr Dt Du Dv Dw Dx Dy Dz Ea Eb Ec Ed Ee Ef Eg Eh Ei Ej Ek El Em En Eo Ep Eq Er Es Et Eu Ev Ew Ex Ey Ez Fa Fb Fc Fd Fe Ff Fg Fh Fi Fj Fk Fm Fn Fo Fp Fq Fs Ft Fu Fv Fw Fx Fy Fz Ga Gb Gc Gd Ge Gf Gg Gh Gi Gj Gk Gl Gm Gn Go Gp Gq Gr Gs Gt Gu Gv Gw Gx Gy Gz Ha Hb Hc Hd He Hf Hg Hh Hi Hj Hk Hl Hm Hn Ho Hp Hq Hr Hs Ht Hu Hv Hw Hx Hy Hz Ia Ib Ic Id Ie Ig Ih Ii Ij Ik Il Im Io Ip Iq Ir It Iu Iv Iw Ix Iy Iz Ja Jb Jc Jd Je Jf Jg Jh Ji Jj Jk Jl Jm Jn Jo Jp Jq Jr Js Jt Ju Jv Jw Jx Jy Jz Ka Kb Kc Kd Ke Kf Kg Kh Ki Kj Kk Kl Km Kn Ko Kp Kq Kr Ks Kt Ku Kv Kw Kx Kz La Lb Lc Ld Le Lf Lg Lh Li Lj Lk Ll Lm Ln Lo Lp Lq Lr Lt Lu Lv Lx Ly Lz Ma Mb Mc Md Me Mf:Value} {Q0:EP} (hpan:∀ c (a:Act) d v w,Q0 (.panic c) (a.put d v) w->Q0 (.panic c) a w)
  (hexit:∀ (u3 Mg Mh Mi Mj Ml Mm Mn Mp Mq Mr Ms Mt Mu Mw Mx My Mz Na Nb Nc Nd Ne Ng Nh Ni Nj Nk Nl Nm Nn Np Nq Nr Ns Nt Nu Nv Nw Nx Ny Nz Oa Ob Oc Od Oe Og Oh Oi Oj Ok Ol Oo Op Oq Os Ot Ou Ov Ow Ox Oy Oz Pa Pb Pc Pd Pe Pf Pg Ph Pi Pj Pk Pl Pm Pn Po Pp Pq Ps Pt Pu Pv Pw Px Py Pz Qa Qb Qc Qd Qe Qf Qg Qh Qi Qj Qk Ql Qm Qn Qo Qp Qq Qr Qs Qt Qu Qv Qw Qx Qy Qz Ra Rb Rc Re Rf Rg Rh Ri Rj Rk Rl Rm Rn Ro Rp Rq Rr Rt Ru Rv Rx Ry Rz Sa Sc Sd Se Sf Sg Sh Si Sj Sk Sm Sn So Sr St Sv Sx Sy Sz Tb Tc Td Te Tf Tg Th Ti Tj:Value) (Y:Ds) (lv' iv' av':Value) (vs':List (Value×Value)) (w':World),q0j A.arcs (List.replicate A.st true) k syms 1 X=some Y->Dok A.st C k Y->X.subs.length<=Y.subs.length->Y.arcs.length<=X.arcs.length+syms->Ls w' O lv' vs' Y.subs->Om w' O syms 0 iv' fv av' (q1s b0 Y.subs.length) fin Y.arcs->Below W.heap.size W w'->Q0 .normal ⟨#[c0,.pointer (some ⟨G,0,none⟩),.pointer (some ⟨RB,0,none⟩),u3,c4,.pointer (some ⟨V,0,none⟩),c6,.pointer (some ⟨O,0,none⟩),c8,c9,Aa,Ab,Ad,lv',.int .i64 (k:Int),Ae,Af,Ag,Mg,Mh,Mi,Mj,Ml,Mm,Mn,Mp,Mq,Mr,Ms,Av,Aw,Ax,Ay,Az,Ba,Bb,Bc,Be,Bf,Bh,Bi,Bj,Bk,Bm,Bn,Bo,Bp,Bq,Br,Bs,Bt,Bu,Bv,Bw,Bx,By,Bz,Ca,Cb,Cc,Cd,Ce,Cf,Cg,Ch,Ci,Cj,Ck,Cl,Cm,Cn,Co,Cp,Cq,Cr,Ct,Cu,Cv,Cw,Cx,Cy,Cz,Da,Db,Dc,Dd,De,Df,Dg,Dh,Di,Dj,Dk,Dl,Dn,Dp,Dq,Dr,Dt,Du,Dv,Dw,Dx,Dy,Dz,Ea,Eb,Ec,Ed,Ee,Ef,Eg,Eh,Ei,Ej,Ek,El,Em,En,Eo,Ep,Eq,Er,Es,Et,Eu,Ev,Ew,Ex,Ey,Ez,Fa,Fb,Fc,Fd,Fe,Ff,Fg,Fh,Fi,Fj,Fk,Fm,Fn,Fo,Fp,Fq,Fs,Ft,Fu,Fv,Fw,Fx,Mt,Mu,Mw,Mx,My,Mz,Na,Nb,Nc,Nd,Ne,Ng,Nh,Ni,Nj,Nk,Nl,Nm,Nn,Np,Nq,Nr,Ns,Nt,Nu,Nv,Nw,Nx,Ny,Nz,Oa,Ob,Oc,Od,Oe,Og,Oh,Oi,Oj,Ok,Ol,Oo,Op,Oq,Os,Ot,Ou,Ov,Ow,Ox,Oy,Oz,Pa,Pb,Pc,Pd,Pe,Pf,Pg,Ph,Pi,Pj,Pk,Pl,Pm,Pn,Po,Pp,Pq,Ps,Pt,Pu,Pv,Pw,Px,Py,Pz,Qa,Qb,Qc,Qd,Qe,Qf,Qg,Qh,Qi,Qj,Qk,Ql,Qm,Qn,Qo,Qp,Qq,Qr,Qs,Qt,Qu,Qv,Qw,Qx,Qy,Qz,Ra,Rb,Rc,Re,Rf,Rg,Rh,Ri,Rj,Rk,Rl,Rm,Rn,Ro,Rp,Rq,Rr,Rt,Ru,Rv,Rx,Ry,Rz,Sa,Sc,Sd,Se,Sf,Sg,Sh,Si,Sj,Sk,Sm,Sn,So,Sr,St,Sv,Sx,Sy,Sz,Tb,Tc,Td,Te,Tf,Tg,Th,Ti,Tj,Mc,Md,Me,Mf],[]⟩ w')
  (hret:∀ (Tk Mg Mh Mi Mj Ml Mm Mn Mp Mq Mr Ms Mt Mu Mw Mx My Mz Na Nb Nc Nd Ne Ng Nh Ni Nj Nk Nl Nm Nn Np Nq Nr Ns Nt Nu Nv Nw Nx Ny Nz Oa Ob Oc Od Oe Og Oh Oi Oj Ok Ol Oo Op Oq Os Ot Ou Ov Ow Ox Oy Oz Pa Pb Pc Pd Pe Pf Pg Ph Pi Pj Pk Pl Pm Pn Po Pp Pq Ps Pt Pu Pv Pw Px Py Pz Qa Qb Qc Qd Qe Qf Qg Qh Qi Qj Qk Ql Qm Qn Qo Qp Qq Qr Qs Qt Qu Qv Qw Qx Qy Qz Ra Rb Rc Re Rf Rg Rh Ri Rj Rk Rl Rm Rn Ro Rp Rq Rr Rt Ru Rv Rx Ry Rz Sa Sc Sd Se Sf Sg Sh Si Sj Sk Sm Sn So Sr St Sv Sx Sy Sz Tb Tc Td Te Tf Tg Th Ti Tj:Value) (w':World),q0j A.arcs (List.replicate A.st true) k syms 1 X=none->Bl RB [.int .i64 0,.slice none 0 0,.int .i64 0,.int .i64 0,.slice none 0 0,.slice none 0 0,.slice none 0 0] 30 w'->Below G0 W w'->Q0 .ret ⟨#[c0,.pointer (some ⟨G,0,none⟩),.pointer (some ⟨RB,0,none⟩),.int .i64 2,c4,.pointer (some ⟨V,0,none⟩),c6,.pointer (some ⟨O,0,none⟩),c8,c9,Aa,Ab,Ad,Tk,.int .i64 (k:Int),Ae,Af,Ag,Mg,Mh,Mi,Mj,Ml,Mm,Mn,Mp,Mq,Mr,Ms,Av,Aw,Ax,Ay,Az,Ba,Bb,Bc,Be,Bf,Bh,Bi,Bj,Bk,Bm,Bn,Bo,Bp,Bq,Br,Bs,Bt,Bu,Bv,Bw,Bx,By,Bz,Ca,Cb,Cc,Cd,Ce,Cf,Cg,Ch,Ci,Cj,Ck,Cl,Cm,Cn,Co,Cp,Cq,Cr,Ct,Cu,Cv,Cw,Cx,Cy,Cz,Da,Db,Dc,Dd,De,Df,Dg,Dh,Di,Dj,Dk,Dl,Dn,Dp,Dq,Dr,Dt,Du,Dv,Dw,Dx,Dy,Dz,Ea,Eb,Ec,Ed,Ee,Ef,Eg,Eh,Ei,Ej,Ek,El,Em,En,Eo,Ep,Eq,Er,Es,Et,Eu,Ev,Ew,Ex,Ey,Ez,Fa,Fb,Fc,Fd,Fe,Ff,Fg,Fh,Fi,Fj,Fk,Fm,Fn,Fo,Fp,Fq,Fs,Ft,Fu,Fv,Fw,Fx,Mt,Mu,Mw,Mx,My,Mz,Na,Nb,Nc,Nd,Ne,Ng,Nh,Ni,Nj,Nk,Nl,Nm,Nn,Np,Nq,Nr,Ns,Nt,Nu,Nv,Nw,Nx,Ny,Nz,Oa,Ob,Oc,Od,Oe,Og,Oh,Oi,Oj,Ok,Ol,Oo,Op,Oq,Os,Ot,Ou,Ov,Ow,Ox,Oy,Oz,Pa,Pb,Pc,Pd,Pe,Pf,Pg,Ph,Pi,Pj,Pk,Pl,Pm,Pn,Po,Pp,Pq,Ps,Pt,Pu,Pv,Pw,Px,Py,Pz,Qa,Qb,Qc,Qd,Qe,Qf,Qg,Qh,Qi,Qj,Qk,Ql,Qm,Qn,Qo,Qp,Qq,Qr,Qs,Qt,Qu,Qv,Qw,Qx,Qy,Qz,Ra,Rb,Rc,Re,Rf,Rg,Rh,Ri,Rj,Rk,Rl,Rm,Rn,Ro,Rp,Rq,Rr,Rt,Ru,Rv,Rx,Ry,Rz,Sa,Sc,Sd,Se,Sf,Sg,Sh,Si,Sj,Sk,Sm,Sn,So,Sr,St,Sv,Sx,Sy,Sz,Tb,Tc,Td,Te,Tf,Tg,Th,Ti,Tj,Mc,Md,Me,Mf],[]⟩ w') :
  Code.wp Tryz.prog (eB 6) Q0 ⟨#[c0,.pointer (some ⟨G,0,none⟩),.pointer (some ⟨RB,0,none⟩),c3,c4,.pointer (some ⟨V,0,none⟩),c6,.pointer (some ⟨O,0,none⟩),c8,c9,Aa,Ab,Ad,lv,.int .i64 (k:Int),Ae,Af,Ag,.int .i64 1,Ah,Ak,Al,Am,An,Ao,Ap,Aq,Ar,As,Av,Aw,Ax,Ay,Az,Ba,Bb,Bc,Be,Bf,Bh,Bi,Bj,Bk,Bm,Bn,Bo,Bp,Bq,Br,Bs,Bt,Bu,Bv,Bw,Bx,By,Bz,Ca,Cb,Cc,Cd,Ce,Cf,Cg,Ch,Ci,Cj,Ck,Cl,Cm,Cn,Co,Cp,Cq,Cr,Ct,Cu,Cv,Cw,Cx,Cy,Cz,Da,Db,Dc,Dd,De,Df,Dg,Dh,Di,Dj,Dk,Dl,Dn,Dp,Dq,Dr,Dt,Du,Dv,Dw,Dx,Dy,Dz,Ea,Eb,Ec,Ed,Ee,Ef,Eg,Eh,Ei,Ej,Ek,El,Em,En,Eo,Ep,Eq,Er,Es,Et,Eu,Ev,Ew,Ex,Ey,Ez,Fa,Fb,Fc,Fd,Fe,Ff,Fg,Fh,Fi,Fj,Fk,Fm,Fn,Fo,Fp,Fq,Fs,Ft,Fu,Fv,Fw,Fx,Fy,Fz,Ga,Gb,Gc,Gd,Ge,Gf,Gg,Gh,Gi,Gj,Gk,Gl,Gm,Gn,Go,Gp,Gq,Gr,Gs,Gt,Gu,Gv,Gw,Gx,Gy,Gz,Ha,Hb,Hc,Hd,He,Hf,Hg,Hh,Hi,Hj,Hk,Hl,Hm,Hn,Ho,Hp,Hq,Hr,Hs,Ht,Hu,Hv,Hw,Hx,Hy,Hz,Ia,Ib,Ic,Id,Ie,Ig,Ih,Ii,Ij,Ik,Il,Im,Io,Ip,Iq,Ir,It,Iu,Iv,Iw,Ix,Iy,Iz,Ja,Jb,Jc,Jd,Je,Jf,Jg,Jh,Ji,Jj,Jk,Jl,Jm,Jn,Jo,Jp,Jq,Jr,Js,Jt,Ju,Jv,Jw,Jx,Jy,Jz,Ka,Kb,Kc,Kd,Ke,Kf,Kg,Kh,Ki,Kj,Kk,Kl,Km,Kn,Ko,Kp,Kq,Kr,Ks,Kt,Ku,Kv,Kw,Kx,Kz,La,Lb,Lc,Ld,Le,Lf,Lg,Lh,Li,Lj,Lk,Ll,Lm,Ln,Lo,Lp,Lq,Lr,Lt,Lu,Lv,Lx,Ly,Lz,Ma,Mb,Mc,Md,Me,Mf],[]⟩ w:=by
 conv=>arg 2; whnf
 have hsy:=hS.out.sym
 replace hb:=hid hb
 replace hL:=hid hL
 replace hO:=hid hO
 go_wp2_with fail
 go_loopw [13,18] (fun lv1 lb wr=>∃ (l:Nat) (X1:Ds) (iv1 av1:Value) (vs1:List (Value×Value)),1<=l/\l<=syms+1/\lb=.int .i64 (l:Int)/\Hid (q0j A.arcs (List.replicate A.st true) k (syms+1-l) l X1=q0j A.arcs (List.replicate A.st true) k syms 1 X)/\Hid (Dok A.st C k X1)/\Hid (X.subs.length<=X1.subs.length)/\Hid (X1.arcs.length+1<=X.arcs.length+l)/\Ls wr O lv1 vs1 X1.subs/\Om wr O syms 0 iv1 fv av1 (q1s b0 X1.subs.length) fin X1.arcs/\Below W.heap.size W wr) (fun _ lb _=>syms+1-(intOf lb).toNat)
 case atStart=>exact ⟨1,X,iv,av,vs,Nat.le_refl _,by omega,rfl,hid rfl,hX,hid (Nat.le_refl _),hid (Nat.le_refl _),hL.out,hO.out,hb.out⟩
 case round =>
  obtain ⟨l,X1,iv1,av1,vs1,hl1,hl2,rfl,hrw,hX1,hsl,hal,hL1,hO1,hb1⟩:=hrel
  replace hL1:=hid hL1
  replace hO1:=hid hO1
  have y2:=(hGb.next hb1).cell (i:=2) rfl
  replace hb1:=hid hb1
  by_cases hlt:l<=syms
  ·have i1:(l:Int)<=(syms:Int):=by omega
   have i2:decide ((l:Int)<=(syms:Int))=true:=decide_eq_true i1
   have i0:(0:Int)<=(l:Int):=by omega
   obtain ⟨n,hn⟩:∃ n,syms+1-l=n+1:=⟨syms-l,by omega⟩
   replace hn:=hid hn
   go_upto_block 7 with fail
   refine j8x W V syms C A io ci fo cf ro nr cr hS G0 RB O k l b0 _ iv1 fv av1 vs1 fin X1 wr hb1.out (by omega) (Nat.lt_of_lt_of_le hk hsl.out) hX1 hL1.out hO1.out (by have:=hal.out; omega) hG hOW hRB hpan ?_ ?_
   ·intro x3 Tl Tm Tn Tq Tr Ts Tt Tu Tv Tx Ty Tz Ua Ub Uc Ud Ue Uf Ug Uh Ui Uj Uk Ul Um Un Uo Up Ur Ut Uu Uv Uw Ux Uy Uz Va Vb Vc Vd Ve Vf Vg Vh Vi Vj Vk Vl Vm Vn Vp Vq Vr Vs Vt Vu Vv Vw Vy Vz Wa Wb Wc We Wf Wg Wh Wi Wj Wl Wm Wn Wo Wp Wq Wr Ws Wt Wu Wv Ww Wx Wy Wz Xa Xb Xc Xd Xe Xf Xg Xh Xi Xj Xk Xl Xm Xn Xo Xp Xq Xr Xs Xt Xu Xv Xw Xx Xy Xz Ya Yb Yc Yd Ye Yf Yg Yh Yi Yj Yk Yl Ym Yn Yo Yp Yq Yr Ys Yt Yu Yv Yw Yx Yy Yz Za Zb Zc Zd Ze Zf Zg Zh Zi Zj Zk Zl Zm Zn Zo Zp Zq Zr Zs Zt Zu Zv Y lv2 iv2 av2 vs2 w2 hone hL2 hO2 hb2
    have hdk:=hX1.out.one (Nat.lt_of_lt_of_le hk hsl.out) hS.out.cst.1 hone
    have hoa:=q6w hone
    replace hone:=hid hone
    replace hdk:=hid hdk
    replace hoa:=hid hoa
    replace hL2:=hid hL2
    replace hO2:=hid hO2
    replace hb2:=hid hb2
    go_wp2_with fail
    go_roundw
    case rel=>exact ⟨l+1,Y,iv2,av2,vs2,by omega,by omega,by go_num,hid (by rw [<-hrw.out,hn.out,q2j hone.out,show syms+1-(l+1)=n by have:=hn.out; omega]),hid hdk.out.1,hid (Nat.le_trans hsl.out hdk.out.2),hid (by have:=hal.out; have:=hoa.out; omega),hL2.out,hO2.out,hb2.out⟩
    case measure=>simp [intOf]; omega
   ·intro Zw Tl Tm Tn Tq Tr Ts Tt Tu Tv Tx Ty Tz Ua Ub Uc Ud Ue Uf Ug Uh Ui Uj Uk Ul Um Un Uo Up Ur Ut Uu Uv Uw Ux Uy Uz Va Vb Vc Vd Ve Vf Vg Vh Vi Vj Vk Vl Vm Vn Vp Vq Vr Vs Vt Vu Vv Vw Vy Vz Wa Wb Wc We Wf Wg Wh Wi Wj Wl Wm Wn Wo Wp Wq Wr Ws Wt Wu Wv Ww Wx Wy Wz Xa Xb Xc Xd Xe Xf Xg Xh Xi Xj Xk Xl Xm Xn Xo Xp Xq Xr Xs Xt Xu Xv Xw Xx Xy Xz Ya Yb Yc Yd Ye Yf Yg Yh Yi Yj Yk Yl Ym Yn Yo Yp Yq Yr Ys Yt Yu Yv Yw Yx Yy Yz Za Zb Zc Zd Ze Zf Zg Zh Zi Zj Zk Zl Zm Zn Zo Zp Zq Zr Zs Zt Zu Zv w2 hone hR2 hb2
    exact hret _ _ _ _ _ _ _ _ _ _ _ _ _ _ _ _ _ _ _ _ _ _ _ _ _ _ _ _ _ _ _ _ _ _ _ _ _ _ _ _ _ _ _ _ _ _ _ _ _ _ _ _ _ _ _ _ _ _ _ _ _ _ _ _ _ _ _ _ _ _ _ _ _ _ _ _ _ _ _ _ _ _ _ _ _ _ _ _ _ _ _ _ _ _ _ _ _ _ _ _ _ _ _ _ _ _ _ _ _ _ _ _ _ _ _ _ _ _ _ _ _ _ _ _ _ _ _ _ _ _ _ _ _ _ _ _ _ _ _ _ _ _ _ _ _ _ _ _ _ _ _ _ _ _ _ _ _ _ _ _ _ _ _ _ _ _ w2 (by rw [<-hrw.out,hn.out,q2k hone]) hR2 hb2
  ·obtain rfl:l=syms+1:=by omega
   have i1:¬ ((syms+1:Nat):Int)<=(syms:Int):=by omega
   have i2:decide (((syms+1:Nat):Int)<=(syms:Int))=false:=decide_eq_false i1
   have hend:q0j A.arcs (List.replicate A.st true) k (syms+1-(syms+1)) (syms+1) X1=some X1:=by rw [Nat.sub_self]; rfl
   replace hend:=hid hend
   go_wp2_with fail
   exact hexit _ _ _ _ _ _ _ _ _ _ _ _ _ _ _ _ _ _ _ _ _ _ _ _ _ _ _ _ _ _ _ _ _ _ _ _ _ _ _ _ _ _ _ _ _ _ _ _ _ _ _ _ _ _ _ _ _ _ _ _ _ _ _ _ _ _ _ _ _ _ _ _ _ _ _ _ _ _ _ _ _ _ _ _ _ _ _ _ _ _ _ _ _ _ _ _ _ _ _ _ _ _ _ _ _ _ _ _ _ _ _ _ _ _ _ _ _ _ _ _ _ _ _ _ _ _ _ _ _ _ _ _ _ _ _ _ _ _ _ _ _ _ _ _ _ _ _ _ _ _ _ _ _ _ _ _ _ _ _ _ _ _ _ _ _ _ X1 _ iv1 av1 vs1 wr (by rw [<-hrw.out]; exact hend.out) hX1.out hsl.out (by have:=hal.out; omega) hL1.out hO1.out hb1.out
end
end Go.Proofs.YtnapapijhhldpaaGreatDoor

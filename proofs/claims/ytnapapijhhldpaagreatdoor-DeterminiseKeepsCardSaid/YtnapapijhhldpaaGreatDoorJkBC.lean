/-
  Texts joined by program: Tsc, Tsd. No condition of its own.
-/
import Derived.Test.YtnapapijhhldpaaGreatDoorJkBB
namespace Go.Proofs.YtnapapijhhldpaaGreatDoor
set_option linter.unusedSimpArgs false
set_option linter.unusedVariables false
set_option maxRecDepth 100000
set_option maxHeartbeats 4000000
section
open Go.RowKit
theorem q9u {m:Tw} {c:Nat} (h:q4e (some c) m=true):qP m (some c)=some c:=if_pos h
theorem q9v {m:Tw} {c:Nat} (h:q4e (some c) m=false):qP m (some c)=m:=if_neg (by rw [h]; simp)
theorem z2j (W:World) (V syms C:Nat) (A:Au) (io:OA) (ci:Nat) (fo:OA) (cf:Nat) (ro:OA) (nr cr:Nat) (hS:Hid (Rta W V syms C A io ci fo cf ro nr cr)) (lb loff ln lc k:Nat) (hk:k<ln) (hln:ln<=64) (so:OA) (sc:Nat) (uo:OA) (uc pn:Nat) (P:List (Nat×Nat)) (hE:Hid (Cs W lb (loff+k*2) [.slice so pn sc,.slice uo pn uc])) (hR:Hid (Rs W so sc uo uc pn P)) (i q r Z:Nat) (m y:Tw) (hP:Hid (P[i]? = some (q,r))) (hi:i<pn) (hpn:pn<=64) (hq:q<A.st) (hr:r<=1000000000) (hy:Hid (A.fin[q]? = some y)) (w:World) (hb:Below W.heap.size W w) (hZ:Bl Z (twC m) 45 w) (hZW:W.heap.size<=Z)
  {c0 c1 c2 c3 c4 c6 c7 c8 c9 Aa Ab Ad Ae Af Ag Ah Ak Al Am An Ao Ap Aq Ar As Av Aw Ax Ay Az Ba Bb Bc Be Bf Bh Bi Bj Bk Bm Bn Bo Bp Bq Br Bs Bt Bu Bv Bw Bx By Bz Ca Cb Cc Cd Ce Cf Cg Ch Ci Cj Ck Cl Cm Cn Co Cp Cq Cr Ct Cu Cv Cw Cx Cy Cz Da Db Dc Dd De Df Dg Dh Di Dj Dk Dl Dn Dp Dq Dr Dt Du Dv Dw Dx Dy Dz Ea Eb Ec Ed Ee Ef Eg Eh Ei Ej Ek El Em En Eo Ep Eq Er Es Et Eu Ev Ew Ex Ey Ez Fa Fb Fc Fd Fe Ff Fg Fh Fi Fj Fk Fm Fn Fo Fp Fq Fs Ft Fu Fv Fw Fx Fy Fz Ga Gb Gc Gd Ge Gf Gg Gh Gi Gj Gk Gl Gm Gn Go Gp Gq Gr Gs Gt Gu Gv Gw Gx Gy Gz Ha Hb Hc Hd He Hf Hg Hh Hi Hj Hk Hl Hm Hn Ho Hp Hq Hr Hs Ht Hu Hv Hw Hx Hy Hz Ia Ib Ic Id Ie Ig Ih Ii Ij Ik Il Im Io Ip Iq Ir It Iu Iv Iw Ix Iy Iz Ja Jb Jc Jd Je Jf Jg Jh Ji Jj Jk Jl Jm Jn Jo Jp Jq Jr Js Jt Ju Jv Jw Jx Jy Jz Ka Kb Kc Kd Ke Kf Kg Kh Ki Kj Kk Kl Km Kn Ko Kp Kq Kr Ks Kt Ku Kv Kw Kx Kz La Lb Lc Ld Le Lf Lg Lh Li Lj Lk Ll Lm Ln Lo Lp Lq Lr Lt Lu Lv Lx Ly Lz Ma Mb Mc Md Me:Value} {Q0:EP} (hpan:∀ c (a:Act) d v w,Q0 (.panic c) (a.put d v) w->Q0 (.panic c) a w)
  (hexit:∀ (Mf Mg Mh Mi Mj Ml Mm Mn Mp Mq Mr Ms Mt Mu Mw Mx My Mz Na Nb Nc Nd Ne Ng Nh Ni Nj Nk Nl Nm Nn Np Nq Nr Ns Nt Nu Nv Nw Nx Ny Nz Oa Ob Oc Od Oe:Value) (w':World),Bl Z (twC (qP m (vJ (some r) y))) 45 w'->Fr (fun k=>k=Z) w w'->Q0 .normal ⟨#[c0,c1,c2,c3,c4,.pointer (some ⟨V,0,none⟩),c6,c7,c8,c9,Aa,Ab,Ad,.slice (some ⟨lb,loff,none⟩) ln lc,.int .i64 (k:Int),.pointer (some ⟨Z,0,none⟩),.int .i64 (i:Int),Mf,Af,Ag,Ah,Ak,Al,Am,An,Ao,Ap,Aq,Ar,As,Av,Aw,Ax,Ay,Az,Ba,Bb,Bc,Be,Bf,Bh,Bi,Bj,Bk,Bm,Bn,Bo,Bp,Bq,Br,Bs,Bt,Bu,Bv,Bw,Bx,By,Bz,Ca,Cb,Cc,Cd,Ce,Cf,Cg,Ch,Ci,Cj,Ck,Cl,Cm,Cn,Co,Cp,Cq,Cr,Ct,Cu,Cv,Cw,Cx,Cy,Cz,Da,Db,Dc,Dd,De,Df,Dg,Dh,Di,Dj,Dk,Dl,Dn,Dp,Dq,Dr,Dt,Du,Mg,Mh,Mi,Mj,Ml,Mm,Mn,Mp,Mq,Mr,Ms,Mt,Mu,Mw,Mx,My,Mz,Na,Nb,Nc,Nd,Ne,Ng,Nh,Ni,Nj,Nk,Nl,Nm,Nn,Np,Nq,Nr,Ns,Nt,Nu,Nv,Nw,Nx,Ny,Nz,Oa,Ob,Oc,Od,Oe,Fq,Fs,Ft,Fu,Fv,Fw,Fx,Fy,Fz,Ga,Gb,Gc,Gd,Ge,Gf,Gg,Gh,Gi,Gj,Gk,Gl,Gm,Gn,Go,Gp,Gq,Gr,Gs,Gt,Gu,Gv,Gw,Gx,Gy,Gz,Ha,Hb,Hc,Hd,He,Hf,Hg,Hh,Hi,Hj,Hk,Hl,Hm,Hn,Ho,Hp,Hq,Hr,Hs,Ht,Hu,Hv,Hw,Hx,Hy,Hz,Ia,Ib,Ic,Id,Ie,Ig,Ih,Ii,Ij,Ik,Il,Im,Io,Ip,Iq,Ir,It,Iu,Iv,Iw,Ix,Iy,Iz,Ja,Jb,Jc,Jd,Je,Jf,Jg,Jh,Ji,Jj,Jk,Jl,Jm,Jn,Jo,Jp,Jq,Jr,Js,Jt,Ju,Jv,Jw,Jx,Jy,Jz,Ka,Kb,Kc,Kd,Ke,Kf,Kg,Kh,Ki,Kj,Kk,Kl,Km,Kn,Ko,Kp,Kq,Kr,Ks,Kt,Ku,Kv,Kw,Kx,Kz,La,Lb,Lc,Ld,Le,Lf,Lg,Lh,Li,Lj,Lk,Ll,Lm,Ln,Lo,Lp,Lq,Lr,Lt,Lu,Lv,Lx,Ly,Lz,Ma,Mb,Mc,Md,Me],[]⟩ w') :
  Code.wp Tryz.prog (eB 5) Q0 ⟨#[c0,c1,c2,c3,c4,.pointer (some ⟨V,0,none⟩),c6,c7,c8,c9,Aa,Ab,Ad,.slice (some ⟨lb,loff,none⟩) ln lc,.int .i64 (k:Int),.pointer (some ⟨Z,0,none⟩),.int .i64 (i:Int),Ae,Af,Ag,Ah,Ak,Al,Am,An,Ao,Ap,Aq,Ar,As,Av,Aw,Ax,Ay,Az,Ba,Bb,Bc,Be,Bf,Bh,Bi,Bj,Bk,Bm,Bn,Bo,Bp,Bq,Br,Bs,Bt,Bu,Bv,Bw,Bx,By,Bz,Ca,Cb,Cc,Cd,Ce,Cf,Cg,Ch,Ci,Cj,Ck,Cl,Cm,Cn,Co,Cp,Cq,Cr,Ct,Cu,Cv,Cw,Cx,Cy,Cz,Da,Db,Dc,Dd,De,Df,Dg,Dh,Di,Dj,Dk,Dl,Dn,Dp,Dq,Dr,Dt,Du,Dv,Dw,Dx,Dy,Dz,Ea,Eb,Ec,Ed,Ee,Ef,Eg,Eh,Ei,Ej,Ek,El,Em,En,Eo,Ep,Eq,Er,Es,Et,Eu,Ev,Ew,Ex,Ey,Ez,Fa,Fb,Fc,Fd,Fe,Ff,Fg,Fh,Fi,Fj,Fk,Fm,Fn,Fo,Fp,Fq,Fs,Ft,Fu,Fv,Fw,Fx,Fy,Fz,Ga,Gb,Gc,Gd,Ge,Gf,Gg,Gh,Gi,Gj,Gk,Gl,Gm,Gn,Go,Gp,Gq,Gr,Gs,Gt,Gu,Gv,Gw,Gx,Gy,Gz,Ha,Hb,Hc,Hd,He,Hf,Hg,Hh,Hi,Hj,Hk,Hl,Hm,Hn,Ho,Hp,Hq,Hr,Hs,Ht,Hu,Hv,Hw,Hx,Hy,Hz,Ia,Ib,Ic,Id,Ie,Ig,Ih,Ii,Ij,Ik,Il,Im,Io,Ip,Iq,Ir,It,Iu,Iv,Iw,Ix,Iy,Iz,Ja,Jb,Jc,Jd,Je,Jf,Jg,Jh,Ji,Jj,Jk,Jl,Jm,Jn,Jo,Jp,Jq,Jr,Js,Jt,Ju,Jv,Jw,Jx,Jy,Jz,Ka,Kb,Kc,Kd,Ke,Kf,Kg,Kh,Ki,Kj,Kk,Kl,Km,Kn,Ko,Kp,Kq,Kr,Ks,Kt,Ku,Kv,Kw,Kx,Kz,La,Lb,Lc,Ld,Le,Lf,Lg,Lh,Li,Lj,Lk,Ll,Lm,Ln,Lo,Lp,Lq,Lr,Lt,Lu,Lv,Lx,Ly,Lz,Ma,Mb,Mc,Md,Me],[]⟩ w:=by
 conv=>arg 2; whnf
 have hexit:=hid hexit
 have hst:=hS.out.st
 have hfl:=(hS.out.mo.fin.next hb)
 obtain ⟨y',hy',bf,off,rfl,hcy⟩:=hfl.get hq
 obtain rfl:y'=y:=Option.some.inj (hy'.symm.trans hy.out)
 obtain ⟨q0,r0,b1,o1,b2,o2,hP0,rfl,rfl,p1,p2⟩:=(hR.out.next hb).get hi
 obtain ⟨hq0,hr0⟩:q0=q/\r0=r:=by have h:=hP0.symm.trans hP.out; injection h with h; injection h with h1 h2; exact ⟨h1,h2⟩
 subst hq0 hr0
 have hyc:tc y'<=C:=hS.out.cst.2.2 y' (List.mem_of_getElem? hy')
 have hC:=hS.out.cC
 have ik:(k:Int)<(ln:Int):=by omega
 have ik0:(0:Int)<=(k:Int):=by omega
 have ii:(i:Int)<(pn:Int):=by omega
 have ii0:(0:Int)<=(i:Int):=by omega
 have iq:(q0:Int)<(A.st:Int):=by omega
 have iq0:(0:Int)<=(q0:Int):=by omega
 have i4:(tc y':Int)<=1048576:=by omega
 have i5:(0:Int)<=(tc y':Int):=by omega
 have i6:(r0:Int)<=1000000000:=by omega
 have i7:(0:Int)<=(r0:Int):=by omega
 have hwr:IntKind.i64.wrap ((tc y':Int)+(r0:Int))=(tc y':Int)+(r0:Int):=by rw [IntKind.wrap_i64]; omega
 have hE1:=hE.out.next hb
 have hV1:=(hS.out.vw.next hb).cell (i:=5) rfl
 have l0:=hE1 0 _ rfl
 have l1:=hE1 1 _ rfl
 simp only [Nat.add_zero] at l0
 go_upto_region 24 with fail
 have hdr:=(Below.refl w.heap.size w).drew
 have hS4:(w.drew.cell? ⟨V,5,none⟩=some (.slice (some ⟨bf,off,none⟩) A.st cf)/\w.drew.cell? ⟨lb,loff+k*2,none⟩=some (.slice (some ⟨b1,o1,none⟩) pn sc))/\w.drew.cell? ⟨b1,o1+i,none⟩=some (.int .i64 (q0:Int))/\Cs w.drew bf (off+q0*8) (twC y'):=⟨⟨qR hV1 hdr,qR l0 hdr⟩,qR p1 hdr,hcy.next hdr⟩
 have hK:∀ w' w'':World,((w'.cell? ⟨V,5,none⟩=some (.slice (some ⟨bf,off,none⟩) A.st cf)/\w'.cell? ⟨lb,loff+k*2,none⟩=some (.slice (some ⟨b1,o1,none⟩) pn sc))/\w'.cell? ⟨b1,o1+i,none⟩=some (.int .i64 (q0:Int))/\Cs w' bf (off+q0*8) (twC y'))->Below w'.heap.size w' w''->((w''.cell? ⟨V,5,none⟩=some (.slice (some ⟨bf,off,none⟩) A.st cf)/\w''.cell? ⟨lb,loff+k*2,none⟩=some (.slice (some ⟨b1,o1,none⟩) pn sc))/\w''.cell? ⟨b1,o1+i,none⟩=some (.int .i64 (q0:Int))/\Cs w'' bf (off+q0*8) (twC y')):=fun w' w'' h hb=>⟨⟨qR h.1.1 hb,qR h.1.2 hb⟩,qR h.2.1 hb,h.2.2.next hb⟩
 have hZ1:=hZ.next hdr
 have p2':=qR p2 hdr
 have l1':=qR l1 hdr
 have hFd:=qH hdr (fun k=>k=Z)
 refine qV (fun w'=>(w'.cell? ⟨V,5,none⟩=some (.slice (some ⟨bf,off,none⟩) A.st cf)/\w'.cell? ⟨lb,loff+k*2,none⟩=some (.slice (some ⟨b1,o1,none⟩) pn sc))/\w'.cell? ⟨b1,o1+i,none⟩=some (.int .i64 (q0:Int))/\Cs w' bf (off+q0*8) (twC y')) [13] (by kernel_rfl) ?_
 refine wBp 0 hpan (some 101) rfl rfl hS4 ?_
 refine wBl 1 hpan (some 102) (v:=?_) rfl rfl ?_ hS4 ?_
 rotate_left
 ·intro wz hw; refine q0c V 5 ?_ (.slice (some ⟨bf,off,none⟩) A.st cf) hw.1.1; go_simp
 refine wBp 2 hpan (some 103) rfl rfl hS4 ?_
 refine wBp 3 hpan (some 104) rfl rfl hS4 ?_
 refine wBp 4 hpan (some 105) rfl rfl hS4 ?_
 refine wBp 5 hpan (some 106) rfl rfl hS4 ?_
 refine wBl 6 hpan (some 107) (v:=?_) rfl rfl ?_ hS4 ?_
 rotate_left
 ·intro wz hw; refine jW lb (loff+k*2) ?_ (.slice (some ⟨b1,o1,none⟩) pn sc) hw.1.2; go_simp
 refine wBp 7 hpan (some 108) rfl rfl hS4 ?_
 refine wBp 8 hpan (some 109) rfl rfl hS4 ?_
 refine wBl 9 hpan (some 110) (v:=?_) rfl rfl ?_ hS4 ?_
 rotate_left
 ·intro wz hw; refine qW b1 (o1+i) ?_ (.int .i64 (q0:Int)) hw.2.1; go_simp
 refine wBp 10 hpan (some 111) rfl rfl hS4 ?_
 refine wBl 11 hpan (some 112) (v:=?_) rfl rfl ?_ hS4 ?_
 rotate_left
 ·intro wz hw; refine qY bf (off+q0*8) ?_ y' hw.2.2; go_simp
 go_simp
 refine wpO (i:=12) rfl fun KK hKK=>?_
 rw [if_pos (by kernel_rfl)]
 with_reducible refine zV 45 ?_ [.bool false,.slice none 0 0,.slice none 0 0,.int .i64 0,.bool false,.int .u64 0,.slice none 0 0,.slice none 0 0] ?_ ?_
 ·rfl
 ·exact fun _=>by kernel_rfl
 intro w6 X hX6 hb6 hz6
 replace hZ1:=hZ1.next hb6
 replace p2':=qR p2' hb6
 replace l1':=qR l1' hb6
 have hF6:=hFd.trans (qH hb6 _)
 have hZX:Z≠X:=fun e=>by have:=hZ.lt; have h2:w.heap.size<=X:=hz6; omega
 refine hKK _ _ ⟨fun _=>(hK _ _ hS4 hb6),?_⟩; clear hKK KK
 refine wpO (i:=13) rfl fun KK hKK=>?_
 rw [if_pos (by kernel_rfl)]
 with_reducible refine qB 45 (.tmp 17) (.tmp 112) ?_ X 45 [.bool false,.slice none 0 0,.slice none 0 0,.int .i64 0,.bool false,.int .u64 0,.slice none 0 0,.slice none 0 0] hX6 ?_ (twC y') ?_ ?_ ?_ ?_ ?_
 ·rfl
 ·go_simp
 ·rfl
 ·go_simp
 ·exact q0f y'
 ·exact Tryz.sizeTw
 intro w7 hX7 hfr7
 refine lN hKK ?_; clear hKK KK
 refine qZ (by kernel_rfl) ?_ _
 have hZ7:=hZ1.fr hfr7 hZX
 have hF7:Fr (fun k=>k=Z) w w7:=⟨hfr7.os.trans hF6.os,hfr7.tape.trans hF6.tape,hfr7.output.trans hF6.output,Nat.le_trans hF6.size hfr7.size,fun g hg hn=>(hfr7.block g (Nat.lt_of_lt_of_le hg hF6.size) (fun e=>by have h2:w.heap.size<=X:=hz6; omega)).trans (hF6.block g hg hn)⟩
 have hp2:w7.cell? ⟨b2,o2+i,none⟩=some (.int .i64 (r0:Int)):=hfr7.cell p2' (fun e=>by have h1:b2<w.heap.size:=World.block_lt_of_cell? _ _ p2; have h2:w.heap.size<=X:=hz6; omega)
 have hl1:w7.cell? ⟨lb,loff+k*2+1,none⟩=some (.slice (some ⟨b2,o2,none⟩) pn uc):=hfr7.cell l1' (fun e=>by have h1:lb<w.heap.size:=World.block_lt_of_cell? _ _ l1; have h2:w.heap.size<=X:=hz6; omega)
 clear hS4 hK hZ1 p2' l1' hFd hX6 hb6 hF6 hfr7 hcy hE1 hV1 l0 l1 p1 p2 hfl hdr hZ hP0
 obtain ⟨hb7,hi7⟩:Below W.heap.size W w7/\True:=⟨hb.trans (hF7.below (fun k e=>by subst e; exact hZW) hb.size),trivial⟩
 replace hF7:=hid hF7
 replace hb7:=hid hb7
 clear hi7 hb
 cases hbyc:y'.isNone with
 | true =>
  have hby:(!ti y')=false:=by unfold ti; rw [hbyc]; rfl
  have hyn:y'=none:=by cases y'<;>simp_all
  have hend:Hid (vJ (some r0) y'=none):=hid (by rw [hyn]; rfl)
  clear hyn
  cases hbm0:m.isNone with
  | true =>
   have hbm:ti m=true:=hbm0
   go_upto_region 25 with fail
   have hdr:=(Below.refl w7.heap.size w7).drew
   have hS5:Cs w7.drew X 0 (twC y')/\(w7.drew.cell? ⟨Z,4,none⟩=some (.bool true)/\w7.drew.cell? ⟨Z,3,none⟩=some (.int .i64 (tc m:Int)))/\w7.drew.cell? ⟨lb,loff+k*2+1,none⟩=some (.slice (some ⟨b2,o2,none⟩) pn uc)/\w7.drew.cell? ⟨b2,o2+i,none⟩=some (.int .i64 (r0:Int)):=⟨(hX7.next hdr).cs,⟨(hZ7.next hdr).cell (i:=4) (by show some (Value.bool (ti m))=_; rw [hbm]),(hZ7.next hdr).cell (i:=3) rfl⟩,qR hl1 hdr,qR hp2 hdr⟩
   have hK:∀ w' w'':World,(Cs w' X 0 (twC y')/\(w'.cell? ⟨Z,4,none⟩=some (.bool true)/\w'.cell? ⟨Z,3,none⟩=some (.int .i64 (tc m:Int)))/\w'.cell? ⟨lb,loff+k*2+1,none⟩=some (.slice (some ⟨b2,o2,none⟩) pn uc)/\w'.cell? ⟨b2,o2+i,none⟩=some (.int .i64 (r0:Int)))->Below w'.heap.size w' w''->(Cs w'' X 0 (twC y')/\(w''.cell? ⟨Z,4,none⟩=some (.bool true)/\w''.cell? ⟨Z,3,none⟩=some (.int .i64 (tc m:Int)))/\w''.cell? ⟨lb,loff+k*2+1,none⟩=some (.slice (some ⟨b2,o2,none⟩) pn uc)/\w''.cell? ⟨b2,o2+i,none⟩=some (.int .i64 (r0:Int))):=fun w' w'' h hb=>⟨h.1.next hb,⟨qR h.2.1.1 hb,qR h.2.1.2 hb⟩,qR h.2.2.1 hb,qR h.2.2.2 hb⟩
   have hZ8:=hZ7.next hdr
   have hX8:=hX7.next hdr
   have hl8:=qR hl1 hdr
   have hp8:=qR hp2 hdr
   have hF8:=hid (hF7.out.trans (qH hdr _))
   clear hX7 hZ7 hl1 hp2 hF7 hdr
   refine qV (fun w'=>Cs w' X 0 (twC y')/\(w'.cell? ⟨Z,4,none⟩=some (.bool true)/\w'.cell? ⟨Z,3,none⟩=some (.int .i64 (tc m:Int)))/\w'.cell? ⟨lb,loff+k*2+1,none⟩=some (.slice (some ⟨b2,o2,none⟩) pn uc)/\w'.cell? ⟨b2,o2+i,none⟩=some (.int .i64 (r0:Int))) [] (by kernel_rfl) ?_
   refine wBl 0 hpan (some 113) (v:=?_) rfl rfl ?_ hS5 ?_
   rotate_left
   ·intro wz hw; refine qY X 0 ?_ y' hw.1; go_simp
   refine wpO (i:=1) rfl fun KK hKK=>?_
   go_simp
   go_at_call 37
   refine (kP y' _).mono ?_; rintro e w8 ⟨rfl,hb8⟩
   replace hZ8:=hZ8.next hb8
   replace hX8:=hX8.next hb8
   replace hl8:=qR hl8 hb8
   replace hp8:=qR hp8 hb8
   replace hF8:=hid (hF8.out.trans (qH hb8 _))
   rw [hby]
   try go_simp
   refine hKK _ _ ⟨fun _=>(hK _ _ hS5 hb8),?_⟩; clear hKK KK
   refine wBl 2 hpan (some 115) (v:=.bool false) rfl rfl ?_ (hK _ _ hS5 hb8) ?_
   ·intro wz _; first | (go_simp; done) | (go_simp; with_reducible rfl)
   refine wBu 3 hpan (some 116) rfl rfl (hK _ _ hS5 hb8) ?_
   refine wBu 4 hpan (some 117) rfl rfl (hK _ _ hS5 hb8) ?_
   refine wBu 5 hpan (some 118) rfl rfl (hK _ _ hS5 hb8) ?_
   refine wBu 6 hpan (some 119) rfl rfl (hK _ _ hS5 hb8) ?_
   refine wBu 7 hpan (some 120) rfl rfl (hK _ _ hS5 hb8) ?_
   refine wBu 8 hpan (some 121) rfl rfl (hK _ _ hS5 hb8) ?_
   refine wBu 9 hpan (some 122) rfl rfl (hK _ _ hS5 hb8) ?_
   refine wBu 10 hpan (some 123) rfl rfl (hK _ _ hS5 hb8) ?_
   refine wBu 11 hpan (some 124) rfl rfl (hK _ _ hS5 hb8) ?_
   refine wBu 12 hpan (some 125) rfl rfl (hK _ _ hS5 hb8) ?_
   refine wBu 13 hpan (some 126) rfl rfl (hK _ _ hS5 hb8) ?_
   refine wBu 14 hpan (some 127) rfl rfl (hK _ _ hS5 hb8) ?_
   refine wBu 15 hpan (some 128) rfl rfl (hK _ _ hS5 hb8) ?_
   refine wBu 16 hpan (some 129) rfl rfl (hK _ _ hS5 hb8) ?_
   refine wBu 17 hpan (some 130) rfl rfl (hK _ _ hS5 hb8) ?_
   refine wBu 18 hpan (some 131) rfl rfl (hK _ _ hS5 hb8) ?_
   refine wBu 19 hpan (some 132) rfl rfl (hK _ _ hS5 hb8) ?_
   refine wBu 20 hpan (some 133) rfl rfl (hK _ _ hS5 hb8) ?_
   refine wBl 21 hpan (some 134) (v:=.bool false) rfl rfl ?_ (hK _ _ hS5 hb8) ?_
   ·intro wz _; first | (go_simp; done) | (go_simp; with_reducible rfl)
   go_simp
   go_simp
   refine qZ (by kernel_rfl) ?_ _
   replace hZ8:=hid hZ8
   clear hX8 hl8 hp8
   go_wp2_with fail
   refine hexit.out _ _ _ _ _ _ _ _ _ _ _ _ _ _ _ _ _ _ _ _ _ _ _ _ _ _ _ _ _ _ _ _ _ _ _ _ _ _ _ _ _ _ _ _ _ _ _ _ ?_ hF8.out
   rw [hend.out,jU]; exact hZ8.out
  | false =>
   have hbm:ti m=false:=hbm0
   go_upto_region 25 with fail
   have hdr:=(Below.refl w7.heap.size w7).drew
   have hS5:Cs w7.drew X 0 (twC y')/\(w7.drew.cell? ⟨Z,4,none⟩=some (.bool false)/\w7.drew.cell? ⟨Z,3,none⟩=some (.int .i64 (tc m:Int)))/\w7.drew.cell? ⟨lb,loff+k*2+1,none⟩=some (.slice (some ⟨b2,o2,none⟩) pn uc)/\w7.drew.cell? ⟨b2,o2+i,none⟩=some (.int .i64 (r0:Int)):=⟨(hX7.next hdr).cs,⟨(hZ7.next hdr).cell (i:=4) (by show some (Value.bool (ti m))=_; rw [hbm]),(hZ7.next hdr).cell (i:=3) rfl⟩,qR hl1 hdr,qR hp2 hdr⟩
   have hK:∀ w' w'':World,(Cs w' X 0 (twC y')/\(w'.cell? ⟨Z,4,none⟩=some (.bool false)/\w'.cell? ⟨Z,3,none⟩=some (.int .i64 (tc m:Int)))/\w'.cell? ⟨lb,loff+k*2+1,none⟩=some (.slice (some ⟨b2,o2,none⟩) pn uc)/\w'.cell? ⟨b2,o2+i,none⟩=some (.int .i64 (r0:Int)))->Below w'.heap.size w' w''->(Cs w'' X 0 (twC y')/\(w''.cell? ⟨Z,4,none⟩=some (.bool false)/\w''.cell? ⟨Z,3,none⟩=some (.int .i64 (tc m:Int)))/\w''.cell? ⟨lb,loff+k*2+1,none⟩=some (.slice (some ⟨b2,o2,none⟩) pn uc)/\w''.cell? ⟨b2,o2+i,none⟩=some (.int .i64 (r0:Int))):=fun w' w'' h hb=>⟨h.1.next hb,⟨qR h.2.1.1 hb,qR h.2.1.2 hb⟩,qR h.2.2.1 hb,qR h.2.2.2 hb⟩
   have hZ8:=hZ7.next hdr
   have hX8:=hX7.next hdr
   have hl8:=qR hl1 hdr
   have hp8:=qR hp2 hdr
   have hF8:=hid (hF7.out.trans (qH hdr _))
   clear hX7 hZ7 hl1 hp2 hF7 hdr
   refine qV (fun w'=>Cs w' X 0 (twC y')/\(w'.cell? ⟨Z,4,none⟩=some (.bool false)/\w'.cell? ⟨Z,3,none⟩=some (.int .i64 (tc m:Int)))/\w'.cell? ⟨lb,loff+k*2+1,none⟩=some (.slice (some ⟨b2,o2,none⟩) pn uc)/\w'.cell? ⟨b2,o2+i,none⟩=some (.int .i64 (r0:Int))) [] (by kernel_rfl) ?_
   refine wBl 0 hpan (some 113) (v:=?_) rfl rfl ?_ hS5 ?_
   rotate_left
   ·intro wz hw; refine qY X 0 ?_ y' hw.1; go_simp
   refine wpO (i:=1) rfl fun KK hKK=>?_
   go_simp
   go_at_call 37
   refine (kP y' _).mono ?_; rintro e w8 ⟨rfl,hb8⟩
   replace hZ8:=hZ8.next hb8
   replace hX8:=hX8.next hb8
   replace hl8:=qR hl8 hb8
   replace hp8:=qR hp8 hb8
   replace hF8:=hid (hF8.out.trans (qH hb8 _))
   rw [hby]
   try go_simp
   refine hKK _ _ ⟨fun _=>(hK _ _ hS5 hb8),?_⟩; clear hKK KK
   refine wBl 2 hpan (some 115) (v:=.bool false) rfl rfl ?_ (hK _ _ hS5 hb8) ?_
   ·intro wz _; first | (go_simp; done) | (go_simp; with_reducible rfl)
   refine wBu 3 hpan (some 116) rfl rfl (hK _ _ hS5 hb8) ?_
   refine wBu 4 hpan (some 117) rfl rfl (hK _ _ hS5 hb8) ?_
   refine wBu 5 hpan (some 118) rfl rfl (hK _ _ hS5 hb8) ?_
   refine wBu 6 hpan (some 119) rfl rfl (hK _ _ hS5 hb8) ?_
   refine wBu 7 hpan (some 120) rfl rfl (hK _ _ hS5 hb8) ?_
   refine wBu 8 hpan (some 121) rfl rfl (hK _ _ hS5 hb8) ?_
   refine wBu 9 hpan (some 122) rfl rfl (hK _ _ hS5 hb8) ?_
   refine wBu 10 hpan (some 123) rfl rfl (hK _ _ hS5 hb8) ?_
   refine wBu 11 hpan (some 124) rfl rfl (hK _ _ hS5 hb8) ?_
   refine wBu 12 hpan (some 125) rfl rfl (hK _ _ hS5 hb8) ?_
   refine wBu 13 hpan (some 126) rfl rfl (hK _ _ hS5 hb8) ?_
   refine wBu 14 hpan (some 127) rfl rfl (hK _ _ hS5 hb8) ?_
   refine wBu 15 hpan (some 128) rfl rfl (hK _ _ hS5 hb8) ?_
   refine wBu 16 hpan (some 129) rfl rfl (hK _ _ hS5 hb8) ?_
   refine wBu 17 hpan (some 130) rfl rfl (hK _ _ hS5 hb8) ?_
   refine wBu 18 hpan (some 131) rfl rfl (hK _ _ hS5 hb8) ?_
   refine wBu 19 hpan (some 132) rfl rfl (hK _ _ hS5 hb8) ?_
   refine wBu 20 hpan (some 133) rfl rfl (hK _ _ hS5 hb8) ?_
   refine wBl 21 hpan (some 134) (v:=.bool false) rfl rfl ?_ (hK _ _ hS5 hb8) ?_
   ·intro wz _; first | (go_simp; done) | (go_simp; with_reducible rfl)
   go_simp
   go_simp
   refine qZ (by kernel_rfl) ?_ _
   replace hZ8:=hid hZ8
   clear hX8 hl8 hp8
   go_wp2_with fail
   refine hexit.out _ _ _ _ _ _ _ _ _ _ _ _ _ _ _ _ _ _ _ _ _ _ _ _ _ _ _ _ _ _ _ _ _ _ _ _ _ _ _ _ _ _ _ _ _ _ _ _ ?_ hF8.out
   rw [hend.out,jU]; exact hZ8.out
 | false =>
  have hby:(!ti y')=true:=by unfold ti; rw [hbyc]; rfl
  have hyn:y'=some (tc y'):=by cases y'<;>simp_all [tc]
  have hzn:Hid (([.bool false,.slice none 0 0,.slice none 0 0,.int .i64 ((tc y':Int)+(r0:Int)),.bool false,.int .u64 0,.slice none 0 0,.slice none 0 0]:List Value)=twC (some (r0+tc y'))):=hid (by show _=[_,_,_,_,_,_,_,_]; simp [tc,ti]; omega)
  have hen:vJ (some r0) y'=some (r0+tc y'):=by rw [hyn]; rfl
  clear hyn
  cases hbm0:m.isNone with
  | true =>
   have hbm:ti m=true:=hbm0
   have hend:Hid (qP m (vJ (some r0) y')=some (r0+tc y')):=hid (by rw [hen]; cases m with | none=>rfl | some a=>cases hbm0)
   go_upto_region 25 with fail
   have hdr:=(Below.refl w7.heap.size w7).drew
   have hS5:Cs w7.drew X 0 (twC y')/\(w7.drew.cell? ⟨Z,4,none⟩=some (.bool true)/\w7.drew.cell? ⟨Z,3,none⟩=some (.int .i64 (tc m:Int)))/\w7.drew.cell? ⟨lb,loff+k*2+1,none⟩=some (.slice (some ⟨b2,o2,none⟩) pn uc)/\w7.drew.cell? ⟨b2,o2+i,none⟩=some (.int .i64 (r0:Int)):=⟨(hX7.next hdr).cs,⟨(hZ7.next hdr).cell (i:=4) (by show some (Value.bool (ti m))=_; rw [hbm]),(hZ7.next hdr).cell (i:=3) rfl⟩,qR hl1 hdr,qR hp2 hdr⟩
   have hK:∀ w' w'':World,(Cs w' X 0 (twC y')/\(w'.cell? ⟨Z,4,none⟩=some (.bool true)/\w'.cell? ⟨Z,3,none⟩=some (.int .i64 (tc m:Int)))/\w'.cell? ⟨lb,loff+k*2+1,none⟩=some (.slice (some ⟨b2,o2,none⟩) pn uc)/\w'.cell? ⟨b2,o2+i,none⟩=some (.int .i64 (r0:Int)))->Below w'.heap.size w' w''->(Cs w'' X 0 (twC y')/\(w''.cell? ⟨Z,4,none⟩=some (.bool true)/\w''.cell? ⟨Z,3,none⟩=some (.int .i64 (tc m:Int)))/\w''.cell? ⟨lb,loff+k*2+1,none⟩=some (.slice (some ⟨b2,o2,none⟩) pn uc)/\w''.cell? ⟨b2,o2+i,none⟩=some (.int .i64 (r0:Int))):=fun w' w'' h hb=>⟨h.1.next hb,⟨qR h.2.1.1 hb,qR h.2.1.2 hb⟩,qR h.2.2.1 hb,qR h.2.2.2 hb⟩
   have hZ8:=hZ7.next hdr
   have hX8:=hX7.next hdr
   have hl8:=qR hl1 hdr
   have hp8:=qR hp2 hdr
   have hF8:=hid (hF7.out.trans (qH hdr _))
   clear hX7 hZ7 hl1 hp2 hF7 hdr
   refine qV (fun w'=>Cs w' X 0 (twC y')/\(w'.cell? ⟨Z,4,none⟩=some (.bool true)/\w'.cell? ⟨Z,3,none⟩=some (.int .i64 (tc m:Int)))/\w'.cell? ⟨lb,loff+k*2+1,none⟩=some (.slice (some ⟨b2,o2,none⟩) pn uc)/\w'.cell? ⟨b2,o2+i,none⟩=some (.int .i64 (r0:Int))) [] (by kernel_rfl) ?_
   refine wBl 0 hpan (some 113) (v:=?_) rfl rfl ?_ hS5 ?_
   rotate_left
   ·intro wz hw; refine qY X 0 ?_ y' hw.1; go_simp
   refine wpO (i:=1) rfl fun KK hKK=>?_
   go_simp
   go_at_call 37
   refine (kP y' _).mono ?_; rintro e w8 ⟨rfl,hb8⟩
   replace hZ8:=hZ8.next hb8
   replace hX8:=hX8.next hb8
   replace hl8:=qR hl8 hb8
   replace hp8:=qR hp8 hb8
   replace hF8:=hid (hF8.out.trans (qH hb8 _))
   rw [hby]
   try go_simp
   refine hKK _ _ ⟨fun _=>(hK _ _ hS5 hb8),?_⟩; clear hKK KK
   refine wBl 2 hpan (some 115) (v:=.bool true) rfl rfl ?_ (hK _ _ hS5 hb8) ?_
   ·intro wz _; first | (go_simp; done) | (go_simp; with_reducible rfl)
   refine wBg 3 hpan (some 116) rfl rfl (hK _ _ hS5 hb8) ?_
   refine wBm 4 hpan (some 117) (v:=?_) rfl rfl ?_ (hK _ _ hS5 hb8) ?_
   rotate_left
   ·intro wz hw; refine qK Z 4 ?_ (.bool true) hw.2.1.1 _ Tryz.underlying4 rfl; go_simp
   refine wBg 5 hpan (some 118) rfl rfl (hK _ _ hS5 hb8) ?_
   refine wBu 6 hpan (some 119) rfl rfl (hK _ _ hS5 hb8) ?_
   refine wBu 7 hpan (some 120) rfl rfl (hK _ _ hS5 hb8) ?_
   refine wBu 8 hpan (some 121) rfl rfl (hK _ _ hS5 hb8) ?_
   refine wBu 9 hpan (some 122) rfl rfl (hK _ _ hS5 hb8) ?_
   refine wBu 10 hpan (some 123) rfl rfl (hK _ _ hS5 hb8) ?_
   refine wBu 11 hpan (some 124) rfl rfl (hK _ _ hS5 hb8) ?_
   refine wBu 12 hpan (some 125) rfl rfl (hK _ _ hS5 hb8) ?_
   refine wBu 13 hpan (some 126) rfl rfl (hK _ _ hS5 hb8) ?_
   refine wBu 14 hpan (some 127) rfl rfl (hK _ _ hS5 hb8) ?_
   refine wBu 15 hpan (some 128) rfl rfl (hK _ _ hS5 hb8) ?_
   refine wBu 16 hpan (some 129) rfl rfl (hK _ _ hS5 hb8) ?_
   refine wBu 17 hpan (some 130) rfl rfl (hK _ _ hS5 hb8) ?_
   refine wBu 18 hpan (some 131) rfl rfl (hK _ _ hS5 hb8) ?_
   refine wBu 19 hpan (some 132) rfl rfl (hK _ _ hS5 hb8) ?_
   refine wBg 20 hpan (some 133) rfl rfl (hK _ _ hS5 hb8) ?_
   refine wBl 21 hpan (some 134) (v:=.bool true) rfl rfl ?_ (hK _ _ hS5 hb8) ?_
   ·intro wz _; first | (go_simp; done) | (go_simp; with_reducible rfl)
   go_simp
   go_simp
   refine qZ (by kernel_rfl) ?_ _
   go_simp
   go_upto_region 26 with fail
   have hdr:=(Below.refl w8.heap.size w8).drew
   have hS6:Cs w8.drew X 0 (twC y')/\w8.drew.cell? ⟨lb,loff+k*2+1,none⟩=some (.slice (some ⟨b2,o2,none⟩) pn uc)/\w8.drew.cell? ⟨b2,o2+i,none⟩=some (.int .i64 (r0:Int)):=⟨(hX8.next hdr).cs,qR hl8 hdr,qR hp8 hdr⟩
   have hZ9:=hZ8.next hdr
   have hF9:=hid (hF8.out.trans (qH hdr _))
   clear hX8 hl8 hp8 hF8 hZ8
   refine qV (fun w'=>Cs w' X 0 (twC y')/\w'.cell? ⟨lb,loff+k*2+1,none⟩=some (.slice (some ⟨b2,o2,none⟩) pn uc)/\w'.cell? ⟨b2,o2+i,none⟩=some (.int .i64 (r0:Int))) [12] (by kernel_rfl) ?_
   refine wBp 0 hpan (some 135) rfl rfl hS6 ?_
   refine wBl 1 hpan (some 136) (v:=?_) rfl rfl ?_ hS6 ?_
   rotate_left
   ·intro wz hw; refine qW X 3 ?_ (.int .i64 (tc y':Int)) (by have h:=hw.1 3 _ rfl; simpa using h); go_simp
   refine wBp 2 hpan (some 137) rfl rfl hS6 ?_
   refine wBp 3 hpan (some 138) rfl rfl hS6 ?_
   refine wBp 4 hpan (some 139) rfl rfl hS6 ?_
   refine wBp 5 hpan (some 140) rfl rfl hS6 ?_
   refine wBl 6 hpan (some 141) (v:=?_) rfl rfl ?_ hS6 ?_
   rotate_left
   ·intro wz hw; refine jW lb (loff+k*2+1) ?_ (.slice (some ⟨b2,o2,none⟩) pn uc) hw.2.1; go_simp
   refine wBp 7 hpan (some 142) rfl rfl hS6 ?_
   refine wBp 8 hpan (some 143) rfl rfl hS6 ?_
   refine wBl 9 hpan (some 144) (v:=?_) rfl rfl ?_ hS6 ?_
   rotate_left
   ·intro wz hw; refine qW b2 (o2+i) ?_ (.int .i64 (r0:Int)) hw.2.2; go_simp
   refine wBl 10 hpan (some 145) (v:=.int .i64 ((tc y':Int)+(r0:Int))) rfl rfl ?_ hS6 ?_
   ·intro wz _; first | (go_simp; done) | (go_simp; with_reducible rfl)
   refine wBl 11 hpan (some 146) (v:=.agg #[.bool false,.slice none 0 0,.slice none 0 0,.int .i64 ((tc y':Int)+(r0:Int)),.bool false,.int .u64 0,.slice none 0 0,.slice none 0 0]) rfl rfl ?_ hS6 ?_
   ·intro wz _; first | (go_simp; done) | (go_simp; with_reducible rfl)
   go_simp
   go_simp
   go_simp
   refine wpO (i:=12) rfl fun KK hKK=>?_
   rw [if_pos (by kernel_rfl)]
   with_reducible refine qB 45 (.tmp 15) (.tmp 146) ?_ Z 45 (twC m) hZ9 ?_ [.bool false,.slice none 0 0,.slice none 0 0,.int .i64 ((tc y':Int)+(r0:Int)),.bool false,.int .u64 0,.slice none 0 0,.slice none 0 0] ?_ ?_ ?_ ?_ ?_
   ·rfl
   ·go_simp
   ·rfl
   ·go_simp
   ·rw [hzn.out]; exact q0f _
   ·exact Tryz.sizeTw
   intro w9 hZ10 hfr9
   refine lN hKK ?_; clear hKK KK
   refine qZ (by kernel_rfl) ?_ _
   have hF10:=hid (hF9.out.trans hfr9)
   rw [hzn.out] at hZ10
   replace hZ10:=hid hZ10
   clear hfr9 hS6
   go_wp2_with fail
   refine hexit.out _ _ _ _ _ _ _ _ _ _ _ _ _ _ _ _ _ _ _ _ _ _ _ _ _ _ _ _ _ _ _ _ _ _ _ _ _ _ _ _ _ _ _ _ _ _ _ _ ?_ hF10.out
   rw [hend.out]; exact hZ10.out
  | false =>
   have hbm:ti m=false:=hbm0
   have hmm:m=some (tc m):=by cases m<;>simp_all [tc]
   by_cases hlt:r0+tc y'<tc m
   ·have hend:Hid (qP m (vJ (some r0) y')=some (r0+tc y')):=hid (by rw [hen]; refine q9u ?_; rw [hmm]; exact decide_eq_true hlt)
    have j1:(tc y':Int)+(r0:Int)<(tc m:Int):=by omega
    clear hmm
    go_upto_region 25 with fail
    have hdr:=(Below.refl w7.heap.size w7).drew
    have hS5:Cs w7.drew X 0 (twC y')/\(w7.drew.cell? ⟨Z,4,none⟩=some (.bool false)/\w7.drew.cell? ⟨Z,3,none⟩=some (.int .i64 (tc m:Int)))/\w7.drew.cell? ⟨lb,loff+k*2+1,none⟩=some (.slice (some ⟨b2,o2,none⟩) pn uc)/\w7.drew.cell? ⟨b2,o2+i,none⟩=some (.int .i64 (r0:Int)):=⟨(hX7.next hdr).cs,⟨(hZ7.next hdr).cell (i:=4) (by show some (Value.bool (ti m))=_; rw [hbm]),(hZ7.next hdr).cell (i:=3) rfl⟩,qR hl1 hdr,qR hp2 hdr⟩
    have hK:∀ w' w'':World,(Cs w' X 0 (twC y')/\(w'.cell? ⟨Z,4,none⟩=some (.bool false)/\w'.cell? ⟨Z,3,none⟩=some (.int .i64 (tc m:Int)))/\w'.cell? ⟨lb,loff+k*2+1,none⟩=some (.slice (some ⟨b2,o2,none⟩) pn uc)/\w'.cell? ⟨b2,o2+i,none⟩=some (.int .i64 (r0:Int)))->Below w'.heap.size w' w''->(Cs w'' X 0 (twC y')/\(w''.cell? ⟨Z,4,none⟩=some (.bool false)/\w''.cell? ⟨Z,3,none⟩=some (.int .i64 (tc m:Int)))/\w''.cell? ⟨lb,loff+k*2+1,none⟩=some (.slice (some ⟨b2,o2,none⟩) pn uc)/\w''.cell? ⟨b2,o2+i,none⟩=some (.int .i64 (r0:Int))):=fun w' w'' h hb=>⟨h.1.next hb,⟨qR h.2.1.1 hb,qR h.2.1.2 hb⟩,qR h.2.2.1 hb,qR h.2.2.2 hb⟩
    have hZ8:=hZ7.next hdr
    have hX8:=hX7.next hdr
    have hl8:=qR hl1 hdr
    have hp8:=qR hp2 hdr
    have hF8:=hid (hF7.out.trans (qH hdr _))
    clear hX7 hZ7 hl1 hp2 hF7 hdr
    refine qV (fun w'=>Cs w' X 0 (twC y')/\(w'.cell? ⟨Z,4,none⟩=some (.bool false)/\w'.cell? ⟨Z,3,none⟩=some (.int .i64 (tc m:Int)))/\w'.cell? ⟨lb,loff+k*2+1,none⟩=some (.slice (some ⟨b2,o2,none⟩) pn uc)/\w'.cell? ⟨b2,o2+i,none⟩=some (.int .i64 (r0:Int))) [] (by kernel_rfl) ?_
    refine wBl 0 hpan (some 113) (v:=?_) rfl rfl ?_ hS5 ?_
    rotate_left
    ·intro wz hw; refine qY X 0 ?_ y' hw.1; go_simp
    refine wpO (i:=1) rfl fun KK hKK=>?_
    go_simp
    go_at_call 37
    refine (kP y' _).mono ?_; rintro e w8 ⟨rfl,hb8⟩
    replace hZ8:=hZ8.next hb8
    replace hX8:=hX8.next hb8
    replace hl8:=qR hl8 hb8
    replace hp8:=qR hp8 hb8
    replace hF8:=hid (hF8.out.trans (qH hb8 _))
    rw [hby]
    try go_simp
    refine hKK _ _ ⟨fun _=>(hK _ _ hS5 hb8),?_⟩; clear hKK KK
    refine wBl 2 hpan (some 115) (v:=.bool true) rfl rfl ?_ (hK _ _ hS5 hb8) ?_
    ·intro wz _; first | (go_simp; done) | (go_simp; with_reducible rfl)
    refine wBg 3 hpan (some 116) rfl rfl (hK _ _ hS5 hb8) ?_
    refine wBm 4 hpan (some 117) (v:=?_) rfl rfl ?_ (hK _ _ hS5 hb8) ?_
    rotate_left
    ·intro wz hw; refine qK Z 4 ?_ (.bool false) hw.2.1.1 _ Tryz.underlying4 rfl; go_simp
    refine wBg 5 hpan (some 118) rfl rfl (hK _ _ hS5 hb8) ?_
    refine wBg 6 hpan (some 119) rfl rfl (hK _ _ hS5 hb8) ?_
    refine wBm 7 hpan (some 120) (v:=?_) rfl rfl ?_ (hK _ _ hS5 hb8) ?_
    rotate_left
    ·intro wz hw; refine qW X 3 ?_ (.int .i64 (tc y':Int)) (by have h:=hw.1 3 _ rfl; simpa using h); go_simp
    refine wBg 8 hpan (some 121) rfl rfl (hK _ _ hS5 hb8) ?_
    refine wBg 9 hpan (some 122) rfl rfl (hK _ _ hS5 hb8) ?_
    refine wBg 10 hpan (some 123) rfl rfl (hK _ _ hS5 hb8) ?_
    refine wBg 11 hpan (some 124) rfl rfl (hK _ _ hS5 hb8) ?_
    refine wBm 12 hpan (some 125) (v:=?_) rfl rfl ?_ (hK _ _ hS5 hb8) ?_
    rotate_left
    ·intro wz hw; refine jW lb (loff+k*2+1) ?_ (.slice (some ⟨b2,o2,none⟩) pn uc) hw.2.2.1; go_simp
    refine wBg 13 hpan (some 126) rfl rfl (hK _ _ hS5 hb8) ?_
    refine wBg 14 hpan (some 127) rfl rfl (hK _ _ hS5 hb8) ?_
    refine wBm 15 hpan (some 128) (v:=?_) rfl rfl ?_ (hK _ _ hS5 hb8) ?_
    rotate_left
    ·intro wz hw; refine qW b2 (o2+i) ?_ (.int .i64 (r0:Int)) hw.2.2.2; go_simp
    refine wBg 16 hpan (some 129) rfl rfl (hK _ _ hS5 hb8) ?_
    refine wBg 17 hpan (some 130) rfl rfl (hK _ _ hS5 hb8) ?_
    refine wBm 18 hpan (some 131) (v:=?_) rfl rfl ?_ (hK _ _ hS5 hb8) ?_
    rotate_left
    ·intro wz hw; refine qW Z 3 ?_ (.int .i64 (tc m:Int)) hw.2.1.2; go_simp
    refine wBg 19 hpan (some 132) rfl rfl (hK _ _ hS5 hb8) ?_
    refine wBg 20 hpan (some 133) rfl rfl (hK _ _ hS5 hb8) ?_
    refine wBl 21 hpan (some 134) (v:=.bool true) rfl rfl ?_ (hK _ _ hS5 hb8) ?_
    ·intro wz _; first | (go_simp; done) | (go_simp; with_reducible rfl)
    go_simp
    go_simp
    refine qZ (by kernel_rfl) ?_ _
    go_simp
    go_upto_region 26 with fail
    have hdr:=(Below.refl w8.heap.size w8).drew
    have hS6:Cs w8.drew X 0 (twC y')/\w8.drew.cell? ⟨lb,loff+k*2+1,none⟩=some (.slice (some ⟨b2,o2,none⟩) pn uc)/\w8.drew.cell? ⟨b2,o2+i,none⟩=some (.int .i64 (r0:Int)):=⟨(hX8.next hdr).cs,qR hl8 hdr,qR hp8 hdr⟩
    have hZ9:=hZ8.next hdr
    have hF9:=hid (hF8.out.trans (qH hdr _))
    clear hX8 hl8 hp8 hF8 hZ8
    refine qV (fun w'=>Cs w' X 0 (twC y')/\w'.cell? ⟨lb,loff+k*2+1,none⟩=some (.slice (some ⟨b2,o2,none⟩) pn uc)/\w'.cell? ⟨b2,o2+i,none⟩=some (.int .i64 (r0:Int))) [12] (by kernel_rfl) ?_
    refine wBp 0 hpan (some 135) rfl rfl hS6 ?_
    refine wBl 1 hpan (some 136) (v:=?_) rfl rfl ?_ hS6 ?_
    rotate_left
    ·intro wz hw; refine qW X 3 ?_ (.int .i64 (tc y':Int)) (by have h:=hw.1 3 _ rfl; simpa using h); go_simp
    refine wBp 2 hpan (some 137) rfl rfl hS6 ?_
    refine wBp 3 hpan (some 138) rfl rfl hS6 ?_
    refine wBp 4 hpan (some 139) rfl rfl hS6 ?_
    refine wBp 5 hpan (some 140) rfl rfl hS6 ?_
    refine wBl 6 hpan (some 141) (v:=?_) rfl rfl ?_ hS6 ?_
    rotate_left
    ·intro wz hw; refine jW lb (loff+k*2+1) ?_ (.slice (some ⟨b2,o2,none⟩) pn uc) hw.2.1; go_simp
    refine wBp 7 hpan (some 142) rfl rfl hS6 ?_
    refine wBp 8 hpan (some 143) rfl rfl hS6 ?_
    refine wBl 9 hpan (some 144) (v:=?_) rfl rfl ?_ hS6 ?_
    rotate_left
    ·intro wz hw; refine qW b2 (o2+i) ?_ (.int .i64 (r0:Int)) hw.2.2; go_simp
    refine wBl 10 hpan (some 145) (v:=.int .i64 ((tc y':Int)+(r0:Int))) rfl rfl ?_ hS6 ?_
    ·intro wz _; first | (go_simp; done) | (go_simp; with_reducible rfl)
    refine wBl 11 hpan (some 146) (v:=.agg #[.bool false,.slice none 0 0,.slice none 0 0,.int .i64 ((tc y':Int)+(r0:Int)),.bool false,.int .u64 0,.slice none 0 0,.slice none 0 0]) rfl rfl ?_ hS6 ?_
    ·intro wz _; first | (go_simp; done) | (go_simp; with_reducible rfl)
    go_simp
    go_simp
    go_simp
    refine wpO (i:=12) rfl fun KK hKK=>?_
    rw [if_pos (by kernel_rfl)]
    with_reducible refine qB 45 (.tmp 15) (.tmp 146) ?_ Z 45 (twC m) hZ9 ?_ [.bool false,.slice none 0 0,.slice none 0 0,.int .i64 ((tc y':Int)+(r0:Int)),.bool false,.int .u64 0,.slice none 0 0,.slice none 0 0] ?_ ?_ ?_ ?_ ?_
    ·rfl
    ·go_simp
    ·rfl
    ·go_simp
    ·rw [hzn.out]; exact q0f _
    ·exact Tryz.sizeTw
    intro w9 hZ10 hfr9
    refine lN hKK ?_; clear hKK KK
    refine qZ (by kernel_rfl) ?_ _
    have hF10:=hid (hF9.out.trans hfr9)
    rw [hzn.out] at hZ10
    replace hZ10:=hid hZ10
    clear hfr9 hS6
    go_wp2_with fail
    refine hexit.out _ _ _ _ _ _ _ _ _ _ _ _ _ _ _ _ _ _ _ _ _ _ _ _ _ _ _ _ _ _ _ _ _ _ _ _ _ _ _ _ _ _ _ _ _ _ _ _ ?_ hF10.out
    rw [hend.out]; exact hZ10.out
   ·have hend:Hid (qP m (vJ (some r0) y')=m):=hid (by rw [hen]; refine q9v ?_; rw [hmm]; exact decide_eq_false hlt)
    have j1:¬ (tc y':Int)+(r0:Int)<(tc m:Int):=by omega
    clear hmm
    go_upto_region 25 with fail
    have hdr:=(Below.refl w7.heap.size w7).drew
    have hS5:Cs w7.drew X 0 (twC y')/\(w7.drew.cell? ⟨Z,4,none⟩=some (.bool false)/\w7.drew.cell? ⟨Z,3,none⟩=some (.int .i64 (tc m:Int)))/\w7.drew.cell? ⟨lb,loff+k*2+1,none⟩=some (.slice (some ⟨b2,o2,none⟩) pn uc)/\w7.drew.cell? ⟨b2,o2+i,none⟩=some (.int .i64 (r0:Int)):=⟨(hX7.next hdr).cs,⟨(hZ7.next hdr).cell (i:=4) (by show some (Value.bool (ti m))=_; rw [hbm]),(hZ7.next hdr).cell (i:=3) rfl⟩,qR hl1 hdr,qR hp2 hdr⟩
    have hK:∀ w' w'':World,(Cs w' X 0 (twC y')/\(w'.cell? ⟨Z,4,none⟩=some (.bool false)/\w'.cell? ⟨Z,3,none⟩=some (.int .i64 (tc m:Int)))/\w'.cell? ⟨lb,loff+k*2+1,none⟩=some (.slice (some ⟨b2,o2,none⟩) pn uc)/\w'.cell? ⟨b2,o2+i,none⟩=some (.int .i64 (r0:Int)))->Below w'.heap.size w' w''->(Cs w'' X 0 (twC y')/\(w''.cell? ⟨Z,4,none⟩=some (.bool false)/\w''.cell? ⟨Z,3,none⟩=some (.int .i64 (tc m:Int)))/\w''.cell? ⟨lb,loff+k*2+1,none⟩=some (.slice (some ⟨b2,o2,none⟩) pn uc)/\w''.cell? ⟨b2,o2+i,none⟩=some (.int .i64 (r0:Int))):=fun w' w'' h hb=>⟨h.1.next hb,⟨qR h.2.1.1 hb,qR h.2.1.2 hb⟩,qR h.2.2.1 hb,qR h.2.2.2 hb⟩
    have hZ8:=hZ7.next hdr
    have hX8:=hX7.next hdr
    have hl8:=qR hl1 hdr
    have hp8:=qR hp2 hdr
    have hF8:=hid (hF7.out.trans (qH hdr _))
    clear hX7 hZ7 hl1 hp2 hF7 hdr
    refine qV (fun w'=>Cs w' X 0 (twC y')/\(w'.cell? ⟨Z,4,none⟩=some (.bool false)/\w'.cell? ⟨Z,3,none⟩=some (.int .i64 (tc m:Int)))/\w'.cell? ⟨lb,loff+k*2+1,none⟩=some (.slice (some ⟨b2,o2,none⟩) pn uc)/\w'.cell? ⟨b2,o2+i,none⟩=some (.int .i64 (r0:Int))) [] (by kernel_rfl) ?_
    refine wBl 0 hpan (some 113) (v:=?_) rfl rfl ?_ hS5 ?_
    rotate_left
    ·intro wz hw; refine qY X 0 ?_ y' hw.1; go_simp
    refine wpO (i:=1) rfl fun KK hKK=>?_
    go_simp
    go_at_call 37
    refine (kP y' _).mono ?_; rintro e w8 ⟨rfl,hb8⟩
    replace hZ8:=hZ8.next hb8
    replace hX8:=hX8.next hb8
    replace hl8:=qR hl8 hb8
    replace hp8:=qR hp8 hb8
    replace hF8:=hid (hF8.out.trans (qH hb8 _))
    rw [hby]
    try go_simp
    refine hKK _ _ ⟨fun _=>(hK _ _ hS5 hb8),?_⟩; clear hKK KK
    refine wBl 2 hpan (some 115) (v:=.bool true) rfl rfl ?_ (hK _ _ hS5 hb8) ?_
    ·intro wz _; first | (go_simp; done) | (go_simp; with_reducible rfl)
    refine wBg 3 hpan (some 116) rfl rfl (hK _ _ hS5 hb8) ?_
    refine wBm 4 hpan (some 117) (v:=?_) rfl rfl ?_ (hK _ _ hS5 hb8) ?_
    rotate_left
    ·intro wz hw; refine qK Z 4 ?_ (.bool false) hw.2.1.1 _ Tryz.underlying4 rfl; go_simp
    refine wBg 5 hpan (some 118) rfl rfl (hK _ _ hS5 hb8) ?_
    refine wBg 6 hpan (some 119) rfl rfl (hK _ _ hS5 hb8) ?_
    refine wBm 7 hpan (some 120) (v:=?_) rfl rfl ?_ (hK _ _ hS5 hb8) ?_
    rotate_left
    ·intro wz hw; refine qW X 3 ?_ (.int .i64 (tc y':Int)) (by have h:=hw.1 3 _ rfl; simpa using h); go_simp
    refine wBg 8 hpan (some 121) rfl rfl (hK _ _ hS5 hb8) ?_
    refine wBg 9 hpan (some 122) rfl rfl (hK _ _ hS5 hb8) ?_
    refine wBg 10 hpan (some 123) rfl rfl (hK _ _ hS5 hb8) ?_
    refine wBg 11 hpan (some 124) rfl rfl (hK _ _ hS5 hb8) ?_
    refine wBm 12 hpan (some 125) (v:=?_) rfl rfl ?_ (hK _ _ hS5 hb8) ?_
    rotate_left
    ·intro wz hw; refine jW lb (loff+k*2+1) ?_ (.slice (some ⟨b2,o2,none⟩) pn uc) hw.2.2.1; go_simp
    refine wBg 13 hpan (some 126) rfl rfl (hK _ _ hS5 hb8) ?_
    refine wBg 14 hpan (some 127) rfl rfl (hK _ _ hS5 hb8) ?_
    refine wBm 15 hpan (some 128) (v:=?_) rfl rfl ?_ (hK _ _ hS5 hb8) ?_
    rotate_left
    ·intro wz hw; refine qW b2 (o2+i) ?_ (.int .i64 (r0:Int)) hw.2.2.2; go_simp
    refine wBg 16 hpan (some 129) rfl rfl (hK _ _ hS5 hb8) ?_
    refine wBg 17 hpan (some 130) rfl rfl (hK _ _ hS5 hb8) ?_
    refine wBm 18 hpan (some 131) (v:=?_) rfl rfl ?_ (hK _ _ hS5 hb8) ?_
    rotate_left
    ·intro wz hw; refine qW Z 3 ?_ (.int .i64 (tc m:Int)) hw.2.1.2; go_simp
    refine wBg 19 hpan (some 132) rfl rfl (hK _ _ hS5 hb8) ?_
    refine wBg 20 hpan (some 133) rfl rfl (hK _ _ hS5 hb8) ?_
    refine wBl 21 hpan (some 134) (v:=.bool false) rfl rfl ?_ (hK _ _ hS5 hb8) ?_
    ·intro wz _; first | (go_simp; done) | (go_simp; with_reducible rfl)
    go_simp
    go_simp
    refine qZ (by kernel_rfl) ?_ _
    replace hZ8:=hid hZ8
    clear hX8 hl8 hp8
    go_wp2_with fail
    refine hexit.out _ _ _ _ _ _ _ _ _ _ _ _ _ _ _ _ _ _ _ _ _ _ _ _ _ _ _ _ _ _ _ _ _ _ _ _ _ _ _ _ _ _ _ _ _ _ _ _ ?_ hF8.out
    rw [hend.out]; exact hZ8.out
end
section
open Go.RowKit
def j7e (fin:List Tw) (P:List (Nat×Nat)):Tw:=P.foldl (fun m p=>qP m (vJ (some p.2) (fin.getD p.1 none))) none
theorem j7d (fin:List Tw) {P:List (Nat×Nat)} {i:Nat} {p:Nat×Nat} (h:P[i]? = some p):j7e fin (P.take (i+1))=qP (j7e fin (P.take i)) (vJ (some p.2) (fin.getD p.1 none)):=by
 unfold j7e; rw [jR h,List.foldl_append]; rfl
theorem j7c (fin:List Tw) (R:Vx) (h:fin.length=R.length):∀ k,k<=R.length->j7e fin (q0z R k)=qG ((List.zipWith vJ R fin).take k)
 | 0,_=>rfl
 | k+1,hk=>by
  obtain ⟨o,ho⟩:∃ o,R[k]? = some o:=⟨_,List.getElem?_eq_getElem (by omega)⟩
  obtain ⟨v,hv⟩:∃ v,fin[k]? = some v:=⟨_,List.getElem?_eq_getElem (by omega)⟩
  have hz:(List.zipWith vJ R fin)[k]? = some (vJ o v):=by rw [List.getElem?_zipWith,ho,hv]
  rw [jR hz,q0a,<-j7c fin R h k (by omega)]
  cases o with
  | none=>rw [q2z ho]; show _=qP _ none; rw [jU]
  | some r =>
   rw [q2y ho]
   unfold j7e; rw [List.foldl_append]
   show qP _ (vJ (some r) (fin.getD k none))=_
   rw [List.getD_eq_getElem?_getD,hv]; rfl
theorem z0b (fin:List Tw) (R:Vx) (h:fin.length=R.length):j7e fin (sup R)=q0i fin R:=by
 unfold sup q0i
 rw [j7c fin R h _ (Nat.le_refl _),List.take_of_length_le (by simp [h])]
theorem z4u (W:World) (V syms C:Nat) (A:Au) (io:OA) (ci:Nat) (fo:OA) (cf:Nat) (ro:OA) (nr cr:Nat) (hS:Hid (Rta W V syms C A io ci fo cf ro nr cr)) (lb loff ln lc k:Nat) (hk:k<ln) (hln:ln<=64) (so:OA) (sc:Nat) (uo:OA) (uc pn:Nat) (P:List (Nat×Nat)) (hE:Hid (Cs W lb (loff+k*2) [.slice so pn sc,.slice uo pn uc])) (hR:Hid (Rs W so sc uo uc pn P)) (Z:Nat) (hpn:pn<=64) (hr:Hid (∀ p∈P,p.1<A.st/\p.2<=1000000000)) (w:World) (hb:Below W.heap.size W w) (hZW:W.heap.size<=Z) (hZ:Bl Z (twC none) 45 w)
  {c0 c1 c2 c3 c4 c6 c7 c8 c9 Aa Ab Ad Ae Af Ag Ah Ak Al Am An Ao Ap Aq Ar As Av Aw Ax Ay Az Ba Bb Bc Be Bf Bh Bi Bj Bk Bm Bn Bo Bp Bq Br Bs Bt Bu Bv Bw Bx By Bz Ca Cb Cc Cd Ce Cf Cg Ch Ci Cj Ck Cl Cm Cn Co Cp Cq Cr Ct Cu Cv Cw Cx Cy Cz Da Db Dc Dd De Df Dg Dh Di Dj Dk Dl Dn Dp Dq Dr Dt Du Dv Dw Dx Dy Dz Ea Eb Ec Ed Ee Ef Eg Eh Ei Ej Ek El Em En Eo Ep Eq Er Es Et Eu Ev Ew Ex Ey Ez Fa Fb Fc Fd Fe Ff Fg Fh Fi Fj Fk Fm Fn Fo Fp Fq Fs Ft Fu Fv Fw Fx Fy Fz Ga Gb Gc Gd Ge Gf Gg Gh Gi Gj Gk Gl Gm Gn Go Gp Gq Gr Gs Gt Gu Gv Gw Gx Gy Gz Ha Hb Hc Hd He Hf Hg Hh Hi Hj Hk Hl Hm Hn Ho Hp Hq Hr Hs Ht Hu Hv Hw Hx Hy Hz Ia Ib Ic Id Ie Ig Ih Ii Ij Ik Il Im Io Ip Iq Ir It Iu Iv Iw Ix Iy Iz Ja Jb Jc Jd Je Jf Jg Jh Ji Jj Jk Jl Jm Jn Jo Jp Jq Jr Js Jt Ju Jv Jw Jx Jy Jz Ka Kb Kc Kd Ke Kf Kg Kh Ki Kj Kk Kl Km Kn Ko Kp Kq Kr Ks Kt Ku Kv Kw Kx Kz La Lb Lc Ld Le Lf Lg Lh Li Lj Lk Ll Lm Ln Lo Lp Lq Lr Lt Lu Lv Lx Ly Lz Ma Mb Mc Md Me:Value} {Q0:EP} (hpan:∀ c (a:Act) d v w,Q0 (.panic c) (a.put d v) w->Q0 (.panic c) a w)
  (hexit:∀ (Mf Mg Mh Mi Mj Ml Mm Mn Mp Mq Mr Ms Mt Mu Mw Mx My Mz Na Nb Nc Nd Ne Ng Nh Ni Nj Nk Nl Nm Nn Np Nq Nr Ns Nt Nu Nv Nw Nx Ny Nz Oa Ob Oc Od Oe Og Oh Oi Oj Ok Ol Oo Op Oq Os Ot:Value) (w':World),Bl Z (twC (j7e A.fin P)) 45 w'->Fr (fun k=>k=Z) w w'->Q0 .normal ⟨#[c0,c1,c2,c3,c4,.pointer (some ⟨V,0,none⟩),c6,c7,c8,c9,Aa,Ab,Ad,.slice (some ⟨lb,loff,none⟩) ln lc,.int .i64 (k:Int),.pointer (some ⟨Z,0,none⟩),Mf,Mg,Af,Ag,Ah,Ak,Al,Am,An,Ao,Ap,Aq,Ar,As,Av,Aw,Ax,Ay,Az,Ba,Bb,Bc,Be,Bf,Bh,Bi,Bj,Bk,Bm,Bn,Bo,Bp,Bq,Br,Bs,Bt,Bu,Bv,Bw,Bx,By,Bz,Ca,Cb,Cc,Cd,Ce,Cf,Cg,Ch,Ci,Cj,Ck,Cl,Cm,Cn,Co,Cp,Cq,Cr,Ct,Cu,Cv,Cw,Cx,Cy,Cz,Da,Db,Dc,Dd,De,Df,Dg,Dh,Mh,Mi,Mj,Ml,Mm,Mn,Mp,Mq,Mr,Ms,Mt,Mu,Mw,Mx,My,Mz,Na,Nb,Nc,Nd,Ne,Ng,Nh,Ni,Nj,Nk,Nl,Nm,Nn,Np,Nq,Nr,Ns,Nt,Nu,Nv,Nw,Nx,Ny,Nz,Oa,Ob,Oc,Od,Oe,Og,Oh,Oi,Oj,Ok,Ol,Oo,Op,Oq,Os,Ot,Fq,Fs,Ft,Fu,Fv,Fw,Fx,Fy,Fz,Ga,Gb,Gc,Gd,Ge,Gf,Gg,Gh,Gi,Gj,Gk,Gl,Gm,Gn,Go,Gp,Gq,Gr,Gs,Gt,Gu,Gv,Gw,Gx,Gy,Gz,Ha,Hb,Hc,Hd,He,Hf,Hg,Hh,Hi,Hj,Hk,Hl,Hm,Hn,Ho,Hp,Hq,Hr,Hs,Ht,Hu,Hv,Hw,Hx,Hy,Hz,Ia,Ib,Ic,Id,Ie,Ig,Ih,Ii,Ij,Ik,Il,Im,Io,Ip,Iq,Ir,It,Iu,Iv,Iw,Ix,Iy,Iz,Ja,Jb,Jc,Jd,Je,Jf,Jg,Jh,Ji,Jj,Jk,Jl,Jm,Jn,Jo,Jp,Jq,Jr,Js,Jt,Ju,Jv,Jw,Jx,Jy,Jz,Ka,Kb,Kc,Kd,Ke,Kf,Kg,Kh,Ki,Kj,Kk,Kl,Km,Kn,Ko,Kp,Kq,Kr,Ks,Kt,Ku,Kv,Kw,Kx,Kz,La,Lb,Lc,Ld,Le,Lf,Lg,Lh,Li,Lj,Lk,Ll,Lm,Ln,Lo,Lp,Lq,Lr,Lt,Lu,Lv,Lx,Ly,Lz,Ma,Mb,Mc,Md,Me],[]⟩ w') :
  Code.wp Tryz.prog (eB 4) Q0 ⟨#[c0,c1,c2,c3,c4,.pointer (some ⟨V,0,none⟩),c6,c7,c8,c9,Aa,Ab,Ad,.slice (some ⟨lb,loff,none⟩) ln lc,.int .i64 (k:Int),.pointer (some ⟨Z,0,none⟩),.int .i64 0,Ae,Af,Ag,Ah,Ak,Al,Am,An,Ao,Ap,Aq,Ar,As,Av,Aw,Ax,Ay,Az,Ba,Bb,Bc,Be,Bf,Bh,Bi,Bj,Bk,Bm,Bn,Bo,Bp,Bq,Br,Bs,Bt,Bu,Bv,Bw,Bx,By,Bz,Ca,Cb,Cc,Cd,Ce,Cf,Cg,Ch,Ci,Cj,Ck,Cl,Cm,Cn,Co,Cp,Cq,Cr,Ct,Cu,Cv,Cw,Cx,Cy,Cz,Da,Db,Dc,Dd,De,Df,Dg,Dh,Di,Dj,Dk,Dl,Dn,Dp,Dq,Dr,Dt,Du,Dv,Dw,Dx,Dy,Dz,Ea,Eb,Ec,Ed,Ee,Ef,Eg,Eh,Ei,Ej,Ek,El,Em,En,Eo,Ep,Eq,Er,Es,Et,Eu,Ev,Ew,Ex,Ey,Ez,Fa,Fb,Fc,Fd,Fe,Ff,Fg,Fh,Fi,Fj,Fk,Fm,Fn,Fo,Fp,Fq,Fs,Ft,Fu,Fv,Fw,Fx,Fy,Fz,Ga,Gb,Gc,Gd,Ge,Gf,Gg,Gh,Gi,Gj,Gk,Gl,Gm,Gn,Go,Gp,Gq,Gr,Gs,Gt,Gu,Gv,Gw,Gx,Gy,Gz,Ha,Hb,Hc,Hd,He,Hf,Hg,Hh,Hi,Hj,Hk,Hl,Hm,Hn,Ho,Hp,Hq,Hr,Hs,Ht,Hu,Hv,Hw,Hx,Hy,Hz,Ia,Ib,Ic,Id,Ie,Ig,Ih,Ii,Ij,Ik,Il,Im,Io,Ip,Iq,Ir,It,Iu,Iv,Iw,Ix,Iy,Iz,Ja,Jb,Jc,Jd,Je,Jf,Jg,Jh,Ji,Jj,Jk,Jl,Jm,Jn,Jo,Jp,Jq,Jr,Js,Jt,Ju,Jv,Jw,Jx,Jy,Jz,Ka,Kb,Kc,Kd,Ke,Kf,Kg,Kh,Ki,Kj,Kk,Kl,Km,Kn,Ko,Kp,Kq,Kr,Ks,Kt,Ku,Kv,Kw,Kx,Kz,La,Lb,Lc,Ld,Le,Lf,Lg,Lh,Li,Lj,Lk,Ll,Lm,Ln,Lo,Lp,Lq,Lr,Lt,Lu,Lv,Lx,Ly,Lz,Ma,Mb,Mc,Md,Me],[]⟩ w:=by
 conv=>arg 2; whnf
 have hZ0:=hid hZ
 have hb0:=hid hb
 have hexit:=hid hexit
 have ik:(k:Int)<(ln:Int):=by omega
 have ik0:(0:Int)<=(k:Int):=by omega
 clear hZ hb
 go_wp2_with fail
 go_loopw [16] (fun iv wr=>∃ i:Nat,i<=pn/\iv=.int .i64 (i:Int)/\Bl Z (twC (j7e A.fin (P.take i))) 45 wr/\Fr (fun k=>k=Z) w wr) (fun iv _=>pn-(intOf iv).toNat)
 case atStart=>exact ⟨0,by omega,rfl,hZ0.out,Fr.refl _ _⟩
 case round =>
  obtain ⟨i,hi,rfl,hZr,hfr⟩:=hrel
  have hbr:Below W.heap.size W wr:=hb0.out.trans (hfr.below (fun k e=>by subst e; exact hZW) hb0.out.size)
  have l0:=(hE.out.next hbr) 0 _ rfl
  simp only [Nat.add_zero] at l0
  by_cases hlt:i<pn
  ·obtain ⟨q,r,_,_,_,_,hP,_,_,_,_⟩:=hR.out.get hlt
   have i1:(i:Int)<(pn:Int):=by omega
   have i0:(0:Int)<=(i:Int):=by omega
   have hrr:=hr.out _ (List.mem_of_getElem? hP)
   obtain ⟨y,hy,_⟩:=hS.out.mo.fin.get hrr.1
   have hy2:=hid hy
   have hsn:Hid (j7e A.fin (P.take (i+1))=qP (j7e A.fin (P.take i)) (vJ (some r) y)):=hid (by rw [j7d A.fin hP,List.getD_eq_getElem?_getD,hy]; rfl)
   have hP2:=hid hP
   have hZ2:=hid hZr
   have hfr2:=hid hfr
   have hbr2:=hid hbr
   clear hP hZr hfr hbr hy
   go_upto_block 5 with fail
   refine z2j W V syms C A io ci fo cf ro nr cr hS lb loff ln lc k hk hln so sc uo uc pn P hE hR i q r Z _ y hP2 hlt hpn hrr.1 hrr.2 hy2 wr hbr2.out hZ2.out hZW hpan ?_
   intro _ _ _ _ _ _ _ _ _ _ _ _ _ _ _ _ _ _ _ _ _ _ _ _ _ _ _ _ _ _ _ _ _ _ _ _ _ _ _ _ _ _ _ _ _ _ _ w3 hZ3 hf3
   have hZ3:=hid hZ3
   have hf3:=hid (hfr2.out.trans hf3)
   go_wp2_with fail
   go_roundw
   case rel=>exact ⟨i+1,by omega,by go_num,by rw [hsn.out]; exact hZ3.out,hf3.out⟩
   case measure=>simp [intOf]; omega
  ·obtain rfl:i=pn:=by omega
   have i1:¬ (i:Int)<(i:Int):=by omega
   rw [List.take_of_length_le (by rw [hR.out.len]; exact Nat.le_refl _)] at hZr
   have hZr:=hid hZr
   go_wp2_with fail
   exact hexit.out _ _ _ _ _ _ _ _ _ _ _ _ _ _ _ _ _ _ _ _ _ _ _ _ _ _ _ _ _ _ _ _ _ _ _ _ _ _ _ _ _ _ _ _ _ _ _ _ _ _ _ _ _ _ _ _ _ _ _ hZr.out hfr
end
end Go.Proofs.YtnapapijhhldpaaGreatDoor

/-
  Texts joined by program: Tsc. No condition of its own.
-/
import Derived.Test.YtnapapijhhldpaaGreatDoorJcBM
namespace Go.Proofs.YtnapapijhhldpaaGreatDoor
set_option linter.unusedSimpArgs false
set_option linter.unusedVariables false
section
open Go.RowKit
theorem twPlus_less {m:Tw} {c:Nat} (h:twLess (some c) m=true):twPlus m (some c)=some c:=if_pos h
theorem twPlus_keep {m:Tw} {c:Nat} (h:twLess (some c) m=false):twPlus m (some c)=m:=if_neg (by rw [h]; simp)
set_option maxRecDepth 100000 in
set_option maxHeartbeats 4000000 in
theorem rd_fin1 (W:World) (V syms C:Nat) (A:Au) (io:Option Addr) (ci:Nat) (fo:Option Addr) (cf:Nat) (ro:Option Addr) (nr cr:Nat) (hS:Hid (Rta W V syms C A io ci fo cf ro nr cr)) (lb loff ln lc k:Nat) (hk:k<ln) (hln:ln≤64) (so:Option Addr) (sc:Nat) (uo:Option Addr) (uc pn:Nat) (P:List (Nat×Nat)) (hE:Hid (Cs W lb (loff+k*2) [.slice so pn sc,.slice uo pn uc])) (hR:Hid (Rs W so sc uo uc pn P)) (i q r Z:Nat) (m y:Tw) (hP:Hid (P[i]? = some (q,r))) (hi:i<pn) (hpn:pn≤64) (hq:q<A.st) (hr:r≤1000000000) (hy:Hid (A.fin[q]? = some y)) (w:World) (hb:Below W.heap.size W w) (hZ:Bl Z (twC m) 45 w) (hZW:W.heap.size≤Z)
  (c0 c1 c2 c3 c4 c6 c7 c8 c9 Aa Ab Ad Ae Af Ag Ah Ak Al Am An Ao Ap Aq Ar As Av Aw Ax Ay Az Ba Bb Bc Be Bf Bh Bi Bj Bk Bm Bn Bo Bp Bq Br Bs Bt Bu Bv Bw Bx By Bz Ca Cb Cc Cd Ce Cf Cg Ch Ci Cj Ck Cl Cm Cn Co Cp Cq Cr Ct Cu Cv Cw Cx Cy Cz Da Db Dc Dd De Df Dg Dh Di Dj Dk Dl Dn Dp Dq Dr Dt Du Dv Dw Dx Dy Dz Ea Eb Ec Ed Ee Ef Eg Eh Ei Ej Ek El Em En Eo Ep Eq Er Es Et Eu Ev Ew Ex Ey Ez Fa Fb Fc Fd Fe Ff Fg Fh Fi Fj Fk Fm Fn Fo Fp Fq Fs Ft Fu Fv Fw Fx Fy Fz Ga Gb Gc Gd Ge Gf Gg Gh Gi Gj Gk Gl Gm Gn Go Gp Gq Gr Gs Gt Gu Gv Gw Gx Gy Gz Ha Hb Hc Hd He Hf Hg Hh Hi Hj Hk Hl Hm Hn Ho Hp Hq Hr Hs Ht Hu Hv Hw Hx Hy Hz Ia Ib Ic Id Ie Ig Ih Ii Ij Ik Il Im Io Ip Iq Ir It Iu Iv Iw Ix Iy Iz Ja Jb Jc Jd Je Jf Jg Jh Ji Jj Jk Jl Jm Jn Jo Jp Jq Jr Js Jt Ju Jv Jw Jx Jy Jz Ka Kb Kc Kd Ke Kf Kg Kh Ki Kj Kk Kl Km Kn Ko Kp Kq Kr Ks Kt Ku Kv Kw Kx Kz La Lb Lc Ld Le Lf Lg Lh Li Lj Lk Ll Lm Ln Lo Lp Lq Lr Lt Lu Lv Lx Ly Lz Ma Mb Mc Md Me:Value) (Q0:Exit→Act→World→Prop) (hpan:∀ c (a:Act) d v w,Q0 (.panic c) (a.put d v) w→Q0 (.panic c) a w)
  (hexit:∀ (Mf Mg Mh Mi Mj Ml Mm Mn Mp Mq Mr Ms Mt Mu Mw Mx My Mz Na Nb Nc Nd Ne Ng Nh Ni Nj Nk Nl Nm Nn Np Nq Nr Ns Nt Nu Nv Nw Nx Ny Nz Oa Ob Oc Od Oe:Value) (w':World),Bl Z (twC (twPlus m (ends1 (some r) y))) 45 w'→Fr (fun k=>k=Z) w w'→Q0 .normal ⟨#[c0,c1,c2,c3,c4,.pointer (some ⟨V,0,none⟩),c6,c7,c8,c9,Aa,Ab,Ad,.slice (some ⟨lb,loff,none⟩) ln lc,.int .i64 (k:Int),.pointer (some ⟨Z,0,none⟩),.int .i64 (i:Int),Mf,Af,Ag,Ah,Ak,Al,Am,An,Ao,Ap,Aq,Ar,As,Av,Aw,Ax,Ay,Az,Ba,Bb,Bc,Be,Bf,Bh,Bi,Bj,Bk,Bm,Bn,Bo,Bp,Bq,Br,Bs,Bt,Bu,Bv,Bw,Bx,By,Bz,Ca,Cb,Cc,Cd,Ce,Cf,Cg,Ch,Ci,Cj,Ck,Cl,Cm,Cn,Co,Cp,Cq,Cr,Ct,Cu,Cv,Cw,Cx,Cy,Cz,Da,Db,Dc,Dd,De,Df,Dg,Dh,Di,Dj,Dk,Dl,Dn,Dp,Dq,Dr,Dt,Du,Mg,Mh,Mi,Mj,Ml,Mm,Mn,Mp,Mq,Mr,Ms,Mt,Mu,Mw,Mx,My,Mz,Na,Nb,Nc,Nd,Ne,Ng,Nh,Ni,Nj,Nk,Nl,Nm,Nn,Np,Nq,Nr,Ns,Nt,Nu,Nv,Nw,Nx,Ny,Nz,Oa,Ob,Oc,Od,Oe,Fq,Fs,Ft,Fu,Fv,Fw,Fx,Fy,Fz,Ga,Gb,Gc,Gd,Ge,Gf,Gg,Gh,Gi,Gj,Gk,Gl,Gm,Gn,Go,Gp,Gq,Gr,Gs,Gt,Gu,Gv,Gw,Gx,Gy,Gz,Ha,Hb,Hc,Hd,He,Hf,Hg,Hh,Hi,Hj,Hk,Hl,Hm,Hn,Ho,Hp,Hq,Hr,Hs,Ht,Hu,Hv,Hw,Hx,Hy,Hz,Ia,Ib,Ic,Id,Ie,Ig,Ih,Ii,Ij,Ik,Il,Im,Io,Ip,Iq,Ir,It,Iu,Iv,Iw,Ix,Iy,Iz,Ja,Jb,Jc,Jd,Je,Jf,Jg,Jh,Ji,Jj,Jk,Jl,Jm,Jn,Jo,Jp,Jq,Jr,Js,Jt,Ju,Jv,Jw,Jx,Jy,Jz,Ka,Kb,Kc,Kd,Ke,Kf,Kg,Kh,Ki,Kj,Kk,Kl,Km,Kn,Ko,Kp,Kq,Kr,Ks,Kt,Ku,Kv,Kw,Kx,Kz,La,Lb,Lc,Ld,Le,Lf,Lg,Lh,Li,Lj,Lk,Ll,Lm,Ln,Lo,Lp,Lq,Lr,Lt,Lu,Lv,Lx,Ly,Lz,Ma,Mb,Mc,Md,Me],[]⟩ w') :
  Code.wp Tryz.prog (eB 5) Q0 ⟨#[c0,c1,c2,c3,c4,.pointer (some ⟨V,0,none⟩),c6,c7,c8,c9,Aa,Ab,Ad,.slice (some ⟨lb,loff,none⟩) ln lc,.int .i64 (k:Int),.pointer (some ⟨Z,0,none⟩),.int .i64 (i:Int),Ae,Af,Ag,Ah,Ak,Al,Am,An,Ao,Ap,Aq,Ar,As,Av,Aw,Ax,Ay,Az,Ba,Bb,Bc,Be,Bf,Bh,Bi,Bj,Bk,Bm,Bn,Bo,Bp,Bq,Br,Bs,Bt,Bu,Bv,Bw,Bx,By,Bz,Ca,Cb,Cc,Cd,Ce,Cf,Cg,Ch,Ci,Cj,Ck,Cl,Cm,Cn,Co,Cp,Cq,Cr,Ct,Cu,Cv,Cw,Cx,Cy,Cz,Da,Db,Dc,Dd,De,Df,Dg,Dh,Di,Dj,Dk,Dl,Dn,Dp,Dq,Dr,Dt,Du,Dv,Dw,Dx,Dy,Dz,Ea,Eb,Ec,Ed,Ee,Ef,Eg,Eh,Ei,Ej,Ek,El,Em,En,Eo,Ep,Eq,Er,Es,Et,Eu,Ev,Ew,Ex,Ey,Ez,Fa,Fb,Fc,Fd,Fe,Ff,Fg,Fh,Fi,Fj,Fk,Fm,Fn,Fo,Fp,Fq,Fs,Ft,Fu,Fv,Fw,Fx,Fy,Fz,Ga,Gb,Gc,Gd,Ge,Gf,Gg,Gh,Gi,Gj,Gk,Gl,Gm,Gn,Go,Gp,Gq,Gr,Gs,Gt,Gu,Gv,Gw,Gx,Gy,Gz,Ha,Hb,Hc,Hd,He,Hf,Hg,Hh,Hi,Hj,Hk,Hl,Hm,Hn,Ho,Hp,Hq,Hr,Hs,Ht,Hu,Hv,Hw,Hx,Hy,Hz,Ia,Ib,Ic,Id,Ie,Ig,Ih,Ii,Ij,Ik,Il,Im,Io,Ip,Iq,Ir,It,Iu,Iv,Iw,Ix,Iy,Iz,Ja,Jb,Jc,Jd,Je,Jf,Jg,Jh,Ji,Jj,Jk,Jl,Jm,Jn,Jo,Jp,Jq,Jr,Js,Jt,Ju,Jv,Jw,Jx,Jy,Jz,Ka,Kb,Kc,Kd,Ke,Kf,Kg,Kh,Ki,Kj,Kk,Kl,Km,Kn,Ko,Kp,Kq,Kr,Ks,Kt,Ku,Kv,Kw,Kx,Kz,La,Lb,Lc,Ld,Le,Lf,Lg,Lh,Li,Lj,Lk,Ll,Lm,Ln,Lo,Lp,Lq,Lr,Lt,Lu,Lv,Lx,Ly,Lz,Ma,Mb,Mc,Md,Me],[]⟩ w:=by
 conv=>arg 2; whnf
 have hexit:=hid hexit
 have hst:=hS.out.st
 have hfl:=(hS.out.mo.fin.next hb)
 obtain ⟨y',hy',bf,off,rfl,hcy⟩:=hfl.get hq
 obtain rfl:y'=y:=Option.some.inj (hy'.symm.trans hy.out)
 obtain ⟨q0,r0,b1,o1,b2,o2,hP0,rfl,rfl,p1,p2⟩:=(hR.out.next hb).get hi
 obtain ⟨hq0,hr0⟩:q0=q∧r0=r:=by have h:=hP0.symm.trans hP.out; injection h with h; injection h with h1 h2; exact ⟨h1,h2⟩
 subst hq0 hr0
 have hyc:tc y'≤C:=hS.out.cst.2.2 y' (List.mem_of_getElem? hy')
 have hC:=hS.out.cC
 have ik:(k:Int)<(ln:Int):=by omega
 have ik0:(0:Int)≤(k:Int):=by omega
 have ii:(i:Int)<(pn:Int):=by omega
 have ii0:(0:Int)≤(i:Int):=by omega
 have iq:(q0:Int)<(A.st:Int):=by omega
 have iq0:(0:Int)≤(q0:Int):=by omega
 have i4:(tc y':Int)≤1048576:=by omega
 have i5:(0:Int)≤(tc y':Int):=by omega
 have i6:(r0:Int)≤1000000000:=by omega
 have i7:(0:Int)≤(r0:Int):=by omega
 have hwr:IntKind.i64.wrap ((tc y':Int)+(r0:Int))=(tc y':Int)+(r0:Int):=by rw [IntKind.wrap_i64]; omega
 have hE1:=hE.out.next hb
 have hV1:=(hS.out.vw.next hb).cell (i:=5) rfl
 have l0:=hE1 0 _ rfl
 have l1:=hE1 1 _ rfl
 simp only [Nat.add_zero] at l0
 go_upto_region 24 with fail
 have hdr:=(Below.refl w.heap.size w).drew
 have hS4:(w.drew.cell? ⟨V,5,none⟩=some (.slice (some ⟨bf,off,none⟩) A.st cf)∧w.drew.cell? ⟨lb,loff+k*2,none⟩=some (.slice (some ⟨b1,o1,none⟩) pn sc))∧w.drew.cell? ⟨b1,o1+i,none⟩=some (.int .i64 (q0:Int))∧Cs w.drew bf (off+q0*8) (twC y'):=⟨⟨cellN hV1 hdr,cellN l0 hdr⟩,cellN p1 hdr,hcy.next hdr⟩
 have hK:∀ w' w'':World,((w'.cell? ⟨V,5,none⟩=some (.slice (some ⟨bf,off,none⟩) A.st cf)∧w'.cell? ⟨lb,loff+k*2,none⟩=some (.slice (some ⟨b1,o1,none⟩) pn sc))∧w'.cell? ⟨b1,o1+i,none⟩=some (.int .i64 (q0:Int))∧Cs w' bf (off+q0*8) (twC y'))→Below w'.heap.size w' w''→((w''.cell? ⟨V,5,none⟩=some (.slice (some ⟨bf,off,none⟩) A.st cf)∧w''.cell? ⟨lb,loff+k*2,none⟩=some (.slice (some ⟨b1,o1,none⟩) pn sc))∧w''.cell? ⟨b1,o1+i,none⟩=some (.int .i64 (q0:Int))∧Cs w'' bf (off+q0*8) (twC y')):=fun w' w'' h hb=>⟨⟨cellN h.1.1 hb,cellN h.1.2 hb⟩,cellN h.2.1 hb,h.2.2.next hb⟩
 have hZ1:=hZ.next hdr
 have p2':=cellN p2 hdr
 have l1':=cellN l1 hdr
 have hFd:=below_fr hdr (fun k=>k=Z)
 refine wp_region_D (fun w'=>(w'.cell? ⟨V,5,none⟩=some (.slice (some ⟨bf,off,none⟩) A.st cf)∧w'.cell? ⟨lb,loff+k*2,none⟩=some (.slice (some ⟨b1,o1,none⟩) pn sc))∧w'.cell? ⟨b1,o1+i,none⟩=some (.int .i64 (q0:Int))∧Cs w' bf (off+q0*8) (twC y')) [13] (by kernel_rfl) ?_
 refine wpThp hpan (some 101) (i:=0) rfl rfl hS4 ?_
 refine wpTh hpan (some 102) (i:=1) (v:=?_) rfl rfl (Or.inl ⟨by rfl,?_⟩) hS4 ?_
 rotate_left
 ·intro wz hw; refine exec_loadWs V 5 ?_ (.slice (some ⟨bf,off,none⟩) A.st cf) hw.1.1; go_simp
 refine wpThp hpan (some 103) (i:=2) rfl rfl hS4 ?_
 refine wpThp hpan (some 104) (i:=3) rfl rfl hS4 ?_
 refine wpThp hpan (some 105) (i:=4) rfl rfl hS4 ?_
 refine wpThp hpan (some 106) (i:=5) rfl rfl hS4 ?_
 refine wpTh hpan (some 107) (i:=6) (v:=?_) rfl rfl (Or.inl ⟨by rfl,?_⟩) hS4 ?_
 rotate_left
 ·intro wz hw; refine exec_loadIs lb (loff+k*2) ?_ (.slice (some ⟨b1,o1,none⟩) pn sc) hw.1.2; go_simp
 refine wpThp hpan (some 108) (i:=7) rfl rfl hS4 ?_
 refine wpThp hpan (some 109) (i:=8) rfl rfl hS4 ?_
 refine wpTh hpan (some 110) (i:=9) (v:=?_) rfl rfl (Or.inl ⟨by rfl,?_⟩) hS4 ?_
 rotate_left
 ·intro wz hw; refine exec_loadI b1 (o1+i) ?_ (.int .i64 (q0:Int)) hw.2.1; go_simp
 refine wpThp hpan (some 111) (i:=10) rfl rfl hS4 ?_
 refine wpTh hpan (some 112) (i:=11) (v:=?_) rfl rfl (Or.inl ⟨by rfl,?_⟩) hS4 ?_
 rotate_left
 ·intro wz hw; refine exec_loadTw bf (off+q0*8) ?_ y' hw.2.2; go_simp
 go_simp
 refine wpAnyD_one (i:=12) (by kernel_rfl) rfl (fun KK hKK=>?_)
 rw [if_pos (by kernel_rfl)]
 with_reducible refine op_allocB 45 ?_ [.bool false,.slice none 0 0,.slice none 0 0,.int .i64 0,.bool false,.int .u64 0,.slice none 0 0,.slice none 0 0] ?_ ?_
 ·rfl
 ·exact fun _=>by kernel_rfl
 intro w6 X hX6 hb6 hz6
 replace hZ1:=hZ1.next hb6
 replace p2':=cellN p2' hb6
 replace l1':=cellN l1' hb6
 have hF6:=hFd.trans (below_fr hb6 _)
 have hZX:Z≠X:=fun e=>by have:=hZ.lt; have h2:w.heap.size≤X:=hz6; omega
 refine hKK _ _ ⟨fun _=>(hK _ _ hS4 hb6),?_⟩; clear hKK KK
 refine wpAnyD_one (i:=13) (by kernel_rfl) rfl (fun KK hKK=>?_)
 rw [if_pos (by kernel_rfl)]
 with_reducible refine op_storeB 45 (.tmp 17) (.tmp 112) ?_ X 45 [.bool false,.slice none 0 0,.slice none 0 0,.int .i64 0,.bool false,.int .u64 0,.slice none 0 0,.slice none 0 0] hX6 ?_ (twC y') ?_ ?_ ?_ ?_ ?_
 ·rfl
 ·go_simp
 ·rfl
 ·go_simp
 ·exact twC_1 y'
 ·exact Tryz.sizeTw
 intro w7 hX7 hfr7
 refine hKK _ _ ⟨fun hn=>absurd (by simp) hn,?_⟩; clear hKK KK
 refine wpAnyD_done (by kernel_rfl) ?_ _
 have hZ7:=hZ1.fr hfr7 hZX
 have hF7:Fr (fun k=>k=Z) w w7:=⟨hfr7.os.trans hF6.os,hfr7.tape.trans hF6.tape,hfr7.output.trans hF6.output,Nat.le_trans hF6.size hfr7.size,fun g hg hn=>(hfr7.block g (Nat.lt_of_lt_of_le hg hF6.size) (fun e=>by have h2:w.heap.size≤X:=hz6; omega)).trans (hF6.block g hg hn)⟩
 have hp2:w7.cell? ⟨b2,o2+i,none⟩=some (.int .i64 (r0:Int)):=hfr7.cell p2' (fun e=>by have h1:b2<w.heap.size:=World.block_lt_of_cell? _ _ p2; have h2:w.heap.size≤X:=hz6; omega)
 have hl1:w7.cell? ⟨lb,loff+k*2+1,none⟩=some (.slice (some ⟨b2,o2,none⟩) pn uc):=hfr7.cell l1' (fun e=>by have h1:lb<w.heap.size:=World.block_lt_of_cell? _ _ l1; have h2:w.heap.size≤X:=hz6; omega)
 clear hS4 hK hZ1 p2' l1' hFd hX6 hb6 hF6 hfr7 hcy hE1 hV1 l0 l1 p1 p2 hfl hdr hZ hP0
 obtain ⟨hb7,hi7⟩:Below W.heap.size W w7∧True:=⟨hb.trans (hF7.below (fun k e=>by subst e; exact hZW) hb.size),trivial⟩
 replace hF7:=hid hF7
 replace hb7:=hid hb7
 clear hi7 hb
 cases hbyc:y'.isNone with
 | true =>
  have hby:(!ti y')=false:=by unfold ti; rw [hbyc]; rfl
  have hyn:y'=none:=by cases y'<;>simp_all
  have hend:Hid (ends1 (some r0) y'=none):=hid (by rw [hyn]; rfl)
  clear hyn
  cases hbm0:m.isNone with
  | true =>
   have hbm:ti m=true:=hbm0
   go_upto_region 25 with fail
   have hdr:=(Below.refl w7.heap.size w7).drew
   have hS5:Cs w7.drew X 0 (twC y')∧(w7.drew.cell? ⟨Z,4,none⟩=some (.bool true)∧w7.drew.cell? ⟨Z,3,none⟩=some (.int .i64 (tc m:Int)))∧w7.drew.cell? ⟨lb,loff+k*2+1,none⟩=some (.slice (some ⟨b2,o2,none⟩) pn uc)∧w7.drew.cell? ⟨b2,o2+i,none⟩=some (.int .i64 (r0:Int)):=⟨(hX7.next hdr).cs,⟨(hZ7.next hdr).cell (i:=4) (by show some (Value.bool (ti m))=_; rw [hbm]),(hZ7.next hdr).cell (i:=3) rfl⟩,cellN hl1 hdr,cellN hp2 hdr⟩
   have hK:∀ w' w'':World,(Cs w' X 0 (twC y')∧(w'.cell? ⟨Z,4,none⟩=some (.bool true)∧w'.cell? ⟨Z,3,none⟩=some (.int .i64 (tc m:Int)))∧w'.cell? ⟨lb,loff+k*2+1,none⟩=some (.slice (some ⟨b2,o2,none⟩) pn uc)∧w'.cell? ⟨b2,o2+i,none⟩=some (.int .i64 (r0:Int)))→Below w'.heap.size w' w''→(Cs w'' X 0 (twC y')∧(w''.cell? ⟨Z,4,none⟩=some (.bool true)∧w''.cell? ⟨Z,3,none⟩=some (.int .i64 (tc m:Int)))∧w''.cell? ⟨lb,loff+k*2+1,none⟩=some (.slice (some ⟨b2,o2,none⟩) pn uc)∧w''.cell? ⟨b2,o2+i,none⟩=some (.int .i64 (r0:Int))):=fun w' w'' h hb=>⟨h.1.next hb,⟨cellN h.2.1.1 hb,cellN h.2.1.2 hb⟩,cellN h.2.2.1 hb,cellN h.2.2.2 hb⟩
   have hZ8:=hZ7.next hdr
   have hX8:=hX7.next hdr
   have hl8:=cellN hl1 hdr
   have hp8:=cellN hp2 hdr
   have hF8:=hid (hF7.out.trans (below_fr hdr _))
   clear hX7 hZ7 hl1 hp2 hF7 hdr
   refine wp_region_D (fun w'=>Cs w' X 0 (twC y')∧(w'.cell? ⟨Z,4,none⟩=some (.bool true)∧w'.cell? ⟨Z,3,none⟩=some (.int .i64 (tc m:Int)))∧w'.cell? ⟨lb,loff+k*2+1,none⟩=some (.slice (some ⟨b2,o2,none⟩) pn uc)∧w'.cell? ⟨b2,o2+i,none⟩=some (.int .i64 (r0:Int))) [] (by kernel_rfl) ?_
   refine wpTh hpan (some 113) (i:=0) (v:=?_) rfl rfl (Or.inl ⟨by rfl,?_⟩) hS5 ?_
   rotate_left
   ·intro wz hw; refine exec_loadTw X 0 ?_ y' hw.1; go_simp
   refine wpAnyD_one (i:=1) (by kernel_rfl) rfl (fun KK hKK=>?_)
   go_simp
   go_at_call 37
   refine (rThere_any y' _).mono ?_; rintro e w8 ⟨rfl,hb8⟩
   replace hZ8:=hZ8.next hb8
   replace hX8:=hX8.next hb8
   replace hl8:=cellN hl8 hb8
   replace hp8:=cellN hp8 hb8
   replace hF8:=hid (hF8.out.trans (below_fr hb8 _))
   rw [hby]
   try go_simp
   refine hKK _ _ ⟨fun _=>(hK _ _ hS5 hb8),?_⟩; clear hKK KK
   refine wpTh hpan (some 115) (i:=2) (v:=.bool false) rfl rfl (Or.inl ⟨by rfl,?_⟩) (hK _ _ hS5 hb8) ?_
   ·intro wz _; first | (go_simp; done) | (go_simp; with_reducible rfl)
   refine wpTh hpan (some 116) (i:=3) (v:=undef) rfl rfl (Or.inr ⟨by kernel_rfl,rfl⟩) (hK _ _ hS5 hb8) ?_
   refine wpTh hpan (some 117) (i:=4) (v:=undef) rfl rfl (Or.inr ⟨by kernel_rfl,rfl⟩) (hK _ _ hS5 hb8) ?_
   refine wpTh hpan (some 118) (i:=5) (v:=undef) rfl rfl (Or.inr ⟨by kernel_rfl,rfl⟩) (hK _ _ hS5 hb8) ?_
   refine wpTh hpan (some 119) (i:=6) (v:=undef) rfl rfl (Or.inr ⟨by kernel_rfl,rfl⟩) (hK _ _ hS5 hb8) ?_
   refine wpTh hpan (some 120) (i:=7) (v:=undef) rfl rfl (Or.inr ⟨by kernel_rfl,rfl⟩) (hK _ _ hS5 hb8) ?_
   refine wpTh hpan (some 121) (i:=8) (v:=undef) rfl rfl (Or.inr ⟨by kernel_rfl,rfl⟩) (hK _ _ hS5 hb8) ?_
   refine wpTh hpan (some 122) (i:=9) (v:=undef) rfl rfl (Or.inr ⟨by kernel_rfl,rfl⟩) (hK _ _ hS5 hb8) ?_
   refine wpTh hpan (some 123) (i:=10) (v:=undef) rfl rfl (Or.inr ⟨by kernel_rfl,rfl⟩) (hK _ _ hS5 hb8) ?_
   refine wpTh hpan (some 124) (i:=11) (v:=undef) rfl rfl (Or.inr ⟨by kernel_rfl,rfl⟩) (hK _ _ hS5 hb8) ?_
   refine wpTh hpan (some 125) (i:=12) (v:=undef) rfl rfl (Or.inr ⟨by kernel_rfl,rfl⟩) (hK _ _ hS5 hb8) ?_
   refine wpTh hpan (some 126) (i:=13) (v:=undef) rfl rfl (Or.inr ⟨by kernel_rfl,rfl⟩) (hK _ _ hS5 hb8) ?_
   refine wpTh hpan (some 127) (i:=14) (v:=undef) rfl rfl (Or.inr ⟨by kernel_rfl,rfl⟩) (hK _ _ hS5 hb8) ?_
   refine wpTh hpan (some 128) (i:=15) (v:=undef) rfl rfl (Or.inr ⟨by kernel_rfl,rfl⟩) (hK _ _ hS5 hb8) ?_
   refine wpTh hpan (some 129) (i:=16) (v:=undef) rfl rfl (Or.inr ⟨by kernel_rfl,rfl⟩) (hK _ _ hS5 hb8) ?_
   refine wpTh hpan (some 130) (i:=17) (v:=undef) rfl rfl (Or.inr ⟨by kernel_rfl,rfl⟩) (hK _ _ hS5 hb8) ?_
   refine wpTh hpan (some 131) (i:=18) (v:=undef) rfl rfl (Or.inr ⟨by kernel_rfl,rfl⟩) (hK _ _ hS5 hb8) ?_
   refine wpTh hpan (some 132) (i:=19) (v:=undef) rfl rfl (Or.inr ⟨by kernel_rfl,rfl⟩) (hK _ _ hS5 hb8) ?_
   refine wpTh hpan (some 133) (i:=20) (v:=undef) rfl rfl (Or.inr ⟨by kernel_rfl,rfl⟩) (hK _ _ hS5 hb8) ?_
   refine wpTh hpan (some 134) (i:=21) (v:=.bool false) rfl rfl (Or.inl ⟨by rfl,?_⟩) (hK _ _ hS5 hb8) ?_
   ·intro wz _; first | (go_simp; done) | (go_simp; with_reducible rfl)
   go_simp
   go_simp
   refine wpAnyD_done (by kernel_rfl) ?_ _
   replace hZ8:=hid hZ8
   clear hX8 hl8 hp8
   go_wp2_with fail
   refine hexit.out _ _ _ _ _ _ _ _ _ _ _ _ _ _ _ _ _ _ _ _ _ _ _ _ _ _ _ _ _ _ _ _ _ _ _ _ _ _ _ _ _ _ _ _ _ _ _ _ ?_ hF8.out
   rw [hend.out,twPlus_none]; exact hZ8.out
  | false =>
   have hbm:ti m=false:=hbm0
   go_upto_region 25 with fail
   have hdr:=(Below.refl w7.heap.size w7).drew
   have hS5:Cs w7.drew X 0 (twC y')∧(w7.drew.cell? ⟨Z,4,none⟩=some (.bool false)∧w7.drew.cell? ⟨Z,3,none⟩=some (.int .i64 (tc m:Int)))∧w7.drew.cell? ⟨lb,loff+k*2+1,none⟩=some (.slice (some ⟨b2,o2,none⟩) pn uc)∧w7.drew.cell? ⟨b2,o2+i,none⟩=some (.int .i64 (r0:Int)):=⟨(hX7.next hdr).cs,⟨(hZ7.next hdr).cell (i:=4) (by show some (Value.bool (ti m))=_; rw [hbm]),(hZ7.next hdr).cell (i:=3) rfl⟩,cellN hl1 hdr,cellN hp2 hdr⟩
   have hK:∀ w' w'':World,(Cs w' X 0 (twC y')∧(w'.cell? ⟨Z,4,none⟩=some (.bool false)∧w'.cell? ⟨Z,3,none⟩=some (.int .i64 (tc m:Int)))∧w'.cell? ⟨lb,loff+k*2+1,none⟩=some (.slice (some ⟨b2,o2,none⟩) pn uc)∧w'.cell? ⟨b2,o2+i,none⟩=some (.int .i64 (r0:Int)))→Below w'.heap.size w' w''→(Cs w'' X 0 (twC y')∧(w''.cell? ⟨Z,4,none⟩=some (.bool false)∧w''.cell? ⟨Z,3,none⟩=some (.int .i64 (tc m:Int)))∧w''.cell? ⟨lb,loff+k*2+1,none⟩=some (.slice (some ⟨b2,o2,none⟩) pn uc)∧w''.cell? ⟨b2,o2+i,none⟩=some (.int .i64 (r0:Int))):=fun w' w'' h hb=>⟨h.1.next hb,⟨cellN h.2.1.1 hb,cellN h.2.1.2 hb⟩,cellN h.2.2.1 hb,cellN h.2.2.2 hb⟩
   have hZ8:=hZ7.next hdr
   have hX8:=hX7.next hdr
   have hl8:=cellN hl1 hdr
   have hp8:=cellN hp2 hdr
   have hF8:=hid (hF7.out.trans (below_fr hdr _))
   clear hX7 hZ7 hl1 hp2 hF7 hdr
   refine wp_region_D (fun w'=>Cs w' X 0 (twC y')∧(w'.cell? ⟨Z,4,none⟩=some (.bool false)∧w'.cell? ⟨Z,3,none⟩=some (.int .i64 (tc m:Int)))∧w'.cell? ⟨lb,loff+k*2+1,none⟩=some (.slice (some ⟨b2,o2,none⟩) pn uc)∧w'.cell? ⟨b2,o2+i,none⟩=some (.int .i64 (r0:Int))) [] (by kernel_rfl) ?_
   refine wpTh hpan (some 113) (i:=0) (v:=?_) rfl rfl (Or.inl ⟨by rfl,?_⟩) hS5 ?_
   rotate_left
   ·intro wz hw; refine exec_loadTw X 0 ?_ y' hw.1; go_simp
   refine wpAnyD_one (i:=1) (by kernel_rfl) rfl (fun KK hKK=>?_)
   go_simp
   go_at_call 37
   refine (rThere_any y' _).mono ?_; rintro e w8 ⟨rfl,hb8⟩
   replace hZ8:=hZ8.next hb8
   replace hX8:=hX8.next hb8
   replace hl8:=cellN hl8 hb8
   replace hp8:=cellN hp8 hb8
   replace hF8:=hid (hF8.out.trans (below_fr hb8 _))
   rw [hby]
   try go_simp
   refine hKK _ _ ⟨fun _=>(hK _ _ hS5 hb8),?_⟩; clear hKK KK
   refine wpTh hpan (some 115) (i:=2) (v:=.bool false) rfl rfl (Or.inl ⟨by rfl,?_⟩) (hK _ _ hS5 hb8) ?_
   ·intro wz _; first | (go_simp; done) | (go_simp; with_reducible rfl)
   refine wpTh hpan (some 116) (i:=3) (v:=undef) rfl rfl (Or.inr ⟨by kernel_rfl,rfl⟩) (hK _ _ hS5 hb8) ?_
   refine wpTh hpan (some 117) (i:=4) (v:=undef) rfl rfl (Or.inr ⟨by kernel_rfl,rfl⟩) (hK _ _ hS5 hb8) ?_
   refine wpTh hpan (some 118) (i:=5) (v:=undef) rfl rfl (Or.inr ⟨by kernel_rfl,rfl⟩) (hK _ _ hS5 hb8) ?_
   refine wpTh hpan (some 119) (i:=6) (v:=undef) rfl rfl (Or.inr ⟨by kernel_rfl,rfl⟩) (hK _ _ hS5 hb8) ?_
   refine wpTh hpan (some 120) (i:=7) (v:=undef) rfl rfl (Or.inr ⟨by kernel_rfl,rfl⟩) (hK _ _ hS5 hb8) ?_
   refine wpTh hpan (some 121) (i:=8) (v:=undef) rfl rfl (Or.inr ⟨by kernel_rfl,rfl⟩) (hK _ _ hS5 hb8) ?_
   refine wpTh hpan (some 122) (i:=9) (v:=undef) rfl rfl (Or.inr ⟨by kernel_rfl,rfl⟩) (hK _ _ hS5 hb8) ?_
   refine wpTh hpan (some 123) (i:=10) (v:=undef) rfl rfl (Or.inr ⟨by kernel_rfl,rfl⟩) (hK _ _ hS5 hb8) ?_
   refine wpTh hpan (some 124) (i:=11) (v:=undef) rfl rfl (Or.inr ⟨by kernel_rfl,rfl⟩) (hK _ _ hS5 hb8) ?_
   refine wpTh hpan (some 125) (i:=12) (v:=undef) rfl rfl (Or.inr ⟨by kernel_rfl,rfl⟩) (hK _ _ hS5 hb8) ?_
   refine wpTh hpan (some 126) (i:=13) (v:=undef) rfl rfl (Or.inr ⟨by kernel_rfl,rfl⟩) (hK _ _ hS5 hb8) ?_
   refine wpTh hpan (some 127) (i:=14) (v:=undef) rfl rfl (Or.inr ⟨by kernel_rfl,rfl⟩) (hK _ _ hS5 hb8) ?_
   refine wpTh hpan (some 128) (i:=15) (v:=undef) rfl rfl (Or.inr ⟨by kernel_rfl,rfl⟩) (hK _ _ hS5 hb8) ?_
   refine wpTh hpan (some 129) (i:=16) (v:=undef) rfl rfl (Or.inr ⟨by kernel_rfl,rfl⟩) (hK _ _ hS5 hb8) ?_
   refine wpTh hpan (some 130) (i:=17) (v:=undef) rfl rfl (Or.inr ⟨by kernel_rfl,rfl⟩) (hK _ _ hS5 hb8) ?_
   refine wpTh hpan (some 131) (i:=18) (v:=undef) rfl rfl (Or.inr ⟨by kernel_rfl,rfl⟩) (hK _ _ hS5 hb8) ?_
   refine wpTh hpan (some 132) (i:=19) (v:=undef) rfl rfl (Or.inr ⟨by kernel_rfl,rfl⟩) (hK _ _ hS5 hb8) ?_
   refine wpTh hpan (some 133) (i:=20) (v:=undef) rfl rfl (Or.inr ⟨by kernel_rfl,rfl⟩) (hK _ _ hS5 hb8) ?_
   refine wpTh hpan (some 134) (i:=21) (v:=.bool false) rfl rfl (Or.inl ⟨by rfl,?_⟩) (hK _ _ hS5 hb8) ?_
   ·intro wz _; first | (go_simp; done) | (go_simp; with_reducible rfl)
   go_simp
   go_simp
   refine wpAnyD_done (by kernel_rfl) ?_ _
   replace hZ8:=hid hZ8
   clear hX8 hl8 hp8
   go_wp2_with fail
   refine hexit.out _ _ _ _ _ _ _ _ _ _ _ _ _ _ _ _ _ _ _ _ _ _ _ _ _ _ _ _ _ _ _ _ _ _ _ _ _ _ _ _ _ _ _ _ _ _ _ _ ?_ hF8.out
   rw [hend.out,twPlus_none]; exact hZ8.out
 | false =>
  have hby:(!ti y')=true:=by unfold ti; rw [hbyc]; rfl
  have hyn:y'=some (tc y'):=by cases y'<;>simp_all [tc]
  have hzn:Hid (([.bool false,.slice none 0 0,.slice none 0 0,.int .i64 ((tc y':Int)+(r0:Int)),.bool false,.int .u64 0,.slice none 0 0,.slice none 0 0]:List Value)=twC (some (r0+tc y'))):=hid (by show _=[_,_,_,_,_,_,_,_]; simp [tc,ti]; omega)
  have hen:ends1 (some r0) y'=some (r0+tc y'):=by rw [hyn]; rfl
  clear hyn
  cases hbm0:m.isNone with
  | true =>
   have hbm:ti m=true:=hbm0
   have hend:Hid (twPlus m (ends1 (some r0) y')=some (r0+tc y')):=hid (by rw [hen]; cases m with | none=>rfl | some a=>cases hbm0)
   go_upto_region 25 with fail
   have hdr:=(Below.refl w7.heap.size w7).drew
   have hS5:Cs w7.drew X 0 (twC y')∧(w7.drew.cell? ⟨Z,4,none⟩=some (.bool true)∧w7.drew.cell? ⟨Z,3,none⟩=some (.int .i64 (tc m:Int)))∧w7.drew.cell? ⟨lb,loff+k*2+1,none⟩=some (.slice (some ⟨b2,o2,none⟩) pn uc)∧w7.drew.cell? ⟨b2,o2+i,none⟩=some (.int .i64 (r0:Int)):=⟨(hX7.next hdr).cs,⟨(hZ7.next hdr).cell (i:=4) (by show some (Value.bool (ti m))=_; rw [hbm]),(hZ7.next hdr).cell (i:=3) rfl⟩,cellN hl1 hdr,cellN hp2 hdr⟩
   have hK:∀ w' w'':World,(Cs w' X 0 (twC y')∧(w'.cell? ⟨Z,4,none⟩=some (.bool true)∧w'.cell? ⟨Z,3,none⟩=some (.int .i64 (tc m:Int)))∧w'.cell? ⟨lb,loff+k*2+1,none⟩=some (.slice (some ⟨b2,o2,none⟩) pn uc)∧w'.cell? ⟨b2,o2+i,none⟩=some (.int .i64 (r0:Int)))→Below w'.heap.size w' w''→(Cs w'' X 0 (twC y')∧(w''.cell? ⟨Z,4,none⟩=some (.bool true)∧w''.cell? ⟨Z,3,none⟩=some (.int .i64 (tc m:Int)))∧w''.cell? ⟨lb,loff+k*2+1,none⟩=some (.slice (some ⟨b2,o2,none⟩) pn uc)∧w''.cell? ⟨b2,o2+i,none⟩=some (.int .i64 (r0:Int))):=fun w' w'' h hb=>⟨h.1.next hb,⟨cellN h.2.1.1 hb,cellN h.2.1.2 hb⟩,cellN h.2.2.1 hb,cellN h.2.2.2 hb⟩
   have hZ8:=hZ7.next hdr
   have hX8:=hX7.next hdr
   have hl8:=cellN hl1 hdr
   have hp8:=cellN hp2 hdr
   have hF8:=hid (hF7.out.trans (below_fr hdr _))
   clear hX7 hZ7 hl1 hp2 hF7 hdr
   refine wp_region_D (fun w'=>Cs w' X 0 (twC y')∧(w'.cell? ⟨Z,4,none⟩=some (.bool true)∧w'.cell? ⟨Z,3,none⟩=some (.int .i64 (tc m:Int)))∧w'.cell? ⟨lb,loff+k*2+1,none⟩=some (.slice (some ⟨b2,o2,none⟩) pn uc)∧w'.cell? ⟨b2,o2+i,none⟩=some (.int .i64 (r0:Int))) [] (by kernel_rfl) ?_
   refine wpTh hpan (some 113) (i:=0) (v:=?_) rfl rfl (Or.inl ⟨by rfl,?_⟩) hS5 ?_
   rotate_left
   ·intro wz hw; refine exec_loadTw X 0 ?_ y' hw.1; go_simp
   refine wpAnyD_one (i:=1) (by kernel_rfl) rfl (fun KK hKK=>?_)
   go_simp
   go_at_call 37
   refine (rThere_any y' _).mono ?_; rintro e w8 ⟨rfl,hb8⟩
   replace hZ8:=hZ8.next hb8
   replace hX8:=hX8.next hb8
   replace hl8:=cellN hl8 hb8
   replace hp8:=cellN hp8 hb8
   replace hF8:=hid (hF8.out.trans (below_fr hb8 _))
   rw [hby]
   try go_simp
   refine hKK _ _ ⟨fun _=>(hK _ _ hS5 hb8),?_⟩; clear hKK KK
   refine wpTh hpan (some 115) (i:=2) (v:=.bool true) rfl rfl (Or.inl ⟨by rfl,?_⟩) (hK _ _ hS5 hb8) ?_
   ·intro wz _; first | (go_simp; done) | (go_simp; with_reducible rfl)
   refine wpThg hpan (some 116) (i:=3) rfl rfl (hK _ _ hS5 hb8) ?_
   refine wpTh hpan (some 117) (i:=4) (v:=?_) rfl rfl (Or.inl ⟨by kernel_rfl,?_⟩) (hK _ _ hS5 hb8) ?_
   rotate_left
   ·intro wz hw; refine exec_load1 Z 4 ?_ (.bool true) hw.2.1.1 _ Tryz.underlying4 rfl; go_simp
   refine wpThg hpan (some 118) (i:=5) rfl rfl (hK _ _ hS5 hb8) ?_
   refine wpTh hpan (some 119) (i:=6) (v:=undef) rfl rfl (Or.inr ⟨by kernel_rfl,rfl⟩) (hK _ _ hS5 hb8) ?_
   refine wpTh hpan (some 120) (i:=7) (v:=undef) rfl rfl (Or.inr ⟨by kernel_rfl,rfl⟩) (hK _ _ hS5 hb8) ?_
   refine wpTh hpan (some 121) (i:=8) (v:=undef) rfl rfl (Or.inr ⟨by kernel_rfl,rfl⟩) (hK _ _ hS5 hb8) ?_
   refine wpTh hpan (some 122) (i:=9) (v:=undef) rfl rfl (Or.inr ⟨by kernel_rfl,rfl⟩) (hK _ _ hS5 hb8) ?_
   refine wpTh hpan (some 123) (i:=10) (v:=undef) rfl rfl (Or.inr ⟨by kernel_rfl,rfl⟩) (hK _ _ hS5 hb8) ?_
   refine wpTh hpan (some 124) (i:=11) (v:=undef) rfl rfl (Or.inr ⟨by kernel_rfl,rfl⟩) (hK _ _ hS5 hb8) ?_
   refine wpTh hpan (some 125) (i:=12) (v:=undef) rfl rfl (Or.inr ⟨by kernel_rfl,rfl⟩) (hK _ _ hS5 hb8) ?_
   refine wpTh hpan (some 126) (i:=13) (v:=undef) rfl rfl (Or.inr ⟨by kernel_rfl,rfl⟩) (hK _ _ hS5 hb8) ?_
   refine wpTh hpan (some 127) (i:=14) (v:=undef) rfl rfl (Or.inr ⟨by kernel_rfl,rfl⟩) (hK _ _ hS5 hb8) ?_
   refine wpTh hpan (some 128) (i:=15) (v:=undef) rfl rfl (Or.inr ⟨by kernel_rfl,rfl⟩) (hK _ _ hS5 hb8) ?_
   refine wpTh hpan (some 129) (i:=16) (v:=undef) rfl rfl (Or.inr ⟨by kernel_rfl,rfl⟩) (hK _ _ hS5 hb8) ?_
   refine wpTh hpan (some 130) (i:=17) (v:=undef) rfl rfl (Or.inr ⟨by kernel_rfl,rfl⟩) (hK _ _ hS5 hb8) ?_
   refine wpTh hpan (some 131) (i:=18) (v:=undef) rfl rfl (Or.inr ⟨by kernel_rfl,rfl⟩) (hK _ _ hS5 hb8) ?_
   refine wpTh hpan (some 132) (i:=19) (v:=undef) rfl rfl (Or.inr ⟨by kernel_rfl,rfl⟩) (hK _ _ hS5 hb8) ?_
   refine wpThg hpan (some 133) (i:=20) rfl rfl (hK _ _ hS5 hb8) ?_
   refine wpTh hpan (some 134) (i:=21) (v:=.bool true) rfl rfl (Or.inl ⟨by rfl,?_⟩) (hK _ _ hS5 hb8) ?_
   ·intro wz _; first | (go_simp; done) | (go_simp; with_reducible rfl)
   go_simp
   go_simp
   refine wpAnyD_done (by kernel_rfl) ?_ _
   go_simp
   go_upto_region 26 with fail
   have hdr:=(Below.refl w8.heap.size w8).drew
   have hS6:Cs w8.drew X 0 (twC y')∧w8.drew.cell? ⟨lb,loff+k*2+1,none⟩=some (.slice (some ⟨b2,o2,none⟩) pn uc)∧w8.drew.cell? ⟨b2,o2+i,none⟩=some (.int .i64 (r0:Int)):=⟨(hX8.next hdr).cs,cellN hl8 hdr,cellN hp8 hdr⟩
   have hZ9:=hZ8.next hdr
   have hF9:=hid (hF8.out.trans (below_fr hdr _))
   clear hX8 hl8 hp8 hF8 hZ8
   refine wp_region_D (fun w'=>Cs w' X 0 (twC y')∧w'.cell? ⟨lb,loff+k*2+1,none⟩=some (.slice (some ⟨b2,o2,none⟩) pn uc)∧w'.cell? ⟨b2,o2+i,none⟩=some (.int .i64 (r0:Int))) [12] (by kernel_rfl) ?_
   refine wpThp hpan (some 135) (i:=0) rfl rfl hS6 ?_
   refine wpTh hpan (some 136) (i:=1) (v:=?_) rfl rfl (Or.inl ⟨by rfl,?_⟩) hS6 ?_
   rotate_left
   ·intro wz hw; refine exec_loadI X 3 ?_ (.int .i64 (tc y':Int)) (by have h:=hw.1 3 _ rfl; simpa using h); go_simp
   refine wpThp hpan (some 137) (i:=2) rfl rfl hS6 ?_
   refine wpThp hpan (some 138) (i:=3) rfl rfl hS6 ?_
   refine wpThp hpan (some 139) (i:=4) rfl rfl hS6 ?_
   refine wpThp hpan (some 140) (i:=5) rfl rfl hS6 ?_
   refine wpTh hpan (some 141) (i:=6) (v:=?_) rfl rfl (Or.inl ⟨by rfl,?_⟩) hS6 ?_
   rotate_left
   ·intro wz hw; refine exec_loadIs lb (loff+k*2+1) ?_ (.slice (some ⟨b2,o2,none⟩) pn uc) hw.2.1; go_simp
   refine wpThp hpan (some 142) (i:=7) rfl rfl hS6 ?_
   refine wpThp hpan (some 143) (i:=8) rfl rfl hS6 ?_
   refine wpTh hpan (some 144) (i:=9) (v:=?_) rfl rfl (Or.inl ⟨by rfl,?_⟩) hS6 ?_
   rotate_left
   ·intro wz hw; refine exec_loadI b2 (o2+i) ?_ (.int .i64 (r0:Int)) hw.2.2; go_simp
   refine wpTh hpan (some 145) (i:=10) (v:=.int .i64 ((tc y':Int)+(r0:Int))) rfl rfl (Or.inl ⟨by rfl,?_⟩) hS6 ?_
   ·intro wz _; first | (go_simp; done) | (go_simp; with_reducible rfl)
   refine wpTh hpan (some 146) (i:=11) (v:=.agg #[.bool false,.slice none 0 0,.slice none 0 0,.int .i64 ((tc y':Int)+(r0:Int)),.bool false,.int .u64 0,.slice none 0 0,.slice none 0 0]) rfl rfl (Or.inl ⟨by rfl,?_⟩) hS6 ?_
   ·intro wz _; first | (go_simp; done) | (go_simp; with_reducible rfl)
   go_simp
   go_simp
   go_simp
   refine wpAnyD_one (i:=12) (by kernel_rfl) rfl (fun KK hKK=>?_)
   rw [if_pos (by kernel_rfl)]
   with_reducible refine op_storeB 45 (.tmp 15) (.tmp 146) ?_ Z 45 (twC m) hZ9 ?_ [.bool false,.slice none 0 0,.slice none 0 0,.int .i64 ((tc y':Int)+(r0:Int)),.bool false,.int .u64 0,.slice none 0 0,.slice none 0 0] ?_ ?_ ?_ ?_ ?_
   ·rfl
   ·go_simp
   ·rfl
   ·go_simp
   ·rw [hzn.out]; exact twC_1 _
   ·exact Tryz.sizeTw
   intro w9 hZ10 hfr9
   refine hKK _ _ ⟨fun hn=>absurd (by simp) hn,?_⟩; clear hKK KK
   refine wpAnyD_done (by kernel_rfl) ?_ _
   have hF10:=hid (hF9.out.trans hfr9)
   rw [hzn.out] at hZ10
   replace hZ10:=hid hZ10
   clear hfr9 hS6
   go_wp2_with fail
   refine hexit.out _ _ _ _ _ _ _ _ _ _ _ _ _ _ _ _ _ _ _ _ _ _ _ _ _ _ _ _ _ _ _ _ _ _ _ _ _ _ _ _ _ _ _ _ _ _ _ _ ?_ hF10.out
   rw [hend.out]; exact hZ10.out
  | false =>
   have hbm:ti m=false:=hbm0
   have hmm:m=some (tc m):=by cases m<;>simp_all [tc]
   by_cases hlt:r0+tc y'<tc m
   ·have hend:Hid (twPlus m (ends1 (some r0) y')=some (r0+tc y')):=hid (by rw [hen]; refine twPlus_less ?_; rw [hmm]; exact decide_eq_true hlt)
    have j1:(tc y':Int)+(r0:Int)<(tc m:Int):=by omega
    clear hmm
    go_upto_region 25 with fail
    have hdr:=(Below.refl w7.heap.size w7).drew
    have hS5:Cs w7.drew X 0 (twC y')∧(w7.drew.cell? ⟨Z,4,none⟩=some (.bool false)∧w7.drew.cell? ⟨Z,3,none⟩=some (.int .i64 (tc m:Int)))∧w7.drew.cell? ⟨lb,loff+k*2+1,none⟩=some (.slice (some ⟨b2,o2,none⟩) pn uc)∧w7.drew.cell? ⟨b2,o2+i,none⟩=some (.int .i64 (r0:Int)):=⟨(hX7.next hdr).cs,⟨(hZ7.next hdr).cell (i:=4) (by show some (Value.bool (ti m))=_; rw [hbm]),(hZ7.next hdr).cell (i:=3) rfl⟩,cellN hl1 hdr,cellN hp2 hdr⟩
    have hK:∀ w' w'':World,(Cs w' X 0 (twC y')∧(w'.cell? ⟨Z,4,none⟩=some (.bool false)∧w'.cell? ⟨Z,3,none⟩=some (.int .i64 (tc m:Int)))∧w'.cell? ⟨lb,loff+k*2+1,none⟩=some (.slice (some ⟨b2,o2,none⟩) pn uc)∧w'.cell? ⟨b2,o2+i,none⟩=some (.int .i64 (r0:Int)))→Below w'.heap.size w' w''→(Cs w'' X 0 (twC y')∧(w''.cell? ⟨Z,4,none⟩=some (.bool false)∧w''.cell? ⟨Z,3,none⟩=some (.int .i64 (tc m:Int)))∧w''.cell? ⟨lb,loff+k*2+1,none⟩=some (.slice (some ⟨b2,o2,none⟩) pn uc)∧w''.cell? ⟨b2,o2+i,none⟩=some (.int .i64 (r0:Int))):=fun w' w'' h hb=>⟨h.1.next hb,⟨cellN h.2.1.1 hb,cellN h.2.1.2 hb⟩,cellN h.2.2.1 hb,cellN h.2.2.2 hb⟩
    have hZ8:=hZ7.next hdr
    have hX8:=hX7.next hdr
    have hl8:=cellN hl1 hdr
    have hp8:=cellN hp2 hdr
    have hF8:=hid (hF7.out.trans (below_fr hdr _))
    clear hX7 hZ7 hl1 hp2 hF7 hdr
    refine wp_region_D (fun w'=>Cs w' X 0 (twC y')∧(w'.cell? ⟨Z,4,none⟩=some (.bool false)∧w'.cell? ⟨Z,3,none⟩=some (.int .i64 (tc m:Int)))∧w'.cell? ⟨lb,loff+k*2+1,none⟩=some (.slice (some ⟨b2,o2,none⟩) pn uc)∧w'.cell? ⟨b2,o2+i,none⟩=some (.int .i64 (r0:Int))) [] (by kernel_rfl) ?_
    refine wpTh hpan (some 113) (i:=0) (v:=?_) rfl rfl (Or.inl ⟨by rfl,?_⟩) hS5 ?_
    rotate_left
    ·intro wz hw; refine exec_loadTw X 0 ?_ y' hw.1; go_simp
    refine wpAnyD_one (i:=1) (by kernel_rfl) rfl (fun KK hKK=>?_)
    go_simp
    go_at_call 37
    refine (rThere_any y' _).mono ?_; rintro e w8 ⟨rfl,hb8⟩
    replace hZ8:=hZ8.next hb8
    replace hX8:=hX8.next hb8
    replace hl8:=cellN hl8 hb8
    replace hp8:=cellN hp8 hb8
    replace hF8:=hid (hF8.out.trans (below_fr hb8 _))
    rw [hby]
    try go_simp
    refine hKK _ _ ⟨fun _=>(hK _ _ hS5 hb8),?_⟩; clear hKK KK
    refine wpTh hpan (some 115) (i:=2) (v:=.bool true) rfl rfl (Or.inl ⟨by rfl,?_⟩) (hK _ _ hS5 hb8) ?_
    ·intro wz _; first | (go_simp; done) | (go_simp; with_reducible rfl)
    refine wpThg hpan (some 116) (i:=3) rfl rfl (hK _ _ hS5 hb8) ?_
    refine wpTh hpan (some 117) (i:=4) (v:=?_) rfl rfl (Or.inl ⟨by kernel_rfl,?_⟩) (hK _ _ hS5 hb8) ?_
    rotate_left
    ·intro wz hw; refine exec_load1 Z 4 ?_ (.bool false) hw.2.1.1 _ Tryz.underlying4 rfl; go_simp
    refine wpThg hpan (some 118) (i:=5) rfl rfl (hK _ _ hS5 hb8) ?_
    refine wpThg hpan (some 119) (i:=6) rfl rfl (hK _ _ hS5 hb8) ?_
    refine wpTh hpan (some 120) (i:=7) (v:=?_) rfl rfl (Or.inl ⟨by kernel_rfl,?_⟩) (hK _ _ hS5 hb8) ?_
    rotate_left
    ·intro wz hw; refine exec_loadI X 3 ?_ (.int .i64 (tc y':Int)) (by have h:=hw.1 3 _ rfl; simpa using h); go_simp
    refine wpThg hpan (some 121) (i:=8) rfl rfl (hK _ _ hS5 hb8) ?_
    refine wpThg hpan (some 122) (i:=9) rfl rfl (hK _ _ hS5 hb8) ?_
    refine wpThg hpan (some 123) (i:=10) rfl rfl (hK _ _ hS5 hb8) ?_
    refine wpThg hpan (some 124) (i:=11) rfl rfl (hK _ _ hS5 hb8) ?_
    refine wpTh hpan (some 125) (i:=12) (v:=?_) rfl rfl (Or.inl ⟨by kernel_rfl,?_⟩) (hK _ _ hS5 hb8) ?_
    rotate_left
    ·intro wz hw; refine exec_loadIs lb (loff+k*2+1) ?_ (.slice (some ⟨b2,o2,none⟩) pn uc) hw.2.2.1; go_simp
    refine wpThg hpan (some 126) (i:=13) rfl rfl (hK _ _ hS5 hb8) ?_
    refine wpThg hpan (some 127) (i:=14) rfl rfl (hK _ _ hS5 hb8) ?_
    refine wpTh hpan (some 128) (i:=15) (v:=?_) rfl rfl (Or.inl ⟨by kernel_rfl,?_⟩) (hK _ _ hS5 hb8) ?_
    rotate_left
    ·intro wz hw; refine exec_loadI b2 (o2+i) ?_ (.int .i64 (r0:Int)) hw.2.2.2; go_simp
    refine wpThg hpan (some 129) (i:=16) rfl rfl (hK _ _ hS5 hb8) ?_
    refine wpThg hpan (some 130) (i:=17) rfl rfl (hK _ _ hS5 hb8) ?_
    refine wpTh hpan (some 131) (i:=18) (v:=?_) rfl rfl (Or.inl ⟨by kernel_rfl,?_⟩) (hK _ _ hS5 hb8) ?_
    rotate_left
    ·intro wz hw; refine exec_loadI Z 3 ?_ (.int .i64 (tc m:Int)) hw.2.1.2; go_simp
    refine wpThg hpan (some 132) (i:=19) rfl rfl (hK _ _ hS5 hb8) ?_
    refine wpThg hpan (some 133) (i:=20) rfl rfl (hK _ _ hS5 hb8) ?_
    refine wpTh hpan (some 134) (i:=21) (v:=.bool true) rfl rfl (Or.inl ⟨by rfl,?_⟩) (hK _ _ hS5 hb8) ?_
    ·intro wz _; first | (go_simp; done) | (go_simp; with_reducible rfl)
    go_simp
    go_simp
    refine wpAnyD_done (by kernel_rfl) ?_ _
    go_simp
    go_upto_region 26 with fail
    have hdr:=(Below.refl w8.heap.size w8).drew
    have hS6:Cs w8.drew X 0 (twC y')∧w8.drew.cell? ⟨lb,loff+k*2+1,none⟩=some (.slice (some ⟨b2,o2,none⟩) pn uc)∧w8.drew.cell? ⟨b2,o2+i,none⟩=some (.int .i64 (r0:Int)):=⟨(hX8.next hdr).cs,cellN hl8 hdr,cellN hp8 hdr⟩
    have hZ9:=hZ8.next hdr
    have hF9:=hid (hF8.out.trans (below_fr hdr _))
    clear hX8 hl8 hp8 hF8 hZ8
    refine wp_region_D (fun w'=>Cs w' X 0 (twC y')∧w'.cell? ⟨lb,loff+k*2+1,none⟩=some (.slice (some ⟨b2,o2,none⟩) pn uc)∧w'.cell? ⟨b2,o2+i,none⟩=some (.int .i64 (r0:Int))) [12] (by kernel_rfl) ?_
    refine wpThp hpan (some 135) (i:=0) rfl rfl hS6 ?_
    refine wpTh hpan (some 136) (i:=1) (v:=?_) rfl rfl (Or.inl ⟨by rfl,?_⟩) hS6 ?_
    rotate_left
    ·intro wz hw; refine exec_loadI X 3 ?_ (.int .i64 (tc y':Int)) (by have h:=hw.1 3 _ rfl; simpa using h); go_simp
    refine wpThp hpan (some 137) (i:=2) rfl rfl hS6 ?_
    refine wpThp hpan (some 138) (i:=3) rfl rfl hS6 ?_
    refine wpThp hpan (some 139) (i:=4) rfl rfl hS6 ?_
    refine wpThp hpan (some 140) (i:=5) rfl rfl hS6 ?_
    refine wpTh hpan (some 141) (i:=6) (v:=?_) rfl rfl (Or.inl ⟨by rfl,?_⟩) hS6 ?_
    rotate_left
    ·intro wz hw; refine exec_loadIs lb (loff+k*2+1) ?_ (.slice (some ⟨b2,o2,none⟩) pn uc) hw.2.1; go_simp
    refine wpThp hpan (some 142) (i:=7) rfl rfl hS6 ?_
    refine wpThp hpan (some 143) (i:=8) rfl rfl hS6 ?_
    refine wpTh hpan (some 144) (i:=9) (v:=?_) rfl rfl (Or.inl ⟨by rfl,?_⟩) hS6 ?_
    rotate_left
    ·intro wz hw; refine exec_loadI b2 (o2+i) ?_ (.int .i64 (r0:Int)) hw.2.2; go_simp
    refine wpTh hpan (some 145) (i:=10) (v:=.int .i64 ((tc y':Int)+(r0:Int))) rfl rfl (Or.inl ⟨by rfl,?_⟩) hS6 ?_
    ·intro wz _; first | (go_simp; done) | (go_simp; with_reducible rfl)
    refine wpTh hpan (some 146) (i:=11) (v:=.agg #[.bool false,.slice none 0 0,.slice none 0 0,.int .i64 ((tc y':Int)+(r0:Int)),.bool false,.int .u64 0,.slice none 0 0,.slice none 0 0]) rfl rfl (Or.inl ⟨by rfl,?_⟩) hS6 ?_
    ·intro wz _; first | (go_simp; done) | (go_simp; with_reducible rfl)
    go_simp
    go_simp
    go_simp
    refine wpAnyD_one (i:=12) (by kernel_rfl) rfl (fun KK hKK=>?_)
    rw [if_pos (by kernel_rfl)]
    with_reducible refine op_storeB 45 (.tmp 15) (.tmp 146) ?_ Z 45 (twC m) hZ9 ?_ [.bool false,.slice none 0 0,.slice none 0 0,.int .i64 ((tc y':Int)+(r0:Int)),.bool false,.int .u64 0,.slice none 0 0,.slice none 0 0] ?_ ?_ ?_ ?_ ?_
    ·rfl
    ·go_simp
    ·rfl
    ·go_simp
    ·rw [hzn.out]; exact twC_1 _
    ·exact Tryz.sizeTw
    intro w9 hZ10 hfr9
    refine hKK _ _ ⟨fun hn=>absurd (by simp) hn,?_⟩; clear hKK KK
    refine wpAnyD_done (by kernel_rfl) ?_ _
    have hF10:=hid (hF9.out.trans hfr9)
    rw [hzn.out] at hZ10
    replace hZ10:=hid hZ10
    clear hfr9 hS6
    go_wp2_with fail
    refine hexit.out _ _ _ _ _ _ _ _ _ _ _ _ _ _ _ _ _ _ _ _ _ _ _ _ _ _ _ _ _ _ _ _ _ _ _ _ _ _ _ _ _ _ _ _ _ _ _ _ ?_ hF10.out
    rw [hend.out]; exact hZ10.out
   ·have hend:Hid (twPlus m (ends1 (some r0) y')=m):=hid (by rw [hen]; refine twPlus_keep ?_; rw [hmm]; exact decide_eq_false hlt)
    have j1:¬ (tc y':Int)+(r0:Int)<(tc m:Int):=by omega
    clear hmm
    go_upto_region 25 with fail
    have hdr:=(Below.refl w7.heap.size w7).drew
    have hS5:Cs w7.drew X 0 (twC y')∧(w7.drew.cell? ⟨Z,4,none⟩=some (.bool false)∧w7.drew.cell? ⟨Z,3,none⟩=some (.int .i64 (tc m:Int)))∧w7.drew.cell? ⟨lb,loff+k*2+1,none⟩=some (.slice (some ⟨b2,o2,none⟩) pn uc)∧w7.drew.cell? ⟨b2,o2+i,none⟩=some (.int .i64 (r0:Int)):=⟨(hX7.next hdr).cs,⟨(hZ7.next hdr).cell (i:=4) (by show some (Value.bool (ti m))=_; rw [hbm]),(hZ7.next hdr).cell (i:=3) rfl⟩,cellN hl1 hdr,cellN hp2 hdr⟩
    have hK:∀ w' w'':World,(Cs w' X 0 (twC y')∧(w'.cell? ⟨Z,4,none⟩=some (.bool false)∧w'.cell? ⟨Z,3,none⟩=some (.int .i64 (tc m:Int)))∧w'.cell? ⟨lb,loff+k*2+1,none⟩=some (.slice (some ⟨b2,o2,none⟩) pn uc)∧w'.cell? ⟨b2,o2+i,none⟩=some (.int .i64 (r0:Int)))→Below w'.heap.size w' w''→(Cs w'' X 0 (twC y')∧(w''.cell? ⟨Z,4,none⟩=some (.bool false)∧w''.cell? ⟨Z,3,none⟩=some (.int .i64 (tc m:Int)))∧w''.cell? ⟨lb,loff+k*2+1,none⟩=some (.slice (some ⟨b2,o2,none⟩) pn uc)∧w''.cell? ⟨b2,o2+i,none⟩=some (.int .i64 (r0:Int))):=fun w' w'' h hb=>⟨h.1.next hb,⟨cellN h.2.1.1 hb,cellN h.2.1.2 hb⟩,cellN h.2.2.1 hb,cellN h.2.2.2 hb⟩
    have hZ8:=hZ7.next hdr
    have hX8:=hX7.next hdr
    have hl8:=cellN hl1 hdr
    have hp8:=cellN hp2 hdr
    have hF8:=hid (hF7.out.trans (below_fr hdr _))
    clear hX7 hZ7 hl1 hp2 hF7 hdr
    refine wp_region_D (fun w'=>Cs w' X 0 (twC y')∧(w'.cell? ⟨Z,4,none⟩=some (.bool false)∧w'.cell? ⟨Z,3,none⟩=some (.int .i64 (tc m:Int)))∧w'.cell? ⟨lb,loff+k*2+1,none⟩=some (.slice (some ⟨b2,o2,none⟩) pn uc)∧w'.cell? ⟨b2,o2+i,none⟩=some (.int .i64 (r0:Int))) [] (by kernel_rfl) ?_
    refine wpTh hpan (some 113) (i:=0) (v:=?_) rfl rfl (Or.inl ⟨by rfl,?_⟩) hS5 ?_
    rotate_left
    ·intro wz hw; refine exec_loadTw X 0 ?_ y' hw.1; go_simp
    refine wpAnyD_one (i:=1) (by kernel_rfl) rfl (fun KK hKK=>?_)
    go_simp
    go_at_call 37
    refine (rThere_any y' _).mono ?_; rintro e w8 ⟨rfl,hb8⟩
    replace hZ8:=hZ8.next hb8
    replace hX8:=hX8.next hb8
    replace hl8:=cellN hl8 hb8
    replace hp8:=cellN hp8 hb8
    replace hF8:=hid (hF8.out.trans (below_fr hb8 _))
    rw [hby]
    try go_simp
    refine hKK _ _ ⟨fun _=>(hK _ _ hS5 hb8),?_⟩; clear hKK KK
    refine wpTh hpan (some 115) (i:=2) (v:=.bool true) rfl rfl (Or.inl ⟨by rfl,?_⟩) (hK _ _ hS5 hb8) ?_
    ·intro wz _; first | (go_simp; done) | (go_simp; with_reducible rfl)
    refine wpThg hpan (some 116) (i:=3) rfl rfl (hK _ _ hS5 hb8) ?_
    refine wpTh hpan (some 117) (i:=4) (v:=?_) rfl rfl (Or.inl ⟨by kernel_rfl,?_⟩) (hK _ _ hS5 hb8) ?_
    rotate_left
    ·intro wz hw; refine exec_load1 Z 4 ?_ (.bool false) hw.2.1.1 _ Tryz.underlying4 rfl; go_simp
    refine wpThg hpan (some 118) (i:=5) rfl rfl (hK _ _ hS5 hb8) ?_
    refine wpThg hpan (some 119) (i:=6) rfl rfl (hK _ _ hS5 hb8) ?_
    refine wpTh hpan (some 120) (i:=7) (v:=?_) rfl rfl (Or.inl ⟨by kernel_rfl,?_⟩) (hK _ _ hS5 hb8) ?_
    rotate_left
    ·intro wz hw; refine exec_loadI X 3 ?_ (.int .i64 (tc y':Int)) (by have h:=hw.1 3 _ rfl; simpa using h); go_simp
    refine wpThg hpan (some 121) (i:=8) rfl rfl (hK _ _ hS5 hb8) ?_
    refine wpThg hpan (some 122) (i:=9) rfl rfl (hK _ _ hS5 hb8) ?_
    refine wpThg hpan (some 123) (i:=10) rfl rfl (hK _ _ hS5 hb8) ?_
    refine wpThg hpan (some 124) (i:=11) rfl rfl (hK _ _ hS5 hb8) ?_
    refine wpTh hpan (some 125) (i:=12) (v:=?_) rfl rfl (Or.inl ⟨by kernel_rfl,?_⟩) (hK _ _ hS5 hb8) ?_
    rotate_left
    ·intro wz hw; refine exec_loadIs lb (loff+k*2+1) ?_ (.slice (some ⟨b2,o2,none⟩) pn uc) hw.2.2.1; go_simp
    refine wpThg hpan (some 126) (i:=13) rfl rfl (hK _ _ hS5 hb8) ?_
    refine wpThg hpan (some 127) (i:=14) rfl rfl (hK _ _ hS5 hb8) ?_
    refine wpTh hpan (some 128) (i:=15) (v:=?_) rfl rfl (Or.inl ⟨by kernel_rfl,?_⟩) (hK _ _ hS5 hb8) ?_
    rotate_left
    ·intro wz hw; refine exec_loadI b2 (o2+i) ?_ (.int .i64 (r0:Int)) hw.2.2.2; go_simp
    refine wpThg hpan (some 129) (i:=16) rfl rfl (hK _ _ hS5 hb8) ?_
    refine wpThg hpan (some 130) (i:=17) rfl rfl (hK _ _ hS5 hb8) ?_
    refine wpTh hpan (some 131) (i:=18) (v:=?_) rfl rfl (Or.inl ⟨by kernel_rfl,?_⟩) (hK _ _ hS5 hb8) ?_
    rotate_left
    ·intro wz hw; refine exec_loadI Z 3 ?_ (.int .i64 (tc m:Int)) hw.2.1.2; go_simp
    refine wpThg hpan (some 132) (i:=19) rfl rfl (hK _ _ hS5 hb8) ?_
    refine wpThg hpan (some 133) (i:=20) rfl rfl (hK _ _ hS5 hb8) ?_
    refine wpTh hpan (some 134) (i:=21) (v:=.bool false) rfl rfl (Or.inl ⟨by rfl,?_⟩) (hK _ _ hS5 hb8) ?_
    ·intro wz _; first | (go_simp; done) | (go_simp; with_reducible rfl)
    go_simp
    go_simp
    refine wpAnyD_done (by kernel_rfl) ?_ _
    replace hZ8:=hid hZ8
    clear hX8 hl8 hp8
    go_wp2_with fail
    refine hexit.out _ _ _ _ _ _ _ _ _ _ _ _ _ _ _ _ _ _ _ _ _ _ _ _ _ _ _ _ _ _ _ _ _ _ _ _ _ _ _ _ _ _ _ _ _ _ _ _ ?_ hF8.out
    rw [hend.out]; exact hZ8.out
end
end Go.Proofs.YtnapapijhhldpaaGreatDoor

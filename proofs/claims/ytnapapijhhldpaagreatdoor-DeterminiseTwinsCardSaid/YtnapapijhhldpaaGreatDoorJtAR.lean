/-
  Texts joined by program: TwNg, TwNh, TwNi. No condition of its own.
-/
import Derived.Test.YtnapapijhhldpaaGreatDoorJtAQ
namespace Go.Proofs.YtnapapijhhldpaaGreatDoor
set_option linter.unusedSimpArgs false
set_option linter.unusedVariables false
set_option maxRecDepth 100000
set_option maxHeartbeats 4000000
section
open Go.RowKit
theorem wp_storeBAuto {ops:Array Oper} {rest:List Oper} {o:Oper} {a:Act} {w:World} {Q:EP} (hgd:o.guard=none) (x y:Operand) (ho:o.op=.store 30 x y)
  (G:Nat) (T:TypeId) (old:List Value) (hG:Bl G old T w) (hx:a.eval x=.pointer (some ⟨G,0,none⟩)) (cs:List Value) (hk:cs.length=old.length) (hc:cs.length=7) (hy:a.eval y=.agg cs.toArray) (h1:∀ v∈cs,v.oneCell'=true)
  (h:∀ w',Bl G cs T w'->Fr (fun k=>k=G) w w'->wpList Tryz.prog ops Q rest (a.put o.dst undef) w'):wpList Tryz.prog ops Q (o::rest) a w :=
 wpList_plain hgd fun _ hK=>op_storeB _ x y ho G T old hG hx cs hk hy h1 (by rw [hc]; exact Tryz.sizeAuto) fun w' h2 h3=>hK _ _ (h w' h2 h3)
theorem zau_1:∀ u∈([.int .i64 0,.slice none 0 0,.int .i64 0,.int .i64 0,.slice none 0 0,.slice none 0 0,.slice none 0 0]:List Value),u.oneCell'=true:=fun u hu=>by
 simp only [List.mem_cons,List.not_mem_nil,or_false] at hu
 rcases hu with rfl | rfl | rfl | rfl | rfl | rfl | rfl<;>rfl
theorem det_label (W:World) (V gu syms C:Nat) (N:Au) (us:List Bool) (io:OA) (ci:Nat) (fo:OA) (cf:Nat) (ro:OA) (nr cr:Nat) (vo:OA) (cv:Nat) (hS:Hid (Sta W V gu syms C N us io ci fo cf ro nr cr vo cv)) (G0 RB O mb k l:Nat) (sv iv fv av:Value) (gs:List Nat) (ini fin:List Tw) (X:Ds) (w:World) (hb:Below W.heap.size W w) (hl:l<=32) (hk:k<X.subs.length) (hX:Hid (Dok N.st C k X)) (hD:Dm w W.heap.size O N.st mb sv gs X.subs) (hO:Om w O syms 0 iv fv av ini fin X.arcs) (hla:X.arcs.length<=4000) (hG:G0<=RB/\RB<W.heap.size) (hOW:W.heap.size<=O) (hmb:W.heap.size<=mb) (hRB:Bl RB [.int .i64 0,.slice none 0 0,.int .i64 0,.int .i64 0,.slice none 0 0,.slice none 0 0,.slice none 0 0] 30 W)
  {c0 c1 c3 c5 c7 c8 Aa Ab Ad Ae Af Ag Ah Ak Al Am An Ao Ap Aq Ar As Av Aw Ax Ay Az Ba Bb Bc Be Bf Bh Bi Bj Bk Bm Bn Bo Bp Bq Br Bs Bt Bu Bv Bw Bx By Bz Ca Cb Cc Cd Ce Cf Cg Ch Ci Cj Ck Cl Cm Cn Co Cp Cq Cr Ct Cu Cv Cw Cx Cy Cz Da Db Dc Dd De Df Dg Dh Di Dj Dk Dl Dn Dp Dq Dr Dt Du Dv Dw Dx Dy Dz Ea Eb Ec Ed Ee Ef Eg Eh Ei Ej Ek El Em En Eo Ep Eq Er Es Et Eu Ev Ew Ex Ey Ez Fa Fb Fc Fd Fe Ff Fg Fh Fi Fj Fk Fm Fn Fo Fp Fq Fs Ft Fu Fv Fw Fx Fy Fz Ga Gb Gc Gd Ge Gf Gg Gh Gi Gj Gk Gl Gm Gn Go Gp Gq Gr Gs Gt Gu Gv Gw Gx Gy Gz Ha Hb Hc Hd He Hf Hg Hh Hi Hj Hk Hl Hm Hn Ho Hp Hq Hr Hs Ht Hu Hv Hw Hx Hy Hz Ia Ib Ic Id Ie Ig Ih Ii Ij Ik Il Im Io Ip Iq Ir It Iu Iv Iw Ix Iy Iz Ja Jb Jc Jd Je Jf Jg Jh Ji Jj Jk Jl Jm Jn Jo Jp Jq Jr Js Jt Ju:Value} {Q0:EP} (hpan:∀ c (a:Act) d v w,Q0 (.panic c) (a.put d v) w->Q0 (.panic c) a w)
  (hexit:∀ (u3 Jv Jw Jx Jy Jz Ka Kb Kc Kd Ke Kf Kg Kh Ki Kj Kk Kl Km Kn Ko Kp Kq Kr Ks Kt Ku Kv Kw Kx Kz La Lb Lc Ld Le Lf Lg Lh Li Lj Lk Ll Lm Ln Lo Lp Lq Lr Lt Lu Lv Lx Ly Lz Ma Mb Mc Md Me Mf Mg Mh Mi Mj Ml Mm Mn Mp Mq Mr Ms Mt Mu Mw Mx My Mz Na Nb Nc Nd Ne Ng Nh Ni Nj Nk Nl Nm Nn Np Nq Nr Ns Nt:Value) (Y:Ds) (sv' av':Value) (gs':List Nat) (w':World),oneS N.arcs us k l X=some Y->Dm w' W.heap.size O N.st mb sv' gs' Y.subs->Om w' O syms 0 iv fv av' ini fin Y.arcs->Below W.heap.size W w'->Q0 .normal ⟨#[c0,c1,.pointer (some ⟨RB,0,none⟩),u3,.pointer (some ⟨V,0,none⟩),c5,.slice (some ⟨gu,0,none⟩) N.st N.st,c7,c8,.pointer (some ⟨O,0,none⟩),Aa,sv',.map (some mb),.int .i64 (k:Int),Ab,Ad,Ae,.int .i64 (l:Int),Jv,Jw,Jx,Ak,Jy,Jz,Ka,Kb,Ap,Aq,Ar,As,Av,Aw,Ax,Ay,Az,Ba,Bb,Bc,Be,Bf,Bh,Bi,Bj,Bk,Bm,Bn,Bo,Bp,Bq,Br,Bs,Bt,Bu,Bv,Bw,Bx,By,Bz,Ca,Cb,Cc,Cd,Ce,Cf,Cg,Ch,Ci,Cj,Ck,Cl,Cm,Cn,Co,Cp,Cq,Cr,Ct,Cu,Cv,Cw,Cx,Cy,Cz,Da,Db,Dc,Dd,De,Df,Dg,Dh,Di,Dj,Dk,Dl,Dn,Dp,Dq,Dr,Dt,Du,Dv,Dw,Dx,Dy,Dz,Ea,Eb,Ec,Ed,Ee,Ef,Eg,Eh,Ei,Ej,Ek,El,Em,En,Eo,Ep,Eq,Er,Es,Et,Eu,Ev,Ew,Ex,Ey,Ez,Fa,Fb,Fc,Fd,Fe,Ff,Fg,Fh,Fi,Fj,Fk,Fm,Fn,Fo,Fp,Fq,Fs,Ft,Fu,Fv,Fw,Fx,Fy,Kc,Kd,Ke,Kf,Kg,Kh,Ki,Kj,Kk,Kl,Km,Kn,Ko,Kp,Kq,Kr,Ks,Kt,Ku,Kv,Kw,Kx,Kz,La,Lb,Lc,Ld,Le,Lf,Lg,Lh,Li,Lj,Lk,Ll,Lm,Ln,Lo,Lp,Lq,Lr,Lt,Lu,Lv,Lx,Ly,Lz,Ma,Mb,Mc,Md,Me,Mf,Mg,Mh,Mi,Mj,Ml,Mm,Mn,Mp,Mq,Mr,Ms,Mt,Mu,Mw,Mx,My,Mz,Na,Nb,Nc,Nd,Ne,Ng,Nh,Ni,Nj,Nk,Nl,Nm,Nn,Np,Nq,Nr,Ns,Nt,Jm,Jn,Jo,Jp,Jq,Jr,Js,Jt,Ju],[]⟩ w')
  (hret:∀ (Nu Jv Jw Jx Jy Jz Ka Kb Kc Kd Ke Kf Kg Kh Ki Kj Kk Kl Km Kn Ko Kp Kq Kr Ks Kt Ku Kv Kw Kx Kz La Lb Lc Ld Le Lf Lg Lh Li Lj Lk Ll Lm Ln Lo Lp Lq Lr Lt Lu Lv Lx Ly Lz Ma Mb Mc Md Me Mf Mg Mh Mi Mj Ml Mm Mn Mp Mq Mr Ms Mt Mu Mw Mx My Mz Na Nb Nc Nd Ne Ng Nh Ni Nj Nk Nl Nm Nn Np Nq Nr Ns Nt:Value) (w':World),oneS N.arcs us k l X=none->Bl RB [.int .i64 0,.slice none 0 0,.int .i64 0,.int .i64 0,.slice none 0 0,.slice none 0 0,.slice none 0 0] 30 w'->Below G0 W w'->Q0 .ret ⟨#[c0,c1,.pointer (some ⟨RB,0,none⟩),.int .i64 2,.pointer (some ⟨V,0,none⟩),c5,.slice (some ⟨gu,0,none⟩) N.st N.st,c7,c8,.pointer (some ⟨O,0,none⟩),Aa,Nu,.map (some mb),.int .i64 (k:Int),Ab,Ad,Ae,.int .i64 (l:Int),Jv,Jw,Jx,Ak,Jy,Jz,Ka,Kb,Ap,Aq,Ar,As,Av,Aw,Ax,Ay,Az,Ba,Bb,Bc,Be,Bf,Bh,Bi,Bj,Bk,Bm,Bn,Bo,Bp,Bq,Br,Bs,Bt,Bu,Bv,Bw,Bx,By,Bz,Ca,Cb,Cc,Cd,Ce,Cf,Cg,Ch,Ci,Cj,Ck,Cl,Cm,Cn,Co,Cp,Cq,Cr,Ct,Cu,Cv,Cw,Cx,Cy,Cz,Da,Db,Dc,Dd,De,Df,Dg,Dh,Di,Dj,Dk,Dl,Dn,Dp,Dq,Dr,Dt,Du,Dv,Dw,Dx,Dy,Dz,Ea,Eb,Ec,Ed,Ee,Ef,Eg,Eh,Ei,Ej,Ek,El,Em,En,Eo,Ep,Eq,Er,Es,Et,Eu,Ev,Ew,Ex,Ey,Ez,Fa,Fb,Fc,Fd,Fe,Ff,Fg,Fh,Fi,Fj,Fk,Fm,Fn,Fo,Fp,Fq,Fs,Ft,Fu,Fv,Fw,Fx,Fy,Kc,Kd,Ke,Kf,Kg,Kh,Ki,Kj,Kk,Kl,Km,Kn,Ko,Kp,Kq,Kr,Ks,Kt,Ku,Kv,Kw,Kx,Kz,La,Lb,Lc,Ld,Le,Lf,Lg,Lh,Li,Lj,Lk,Ll,Lm,Ln,Lo,Lp,Lq,Lr,Lt,Lu,Lv,Lx,Ly,Lz,Ma,Mb,Mc,Md,Me,Mf,Mg,Mh,Mi,Mj,Ml,Mm,Mn,Mp,Mq,Mr,Ms,Mt,Mu,Mw,Mx,My,Mz,Na,Nb,Nc,Nd,Ne,Ng,Nh,Ni,Nj,Nk,Nl,Nm,Nn,Np,Nq,Nr,Ns,Nt,Jm,Jn,Jo,Jp,Jq,Jr,Js,Jt,Ju],[]⟩ w') :
  Code.wp Tryz.prog (dB 7) Q0 ⟨#[c0,c1,.pointer (some ⟨RB,0,none⟩),c3,.pointer (some ⟨V,0,none⟩),c5,.slice (some ⟨gu,0,none⟩) N.st N.st,c7,c8,.pointer (some ⟨O,0,none⟩),Aa,sv,.map (some mb),.int .i64 (k:Int),Ab,Ad,Ae,.int .i64 (l:Int),Af,Ag,Ah,Ak,Al,Am,An,Ao,Ap,Aq,Ar,As,Av,Aw,Ax,Ay,Az,Ba,Bb,Bc,Be,Bf,Bh,Bi,Bj,Bk,Bm,Bn,Bo,Bp,Bq,Br,Bs,Bt,Bu,Bv,Bw,Bx,By,Bz,Ca,Cb,Cc,Cd,Ce,Cf,Cg,Ch,Ci,Cj,Ck,Cl,Cm,Cn,Co,Cp,Cq,Cr,Ct,Cu,Cv,Cw,Cx,Cy,Cz,Da,Db,Dc,Dd,De,Df,Dg,Dh,Di,Dj,Dk,Dl,Dn,Dp,Dq,Dr,Dt,Du,Dv,Dw,Dx,Dy,Dz,Ea,Eb,Ec,Ed,Ee,Ef,Eg,Eh,Ei,Ej,Ek,El,Em,En,Eo,Ep,Eq,Er,Es,Et,Eu,Ev,Ew,Ex,Ey,Ez,Fa,Fb,Fc,Fd,Fe,Ff,Fg,Fh,Fi,Fj,Fk,Fm,Fn,Fo,Fp,Fq,Fs,Ft,Fu,Fv,Fw,Fx,Fy,Fz,Ga,Gb,Gc,Gd,Ge,Gf,Gg,Gh,Gi,Gj,Gk,Gl,Gm,Gn,Go,Gp,Gq,Gr,Gs,Gt,Gu,Gv,Gw,Gx,Gy,Gz,Ha,Hb,Hc,Hd,He,Hf,Hg,Hh,Hi,Hj,Hk,Hl,Hm,Hn,Ho,Hp,Hq,Hr,Hs,Ht,Hu,Hv,Hw,Hx,Hy,Hz,Ia,Ib,Ic,Id,Ie,Ig,Ih,Ii,Ij,Ik,Il,Im,Io,Ip,Iq,Ir,It,Iu,Iv,Iw,Ix,Iy,Iz,Ja,Jb,Jc,Jd,Je,Jf,Jg,Jh,Ji,Jj,Jk,Jl,Jm,Jn,Jo,Jp,Jq,Jr,Js,Jt,Ju],[]⟩ w:=by
 conv=>arg 2; whnf
 have hSw:=hS.out.next hb
 have hst:=hSw.st
 have y3:=hSw.vw.cell (i:=3) rfl
 have hCC:=hSw.cC
 have hpw:=hid hSw.pow
 clear hSw
 obtain ⟨gk,hgk,hkS,hkl,hklt⟩:=hD.sbs.get hk
 have hgd:gs.getD k 0=gk:=by rw [List.getD_eq_getElem?_getD,hgk]; rfl
 obtain ⟨v,hv⟩:∃ v,X.subs[k]? = some v:=⟨_,List.getElem?_eq_getElem hk⟩
 have hvR:X.subs.getD k []=v:=by rw [List.getD_eq_getElem?_getD,hv]; rfl
 have hnum:=hX.out.num
 have hvB:=hX.out.bd k v hv
 rw [hvR] at hkS hkl
 have hvR:=hid hvR
 have hbdR:Hid (Bd 1000000000000 v):=hid (hvB.mono (by have:C*(k+1)<=1048576*64:=Nat.mul_le_mul hCC (by omega); omega))
 have hbdS:Hid (∀ l,Bd (C*66) (nextV N.arcs us v l)):=hid fun l=>(bd_nextTo hvB hS.out.cst.1 _).mono (by
  have e:C*(k+1)+C=C*(k+2):=by rw [Nat.mul_add,Nat.mul_add]; omega
  rw [e]; exact Nat.mul_le_mul_left _ (by omega))
 have hC66:C*66<=69206016:=by omega
 obtain ⟨gr,cap,hsv,hgr1,hgr2⟩:=hD.row.place (by omega)
 subst hsv
 have hrc:=hD.row.cell hk
 simp only [hgd] at hrc
 unfold sbV at hrc
 replace hkl:=hid hkl
 replace hb:=hid hb
 have hnl:=hid hD.sbs.num
 replace hO:=hid hO
 clear hgd hv hvB
 have hlen64:X.subs.length<=64:=hnum
 obtain ⟨m,hm⟩:∃ m,X.subs.length=m:=⟨_,rfl⟩
 rw [hm] at hk hlen64 hD ⊢
 replace hD:=hid hD
 replace hm:=hid hm
 go_wp2_with fail
 refine (nothing_any N.st hst w).mono ?_; rintro e w1 ⟨⟨g,rfl,hg1⟩,hb1⟩
 have hglt:=(hg1.lt).1
 have hrc1:=cell_later hb1 hrc
 have hb1:=hid hb1
 have hg1:=hid hg1
 go_upto_block 8 with fail
 refine det_sts W V gu syms C N us io ci fo cf ro nr cr vo cv hS w.heap.size g W.heap.size gk l v hkl w1 (hb.out.trans (hb1.out.mono hb.out.size)) hl hbdR (hkS.next hb1.out) (by rw [hkl.out]; exact hg1.out) (Nat.le_trans hb.out.size hglt) (fun e=>by omega) ?_
 intro Nv Nw Nx Ny Nz Oa Ob Oc Od Oe Og Oh Oi Oj Ok Ol Oo Op Oq Os Ot Ou Ov Ow Ox Oy Oz Pa Pb Pc Pd Pe Pf Pg Ph w2 hg2 hfr2
 have hb2:Hid (Below w.heap.size w w2):=hid (hb1.out.trans (hfr2.below (fun k e=>by subst e; exact hglt) hb1.out.size))
 obtain ⟨S,hSv⟩:∃ S,nextV N.arcs us v l=S:=⟨_,rfl⟩
 have hSB:=hbdS.out l
 rw [hSv] at hg2 hSB
 have hSl:S.length=N.st:=by rw [<-hSv,nextV_len]; exact hkl.out
 have hset:=settle_any w.heap.size g S (by omega) (hSB.mono (by omega)) w2 hg2
 rw [hSl] at hset
 have hset:=hid hset
 replace hSv:=hid hSv
 replace hSl:=hid hSl
 replace hg2:=hid hg2
 replace hfr2:=hid hfr2
 go_wp2_with fail
 refine hset.out.mono ?_; rintro e w3 ⟨rfl,hg3,hfr3⟩
 have hb3:Hid (Below w.heap.size w w3):=hid (hb2.out.trans (hfr3.below (fun k e=>by subst e; exact hglt) hb2.out.size))
 replace hfr3:=hid hfr3
 have hbW3:Hid (Below W.heap.size W w3):=hid (hb.out.trans (hb3.out.mono hb.out.size))
 cases hL:leastV S with
 | none =>
  replace hL:=hid hL
  unfold oV
  rw [oI_none]
  clear hg3
  go_wp2_with fail
  exact hexit _ _ _ _ _ _ _ _ _ _ _ _ _ _ _ _ _ _ _ _ _ _ _ _ _ _ _ _ _ _ _ _ _ _ _ _ _ _ _ _ _ _ _ _ _ _ _ _ _ _ _ _ _ _ _ _ _ _ _ _ _ _ _ _ _ _ _ _ _ _ _ _ _ _ _ _ _ _ _ _ _ _ _ _ _ _ _ _ _ _ _ _ _ _ _ _ X (.slice (some ⟨gr,0,none⟩) m cap) av gs w3 (oneS_none hvR.out hSv.out hL.out) (hD.out.next hb3.out) (hO.out.next hb3.out) hbW3.out
 | some c =>
  rw [hL] at hg3
  obtain ⟨S',hS'⟩:∃ S',lowV S c=S':=⟨_,rfl⟩
  have hg3:Sb w3 w.heap.size g S':=by rw [<-hS']; exact hg3
  have hSl':S'.length=N.st:=by rw [<-hS',lowV_len]; exact hSl.out
  have hSB':Bd (C*66) S':=by rw [<-hS']; exact bd_low hSB
  have hc66:c<=C*66:=hSB c (least_mem hL)
  have hpos:0<S'.length:=by
   rw [hSl',<-hSl.out]
   exact List.length_pos_of_mem (least_mem hL)
  have hklen:(keyT S').length<=10000000000:=by
   have h:=keyT_len hSB' S'.length (Nat.le_refl _)
   rw [List.take_length] at h
   refine Nat.le_trans h ?_
   have:S'.length*(C*66+3)<=64*69206019:=Nat.mul_le_mul (by omega) (by omega)
   omega
  replace hL:=hid hL
  replace hS':=hid hS'
  have hmx:=max_any (C*66) (by omega) S' (by omega) hpos hSB' w.heap.size g w3 hg3
  have hky:=fun w' (hb':Below w3.heap.size w3 w') (hp:Pow w')=>key_any (C*66) (by omega) S' (by omega) hSB' w.heap.size g w' (Rw.next hg3 hb') hp
  rw [hSl'] at hmx
  simp only [hSl'] at hky
  replace hmx:=hid hmx
  replace hky:=hid hky
  have hp3:=hid (hpw.out.next (hb3.out.mono (Nat.le_refl _)))
  replace hg3:=hid hg3
  replace hSl':=hid hSl'
  replace hSB':=hid hSB'
  replace hklen:=hid hklen
  have j1:(c:Int)<=69206016:=by omega
  have j0:(0:Int)<=(c:Int):=by omega
  have k1:((c:Int) == -1)=false:=by rw [beq_eq_false_iff_ne]; omega
  have k2:¬ (c:Int) = -1:=by omega
  have k3:¬ (1099511627776:Int)<(c:Int):=by omega
  have k3':decide ((1099511627776:Int)<(c:Int))=false:=decide_eq_false k3
  have hcv:Hid (oV (some c)=.int .i64 (c:Int)):=hid rfl
  unfold oV
  rw [oI_some]
  clear hset hSB hpos hc66
  go_wp2_with fail
  refine hmx.out.mono ?_; rintro e w4 ⟨⟨z,rfl,hz⟩,rfl⟩
  have k4:¬ (1099511627776:Int)<z:=by omega
  have k4':decide ((1099511627776:Int)<z)=false:=decide_eq_false k4
  clear hmx
  go_wp2_with fail
  refine (hky.out w3 (Below.refl _ _) hp3.out).mono ?_; rintro e w5 ⟨s,rfl,hs,hb5⟩
  have hsz:s.size<=maxLen:=by
   have:s.size=(keyT S').length:=by rw [<-hs,Array.length_toList]; rfl
   rw [this]; have:=hklen.out; unfold maxLen; omega
  have hb35:=hid (below_chain hb3.out hb5)
  obtain ⟨cc,ff,hrun,hft,hff⟩:=(hD.out.mp.next hb35.out).find (t:=75) Tryz.underlying75 hs hsz
  replace hs:=hid hs
  replace hsz:=hid hsz
  replace hft:=hid hft
  replace hff:=hid hff
  have hbW5:=hid (hbW3.out.trans (hb5.mono hbW3.out.size))
  replace hb5:=hid hb5
  cases ff with
  | true =>
   obtain ⟨j,rfl,hj⟩:=hft.out rfl
   have hone:=hid (oneS_old (l:=l) hvR.out hSv.out hL.out (by rw [hS'.out]; exact (hD.out.mp.idx hj)))
   replace hj:=hid hj
   go_upto_region 54 with fail
   refine det_arc O syms 0 iv fv av ini fin X.arcs k l j (some c) w5 (hO.out.next hb35.out) (by omega) hpan ?_
   intro Pi Pj Pk Pl Pm Pn Po Pp Pq Ps Pt av' w6 hO6 hf6
   have hbW6:=hbW5.out.trans (hf6.below (fun q e=>by
    rcases e with rfl | e
    ·exact hOW
    ·have:=(hO.out.next hb35.out).lt (.inr (.inr (.inr e))); omega) hbW5.out.size)
   exact hexit _ _ _ _ _ _ _ _ _ _ _ _ _ _ _ _ _ _ _ _ _ _ _ _ _ _ _ _ _ _ _ _ _ _ _ _ _ _ _ _ _ _ _ _ _ _ _ _ _ _ _ _ _ _ _ _ _ _ _ _ _ _ _ _ _ _ _ _ _ _ _ _ _ _ _ _ _ _ _ _ _ _ _ _ _ _ _ _ _ _ _ _ _ _ _ _ ⟨X.subs,X.arcs++[(k,l,j,some c)]⟩ (.slice (some ⟨gr,0,none⟩) m cap) av' gs w6 hone.out ((hD.out.next hb35.out).out (hO.out.next hb35.out) (hf6.mono fun q _ e=>by
    rcases e with rfl | e
    ·exact .inl rfl
    ·exact .inr (.inr (.inr e)))) hO6 hbW6
  | false =>
   have hnin:=hff.out rfl
   have hone:=oneS_new (l:=l) hvR.out hSv.out hL.out (by rw [hS'.out]; exact findIdx_none hnin)
   rw [hS'.out,hm.out] at hone
   replace hnin:=hid hnin
   by_cases h64:m=64
   ·rw [if_pos h64] at hone
    replace hone:=hid hone
    subst h64
    have hRBn:=hid (hRB.next hbW5.out)
    go_wp2_with ((with_reducible refine wp_storeBAuto rfl _ _ rfl RB 30 _ hRBn.out ?_ [.int .i64 0,.slice none 0 0,.int .i64 0,.int .i64 0,.slice none 0 0,.slice none 0 0,.slice none 0 0] rfl rfl ?_ zau_1 ?_); exact rfl; exact rfl; intro w9 hR9 hfr9)
    exact hret _ _ _ _ _ _ _ _ _ _ _ _ _ _ _ _ _ _ _ _ _ _ _ _ _ _ _ _ _ _ _ _ _ _ _ _ _ _ _ _ _ _ _ _ _ _ _ _ _ _ _ _ _ _ _ _ _ _ _ _ _ _ _ _ _ _ _ _ _ _ _ _ _ _ _ _ _ _ _ _ _ _ _ _ _ _ _ _ _ _ _ _ _ _ _ _ w9 hone.out hR9 ((hbW5.out.mono (by omega)).trans (hfr9.below (fun q e=>by subst e; exact hG.1) (by have:=hbW5.out.size; omega)))
   ·rw [if_neg h64] at hone
    replace hone:=hid hone
    have hms:m<64:=by omega
    have hm0:((m:Int)==64)=false:=by rw [beq_eq_false_iff_ne]; omega
    have hm1:¬ (m:Int)=64:=by omega
    clear h64
    have hp5:=hid (hp3.out.next hb5.out)
    go_wp2_with fail
    refine (hky.out w5 hb5.out hp5.out).mono ?_; rintro e w6 ⟨s2,rfl,hs2,hb6⟩
    have hsz2:s2.size<=maxLen:=by
     have:s2.size=(keyT S').length:=by rw [<-hs2,Array.length_toList]; rfl
     rw [this]; have:=hklen.out; unfold maxLen; omega
    have hb7:Below w6.heap.size w6 (w6.alloc (.cells #[.slice (some ⟨g,0,none⟩) N.st N.st] 68)):=below_alloc _
    have hB7:=Bl.fresh w6 [sbV N.st g] 68
    have hb57:=hid (below_chain hb6 hb7)
    have hD7:=hid ((hD.out.next hb35.out).next hb57.out)
    have hO7:=hid ((hO.out.next hb35.out).next hb57.out)
    have hg7:=hid ((hg3.out.next hb5.out).next hb57.out)
    have hO7l:=hO7.out.blk.lt
    have hrow7:=hid hD7.out.row
    rw [hm.out] at hrow7
    have hnl7:=hid hD7.out.sbs.num
    rw [hm.out] at hnl7
    have hbW7:=hid (hbW5.out.trans (hb57.out.mono hbW5.out.size))
    go_wp2_with (at_builtin; refine wp_appSub rfl (.tmp 225) (.tmp 227) 73 rfl Tryz.underlying73 (O+1) N.st g _ m gs rfl hrow7.out hnl7.out (by omega) w6.heap.size rfl hB7 hO7l ?_; intro sv' w8 hrow8 hg8 hb8; have hen:=(hD7.out.mp8 hg8).entry' hnin.out hs2 hsz2 (by rw [hm.out]; omega); rw [hm.out] at hen; obtain ⟨v0,stt,wa,wb,hr1,hr2,hmk,hgr⟩:=hen; replace hrow8:=hid hrow8; replace hg8:=hid hg8; replace hb8:=hid hb8; replace hmk:=hid hmk; replace hgr:=hid hgr)
    obtain ⟨hDn,hFn⟩:=hD7.out.grow (show Sb _ W.heap.size g S' from Rw.mono hg7.out hb.out.size) hSl'.out (by rw [hm.out]; exact hrow8.out) hg8.out hmk.out hgr.out
    replace hDn:=hid hDn
    have hOn:=hid (hO7.out.sub hD7.out.row rfl hD7.out.mp hFn)
    have hbWb:Below W.heap.size W wb:=hbW7.out.trans (hFn.below (fun q e=>by
     rcases e with e | rfl
     ·have:=(hD7.out.row.lt e).1; omega
     ·exact hmb) hbW7.out.size)
    refine det_arc O syms 0 iv fv av ini fin X.arcs k l m (some c) wb hOn.out (by omega) hpan ?_
    intro Pi Pj Pk Pl Pm Pn Po Pp Pq Ps Pt av' w9 hO9 hf9
    have hbW9:=hbWb.trans (hf9.below (fun q e=>by
     rcases e with rfl | e
     ·exact hOW
     ·have:=hOn.out.lt (.inr (.inr (.inr e))); omega) hbWb.size)
    exact hexit _ _ _ _ _ _ _ _ _ _ _ _ _ _ _ _ _ _ _ _ _ _ _ _ _ _ _ _ _ _ _ _ _ _ _ _ _ _ _ _ _ _ _ _ _ _ _ _ _ _ _ _ _ _ _ _ _ _ _ _ _ _ _ _ _ _ _ _ _ _ _ _ _ _ _ _ _ _ _ _ _ _ _ _ _ _ _ _ _ _ _ _ _ _ _ _ ⟨X.subs++[S'],X.arcs++[(k,l,m,some c)]⟩ sv' av' (gs++[g]) w9 hone.out (hDn.out.out hOn.out (hf9.mono fun q _ e=>by
     rcases e with rfl | e
     ·exact .inl rfl
     ·exact .inr (.inr (.inr e)))) hO9 hbW9
end
section
open Go.RowKit
theorem one_arcs {N:List Ac} {us:List Bool} {k l:Nat} {X Y:Ds} (h:oneS N us k l X=some Y):Y.arcs.length<=X.arcs.length+1:=by
 unfold oneS at h
 split at h
 ·cases h; exact Nat.le_succ _
 ·split at h
  ·cases h; simp
  ·split at h
   ·cases h
   ·cases h; simp
theorem rowS_none {N:List Ac} {us:List Bool} {k n l:Nat} {X:Ds} (h:oneS N us k l X=none):rowS N us k (n+1) l X=none:=by
 show (match oneS N us k l X with | none=>none | some Y=>rowS N us k n (l+1) Y)=none
 rw [h]
theorem rowS_some {N:List Ac} {us:List Bool} {k n l:Nat} {X Y:Ds} (h:oneS N us k l X=some Y):rowS N us k (n+1) l X=rowS N us k n (l+1) Y:=by
 show (match oneS N us k l X with | none=>none | some Y=>rowS N us k n (l+1) Y)=_
 rw [h]
theorem det_row (W:World) (V gu syms C:Nat) (N:Au) (us:List Bool) (io:OA) (ci:Nat) (fo:OA) (cf:Nat) (ro:OA) (nr cr:Nat) (vo:OA) (cv:Nat) (hS:Hid (Sta W V gu syms C N us io ci fo cf ro nr cr vo cv)) (G0 RB O mb k:Nat) (sv iv fv av:Value) (gs:List Nat) (ini fin:List Tw) (X:Ds) (w:World) (hb:Below W.heap.size W w) (hk:k<X.subs.length) (hX:Hid (Dok N.st C k X)) (hD:Dm w W.heap.size O N.st mb sv gs X.subs) (hO:Om w O syms 0 iv fv av ini fin X.arcs) (hla:X.arcs.length<=3900) (hG:G0<=RB/\RB<W.heap.size) (hOW:W.heap.size<=O) (hmb:W.heap.size<=mb) (hRB:Bl RB [.int .i64 0,.slice none 0 0,.int .i64 0,.int .i64 0,.slice none 0 0,.slice none 0 0,.slice none 0 0] 30 W)
  {c0 c1 c3 c5 c7 c8 Aa Ab Ad Ae Af Ag Ah Ak Al Am An Ao Ap Aq Ar As Av Aw Ax Ay Az Ba Bb Bc Be Bf Bh Bi Bj Bk Bm Bn Bo Bp Bq Br Bs Bt Bu Bv Bw Bx By Bz Ca Cb Cc Cd Ce Cf Cg Ch Ci Cj Ck Cl Cm Cn Co Cp Cq Cr Ct Cu Cv Cw Cx Cy Cz Da Db Dc Dd De Df Dg Dh Di Dj Dk Dl Dn Dp Dq Dr Dt Du Dv Dw Dx Dy Dz Ea Eb Ec Ed Ee Ef Eg Eh Ei Ej Ek El Em En Eo Ep Eq Er Es Et Eu Ev Ew Ex Ey Ez Fa Fb Fc Fd Fe Ff Fg Fh Fi Fj Fk Fm Fn Fo Fp Fq Fs Ft Fu Fv Fw Fx Fy Fz Ga Gb Gc Gd Ge Gf Gg Gh Gi Gj Gk Gl Gm Gn Go Gp Gq Gr Gs Gt Gu Gv Gw Gx Gy Gz Ha Hb Hc Hd He Hf Hg Hh Hi Hj Hk Hl Hm Hn Ho Hp Hq Hr Hs Ht Hu Hv Hw Hx Hy Hz Ia Ib Ic Id Ie Ig Ih Ii Ij Ik Il Im Io Ip Iq Ir It Iu Iv Iw Ix Iy Iz Ja Jb Jc Jd Je Jf Jg Jh Ji Jj Jk Jl Jm Jn Jo Jp Jq Jr Js Jt Ju:Value} {Q0:EP} (hpan:∀ c (a:Act) d v w,Q0 (.panic c) (a.put d v) w->Q0 (.panic c) a w)
  (hexit:∀ (u3 Jv Jw Jx Jy Jz Ka Kb Kc Kd Ke Kf Kg Kh Ki Kj Kk Kl Km Kn Ko Kp Kq Kr Ks Kt Ku Kv Kw Kx Kz La Lb Lc Ld Le Lf Lg Lh Li Lj Lk Ll Lm Ln Lo Lp Lq Lr Lt Lu Lv Lx Ly Lz Ma Mb Mc Md Me Mf Mg Mh Mi Mj Ml Mm Mn Mp Mq Mr Ms Mt Mu Mw Mx My Mz Na Nb Nc Nd Ne Ng Nh Ni Nj Nk Nl Nm Nn Np Nq Nr Ns Nt Nu Nv Nw Nx Ny Nz Oa Ob:Value) (Y:Ds) (sv' av':Value) (gs':List Nat) (w':World),rowS N.arcs us k syms 1 X=some Y->Dok N.st C k Y->X.subs.length<=Y.subs.length->Y.arcs.length<=X.arcs.length+syms->Dm w' W.heap.size O N.st mb sv' gs' Y.subs->Om w' O syms 0 iv fv av' ini fin Y.arcs->Below W.heap.size W w'->Q0 .normal ⟨#[c0,c1,.pointer (some ⟨RB,0,none⟩),u3,.pointer (some ⟨V,0,none⟩),c5,.slice (some ⟨gu,0,none⟩) N.st N.st,c7,c8,.pointer (some ⟨O,0,none⟩),Aa,sv',.map (some mb),.int .i64 (k:Int),Ab,Ad,Ae,Jv,Jw,Jx,Jy,Ak,Jz,Ka,Kb,Kc,Ap,Aq,Ar,As,Av,Aw,Ax,Ay,Az,Ba,Bb,Bc,Be,Bf,Bh,Bi,Bj,Bk,Bm,Bn,Bo,Bp,Bq,Br,Bs,Bt,Bu,Bv,Bw,Bx,By,Bz,Ca,Cb,Cc,Cd,Ce,Cf,Cg,Ch,Ci,Cj,Ck,Cl,Cm,Cn,Co,Cp,Cq,Cr,Ct,Cu,Cv,Cw,Cx,Cy,Cz,Da,Db,Dc,Dd,De,Df,Dg,Dh,Di,Dj,Dk,Dl,Dn,Dp,Dq,Dr,Dt,Du,Dv,Dw,Dx,Dy,Dz,Ea,Eb,Ec,Ed,Ee,Ef,Eg,Eh,Ei,Ej,Ek,El,Em,En,Eo,Ep,Eq,Er,Es,Et,Eu,Ev,Ew,Ex,Ey,Ez,Fa,Fb,Fc,Fd,Fe,Ff,Fg,Fh,Fi,Fj,Fk,Fm,Fn,Fo,Fp,Fq,Kd,Ke,Kf,Kg,Kh,Ki,Kj,Kk,Kl,Km,Kn,Ko,Kp,Kq,Kr,Ks,Kt,Ku,Kv,Kw,Kx,Kz,La,Lb,Lc,Ld,Le,Lf,Lg,Lh,Li,Lj,Lk,Ll,Lm,Ln,Lo,Lp,Lq,Lr,Lt,Lu,Lv,Lx,Ly,Lz,Ma,Mb,Mc,Md,Me,Mf,Mg,Mh,Mi,Mj,Ml,Mm,Mn,Mp,Mq,Mr,Ms,Mt,Mu,Mw,Mx,My,Mz,Na,Nb,Nc,Nd,Ne,Ng,Nh,Ni,Nj,Nk,Nl,Nm,Nn,Np,Nq,Nr,Ns,Nt,Nu,Nv,Nw,Nx,Ny,Nz,Oa,Ob,Jm,Jn,Jo,Jp,Jq,Jr,Js,Jt,Ju],[]⟩ w')
  (hret:∀ (Oc Jv Jw Jx Jy Jz Ka Kb Kc Kd Ke Kf Kg Kh Ki Kj Kk Kl Km Kn Ko Kp Kq Kr Ks Kt Ku Kv Kw Kx Kz La Lb Lc Ld Le Lf Lg Lh Li Lj Lk Ll Lm Ln Lo Lp Lq Lr Lt Lu Lv Lx Ly Lz Ma Mb Mc Md Me Mf Mg Mh Mi Mj Ml Mm Mn Mp Mq Mr Ms Mt Mu Mw Mx My Mz Na Nb Nc Nd Ne Ng Nh Ni Nj Nk Nl Nm Nn Np Nq Nr Ns Nt Nu Nv Nw Nx Ny Nz Oa Ob:Value) (w':World),rowS N.arcs us k syms 1 X=none->Bl RB [.int .i64 0,.slice none 0 0,.int .i64 0,.int .i64 0,.slice none 0 0,.slice none 0 0,.slice none 0 0] 30 w'->Below G0 W w'->Q0 .ret ⟨#[c0,c1,.pointer (some ⟨RB,0,none⟩),.int .i64 2,.pointer (some ⟨V,0,none⟩),c5,.slice (some ⟨gu,0,none⟩) N.st N.st,c7,c8,.pointer (some ⟨O,0,none⟩),Aa,Oc,.map (some mb),.int .i64 (k:Int),Ab,Ad,Ae,Jv,Jw,Jx,Jy,Ak,Jz,Ka,Kb,Kc,Ap,Aq,Ar,As,Av,Aw,Ax,Ay,Az,Ba,Bb,Bc,Be,Bf,Bh,Bi,Bj,Bk,Bm,Bn,Bo,Bp,Bq,Br,Bs,Bt,Bu,Bv,Bw,Bx,By,Bz,Ca,Cb,Cc,Cd,Ce,Cf,Cg,Ch,Ci,Cj,Ck,Cl,Cm,Cn,Co,Cp,Cq,Cr,Ct,Cu,Cv,Cw,Cx,Cy,Cz,Da,Db,Dc,Dd,De,Df,Dg,Dh,Di,Dj,Dk,Dl,Dn,Dp,Dq,Dr,Dt,Du,Dv,Dw,Dx,Dy,Dz,Ea,Eb,Ec,Ed,Ee,Ef,Eg,Eh,Ei,Ej,Ek,El,Em,En,Eo,Ep,Eq,Er,Es,Et,Eu,Ev,Ew,Ex,Ey,Ez,Fa,Fb,Fc,Fd,Fe,Ff,Fg,Fh,Fi,Fj,Fk,Fm,Fn,Fo,Fp,Fq,Kd,Ke,Kf,Kg,Kh,Ki,Kj,Kk,Kl,Km,Kn,Ko,Kp,Kq,Kr,Ks,Kt,Ku,Kv,Kw,Kx,Kz,La,Lb,Lc,Ld,Le,Lf,Lg,Lh,Li,Lj,Lk,Ll,Lm,Ln,Lo,Lp,Lq,Lr,Lt,Lu,Lv,Lx,Ly,Lz,Ma,Mb,Mc,Md,Me,Mf,Mg,Mh,Mi,Mj,Ml,Mm,Mn,Mp,Mq,Mr,Ms,Mt,Mu,Mw,Mx,My,Mz,Na,Nb,Nc,Nd,Ne,Ng,Nh,Ni,Nj,Nk,Nl,Nm,Nn,Np,Nq,Nr,Ns,Nt,Nu,Nv,Nw,Nx,Ny,Nz,Oa,Ob,Jm,Jn,Jo,Jp,Jq,Jr,Js,Jt,Ju],[]⟩ w') :
  Code.wp Tryz.prog (dB 6) Q0 ⟨#[c0,c1,.pointer (some ⟨RB,0,none⟩),c3,.pointer (some ⟨V,0,none⟩),c5,.slice (some ⟨gu,0,none⟩) N.st N.st,c7,c8,.pointer (some ⟨O,0,none⟩),Aa,sv,.map (some mb),.int .i64 (k:Int),Ab,Ad,Ae,.int .i64 1,Af,Ag,Ah,Ak,Al,Am,An,Ao,Ap,Aq,Ar,As,Av,Aw,Ax,Ay,Az,Ba,Bb,Bc,Be,Bf,Bh,Bi,Bj,Bk,Bm,Bn,Bo,Bp,Bq,Br,Bs,Bt,Bu,Bv,Bw,Bx,By,Bz,Ca,Cb,Cc,Cd,Ce,Cf,Cg,Ch,Ci,Cj,Ck,Cl,Cm,Cn,Co,Cp,Cq,Cr,Ct,Cu,Cv,Cw,Cx,Cy,Cz,Da,Db,Dc,Dd,De,Df,Dg,Dh,Di,Dj,Dk,Dl,Dn,Dp,Dq,Dr,Dt,Du,Dv,Dw,Dx,Dy,Dz,Ea,Eb,Ec,Ed,Ee,Ef,Eg,Eh,Ei,Ej,Ek,El,Em,En,Eo,Ep,Eq,Er,Es,Et,Eu,Ev,Ew,Ex,Ey,Ez,Fa,Fb,Fc,Fd,Fe,Ff,Fg,Fh,Fi,Fj,Fk,Fm,Fn,Fo,Fp,Fq,Fs,Ft,Fu,Fv,Fw,Fx,Fy,Fz,Ga,Gb,Gc,Gd,Ge,Gf,Gg,Gh,Gi,Gj,Gk,Gl,Gm,Gn,Go,Gp,Gq,Gr,Gs,Gt,Gu,Gv,Gw,Gx,Gy,Gz,Ha,Hb,Hc,Hd,He,Hf,Hg,Hh,Hi,Hj,Hk,Hl,Hm,Hn,Ho,Hp,Hq,Hr,Hs,Ht,Hu,Hv,Hw,Hx,Hy,Hz,Ia,Ib,Ic,Id,Ie,Ig,Ih,Ii,Ij,Ik,Il,Im,Io,Ip,Iq,Ir,It,Iu,Iv,Iw,Ix,Iy,Iz,Ja,Jb,Jc,Jd,Je,Jf,Jg,Jh,Ji,Jj,Jk,Jl,Jm,Jn,Jo,Jp,Jq,Jr,Js,Jt,Ju],[]⟩ w:=by
 conv=>arg 2; whnf
 have hsy:=hS.out.sym
 replace hb:=hid hb
 replace hD:=hid hD
 replace hO:=hid hO
 go_wp2_with fail
 go_loopw [11,17] (fun sv1 lv wr=>∃ (l:Nat) (X1:Ds) (av1:Value) (gs1:List Nat),1<=l/\l<=syms+1/\lv=.int .i64 (l:Int)/\Hid (rowS N.arcs us k (syms+1-l) l X1=rowS N.arcs us k syms 1 X)/\Hid (Dok N.st C k X1)/\Hid (X.subs.length<=X1.subs.length)/\Hid (X1.arcs.length+1<=X.arcs.length+l)/\Dm wr W.heap.size O N.st mb sv1 gs1 X1.subs/\Om wr O syms 0 iv fv av1 ini fin X1.arcs/\Below W.heap.size W wr) (fun _ lv _=>syms+1-(intOf lv).toNat)
 case atStart=>exact ⟨1,X,av,gs,Nat.le_refl _,by omega,rfl,hid rfl,hX,hid (Nat.le_refl _),hid (Nat.le_refl _),hD.out,hO.out,hb.out⟩
 case round =>
  obtain ⟨l,X1,av1,gs1,hl1,hl2,rfl,hrw,hX1,hsl,hal,hD1,hO1,hb1⟩:=hrel
  replace hD1:=hid hD1
  replace hO1:=hid hO1
  have y2:=(hS.out.next hb1).vw.cell (i:=2) rfl
  replace hb1:=hid hb1
  by_cases hlt:l<=syms
  ·have i1:(l:Int)<=(syms:Int):=by omega
   have i2:decide ((l:Int)<=(syms:Int))=true:=decide_eq_true i1
   have i0:(0:Int)<=(l:Int):=by omega
   obtain ⟨n,hn⟩:∃ n,syms+1-l=n+1:=⟨syms-l,by omega⟩
   replace hn:=hid hn
   go_upto_block 7 with fail
   refine det_label W V gu syms C N us io ci fo cf ro nr cr vo cv hS G0 RB O mb k l _ iv fv av1 gs1 ini fin X1 wr hb1.out (by omega) (Nat.lt_of_lt_of_le hk hsl.out) hX1 hD1.out hO1.out (by have:=hal.out; omega) hG hOW hmb hRB hpan ?_ ?_
   ·intro x3 Od Oe Og Oh Oi Oj Ok Ol Oo Op Oq Os Ot Ou Ov Ow Ox Oy Oz Pa Pb Pc Pd Pe Pf Pg Ph Pi Pj Pk Pl Pm Pn Po Pp Pq Ps Pt Pu Pv Pw Px Py Pz Qa Qb Qc Qd Qe Qf Qg Qh Qi Qj Qk Ql Qm Qn Qo Qp Qq Qr Qs Qt Qu Qv Qw Qx Qy Qz Ra Rb Rc Re Rf Rg Rh Ri Rj Rk Rl Rm Rn Ro Rp Rq Rr Rt Ru Rv Rx Ry Rz Sa Sc Y sv2 av2 gs2 w2 hone hD2 hO2 hb2
    have hdk:=hX1.out.one (Nat.lt_of_lt_of_le hk hsl.out) hS.out.cst.1 hone
    have hoa:=one_arcs hone
    replace hone:=hid hone
    replace hdk:=hid hdk
    replace hoa:=hid hoa
    replace hD2:=hid hD2
    replace hO2:=hid hO2
    replace hb2:=hid hb2
    go_wp2_with fail
    go_roundw
    case rel=>exact ⟨l+1,Y,av2,gs2,by omega,by omega,by go_num,hid (by rw [<-hrw.out,hn.out,rowS_some hone.out,show syms+1-(l+1)=n by have:=hn.out; omega]),hid hdk.out.1,hid (Nat.le_trans hsl.out hdk.out.2),hid (by have:=hal.out; have:=hoa.out; omega),hD2.out,hO2.out,hb2.out⟩
    case measure=>simp [intOf]; omega
   ·intro Sd Od Oe Og Oh Oi Oj Ok Ol Oo Op Oq Os Ot Ou Ov Ow Ox Oy Oz Pa Pb Pc Pd Pe Pf Pg Ph Pi Pj Pk Pl Pm Pn Po Pp Pq Ps Pt Pu Pv Pw Px Py Pz Qa Qb Qc Qd Qe Qf Qg Qh Qi Qj Qk Ql Qm Qn Qo Qp Qq Qr Qs Qt Qu Qv Qw Qx Qy Qz Ra Rb Rc Re Rf Rg Rh Ri Rj Rk Rl Rm Rn Ro Rp Rq Rr Rt Ru Rv Rx Ry Rz Sa Sc w2 hone hR2 hb2
    exact hret _ _ _ _ _ _ _ _ _ _ _ _ _ _ _ _ _ _ _ _ _ _ _ _ _ _ _ _ _ _ _ _ _ _ _ _ _ _ _ _ _ _ _ _ _ _ _ _ _ _ _ _ _ _ _ _ _ _ _ _ _ _ _ _ _ _ _ _ _ _ _ _ _ _ _ _ _ _ _ _ _ _ _ _ _ _ _ _ _ _ _ _ _ _ _ _ _ _ _ _ _ _ _ _ w2 (by rw [<-hrw.out,hn.out,rowS_none hone]) hR2 hb2
  ·obtain rfl:l=syms+1:=by omega
   have i1:¬ ((syms+1:Nat):Int)<=(syms:Int):=by omega
   have i2:decide (((syms+1:Nat):Int)<=(syms:Int))=false:=decide_eq_false i1
   have hend:rowS N.arcs us k (syms+1-(syms+1)) (syms+1) X1=some X1:=by rw [Nat.sub_self]; rfl
   replace hend:=hid hend
   go_wp2_with fail
   exact hexit _ _ _ _ _ _ _ _ _ _ _ _ _ _ _ _ _ _ _ _ _ _ _ _ _ _ _ _ _ _ _ _ _ _ _ _ _ _ _ _ _ _ _ _ _ _ _ _ _ _ _ _ _ _ _ _ _ _ _ _ _ _ _ _ _ _ _ _ _ _ _ _ _ _ _ _ _ _ _ _ _ _ _ _ _ _ _ _ _ _ _ _ _ _ _ _ _ _ _ _ _ _ _ _ X1 _ av1 gs1 wr (by rw [<-hrw.out]; exact hend.out) hX1.out hsl.out (by have:=hal.out; omega) hD1.out hO1.out hb1.out
end
section
open Go.RowKit
theorem det_turn (W:World) (V gu syms C:Nat) (N:Au) (us:List Bool) (io:OA) (ci:Nat) (fo:OA) (cf:Nat) (ro:OA) (nr cr:Nat) (vo:OA) (cv:Nat) (hS:Hid (Sta W V gu syms C N us io ci fo cf ro nr cr vo cv)) (G0 RB O mb k:Nat) (b:Tw) (sv iv fv av:Value) (gs:List Nat) (ini fin:List Tw) (X:Ds) (w:World) (hb:Below W.heap.size W w) (hk:k<X.subs.length) (hX:Hid (Dok N.st C k X)) (hD:Dm w W.heap.size O N.st mb sv gs X.subs) (hO:Om w O syms 0 iv fv av ini fin X.arcs) (hla:X.arcs.length<=3900) (hil:ini.length<=64) (hfl:fin.length<=64) (hG:G0<=RB/\RB<W.heap.size) (hOW:W.heap.size<=O) (hmb:W.heap.size<=mb) (hRB:Bl RB [.int .i64 0,.slice none 0 0,.int .i64 0,.int .i64 0,.slice none 0 0,.slice none 0 0,.slice none 0 0] 30 W)
  {c0 c1 c3 c5 c7 c8 Aa Ab Ad Ae Af Ag Ah Ak Al Am An Ao Ap Aq Ar As Av Aw Ax Ay Az Ba Bb Bc Be Bf Bh Bi Bj Bk Bm Bn Bo Bp Bq Br Bs Bt Bu Bv Bw Bx By Bz Ca Cb Cc Cd Ce Cf Cg Ch Ci Cj Ck Cl Cm Cn Co Cp Cq Cr Ct Cu Cv Cw Cx Cy Cz Da Db Dc Dd De Df Dg Dh Di Dj Dk Dl Dn Dp Dq Dr Dt Du Dv Dw Dx Dy Dz Ea Eb Ec Ed Ee Ef Eg Eh Ei Ej Ek El Em En Eo Ep Eq Er Es Et Eu Ev Ew Ex Ey Ez Fa Fb Fc Fd Fe Ff Fg Fh Fi Fj Fk Fm Fn Fo Fp Fq Fs Ft Fu Fv Fw Fx Fy Fz Ga Gb Gc Gd Ge Gf Gg Gh Gi Gj Gk Gl Gm Gn Go Gp Gq Gr Gs Gt Gu Gv Gw Gx Gy Gz Ha Hb Hc Hd He Hf Hg Hh Hi Hj Hk Hl Hm Hn Ho Hp Hq Hr Hs Ht Hu Hv Hw Hx Hy Hz Ia Ib Ic Id Ie Ig Ih Ii Ij Ik Il Im Io Ip Iq Ir It Iu Iv Iw Ix Iy Iz Ja Jb Jc Jd Je Jf Jg Jh Ji Jj Jk Jl Jm Jn Jo Jp Jq Jr Js Jt Ju:Value} {Q0:EP} (hpan:∀ c (a:Act) d v w,Q0 (.panic c) (a.put d v) w->Q0 (.panic c) a w)
  (hexit:∀ (u3 Jv Jw Jx Jy Jz Ka Kb Kc Kd Ke Kf Kg Kh Ki Kj Kk Kl Km Kn Ko Kp Kq Kr Ks Kt Ku Kv Kw Kx Kz La Lb Lc Ld Le Lf Lg Lh Li Lj Lk Ll Lm Ln Lo Lp Lq Lr Lt Lu Lv Lx Ly Lz Ma Mb Mc Md Me Mf Mg Mh Mi Mj Ml Mm Mn Mp Mq Mr Ms Mt Mu Mw Mx My Mz Na Nb Nc Nd Ne Ng Nh Ni Nj Nk Nl Nm Nn Np Nq Nr Ns Nt Nu Nv Nw Nx Ny Nz Oa Ob Oc Od Oe Og Oh Oi Oj Ok Ol Oo Op Oq Os Ot Ou Ov Ow Ox Oy Oz Pa Pb Pc Pd Pe Pf Pg Ph Pi Pj Pk Pl Pm Pn Po Pp Pq Ps Pt Pu Pv Pw Px Py Pz Qa Qb Qc Qd Qe Qf Qg Qh Qi Qj Qk Ql Qm Qn Qo Qp:Value) (Y:Ds) (sv' iv' fv' av':Value) (gs':List Nat) (w':World),rowS N.arcs us k syms 1 X=some Y->Dok N.st C k Y->X.subs.length<=Y.subs.length->Y.arcs.length<=X.arcs.length+syms->Dm w' W.heap.size O N.st mb sv' gs' Y.subs->Om w' O syms 0 iv' fv' av' (ini++[b]) (fin++[endV N.fin (X.subs.getD k [])]) Y.arcs->Below W.heap.size W w'->Q0 .normal ⟨#[c0,c1,.pointer (some ⟨RB,0,none⟩),u3,.pointer (some ⟨V,0,none⟩),c5,.slice (some ⟨gu,0,none⟩) N.st N.st,c7,c8,.pointer (some ⟨O,0,none⟩),.int .i64 (-1),sv',.map (some mb),.int .i64 (k:Int),Jv,Jw,Jx,Jy,Jz,Ka,Kb,Ak,Kc,Kd,Ke,Kf,Ap,Aq,Ar,As,Av,Aw,Ax,Ay,Az,Ba,Bb,Bc,Be,Bf,Bh,Bi,Bj,Bk,Bm,Bn,Bo,Bp,Bq,Br,Bs,Bt,Bu,Bv,Bw,Bx,By,Bz,Ca,Cb,Cc,Cd,Ce,Cf,Cg,Ch,Ci,Cj,Ck,Cl,Cm,Cn,Co,Cp,Cq,Cr,Ct,Cu,Cv,Cw,Cx,Cy,Cz,Da,Db,Dc,Dd,De,Df,Dg,Kg,Kh,Ki,Kj,Kk,Kl,Km,Kn,Ko,Kp,Kq,Kr,Ks,Kt,Ku,Kv,Kw,Kx,Kz,La,Lb,Lc,Ld,Le,Lf,Lg,Lh,Li,Lj,Lk,Ll,Lm,Ln,Lo,Lp,Lq,Lr,Lt,Lu,Lv,Lx,Ly,Lz,Ma,Mb,Mc,Md,Me,Mf,Mg,Mh,Mi,Mj,Ml,Mm,Mn,Mp,Mq,Mr,Ms,Mt,Mu,Mw,Mx,My,Mz,Na,Nb,Nc,Nd,Ne,Ng,Nh,Ni,Nj,Nk,Nl,Nm,Nn,Np,Nq,Nr,Ns,Nt,Nu,Nv,Nw,Nx,Ny,Nz,Oa,Ob,Oc,Od,Oe,Og,Oh,Oi,Oj,Ok,Ol,Oo,Op,Oq,Os,Ot,Ou,Ov,Ow,Ox,Oy,Oz,Pa,Pb,Pc,Pd,Pe,Pf,Pg,Ph,Pi,Pj,Pk,Pl,Pm,Pn,Po,Pp,Pq,Ps,Pt,Pu,Pv,Pw,Px,Py,Pz,Qa,Qb,Qc,Qd,Qe,Qf,Qg,Qh,Qi,Qj,Qk,Ql,Qm,Qn,Qo,Qp,Jm,Jn,Jo,Jp,Jq,Jr,Js,Jt,Ju],[]⟩ w')
  (hret:∀ (Qq Qr Jv Jw Jx Jy Jz Ka Kb Kc Kd Ke Kf Kg Kh Ki Kj Kk Kl Km Kn Ko Kp Kq Kr Ks Kt Ku Kv Kw Kx Kz La Lb Lc Ld Le Lf Lg Lh Li Lj Lk Ll Lm Ln Lo Lp Lq Lr Lt Lu Lv Lx Ly Lz Ma Mb Mc Md Me Mf Mg Mh Mi Mj Ml Mm Mn Mp Mq Mr Ms Mt Mu Mw Mx My Mz Na Nb Nc Nd Ne Ng Nh Ni Nj Nk Nl Nm Nn Np Nq Nr Ns Nt Nu Nv Nw Nx Ny Nz Oa Ob Oc Od Oe Og Oh Oi Oj Ok Ol Oo Op Oq Os Ot Ou Ov Ow Ox Oy Oz Pa Pb Pc Pd Pe Pf Pg Ph Pi Pj Pk Pl Pm Pn Po Pp Pq Ps Pt Pu Pv Pw Px Py Pz Qa Qb Qc Qd Qe Qf Qg Qh Qi Qj Qk Ql Qm Qn Qo Qp:Value) (w':World),rowS N.arcs us k syms 1 X=none->Bl RB [.int .i64 0,.slice none 0 0,.int .i64 0,.int .i64 0,.slice none 0 0,.slice none 0 0,.slice none 0 0] 30 w'->Below G0 W w'->Q0 .ret ⟨#[c0,c1,.pointer (some ⟨RB,0,none⟩),.int .i64 2,.pointer (some ⟨V,0,none⟩),c5,.slice (some ⟨gu,0,none⟩) N.st N.st,c7,c8,.pointer (some ⟨O,0,none⟩),Qq,Qr,.map (some mb),.int .i64 (k:Int),Jv,Jw,Jx,Jy,Jz,Ka,Kb,Ak,Kc,Kd,Ke,Kf,Ap,Aq,Ar,As,Av,Aw,Ax,Ay,Az,Ba,Bb,Bc,Be,Bf,Bh,Bi,Bj,Bk,Bm,Bn,Bo,Bp,Bq,Br,Bs,Bt,Bu,Bv,Bw,Bx,By,Bz,Ca,Cb,Cc,Cd,Ce,Cf,Cg,Ch,Ci,Cj,Ck,Cl,Cm,Cn,Co,Cp,Cq,Cr,Ct,Cu,Cv,Cw,Cx,Cy,Cz,Da,Db,Dc,Dd,De,Df,Dg,Kg,Kh,Ki,Kj,Kk,Kl,Km,Kn,Ko,Kp,Kq,Kr,Ks,Kt,Ku,Kv,Kw,Kx,Kz,La,Lb,Lc,Ld,Le,Lf,Lg,Lh,Li,Lj,Lk,Ll,Lm,Ln,Lo,Lp,Lq,Lr,Lt,Lu,Lv,Lx,Ly,Lz,Ma,Mb,Mc,Md,Me,Mf,Mg,Mh,Mi,Mj,Ml,Mm,Mn,Mp,Mq,Mr,Ms,Mt,Mu,Mw,Mx,My,Mz,Na,Nb,Nc,Nd,Ne,Ng,Nh,Ni,Nj,Nk,Nl,Nm,Nn,Np,Nq,Nr,Ns,Nt,Nu,Nv,Nw,Nx,Ny,Nz,Oa,Ob,Oc,Od,Oe,Og,Oh,Oi,Oj,Ok,Ol,Oo,Op,Oq,Os,Ot,Ou,Ov,Ow,Ox,Oy,Oz,Pa,Pb,Pc,Pd,Pe,Pf,Pg,Ph,Pi,Pj,Pk,Pl,Pm,Pn,Po,Pp,Pq,Ps,Pt,Pu,Pv,Pw,Px,Py,Pz,Qa,Qb,Qc,Qd,Qe,Qf,Qg,Qh,Qi,Qj,Qk,Ql,Qm,Qn,Qo,Qp,Jm,Jn,Jo,Jp,Jq,Jr,Js,Jt,Ju],[]⟩ w') :
  Code.wp Tryz.prog (dB 3) Q0 ⟨#[c0,c1,.pointer (some ⟨RB,0,none⟩),c3,.pointer (some ⟨V,0,none⟩),c5,.slice (some ⟨gu,0,none⟩) N.st N.st,c7,c8,.pointer (some ⟨O,0,none⟩),oV b,sv,.map (some mb),.int .i64 (k:Int),Aa,Ab,Ad,Ae,Af,Ag,Ah,Ak,Al,Am,An,Ao,Ap,Aq,Ar,As,Av,Aw,Ax,Ay,Az,Ba,Bb,Bc,Be,Bf,Bh,Bi,Bj,Bk,Bm,Bn,Bo,Bp,Bq,Br,Bs,Bt,Bu,Bv,Bw,Bx,By,Bz,Ca,Cb,Cc,Cd,Ce,Cf,Cg,Ch,Ci,Cj,Ck,Cl,Cm,Cn,Co,Cp,Cq,Cr,Ct,Cu,Cv,Cw,Cx,Cy,Cz,Da,Db,Dc,Dd,De,Df,Dg,Dh,Di,Dj,Dk,Dl,Dn,Dp,Dq,Dr,Dt,Du,Dv,Dw,Dx,Dy,Dz,Ea,Eb,Ec,Ed,Ee,Ef,Eg,Eh,Ei,Ej,Ek,El,Em,En,Eo,Ep,Eq,Er,Es,Et,Eu,Ev,Ew,Ex,Ey,Ez,Fa,Fb,Fc,Fd,Fe,Ff,Fg,Fh,Fi,Fj,Fk,Fm,Fn,Fo,Fp,Fq,Fs,Ft,Fu,Fv,Fw,Fx,Fy,Fz,Ga,Gb,Gc,Gd,Ge,Gf,Gg,Gh,Gi,Gj,Gk,Gl,Gm,Gn,Go,Gp,Gq,Gr,Gs,Gt,Gu,Gv,Gw,Gx,Gy,Gz,Ha,Hb,Hc,Hd,He,Hf,Hg,Hh,Hi,Hj,Hk,Hl,Hm,Hn,Ho,Hp,Hq,Hr,Hs,Ht,Hu,Hv,Hw,Hx,Hy,Hz,Ia,Ib,Ic,Id,Ie,Ig,Ih,Ii,Ij,Ik,Il,Im,Io,Ip,Iq,Ir,It,Iu,Iv,Iw,Ix,Iy,Iz,Ja,Jb,Jc,Jd,Je,Jf,Jg,Jh,Ji,Jj,Jk,Jl,Jm,Jn,Jo,Jp,Jq,Jr,Js,Jt,Ju],[]⟩ w:=by
 conv=>arg 2; whnf
 have hCC:=hS.out.cC
 obtain ⟨gk,hgk,hkS,hkl,hklt⟩:=hD.sbs.get hk
 have hgd:gs.getD k 0=gk:=by rw [List.getD_eq_getElem?_getD,hgk]; rfl
 obtain ⟨v,hv⟩:∃ v,X.subs[k]? = some v:=⟨_,List.getElem?_eq_getElem hk⟩
 have hvR:X.subs.getD k []=v:=by rw [List.getD_eq_getElem?_getD,hv]; rfl
 have hnum:=hX.out.num
 have hvB:=hX.out.bd k v hv
 rw [hvR] at hkS hkl hexit
 have hbdR:Hid (Bd 1000000000000 v):=hid (hvB.mono (by have:C*(k+1)<=1048576*64:=Nat.mul_le_mul hCC (by omega); omega))
 obtain ⟨gr,cap,hsv,hgr1,hgr2⟩:=hD.row.place (by omega)
 subst hsv
 have hrc:=hD.row.cell hk
 simp only [hgd] at hrc
 unfold sbV at hrc
 replace hkl:=hid hkl
 replace hkS:=hid hkS
 replace hb:=hid hb
 replace hO:=hid hO
 obtain ⟨m,hm⟩:∃ m,X.subs.length=m:=⟨_,rfl⟩
 rw [hm] at hk hnum hD ⊢
 replace hD:=hid hD
 replace hm:=hid hm
 clear hgd hv hvB hvR hgk
 go_upto_block 4 with fail
 refine det_end W V gu syms C N us io ci fo cf ro nr cr vo cv hS W.heap.size gk v hkl w hb.out hbdR hkS.out ?_
 intro Qs Qt Qu Qv Qw Qx Qy Qz Ra Rb Rc Re Rf Rg Rh Ri Rj Rk Rl Rm Rn Ro Rp Rq Rr Rt Ru Rv Rx Ry Rz Sa Sc Sd Se Sf Sg Sh Si Sj Sk w1 hb1
 have hbW1:=hid (hb.out.trans (hb1.mono hb.out.size))
 have hO1:=hid (hO.out.next hb1)
 have hD1:=hid (hD.out.next hb1)
 replace hb1:=hid hb1
 clear hrc
 go_upto_region 27 with fail
 refine det_app O syms 0 iv fv av ini fin X.arcs b (endV N.fin v) w1 hO1.out hil hfl hpan ?_
 intro Sm Sn So Sr St Sv Sx Sy Sz Tb Tc Td Te Tf iv' fv' w2 hO2 hf2
 have hD2:=hid (hD1.out.out hO1.out (hf2.mono fun q _ e=>by
  rcases e with rfl | e | e
  ·exact .inl rfl
  ·exact .inr (.inl e)
  ·exact .inr (.inr (.inl e))))
 have hbW2:=hid (hbW1.out.trans (hf2.below (fun q e=>by
  rcases e with rfl | e | e
  ·exact hOW
  ·have:=hO1.out.lt (.inr (.inl e)); omega
  ·have:=hO1.out.lt (.inr (.inr (.inl e))); omega) hbW1.out.size))
 replace hO2:=hid hO2
 replace hf2:=hid hf2
 go_upto_block 6 with fail
 refine det_row W V gu syms C N us io ci fo cf ro nr cr vo cv hS G0 RB O mb k _ iv' fv' av gs (ini++[b]) (fin++[endV N.fin v]) X w2 hbW2.out (by rw [hm.out]; exact hk) hX hD2.out hO2.out hla hG hOW hmb hRB hpan ?_ ?_
 ·intro x3 Tg Th Ti Tj Tk Tl Tm Tn Tq Tr Ts Tt Tu Tv Tx Ty Tz Ua Ub Uc Ud Ue Uf Ug Uh Ui Uj Uk Ul Um Un Uo Up Ur Ut Uu Uv Uw Ux Uy Uz Va Vb Vc Vd Ve Vf Vg Vh Vi Vj Vk Vl Vm Vn Vp Vq Vr Vs Vt Vu Vv Vw Vy Vz Wa Wb Wc We Wf Wg Wh Wi Wj Wl Wm Wn Wo Wp Wq Wr Ws Wt Wu Wv Ww Wx Wy Wz Xa Xb Xc Xd Xe Xf Xg Xh Xi Xj Xk Xl Xm Xn Y sv3 av3 gs3 w3 hrow hY hsl hal hD3 hO3 hb3
  replace hrow:=hid hrow
  replace hD3:=hid hD3
  replace hO3:=hid hO3
  replace hb3:=hid hb3
  go_wp2_with fail
  exact hexit _ _ _ _ _ _ _ _ _ _ _ _ _ _ _ _ _ _ _ _ _ _ _ _ _ _ _ _ _ _ _ _ _ _ _ _ _ _ _ _ _ _ _ _ _ _ _ _ _ _ _ _ _ _ _ _ _ _ _ _ _ _ _ _ _ _ _ _ _ _ _ _ _ _ _ _ _ _ _ _ _ _ _ _ _ _ _ _ _ _ _ _ _ _ _ _ _ _ _ _ _ _ _ _ _ _ _ _ _ _ _ _ _ _ _ _ _ _ _ _ _ _ _ _ _ _ _ _ _ _ _ _ _ _ _ _ _ _ _ _ _ _ _ _ _ _ _ _ _ _ _ _ _ _ _ _ _ _ _ _ _ _ _ _ _ Y sv3 iv' fv' av3 gs3 w3 hrow.out hY hsl hal hD3.out hO3.out hb3.out
 ·intro Xo Tg Th Ti Tj Tk Tl Tm Tn Tq Tr Ts Tt Tu Tv Tx Ty Tz Ua Ub Uc Ud Ue Uf Ug Uh Ui Uj Uk Ul Um Un Uo Up Ur Ut Uu Uv Uw Ux Uy Uz Va Vb Vc Vd Ve Vf Vg Vh Vi Vj Vk Vl Vm Vn Vp Vq Vr Vs Vt Vu Vv Vw Vy Vz Wa Wb Wc We Wf Wg Wh Wi Wj Wl Wm Wn Wo Wp Wq Wr Ws Wt Wu Wv Ww Wx Wy Wz Xa Xb Xc Xd Xe Xf Xg Xh Xi Xj Xk Xl Xm Xn w3 hrow hR3 hb3
  exact hret _ _ _ _ _ _ _ _ _ _ _ _ _ _ _ _ _ _ _ _ _ _ _ _ _ _ _ _ _ _ _ _ _ _ _ _ _ _ _ _ _ _ _ _ _ _ _ _ _ _ _ _ _ _ _ _ _ _ _ _ _ _ _ _ _ _ _ _ _ _ _ _ _ _ _ _ _ _ _ _ _ _ _ _ _ _ _ _ _ _ _ _ _ _ _ _ _ _ _ _ _ _ _ _ _ _ _ _ _ _ _ _ _ _ _ _ _ _ _ _ _ _ _ _ _ _ _ _ _ _ _ _ _ _ _ _ _ _ _ _ _ _ _ _ _ _ _ _ _ _ _ _ _ _ _ _ _ _ _ _ _ _ _ _ _ _ w3 hrow hR3 hb3
end
end Go.Proofs.YtnapapijhhldpaaGreatDoor

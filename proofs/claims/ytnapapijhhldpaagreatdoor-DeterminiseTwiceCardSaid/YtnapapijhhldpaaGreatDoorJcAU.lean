/-
  Texts joined by program: TwNc, TwNd, TwNe. No condition of its own.
-/
import Derived.Test.YtnapapijhhldpaaGreatDoorJcAT
namespace Go.Proofs.YtnapapijhhldpaaGreatDoor
set_option linter.unusedSimpArgs false
set_option linter.unusedVariables false
section
open Go.RowKit
set_option maxRecDepth 100000 in
set_option maxHeartbeats 4000000 in
theorem det_end (W:World) (V gu syms C:Nat) (N:Au) (us:List Bool) (io:Option Addr) (ci:Nat) (fo:Option Addr) (cf:Nat) (ro:Option Addr) (nr cr:Nat) (vo:Option Addr) (cv:Nat) (hS:Hid (Sta W V gu syms C N us io ci fo cf ro nr cr vo cv)) (bk gk:Nat) (R:Vx) (hRl:Hid (R.length=N.st)) (w:World) (hb:Below W.heap.size W w) (hR:Hid (Bd 1000000000000 R)) (hk:Sb w bk gk R)
  (c0 c1 c2 c3 c5 c6 c7 c8 c9 Aa Ab Ad Ae Af Ag Ah Ak Al Am An Ao Ap Aq Ar As Av Aw Ax Ay Az Ba Bb Bc Be Bf Bh Bi Bj Bk Bm Bn Bo Bp Bq Br Bs Bt Bu Bv Bw Bx By Bz Ca Cb Cc Cd Ce Cf Cg Ch Ci Cj Ck Cl Cm Cn Co Cp Cq Cr Ct Cu Cv Cw Cx Cy Cz Da Db Dc Dd De Df Dg Dh Di Dj Dk Dl Dn Dp Dq Dr Dt Du Dv Dw Dx Dy Dz Ea Eb Ec Ed Ee Ef Eg Eh Ei Ej Ek El Em En Eo Ep Eq Er Es Et Eu Ev Ew Ex Ey Ez Fa Fb Fc Fd Fe Ff Fg Fh Fi Fj Fk Fm Fn Fo Fp Fq Fs Ft Fu Fv Fw Fx Fy Fz Ga Gb Gc Gd Ge Gf Gg Gh Gi Gj Gk Gl Gm Gn Go Gp Gq Gr Gs Gt Gu Gv Gw Gx Gy Gz Ha Hb Hc Hd He Hf Hg Hh Hi Hj Hk Hl Hm Hn Ho Hp Hq Hr Hs Ht Hu Hv Hw Hx Hy Hz Ia Ib Ic Id Ie Ig Ih Ii Ij Ik Il Im Io Ip Iq Ir It Iu Iv Iw Ix Iy Iz Ja Jb Jc Jd Je Jf Jg Jh Ji Jj Jk Jl Jm Jn Jo Jp Jq Jr Js Jt Ju:Value) (Q0:Exit→Act→World→Prop)
  (hexit:∀ (Jv Jw Jx Jy Jz Ka Kb Kc Kd Ke Kf Kg Kh Ki Kj Kk Kl Km Kn Ko Kp Kq Kr Ks Kt Ku Kv Kw Kx Kz La Lb Lc Ld Le Lf Lg Lh Li Lj Lk:Value) (w':World),Below w.heap.size w w'→Q0 .normal ⟨#[c0,c1,c2,c3,.pointer (some ⟨V,0,none⟩),c5,c6,c7,c8,c9,Aa,Ab,Ad,Ae,oV (endV N.fin R),Jv,Jw,Ah,Ak,Al,Am,An,Ao,Ap,Aq,Ar,As,Av,Aw,Ax,Ay,Az,Ba,Bb,Bc,Be,Bf,Bh,Bi,Bj,Bk,Bm,Bn,Bo,Bp,Bq,Br,Bs,Bt,Bu,Bv,Bw,Bx,By,Bz,Ca,Cb,Cc,Cd,Ce,Cf,Cg,Ch,Ci,Cj,Ck,Cl,Cm,Cn,Co,Cp,Cq,Cr,Ct,Cu,Cv,Cw,Cx,Cy,Cz,Da,Db,Dc,Dd,De,Df,Dg,Dh,Di,Dj,Dk,Dl,Dn,.slice (some ⟨gk,0,none⟩) N.st N.st,.int .i64 (N.st:Int),Jx,Jy,Jz,Ka,Kb,Kc,Kd,Ke,Kf,Kg,Kh,Ki,Kj,Kk,Kl,Km,Kn,Ko,Kp,Kq,Kr,Ks,Kt,Ku,Kv,Kw,Kx,Kz,La,Lb,Lc,Ld,Le,Lf,Lg,Lh,Li,Lj,Lk,Fc,Fd,Fe,Ff,Fg,Fh,Fi,Fj,Fk,Fm,Fn,Fo,Fp,Fq,Fs,Ft,Fu,Fv,Fw,Fx,Fy,Fz,Ga,Gb,Gc,Gd,Ge,Gf,Gg,Gh,Gi,Gj,Gk,Gl,Gm,Gn,Go,Gp,Gq,Gr,Gs,Gt,Gu,Gv,Gw,Gx,Gy,Gz,Ha,Hb,Hc,Hd,He,Hf,Hg,Hh,Hi,Hj,Hk,Hl,Hm,Hn,Ho,Hp,Hq,Hr,Hs,Ht,Hu,Hv,Hw,Hx,Hy,Hz,Ia,Ib,Ic,Id,Ie,Ig,Ih,Ii,Ij,Ik,Il,Im,Io,Ip,Iq,Ir,It,Iu,Iv,Iw,Ix,Iy,Iz,Ja,Jb,Jc,Jd,Je,Jf,Jg,Jh,Ji,Jj,Jk,Jl,Jm,Jn,Jo,Jp,Jq,Jr,Js,Jt,Ju],[]⟩ w') :
  Code.wp Tryz.prog (dB 4) Q0 ⟨#[c0,c1,c2,c3,.pointer (some ⟨V,0,none⟩),c5,c6,c7,c8,c9,Aa,Ab,Ad,Ae,.int .i64 (-1),Af,Ag,Ah,Ak,Al,Am,An,Ao,Ap,Aq,Ar,As,Av,Aw,Ax,Ay,Az,Ba,Bb,Bc,Be,Bf,Bh,Bi,Bj,Bk,Bm,Bn,Bo,Bp,Bq,Br,Bs,Bt,Bu,Bv,Bw,Bx,By,Bz,Ca,Cb,Cc,Cd,Ce,Cf,Cg,Ch,Ci,Cj,Ck,Cl,Cm,Cn,Co,Cp,Cq,Cr,Ct,Cu,Cv,Cw,Cx,Cy,Cz,Da,Db,Dc,Dd,De,Df,Dg,Dh,Di,Dj,Dk,Dl,Dn,.slice (some ⟨gk,0,none⟩) N.st N.st,.int .i64 (N.st:Int),.int .i64 0,Dp,Dq,Dr,Dt,Du,Dv,Dw,Dx,Dy,Dz,Ea,Eb,Ec,Ed,Ee,Ef,Eg,Eh,Ei,Ej,Ek,El,Em,En,Eo,Ep,Eq,Er,Es,Et,Eu,Ev,Ew,Ex,Ey,Ez,Fa,Fb,Fc,Fd,Fe,Ff,Fg,Fh,Fi,Fj,Fk,Fm,Fn,Fo,Fp,Fq,Fs,Ft,Fu,Fv,Fw,Fx,Fy,Fz,Ga,Gb,Gc,Gd,Ge,Gf,Gg,Gh,Gi,Gj,Gk,Gl,Gm,Gn,Go,Gp,Gq,Gr,Gs,Gt,Gu,Gv,Gw,Gx,Gy,Gz,Ha,Hb,Hc,Hd,He,Hf,Hg,Hh,Hi,Hj,Hk,Hl,Hm,Hn,Ho,Hp,Hq,Hr,Hs,Ht,Hu,Hv,Hw,Hx,Hy,Hz,Ia,Ib,Ic,Id,Ie,Ig,Ih,Ii,Ij,Ik,Il,Im,Io,Ip,Iq,Ir,It,Iu,Iv,Iw,Ix,Iy,Iz,Ja,Jb,Jc,Jd,Je,Jf,Jg,Jh,Ji,Jj,Jk,Jl,Jm,Jn,Jo,Jp,Jq,Jr,Js,Jt,Ju],[]⟩ w:=by
 conv=>arg 2; whnf
 have hk0:=hid hk
 have hb0:=hid hb
 have hexit:=hid hexit
 have hst:=hS.out.st
 clear hk hb
 obtain ⟨EZ,hEZ⟩:∃ EZ,List.zipWith ends1 R N.fin=EZ:=⟨_,rfl⟩
 have hEl:Hid (EZ.length=N.st):=hid (by rw [←hEZ,List.length_zipWith,hRl.out,hS.out.fin,Nat.min_self])
 have hend:Hid (endV N.fin R=leastV EZ):=hid (by unfold endV; rw [hEZ])
 have hEq:Hid (∀ (q:Nat) (o:Option Nat) (v:Tw),R[q]? = some o→N.fin[q]? = some v→EZ[q]? = some (ends1 o v)):=hid fun q o v h1 h2=>by
  rw [←hEZ,List.getElem?_zipWith,h1,h2]
 clear hEZ
 go_wp2_with fail
 go_loopw [14,95] (fun ev iv wr=>∃ q:Nat,q≤N.st∧iv=.int .i64 (q:Int)∧ev=oV (leastV (EZ.take q))∧Below w.heap.size w wr) (fun _ iv _=>N.st-(intOf iv).toNat)
 case atStart=>exact ⟨0,by omega,rfl,rfl,Below.refl _ _⟩
 case round =>
  obtain ⟨q,hq,rfl,rfl,hbw⟩:=hrel
  by_cases hlt:q<N.st
  ·have i1:(q:Int)<(N.st:Int):=by omega
   have i0:(0:Int)≤(q:Int):=by omega
   obtain ⟨o,ho⟩:∃ o,R[q]? = some o:=⟨_,List.getElem?_eq_getElem (by rw [hRl.out]; exact hlt)⟩
   have hbr:Below W.heap.size W wr:=hb0.out.trans (hbw.mono hb0.out.size)
   have hkr:=hk0.out.fr (below_fr hbw (fun _=>False)) (fun h=>h)
   unfold Sb at hkr
   rw [hRl.out] at hkr
   have c1:=hkr.cell hlt
   have e1:fS R q=oV o:=by unfold fS; rw [List.getD_eq_getElem?_getD,ho]; rfl
   rw [e1] at c1
   clear e1 hkr
   unfold oV at c1
   obtain ⟨v,hv,b,off,rfl,hcs⟩:=(hS.out.next hbr).vm.mo.fin.get hlt
   have hsn:Hid (leastV (EZ.take (q+1))=twPlus (leastV (EZ.take q)) (ends1 o v)):=hid (by
    have h:=hEq.out q o v ho hv
    rw [List.take_succ_eq_append_getElem (List.getElem?_eq_some_iff.1 h).1,(List.getElem?_eq_some_iff.1 h).2,leastV_snoc])
   obtain ⟨L,hL⟩:∃ L,leastV (EZ.take q)=L:=⟨_,rfl⟩
   rw [hL] at hsn ⊢
   have hvC:=hS.out.cst.2.2 v (List.mem_of_getElem? hv)
   have hC:=hS.out.cC
   have HL:=hid hL
   clear hL
   have hSr:=hid (hS.out.next hbr)
   have hXc:=hSr.out.vw.cs
   have hends:=hid (ends_any syms N.st (.slice io N.st ci) (.slice ro nr cr) (.slice vo (N.st+1) cv) (some ⟨b,off,none⟩) cf N.fin q v hv wr hSr.out.vm.mo.fin)
   clear hv
   cases o with
   | none =>
    rw [oI_none] at c1
    have h2:Hid (leastV (EZ.take (q+1))=L):=hid (by rw [hsn.out]; exact twPlus_none L)
    have hbw:=hid hbw
    obtain ⟨ev,hev⟩:∃ ev,oV L=ev:=⟨_,rfl⟩
    rw [hev]
    have hev:=hid hev
    clear hcs
    go_wp2_with fail
    go_roundw
    case rel=>exact ⟨q+1,by omega,by go_num,by rw [h2.out]; exact hev.out.symm,hbw.out⟩
    case measure=>simp [intOf]; omega
   | some r =>
    rw [oI_some] at c1
    have hr:=hR.out r (List.mem_of_getElem? ho)
    clear ho
    have k1:((r:Int) != -1)=true:=by simp
    have k1':((r:Int) == -1)=false:=by rw [beq_eq_false_iff_ne]; omega
    have k2:¬ (r:Int) = -1:=by omega
    have hbw:=hid hbw
    have hbr:=hid hbr
    cases v with
    | none =>
     have h2:Hid (leastV (EZ.take (q+1))=L):=hid (by rw [hsn.out]; exact twPlus_none L)
     obtain ⟨ev,hev⟩:∃ ev,oV L=ev:=⟨_,rfl⟩
     rw [hev]
     have hev:=hid hev
     clear hcs
     obtain ⟨⟨y0,y1,y2,y3⟩,y4,y5,y6,y7⟩:=hSr.out.vw.eight
     go_wp2_with fail
     clear y0 y1 y2 y3 y4 y5 y6 y7
     refine hends.out.mono ?_; rintro e w2 ⟨rfl,hb2⟩
     have hb2:=hid hb2
     go_wp2_with fail
     go_roundw
     case rel=>exact ⟨q+1,by omega,by go_num,by rw [h2.out]; exact hev.out.symm,hbw.out.trans (hb2.out.mono hbw.out.size)⟩
     case measure=>simp [intOf]; omega
    | some c =>
     have c3:=hcs 3 _ rfl
     have hce:tc (some c)=c:=rfl
     rw [hce] at c3
     have hcb:c≤1048576:=Nat.le_trans hvC hC
     have i4:(c:Int)≤1048576:=by omega
     have i5:(0:Int)≤(c:Int):=by omega
     have i6:(r:Int)≤1000000000000:=by omega
     have i7:(0:Int)≤(r:Int):=by omega
     clear hvC hC hce hcs
     have c3:=hid c3
     cases L with
     | none =>
      have h2:Hid (leastV (EZ.take (q+1))=some (r+c)):=hid (by rw [hsn.out]; exact none_twPlus _)
      unfold oV
      rw [oI_none]
      obtain ⟨⟨y0,y1,y2,y3⟩,y4,y5,y6,y7⟩:=hSr.out.vw.eight
      go_wp2_with fail
      clear y0 y1 y2 y3 y4 y5 y6 y7
      refine hends.out.mono ?_; rintro e w2 ⟨rfl,hb2⟩
      have z5:=(hSr.out.next hb2).vw.cell (i:=5) rfl
      have z3:=(c3.out)
      have z3:=cell_later hb2 z3
      have hb2:=hid hb2
      go_wp2_with fail
      go_roundw
      case rel=>exact ⟨q+1,by omega,by go_num,by rw [h2.out]; show _=Value.int .i64 (((r+c:Nat):Int)); rw [Int.natCast_add],hbw.out.trans (hb2.out.mono hbw.out.size)⟩
      case measure=>simp [intOf]; omega
     | some m =>
      unfold oV
      rw [oI_some]
      have k3:((m:Int) == -1)=false:=by rw [beq_eq_false_iff_ne]; omega
      have k4:¬ (m:Int) = -1:=by omega
      by_cases hrm:r+c<m
      ·have h2:Hid (leastV (EZ.take (q+1))=some (r+c)):=hid (by rw [hsn.out]; show twPlus (some m) (some (r+c))=_; rw [twPlus_some,Nat.min_eq_right (by omega)])
       have k5:(r:Int)+(c:Int)<(m:Int):=by omega
       obtain ⟨⟨y0,y1,y2,y3⟩,y4,y5,y6,y7⟩:=hSr.out.vw.eight
       go_wp2_with fail
       clear y0 y1 y2 y3 y4 y5 y6 y7
       refine hends.out.mono ?_; rintro e w2 ⟨rfl,hb2⟩
       have z5:=(hSr.out.next hb2).vw.cell (i:=5) rfl
       have z3:=(c3.out)
       have z3:=cell_later hb2 z3
       have hb2:=hid hb2
       go_wp2_with fail
       go_roundw
       case rel=>exact ⟨q+1,by omega,by go_num,by rw [h2.out]; show _=Value.int .i64 (((r+c:Nat):Int)); rw [Int.natCast_add],hbw.out.trans (hb2.out.mono hbw.out.size)⟩
       case measure=>simp [intOf]; omega
      ·have h2:Hid (leastV (EZ.take (q+1))=some m):=hid (by rw [hsn.out]; show twPlus (some m) (some (r+c))=_; rw [twPlus_some,Nat.min_eq_left (by omega)])
       have k5:¬ (r:Int)+(c:Int)<(m:Int):=by omega
       obtain ⟨⟨y0,y1,y2,y3⟩,y4,y5,y6,y7⟩:=hSr.out.vw.eight
       go_wp2_with fail
       clear y0 y1 y2 y3 y4 y5 y6 y7
       refine hends.out.mono ?_; rintro e w2 ⟨rfl,hb2⟩
       have z5:=(hSr.out.next hb2).vw.cell (i:=5) rfl
       have z3:=(c3.out)
       have z3:=cell_later hb2 z3
       have hb2:=hid hb2
       go_wp2_with fail
       go_roundw
       case rel=>exact ⟨q+1,by omega,by go_num,by rw [h2.out]; rfl,hbw.out.trans (hb2.out.mono hbw.out.size)⟩
       case measure=>simp [intOf]; omega
  ·obtain rfl:q=N.st:=by omega
   have i1:¬ (N.st:Int)<(N.st:Int):=by omega
   have htk:EZ.take N.st=EZ:=List.take_of_length_le (by rw [hEl.out]; exact Nat.le_refl _)
   rw [htk,←hend.out]
   clear htk
   have hbw:=hid hbw
   obtain ⟨ev,hev⟩:∃ ev,oV (endV N.fin R)=ev:=⟨_,rfl⟩
   rw [hev] at hexit ⊢
   go_wp2_with fail
   exact hexit.out _ _ _ _ _ _ _ _ _ _ _ _ _ _ _ _ _ _ _ _ _ _ _ _ _ _ _ _ _ _ _ _ _ _ _ _ _ _ _ _ _ _ hbw.out
end
section
open Go.RowKit
structure Om (w:World) (O syms n:Nat) (iv fv av:Value) (ini fin:List Tw) (arcs:List Ac):Prop where
 blk:Bl O (auC syms n iv fv av) 30 w
 ini:FO 45 8 w (O+1) iv (ini.map twC)
 fin:FO 45 8 w (O+1) fv (fin.map twC)
 arcs:FO 54 11 w (O+1) av (arcs.map acC)
 ne:∀ g,iv.ownBlock=some g→fv.ownBlock≠some g
def OmB (O:Nat) (iv fv av:Value) (k:Nat):Prop:=k=O∨iv.ownBlock=some k∨fv.ownBlock=some k∨av.ownBlock=some k
theorem Om.next {w w':World} {O syms n:Nat} {iv fv av:Value} {ini fin:List Tw} {arcs:List Ac} (h:Om w O syms n iv fv av ini fin arcs) (hb:Below w.heap.size w w'):Om w' O syms n iv fv av ini fin arcs :=
 ⟨h.blk.next hb,h.ini.next hb,h.fin.next hb,h.arcs.next hb,h.ne⟩
theorem FO.fr {T:Nat→Prop} {e:TypeId} {k base:Nat} {v:Value} {css:List (List Value)} {w w':World} (h:FO e k w base v css) (hf:Fr T w w') (hT:∀ g,v.ownBlock=some g→¬ T g):FO e k w' base v css:=h.same fun g hg=>hf.block g (h.lt hg).2 (hT g hg)
theorem Om.fr {T:Nat→Prop} {w w':World} {O syms n:Nat} {iv fv av:Value} {ini fin:List Tw} {arcs:List Ac} (h:Om w O syms n iv fv av ini fin arcs) (hf:Fr T w w') (hT:∀ k,OmB O iv fv av k→¬ T k):Om w' O syms n iv fv av ini fin arcs :=
 ⟨h.blk.fr hf (hT O (.inl rfl)),h.ini.fr hf fun g hg=>hT g (.inr (.inl hg)),h.fin.fr hf fun g hg=>hT g (.inr (.inr (.inl hg))),h.arcs.fr hf fun g hg=>hT g (.inr (.inr (.inr hg))),h.ne⟩
theorem Om.lt {w:World} {O syms n:Nat} {iv fv av:Value} {ini fin:List Tw} {arcs:List Ac} (h:Om w O syms n iv fv av ini fin arcs) {k:Nat} (hk:OmB O iv fv av k):O≤k∧k<w.heap.size:=by
 rcases hk with rfl | hk | hk | hk
 ·exact ⟨Nat.le_refl _,h.blk.lt⟩
 ·have:=h.ini.lt hk; omega
 ·have:=h.fin.lt hk; omega
 ·have:=h.arcs.lt hk; omega
theorem own_ne' {e1 e2:TypeId} {k1 k2 b1 b2:Nat} {v1 v2:Value} {c1 c2:List (List Value)} {w:World} (h1:FO e1 k1 w b1 v1 c1) (h2:FO e2 k2 w b2 v2 c2) (he:e1≠e2):∀ g,v1.ownBlock=some g→v2.ownBlock≠some g:=fun g hg hg'=>by
 rcases own_ne h1.1 h2.1 he with h | h
 ·rw [h] at hg; cases hg
 ·exact h (by rw [hg,hg'])
set_option maxRecDepth 100000 in
set_option maxHeartbeats 4000000 in
theorem det_app (O syms n:Nat) (iv fv av:Value) (ini fin:List Tw) (arcs:List Ac) (b e:Tw) (w:World) (h:Om w O syms n iv fv av ini fin arcs) (hi:ini.length≤64) (hf:fin.length≤64)
  (c0 c1 c2 c3 c4 c5 c6 c7 c8 Aa Ab Ad Ae Af Ag Ah Ak Al Am An Ao Ap Aq Ar As Av Aw Ax Ay Az Ba Bb Bc Be Bf Bh Bi Bj Bk Bm Bn Bo Bp Bq Br Bs Bt Bu Bv Bw Bx By Bz Ca Cb Cc Cd Ce Cf Cg Ch Ci Cj Ck Cl Cm Cn Co Cp Cq Cr Ct Cu Cv Cw Cx Cy Cz Da Db Dc Dd De Df Dg Dh Di Dj Dk Dl Dn Dp Dq Dr Dt Du Dv Dw Dx Dy Dz Ea Eb Ec Ed Ee Ef Eg Eh Ei Ej Ek El Em En Eo Ep Eq Er Es Et Eu Ev Ew Ex Ey Ez Fa Fb Fc Fd Fe Ff Fg Fh Fi Fj Fk Fm Fn Fo Fp Fq Fs Ft Fu Fv Fw Fx Fy Fz Ga Gb Gc Gd Ge Gf Gg Gh Gi Gj Gk Gl Gm Gn Go Gp Gq Gr Gs Gt Gu Gv Gw Gx Gy Gz Ha Hb Hc Hd He Hf Hg Hh Hi Hj Hk Hl Hm Hn Ho Hp Hq Hr Hs Ht Hu Hv Hw Hx Hy Hz Ia Ib Ic Id Ie Ig Ih Ii Ij Ik Il Im Io Ip Iq Ir It Iu Iv Iw Ix Iy Iz Ja Jb Jc Jd Je Jf Jg Jh Ji Jj Jk Jl Jm Jn Jo Jp Jq Jr Js Jt Ju Jv Jw:Value) (Q0:Exit→Act→World→Prop) (hpan:∀ c (a:Act) d v w,Q0 (.panic c) (a.put d v) w→Q0 (.panic c) a w)
  (hexit:∀ (Jx Jy Jz Ka Kb Kc Kd Ke Kf Kg Kh Ki Kj Kk:Value) (iv' fv':Value) (w':World),Om w' O syms n iv' fv' av (ini++[b]) (fin++[e]) arcs→Fr (fun k=>k=O∨iv.ownBlock=some k∨fv.ownBlock=some k) w w'→Q0 .normal ⟨#[c0,c1,c2,c3,c4,c5,c6,c7,c8,.pointer (some ⟨O,0,none⟩),oV b,Aa,Ab,Ad,oV e,Ae,Af,Ag,Ah,Ak,Al,Am,An,Ao,Ap,Aq,Ar,As,Av,Aw,Ax,Ay,Az,Ba,Bb,Bc,Be,Bf,Bh,Bi,Bj,Bk,Bm,Bn,Bo,Bp,Bq,Br,Bs,Bt,Bu,Bv,Bw,Bx,By,Bz,Ca,Cb,Cc,Cd,Ce,Cf,Cg,Ch,Ci,Cj,Ck,Cl,Cm,Cn,Co,Cp,Cq,Cr,Ct,Cu,Cv,Cw,Cx,Cy,Cz,Da,Db,Dc,Dd,De,Df,Dg,Dh,Di,Dj,Dk,Dl,Dn,Dp,Dq,Dr,Dt,Du,Dv,Dw,Dx,Dy,Dz,Ea,Eb,Ec,Ed,Ee,Ef,Eg,Eh,Ei,Ej,Ek,El,Em,En,Eo,Ep,Eq,Er,Es,Et,Eu,Ev,Ew,Ex,Ey,Ez,Fa,Fb,Fc,Fd,Jx,Jy,Jz,Ka,Kb,Kc,Kd,Ke,Kf,Kg,Kh,Ki,Kj,Kk,Fu,Fv,Fw,Fx,Fy,Fz,Ga,Gb,Gc,Gd,Ge,Gf,Gg,Gh,Gi,Gj,Gk,Gl,Gm,Gn,Go,Gp,Gq,Gr,Gs,Gt,Gu,Gv,Gw,Gx,Gy,Gz,Ha,Hb,Hc,Hd,He,Hf,Hg,Hh,Hi,Hj,Hk,Hl,Hm,Hn,Ho,Hp,Hq,Hr,Hs,Ht,Hu,Hv,Hw,Hx,Hy,Hz,Ia,Ib,Ic,Id,Ie,Ig,Ih,Ii,Ij,Ik,Il,Im,Io,Ip,Iq,Ir,It,Iu,Iv,Iw,Ix,Iy,Iz,Ja,Jb,Jc,Jd,Je,Jf,Jg,Jh,Ji,Jj,Jk,Jl,Jm,Jn,Jo,Jp,Jq,Jr,Js,Jt,Ju,Jv,Jw],[]⟩ w') :
  Code.wp Tryz.prog (dR 27) Q0 ⟨#[c0,c1,c2,c3,c4,c5,c6,c7,c8,.pointer (some ⟨O,0,none⟩),oV b,Aa,Ab,Ad,oV e,Ae,Af,Ag,Ah,Ak,Al,Am,An,Ao,Ap,Aq,Ar,As,Av,Aw,Ax,Ay,Az,Ba,Bb,Bc,Be,Bf,Bh,Bi,Bj,Bk,Bm,Bn,Bo,Bp,Bq,Br,Bs,Bt,Bu,Bv,Bw,Bx,By,Bz,Ca,Cb,Cc,Cd,Ce,Cf,Cg,Ch,Ci,Cj,Ck,Cl,Cm,Cn,Co,Cp,Cq,Cr,Ct,Cu,Cv,Cw,Cx,Cy,Cz,Da,Db,Dc,Dd,De,Df,Dg,Dh,Di,Dj,Dk,Dl,Dn,Dp,Dq,Dr,Dt,Du,Dv,Dw,Dx,Dy,Dz,Ea,Eb,Ec,Ed,Ee,Ef,Eg,Eh,Ei,Ej,Ek,El,Em,En,Eo,Ep,Eq,Er,Es,Et,Eu,Ev,Ew,Ex,Ey,Ez,Fa,Fb,Fc,Fd,Fe,Ff,Fg,Fh,Fi,Fj,Fk,Fm,Fn,Fo,Fp,Fq,Fs,Ft,Fu,Fv,Fw,Fx,Fy,Fz,Ga,Gb,Gc,Gd,Ge,Gf,Gg,Gh,Gi,Gj,Gk,Gl,Gm,Gn,Go,Gp,Gq,Gr,Gs,Gt,Gu,Gv,Gw,Gx,Gy,Gz,Ha,Hb,Hc,Hd,He,Hf,Hg,Hh,Hi,Hj,Hk,Hl,Hm,Hn,Ho,Hp,Hq,Hr,Hs,Ht,Hu,Hv,Hw,Hx,Hy,Hz,Ia,Ib,Ic,Id,Ie,Ig,Ih,Ii,Ij,Ik,Il,Im,Io,Ip,Iq,Ir,It,Iu,Iv,Iw,Ix,Iy,Iz,Ja,Jb,Jc,Jd,Je,Jf,Jg,Jh,Ji,Jj,Jk,Jl,Jm,Jn,Jo,Jp,Jq,Jr,Js,Jt,Ju,Jv,Jw],[]⟩ w:=by
 conv=>arg 2; whnf
 have hdr:=(Below.refl w.heap.size w).drew
 have h1:=h.next hdr
 have hS:w.drew.cell? ⟨O,4,none⟩=some iv∧w.drew.cell? ⟨O,5,none⟩=some fv:=⟨h1.blk.cell rfl,h1.blk.cell rfl⟩
 have hK:∀ w' w'':World,(w'.cell? ⟨O,4,none⟩=some iv∧w'.cell? ⟨O,5,none⟩=some fv)→Below w'.heap.size w' w''→(w''.cell? ⟨O,4,none⟩=some iv∧w''.cell? ⟨O,5,none⟩=some fv):=fun w' w'' h hb=>⟨cell_later hb h.1,cell_later hb h.2⟩
 refine wp_region_D (fun w'=>w'.cell? ⟨O,4,none⟩=some iv∧w'.cell? ⟨O,5,none⟩=some fv) [13,14,15] (by kernel_rfl) ?_
 refine wpThp hpan (some 134) (i:=0) rfl rfl hS ?_
 refine wpTh hpan (some 135) (i:=1) (v:=?_) rfl rfl (Or.inl ⟨by rfl,?_⟩) hS ?_
 rotate_left
 ·intro wz hw; obtain ⟨a0,a1⟩:=hw; first | (go_simp; done) | (go_simp; with_reducible rfl)
 refine wpThp hpan (some 136) (i:=2) rfl rfl hS ?_
 refine wpThp hpan (some 140) (i:=6) rfl rfl hS ?_
 refine wpTh hpan (some 141) (i:=7) (v:=?_) rfl rfl (Or.inl ⟨by rfl,?_⟩) hS ?_
 rotate_left
 ·intro wz hw; obtain ⟨a0,a1⟩:=hw; first | (go_simp; done) | (go_simp; with_reducible rfl)
 refine wpThp hpan (some 142) (i:=8) rfl rfl hS ?_
 refine wpAnyD_one (i:=3) (by kernel_rfl) rfl (fun KK hKK=>?_)
 go_simp
 go_at_call 31
 refine (cost_any b _).mono ?_; rintro ee w2 ⟨rfl,hb2⟩
 have h2:=h1.next hb2
 try go_simp
 refine hKK _ _ ⟨fun _=>(hK _ _ hS hb2),?_⟩; clear hKK KK
 refine wpAnyD_one (i:=4) (by kernel_rfl) rfl (fun KK hKK=>?_)
 have hb3:Below w2.heap.size w2 (w2.alloc (.cells (twC b).toArray 45)):=below_alloc _
 have hn3:=Cs.fresh w2 (twC b) 45
 have h3:=h2.next hb3
 go_simp
 refine hKK _ _ ⟨fun _=>(hK _ _ (hK _ _ hS hb2) hb3),?_⟩; clear hKK KK
 refine wpAnyD_one (i:=5) (by kernel_rfl) rfl (fun KK hKK=>?_)
 rw [if_pos (by rfl)]
 refine op_appF (.tmp 135) (.tmp 138) 27 rfl 45 (.agg #[.bool false,.slice none 0 0,.slice none 0 0,.int .i64 0,.bool false,.int .u64 0,.slice none 0 0,.slice none 0 0]) 8 128 Tryz.underlying27 Tryz.infoTw rfl (by decide) (O+1) iv _ rfl h3.ini w2.heap.size 0 1 1 [twC b] rfl rfl (by decide) (twC_len [b]) (by simpa using hn3) (twC_one [b]) (by rw [List.length_map]; omega) (by rw [List.length_map]; omega) h3.blk.lt ?_
 intro iv' w5 hi5 hg5 hb5 ho5
 have hO5:=h3.blk.under hb5 (Nat.lt_succ_self _)
 have hf5:FO 45 8 w5 (O+1) fv (fin.map twC):=h3.fin.fr (grown_fr (T:=fun k=>iv.ownBlock=some k) hg5 fun g hg=>hg) (fun g hg hg'=>h3.ne g hg' hg)
 have ha5:FO 54 11 w5 (O+1) av (arcs.map acC):=h3.arcs.fr (grown_fr (T:=fun k=>iv.ownBlock=some k) hg5 fun g hg=>hg) (fun g hg hg'=>own_ne' h3.ini h3.arcs (by decide) g hg' hg)
 have hr5:∀ g,iv'.ownBlock=some g→fv.ownBlock≠some g:=fun g hg hg'=>by
  rcases ho5 with h | h
  ·exact h3.ne g (h▸hg) hg'
  ·have e1:(w2.alloc (.cells (twC b).toArray 45)).heap.size=g:=Option.some.inj (h.symm.trans hg)
   have:=(h3.fin.lt hg').2; omega
 have hF5:=(below_fr (below_chain (below_chain hdr hb2) hb3) (fun k=>iv.ownBlock=some k)).trans (grown_fr hg5 fun g hg=>hg)
 refine hKK _ _ ⟨fun _=>(⟨hO5.cell rfl,hO5.cell rfl⟩),?_⟩; clear hKK KK
 refine wpThp hpan (some 146) (i:=12) rfl rfl (⟨hO5.cell rfl,hO5.cell rfl⟩) ?_
 refine wpAnyD_one (i:=9) (by kernel_rfl) rfl (fun KK hKK=>?_)
 go_simp
 go_at_call 31
 refine (cost_any e _).mono ?_; rintro ee w6 ⟨rfl,hb6⟩
 try go_simp
 refine hKK _ _ ⟨fun _=>(hK _ _ (⟨hO5.cell rfl,hO5.cell rfl⟩) hb6),?_⟩; clear hKK KK
 refine wpAnyD_one (i:=10) (by kernel_rfl) rfl (fun KK hKK=>?_)
 have hb7:Below w6.heap.size w6 (w6.alloc (.cells (twC e).toArray 45)):=below_alloc _
 have hn7:=Cs.fresh w6 (twC e) 45
 have hb57:=below_chain hb6 hb7
 have hO7:=hO5.next hb57
 have hf7:=hf5.next hb57
 have ha7:=ha5.next hb57
 have hi7:=hi5.next hb57
 go_simp
 refine hKK _ _ ⟨fun _=>(hK _ _ (hK _ _ (⟨hO5.cell rfl,hO5.cell rfl⟩) hb6) hb7),?_⟩; clear hKK KK
 refine wpAnyD_one (i:=11) (by kernel_rfl) rfl (fun KK hKK=>?_)
 rw [if_pos (by rfl)]
 refine op_appF (.tmp 141) (.tmp 144) 27 rfl 45 (.agg #[.bool false,.slice none 0 0,.slice none 0 0,.int .i64 0,.bool false,.int .u64 0,.slice none 0 0,.slice none 0 0]) 8 128 Tryz.underlying27 Tryz.infoTw rfl (by decide) (O+1) fv _ rfl hf7 w6.heap.size 0 1 1 [twC e] rfl rfl (by decide) (twC_len [e]) (by simpa using hn7) (twC_one [e]) (by rw [List.length_map]; omega) (by rw [List.length_map]; omega) hO7.lt ?_
 intro fv' w8 hf8 hg8 hb8 ho8
 have hO8:=hO7.under hb8 (Nat.lt_succ_self _)
 have hi8:FO 45 8 w8 (O+1) iv' ((ini.map twC)++[twC b]):=hi7.fr (grown_fr (T:=fun k=>fv.ownBlock=some k) hg8 fun g hg=>hg) (fun g hg hg'=>hr5 g hg hg')
 have ha8:FO 54 11 w8 (O+1) av (arcs.map acC):=ha7.fr (grown_fr (T:=fun k=>fv.ownBlock=some k) hg8 fun g hg=>hg) (fun g hg hg'=>own_ne' hf7 ha7 (by decide) g hg' hg)
 have hr8:∀ g,iv'.ownBlock=some g→fv'.ownBlock≠some g:=fun g hg hg'=>by
  rcases ho8 with h | h
  ·exact hr5 g hg (h▸hg')
  ·have e1:(w6.alloc (.cells (twC e).toArray 45)).heap.size=g:=Option.some.inj (h.symm.trans hg')
   have:=(hi7.lt hg).2; omega
 have hF8:=(hF5.mono (T':=fun k=>k=O∨iv.ownBlock=some k∨fv.ownBlock=some k) fun k _ h=>.inr (.inl h)).trans ((below_fr hb57 _).trans ((grown_fr (T:=fun k=>fv.ownBlock=some k) hg8 fun g hg=>hg).mono fun k _ h=>.inr (.inr h)))
 obtain ⟨ai,ki,hiv⟩:=hi8.form
 obtain ⟨af,kf,hfv⟩:=hf8.form
 subst hiv hfv
 have y4:=hO8.cell (i:=4) rfl
 have y4f:=hO8.free 4
 have y5:=hO8.cell (i:=5) rfl
 have y5f:=hO8.free 5
 refine hKK _ _ ⟨fun _=>(⟨hO8.cell rfl,hO8.cell rfl⟩),?_⟩; clear hKK KK
 refine wpAnyD_one (i:=13) (by kernel_rfl) rfl (fun KK hKK=>?_)
 go_simp
 refine hKK _ _ ⟨fun hn=>absurd (by simp) hn,?_⟩; clear hKK KK
 refine wpAnyD_one (i:=14) (by kernel_rfl) rfl (fun KK hKK=>?_)
 go_simp
 refine hKK _ _ ⟨fun hn=>absurd (by simp) hn,?_⟩; clear hKK KK
 refine wpAnyD_one (i:=15) (by kernel_rfl) rfl (fun KK hKK=>?_)
 go_simp
 refine hKK _ _ ⟨fun hn=>absurd (by simp) hn,?_⟩; clear hKK KK
 refine wpAnyD_done (by kernel_rfl) ?_ _
 have hF9:Fr (fun k=>k=O) w8 ((w8.setCell ⟨O,4,none⟩ (.slice ai (ini.length+1) ki)).setCell ⟨O,5,none⟩ (.slice af (fin.length+1) kf)):=(Fr.set (T:=fun k=>k=O) w8 (p:=⟨O,4,none⟩) rfl _).trans (Fr.set (T:=fun k=>k=O) _ (p:=⟨O,5,none⟩) rfl _)
 simp only [List.length_append,List.length_map,List.length_cons,List.length_nil] at *
 refine hexit _ _ _ _ _ _ _ _ _ _ _ _ _ _ (.slice ai (ini.length+1) ki) (.slice af (fin.length+1) kf) _ ?_ ?_
 ·refine ⟨(hO8.put 4 _).put 5 _,?_,?_,?_,?_⟩
  ·rw [List.map_append]; exact hi8.fr hF9 (fun g hg e=>by have:=(hi8.lt hg).1; omega)
  ·rw [List.map_append]; exact hf8.fr hF9 (fun g hg e=>by have:=(hf8.lt hg).1; omega)
  ·exact ha8.fr hF9 (fun g hg e=>by have:=(ha8.lt hg).1; omega)
  ·exact hr8
 ·exact hF8.trans (hF9.mono fun k _ h=>.inl h)
end
section
open Go.RowKit
set_option maxRecDepth 100000 in
set_option maxHeartbeats 4000000 in
theorem det_arc (O syms n:Nat) (iv fv av:Value) (ini fin:List Tw) (arcs:List Ac) (k l num:Nat) (c:Tw) (w:World) (h:Om w O syms n iv fv av ini fin arcs) (hl:arcs.length≤4096)
  (c0 c1 c2 c3 c4 c5 c6 c7 c8 Aa Ab Ad Ae Af Ag Ah Ak Al Am An Ao Ap Aq Ar As Av Aw Ax Ay Az Ba Bb Bc Be Bf Bh Bi Bj Bk Bm Bn Bo Bp Bq Br Bs Bt Bu Bv Bw Bx By Bz Ca Cb Cc Cd Ce Cf Cg Ch Ci Cj Ck Cl Cm Cn Co Cp Cq Cr Ct Cu Cv Cw Cx Cy Cz Da Db Dc Dd De Df Dg Dh Di Dj Dk Dl Dn Dp Dq Dr Dt Du Dv Dw Dx Dy Dz Ea Eb Ec Ed Ee Ef Eg Eh Ei Ej Ek El Em En Eo Ep Eq Er Es Et Eu Ev Ew Ex Ey Ez Fa Fb Fc Fd Fe Ff Fg Fh Fi Fj Fk Fm Fn Fo Fp Fq Fs Ft Fu Fv Fw Fx Fy Fz Ga Gb Gc Gd Ge Gf Gg Gh Gi Gj Gk Gl Gm Gn Go Gp Gq Gr Gs Gt Gu Gv Gw Gx Gy Gz Ha Hb Hc Hd He Hf Hg Hh Hi Hj Hk Hl Hm Hn Ho Hp Hq Hr Hs Ht Hu Hv Hw Hx Hy Hz Ia Ib Ic Id Ie Ig Ih Ii Ij Ik Il Im Io Ip Iq Ir It Iu Iv Iw Ix Iy Iz Ja Jb Jc Jd Je Jf Jg Jh Ji Jj Jk Jl Jm Jn Jo Jp Jq Jr Js Jt Ju:Value) (Q0:Exit→Act→World→Prop) (hpan:∀ c (a:Act) d v w,Q0 (.panic c) (a.put d v) w→Q0 (.panic c) a w)
  (hexit:∀ (Jv Jw Jx Jy Jz Ka Kb Kc Kd Ke Kf:Value) (av':Value) (w':World),Om w' O syms n iv fv av' ini fin (arcs++[(k,l,num,c)])→Fr (fun k=>k=O∨av.ownBlock=some k) w w'→Q0 .normal ⟨#[c0,c1,c2,c3,c4,c5,c6,c7,c8,.pointer (some ⟨O,0,none⟩),Aa,Ab,Ad,.int .i64 (k:Int),Ae,Af,Ag,.int .i64 (l:Int),Ah,Ak,Al,Am,An,oV c,.int .i64 (num:Int),Ao,Ap,Aq,Ar,As,Av,Aw,Ax,Ay,Az,Ba,Bb,Bc,Be,Bf,Bh,Bi,Bj,Bk,Bm,Bn,Bo,Bp,Bq,Br,Bs,Bt,Bu,Bv,Bw,Bx,By,Bz,Ca,Cb,Cc,Cd,Ce,Cf,Cg,Ch,Ci,Cj,Ck,Cl,Cm,Cn,Co,Cp,Cq,Cr,Ct,Cu,Cv,Cw,Cx,Cy,Cz,Da,Db,Dc,Dd,De,Df,Dg,Dh,Di,Dj,Dk,Dl,Dn,Dp,Dq,Dr,Dt,Du,Dv,Dw,Dx,Dy,Dz,Ea,Eb,Ec,Ed,Ee,Ef,Eg,Eh,Ei,Ej,Ek,El,Em,En,Eo,Ep,Eq,Er,Es,Et,Eu,Ev,Ew,Ex,Ey,Ez,Fa,Fb,Fc,Fd,Fe,Ff,Fg,Fh,Fi,Fj,Fk,Fm,Fn,Fo,Fp,Fq,Fs,Ft,Fu,Fv,Fw,Fx,Fy,Fz,Ga,Gb,Gc,Gd,Ge,Gf,Gg,Gh,Gi,Gj,Gk,Gl,Gm,Gn,Go,Gp,Gq,Gr,Gs,Gt,Gu,Gv,Gw,Gx,Gy,Gz,Ha,Hb,Hc,Hd,He,Hf,Hg,Hh,Hi,Hj,Hk,Hl,Hm,Hn,Ho,Hp,Hq,Hr,Hs,Ht,Hu,Hv,Hw,Hx,Hy,Hz,Ia,Ib,Ic,Id,Ie,Ig,Ih,Ii,Ij,Ik,Il,Im,Io,Ip,Iq,Ir,It,Iu,Iv,Iw,Ix,Iy,Iz,Ja,Jv,Jw,Jx,Jy,Jz,Ka,Kb,Kc,Kd,Ke,Kf,Jm,Jn,Jo,Jp,Jq,Jr,Js,Jt,Ju],[]⟩ w') :
  Code.wp Tryz.prog (dR 54) Q0 ⟨#[c0,c1,c2,c3,c4,c5,c6,c7,c8,.pointer (some ⟨O,0,none⟩),Aa,Ab,Ad,.int .i64 (k:Int),Ae,Af,Ag,.int .i64 (l:Int),Ah,Ak,Al,Am,An,oV c,.int .i64 (num:Int),Ao,Ap,Aq,Ar,As,Av,Aw,Ax,Ay,Az,Ba,Bb,Bc,Be,Bf,Bh,Bi,Bj,Bk,Bm,Bn,Bo,Bp,Bq,Br,Bs,Bt,Bu,Bv,Bw,Bx,By,Bz,Ca,Cb,Cc,Cd,Ce,Cf,Cg,Ch,Ci,Cj,Ck,Cl,Cm,Cn,Co,Cp,Cq,Cr,Ct,Cu,Cv,Cw,Cx,Cy,Cz,Da,Db,Dc,Dd,De,Df,Dg,Dh,Di,Dj,Dk,Dl,Dn,Dp,Dq,Dr,Dt,Du,Dv,Dw,Dx,Dy,Dz,Ea,Eb,Ec,Ed,Ee,Ef,Eg,Eh,Ei,Ej,Ek,El,Em,En,Eo,Ep,Eq,Er,Es,Et,Eu,Ev,Ew,Ex,Ey,Ez,Fa,Fb,Fc,Fd,Fe,Ff,Fg,Fh,Fi,Fj,Fk,Fm,Fn,Fo,Fp,Fq,Fs,Ft,Fu,Fv,Fw,Fx,Fy,Fz,Ga,Gb,Gc,Gd,Ge,Gf,Gg,Gh,Gi,Gj,Gk,Gl,Gm,Gn,Go,Gp,Gq,Gr,Gs,Gt,Gu,Gv,Gw,Gx,Gy,Gz,Ha,Hb,Hc,Hd,He,Hf,Hg,Hh,Hi,Hj,Hk,Hl,Hm,Hn,Ho,Hp,Hq,Hr,Hs,Ht,Hu,Hv,Hw,Hx,Hy,Hz,Ia,Ib,Ic,Id,Ie,Ig,Ih,Ii,Ij,Ik,Il,Im,Io,Ip,Iq,Ir,It,Iu,Iv,Iw,Ix,Iy,Iz,Ja,Jb,Jc,Jd,Je,Jf,Jg,Jh,Ji,Jj,Jk,Jl,Jm,Jn,Jo,Jp,Jq,Jr,Js,Jt,Ju],[]⟩ w:=by
 conv=>arg 2; whnf
 have hdr:=(Below.refl w.heap.size w).drew
 have h1:=h.next hdr
 have hS:w.drew.cell? ⟨O,6,none⟩=some av:=h1.blk.cell rfl
 have hK:∀ w' w'':World,w'.cell? ⟨O,6,none⟩=some av→Below w'.heap.size w' w''→w''.cell? ⟨O,6,none⟩=some av:=fun w' w'' h hb=>cell_later hb h
 refine wp_region_D (fun w'=>w'.cell? ⟨O,6,none⟩=some av) [11] (by kernel_rfl) ?_
 refine wpThp hpan (some 232) (i:=0) rfl rfl hS ?_
 refine wpTh hpan (some 233) (i:=1) (v:=?_) rfl rfl (Or.inl ⟨by rfl,?_⟩) hS ?_
 rotate_left
 ·intro wz hw; have a0:=hw; first | (go_simp; done) | (go_simp; with_reducible rfl)
 refine wpThp hpan (some 234) (i:=2) rfl rfl hS ?_
 refine wpThp hpan (some 235) (i:=3) rfl rfl hS ?_
 refine wpThp hpan (some 236) (i:=4) rfl rfl hS ?_
 refine wpThp hpan (some 237) (i:=5) rfl rfl hS ?_
 refine wpAnyD_one (i:=6) (by kernel_rfl) rfl (fun KK hKK=>?_)
 go_simp
 go_at_call 31
 refine (cost_any c _).mono ?_; rintro ee w2 ⟨rfl,hb2⟩
 have h2:=h1.next hb2
 try go_simp
 refine hKK _ _ ⟨fun _=>(hK _ _ hS hb2),?_⟩; clear hKK KK
 refine wpThp hpan (some 239) (i:=7) rfl rfl (hK _ _ hS hb2) ?_
 refine wpAnyD_one (i:=8) (by kernel_rfl) rfl (fun KK hKK=>?_)
 have hb3:Below w2.heap.size w2 (w2.alloc (.cells (acC (k,l,num,c)).toArray 54)):=below_alloc _
 have hn3:=Cs.fresh w2 (acC (k,l,num,c)) 54
 have h3:=h2.next hb3
 go_simp
 refine hKK _ _ ⟨fun _=>(hK _ _ (hK _ _ hS hb2) hb3),?_⟩; clear hKK KK
 refine wpAnyD_one (i:=9) (by kernel_rfl) rfl (fun KK hKK=>?_)
 rw [if_pos (by rfl)]
 refine op_appF (.tmp 233) (.tmp 240) 28 rfl 54 _ 11 152 Tryz.underlying28 Tryz.infoArc rfl (by decide) (O+1) av _ rfl h3.arcs w2.heap.size 0 1 1 [acC (k,l,num,c)] rfl rfl (by decide) (acC_len [(k,l,num,c)]) (by simp only [List.flatten_cons,List.flatten_nil,List.append_nil]; exact hn3) (acC_one [(k,l,num,c)]) (by rw [List.length_map]; omega) (by rw [List.length_map]; omega) h3.blk.lt ?_
 intro av' w5 ha5 hg5 hb5 ho5
 have hO5:=h3.blk.under hb5 (Nat.lt_succ_self _)
 have hf5:FO 45 8 w5 (O+1) fv (fin.map twC):=h3.fin.fr (grown_fr (T:=fun k=>av.ownBlock=some k) hg5 fun g hg=>hg) (fun g hg hg'=>own_ne' h3.arcs h3.fin (by decide) g hg' hg)
 have hi5:FO 45 8 w5 (O+1) iv (ini.map twC):=h3.ini.fr (grown_fr (T:=fun k=>av.ownBlock=some k) hg5 fun g hg=>hg) (fun g hg hg'=>own_ne' h3.arcs h3.ini (by decide) g hg' hg)
 have hF5:=(below_fr (below_chain (below_chain hdr hb2) hb3) (fun k=>av.ownBlock=some k)).trans (grown_fr hg5 fun g hg=>hg)
 obtain ⟨ai,ki,hav⟩:=ha5.form
 subst hav
 have y6:=hO5.cell (i:=6) rfl
 have y6f:=hO5.free 6
 refine hKK _ _ ⟨fun _=>(hO5.cell rfl),?_⟩; clear hKK KK
 refine wpThp hpan (some 242) (i:=10) rfl rfl (hO5.cell rfl) ?_
 refine wpAnyD_one (i:=11) (by kernel_rfl) rfl (fun KK hKK=>?_)
 go_simp
 refine hKK _ _ ⟨fun hn=>absurd (by simp) hn,?_⟩; clear hKK KK
 refine wpAnyD_done (by kernel_rfl) ?_ _
 simp only [List.length_append,List.length_map,List.length_cons,List.length_nil,Nat.zero_add] at hO5 ha5 ⊢
 have hF9:Fr (fun k=>k=O) w5 (w5.setCell ⟨O,6,none⟩ (.slice ai (arcs.length+1) ki)):=Fr.set (T:=fun k=>k=O) w5 (p:=⟨O,6,none⟩) rfl _
 refine hexit _ _ _ _ _ _ _ _ _ _ _ (.slice ai (arcs.length+1) ki) _ ?_ ?_
 ·refine ⟨hO5.put 6 _,hi5.fr hF9 (fun g hg e=>by have:=(hi5.lt hg).1; omega),hf5.fr hF9 (fun g hg e=>by have:=(hf5.lt hg).1; omega),?_,h3.ne⟩
  rw [List.map_append]; exact ha5.fr hF9 (fun g hg e=>by have:=(ha5.lt hg).1; omega)
 ·exact (hF5.mono (T':=fun k=>k=O∨av.ownBlock=some k) fun k _ h=>.inr h).trans (hF9.mono fun k _ h=>.inl h)
end
end Go.Proofs.YtnapapijhhldpaaGreatDoor

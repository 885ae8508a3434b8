/-
  Texts joined by program: Tte, Dk, Ttf. No condition of its own.
-/
import Derived.Test.YtnapapijhhldpaaGreatDoorJcBW
namespace Go.Proofs.YtnapapijhhldpaaGreatDoor
set_option linter.unusedSimpArgs false
set_option linter.unusedVariables false
section
open Go.RowKit
set_option maxRecDepth 100000 in
set_option maxHeartbeats 4000000 in
theorem aut_there (O syms st X:Nat) (iv fv av:Value) (ini fin:List Tw) (arcs:List Ac) (x:Ac) (w:World) (hA:Om w O syms st iv fv av ini fin arcs) (hla:arcs.length≤64) (hX:Bl X (acC x) 54 w)
  (c0 c1 c2 c3 c4 c5 c6 c7 c9 Aa Ab Ad Ae Af Ag Ah Ak Al Am An Ao Ap Aq Ar As Av Aw Ax Ay Az Ba Bb Bc Be Bf Bh Bi Bj Bk Bm Bn Bo Bp Bq Br Bs Bt Bu Bv Bw Bx By Bz Ca Cb Cc Cd Ce Cf Cg Ch Ci Cj Ck Cl Cm Cn Co Cp Cq Cr Ct Cu Cv Cw Cx Cy Cz Da Db Dc Dd De Df Dg Dh Di Dj Dk Dl Dn Dp Dq Dr Dt Du Dv Dw Dx Dy Dz Ea Eb Ec Ed Ee Ef Eg Eh Ei Ej Ek El Em En Eo Ep Eq Er Es Et Eu Ev Ew Ex Ey Ez Fa Fb Fc Fd Fe Ff Fg Fh Fi Fj Fk Fm Fn Fo Fp Fq Fs Ft Fu Fv Fw Fx Fy Fz Ga Gb Gc Gd Ge Gf Gg Gh Gi Gj Gk Gl Gm Gn Go Gp Gq Gr Gs Gt Gu Gv Gw Gx Gy Gz Ha Hb Hc Hd:Value) (Q0:Exit→Act→World→Prop) (hpan:∀ c (a:Act) d v w,Q0 (.panic c) (a.put d v) w→Q0 (.panic c) a w)
  (hexit:∀ (He Hf Hg Hh Hi Hj Hk Hl Hm Hn Ho Hp Hq Hr Hs Ht Hu Hv Hw Hx Hy Hz Ia Ib Ic Id Ie Ig Ih Ii Ij:Value) (b:Bool) (w':World),(b=false→∀ y∈arcs,¬ (y.1=x.1∧y.2.1=x.2.1))→Fr (fun _=>False) w w'→Q0 .normal ⟨#[c0,c1,c2,c3,c4,c5,c6,c7,.pointer (some ⟨O,0,none⟩),c9,Aa,Ab,Ad,.pointer (some ⟨X,0,none⟩),.bool b,He,Ae,Af,Ag,Ah,Ak,Al,Am,An,Ao,Ap,Aq,Ar,As,Av,Aw,Ax,Ay,Az,Ba,Bb,Bc,Be,Bf,Bh,Bi,Bj,Bk,Bm,Bn,Bo,Bp,Bq,Br,Bs,Bt,Bu,Bv,Bw,Bx,By,Bz,Ca,Cb,Cc,Cd,Ce,Cf,Cg,Ch,Ci,Cj,Ck,Cl,Cm,Cn,Co,Cp,Cq,Cr,Ct,Cu,Cv,Cw,Cx,Cy,Cz,Da,Db,Dc,Dd,De,Df,Dg,Dh,Di,Dj,Dk,Dl,Dn,Dp,Dq,Dr,Dt,Du,Dv,Dw,Dx,Dy,Dz,Ea,Eb,Ec,Ed,Ee,Ef,Eg,Eh,Ei,Ej,Ek,El,Em,En,Eo,Ep,Eq,Er,Es,Et,Eu,Ev,Ew,Ex,Ey,Ez,Fa,Fb,Fc,Fd,Fe,Ff,Fg,Fh,Fi,Fj,Fk,Fm,Hf,Hg,Hh,Hi,Hj,Hk,Hl,Hm,Hn,Ho,Hp,Hq,Hr,Hs,Ht,Hu,Hv,Hw,Hx,Hy,Hz,Ia,Ib,Ic,Id,Ie,Ig,Ih,Ii,Ij,Gs,Gt,Gu,Gv,Gw,Gx,Gy,Gz,Ha,Hb,Hc,Hd],[]⟩ w') :
  Code.wp Tryz.prog (wB 4) Q0 ⟨#[c0,c1,c2,c3,c4,c5,c6,c7,.pointer (some ⟨O,0,none⟩),c9,Aa,Ab,Ad,.pointer (some ⟨X,0,none⟩),.bool false,.int .i64 0,Ae,Af,Ag,Ah,Ak,Al,Am,An,Ao,Ap,Aq,Ar,As,Av,Aw,Ax,Ay,Az,Ba,Bb,Bc,Be,Bf,Bh,Bi,Bj,Bk,Bm,Bn,Bo,Bp,Bq,Br,Bs,Bt,Bu,Bv,Bw,Bx,By,Bz,Ca,Cb,Cc,Cd,Ce,Cf,Cg,Ch,Ci,Cj,Ck,Cl,Cm,Cn,Co,Cp,Cq,Cr,Ct,Cu,Cv,Cw,Cx,Cy,Cz,Da,Db,Dc,Dd,De,Df,Dg,Dh,Di,Dj,Dk,Dl,Dn,Dp,Dq,Dr,Dt,Du,Dv,Dw,Dx,Dy,Dz,Ea,Eb,Ec,Ed,Ee,Ef,Eg,Eh,Ei,Ej,Ek,El,Em,En,Eo,Ep,Eq,Er,Es,Et,Eu,Ev,Ew,Ex,Ey,Ez,Fa,Fb,Fc,Fd,Fe,Ff,Fg,Fh,Fi,Fj,Fk,Fm,Fn,Fo,Fp,Fq,Fs,Ft,Fu,Fv,Fw,Fx,Fy,Fz,Ga,Gb,Gc,Gd,Ge,Gf,Gg,Gh,Gi,Gj,Gk,Gl,Gm,Gn,Go,Gp,Gq,Gr,Gs,Gt,Gu,Gv,Gw,Gx,Gy,Gz,Ha,Hb,Hc,Hd],[]⟩ w:=by
 conv=>arg 2; whnf
 have hexit:=hid hexit
 obtain ⟨ao,ca,rfl⟩:=hA.arcs.form
 simp only [List.length_map] at hA
 have hfl:Fl 11 w ao arcs.length ca (arcs.map acC):=fl_of hA.arcs (by simp)
 obtain ⟨na,hna⟩:∃ na,arcs.length=na:=⟨_,rfl⟩
 have y6:=hA.blk.cell (i:=6) rfl
 rw [hna] at y6 hfl hla
 have x0:=hX.cell (i:=0) rfl
 have x1:=hX.cell (i:=1) rfl
 replace hna:=hid hna
 replace hA:=hid hA
 replace hX:=hid hX
 go_wp2_with fail
 go_loopw [14,15] (fun tv kv wr=>∃ (k:Nat) (b:Bool),k≤na∧kv=.int .i64 (k:Int)∧tv=.bool b∧Hid (b=false→∀ j y,j<k→arcs[j]? = some y→¬ (y.1=x.1∧y.2.1=x.2.1))∧Fr (fun _=>False) w wr) (fun _ kv _=>na-(intOf kv).toNat)
 case atStart=>exact ⟨0,false,Nat.zero_le _,rfl,rfl,hid (fun _ j y hj=>by omega),Fr.refl _ _⟩
 case round =>
  obtain ⟨k,b,hk,rfl,rfl,hno,hf⟩:=hrel
  have z6:=hf.cell y6 (fun h=>h)
  have u0:=hf.cell x0 (fun h=>h)
  have u1:=hf.cell x1 (fun h=>h)
  by_cases hlt:k<na
  ·obtain ⟨y,hy,bq,off,hao,hcs⟩:=hfl.get hlt
   have hcs2:=hcs.fr hf (fun h=>h)
   have v0:=hcs2 0 _ rfl
   have v1:=hcs2 1 _ rfl
   simp only [Nat.add_zero] at v0
   rw [hao] at z6
   have i1:(k:Int)<(na:Int):=by omega
   have i0:(0:Int)≤(k:Int):=by omega
   have hf2:=hid hf
   have hnx:Hid (∀ b',(b'=false→b=false∧¬ (y.1=x.1∧y.2.1=x.2.1))→(b'=false→∀ j y',j<k+1→arcs[j]? = some y'→¬ (y'.1=x.1∧y'.2.1=x.2.1))):=hid (fun b' hb' e j y' hj hy'=>by
    by_cases hjk:j=k
    ·subst hjk; rw [hy] at hy'; cases hy'; exact (hb' e).2
    ·exact hno.out (hb' e).1 j y' (by omega) hy')
   clear hcs hcs2 hno hf hy
   cases b with
   | true =>
    go_upto_region 24 with fail
    go_quiet (fail)
    go_wp2_with fail
    go_roundw
    case rel=>exact ⟨k+1,true,by omega,by go_num,rfl,hid (hnx.out true (fun h=>by cases h)),hf2.out.drewN _⟩
    case measure=>simp [intOf]; omega
   | false =>
    by_cases h1:y.1=x.1
    ·have k1:((y.1:Int)==(x.1:Int))=true:=by rw [beq_iff_eq]; omega
     have k1':(y.1:Int)=(x.1:Int):=by omega
     by_cases h2:y.2.1=x.2.1
     ·have k2:((y.2.1:Int)==(x.2.1:Int))=true:=by rw [beq_iff_eq]; omega
      have k2':(y.2.1:Int)=(x.2.1:Int):=by omega
      replace h1:=hid h1
      replace h2:=hid h2
      go_upto_region 24 with fail
      go_quiet (fail)
      go_wp2_with fail
      go_roundw
      case rel=>exact ⟨k+1,true,by omega,by go_num,rfl,hid (hnx.out true (fun h=>by cases h)),hf2.out.drewN _⟩
      case measure=>simp [intOf]; omega
     ·have k2:((y.2.1:Int)==(x.2.1:Int))=false:=by rw [beq_eq_false_iff_ne]; omega
      have k2':¬ (y.2.1:Int)=(x.2.1:Int):=by omega
      replace h1:=hid h1
      replace h2:=hid h2
      go_upto_region 24 with fail
      go_quiet (fail)
      go_wp2_with fail
      go_roundw
      case rel=>exact ⟨k+1,false,by omega,by go_num,rfl,hid (hnx.out false (fun _=>⟨rfl,fun h=>h2.out h.2⟩)),hf2.out.drewN _⟩
      case measure=>simp [intOf]; omega
    ·have k1:((y.1:Int)==(x.1:Int))=false:=by rw [beq_eq_false_iff_ne]; omega
     have k1':¬ (y.1:Int)=(x.1:Int):=by omega
     replace h1:=hid h1
     go_upto_region 24 with fail
     go_quiet (fail)
     go_wp2_with fail
     go_roundw
     case rel=>exact ⟨k+1,false,by omega,by go_num,rfl,hid (hnx.out false (fun _=>⟨rfl,fun h=>h1.out h.1⟩)),hf2.out.drewN _⟩
     case measure=>simp [intOf]; omega
  ·obtain rfl:k=na:=by omega
   have i1:¬ (k:Int)<(k:Int):=by omega
   have hfin:=hid (fun hb:b=false=>fun y (hy:y∈arcs)=>(by
    obtain ⟨j,hj⟩:=List.getElem?_of_mem hy
    exact hno.out hb j y (by rw [←hna.out]; exact (List.getElem?_eq_some_iff.1 hj).1) hj:¬ (y.1=x.1∧y.2.1=x.2.1)))
   replace hf:=hid hf
   go_wp2_with fail
   exact hexit.out _ _ _ _ _ _ _ _ _ _ _ _ _ _ _ _ _ _ _ _ _ _ _ _ _ _ _ _ _ _ _ b wr hfin.out hf.out
set_option maxRecDepth 100000 in
set_option maxHeartbeats 4000000 in
theorem aut_arc (O syms st X:Nat) (iv fv av:Value) (ini fin:List Tw) (arcs:List Ac) (x:Ac) (w:World) (h:Om w O syms st iv fv av ini fin arcs) (hla:arcs.length≤64) (hX:Bl X (acC x) 54 w)
  (c0 c1 c2 c3 c4 c5 c6 c7 c9 Aa Ab Ad Ae Af Ag Ah Ak Al Am An Ao Ap Aq Ar As Av Aw Ax Ay Az Ba Bb Bc Be Bf Bh Bi Bj Bk Bm Bn Bo Bp Bq Br Bs Bt Bu Bv Bw Bx By Bz Ca Cb Cc Cd Ce Cf Cg Ch Ci Cj Ck Cl Cm Cn Co Cp Cq Cr Ct Cu Cv Cw Cx Cy Cz Da Db Dc Dd De Df Dg Dh Di Dj Dk Dl Dn Dp Dq Dr Dt Du Dv Dw Dx Dy Dz Ea Eb Ec Ed Ee Ef Eg Eh Ei Ej Ek El Em En Eo Ep Eq Er Es Et Eu Ev Ew Ex Ey Ez Fa Fb Fc Fd Fe Ff Fg Fh Fi Fj Fk Fm Fn Fo Fp Fq Fs Ft Fu Fv Fw Fx Fy Fz Ga Gb Gc Gd Ge Gf Gg Gh Gi Gj Gk Gl Gm Gn Go Gp Gq Gr Gs Gt Gu Gv Gw Gx Gy Gz Ha Hb Hc Hd He Hf:Value) (Q0:Exit→Act→World→Prop) (hpan:∀ c (a:Act) d v w,Q0 (.panic c) (a.put d v) w→Q0 (.panic c) a w)
  (hexit:∀ (Hg Hh Hi Hj Hk Hl:Value) (av':Value) (w':World),Om w' O syms st iv fv av' ini fin (arcs++[x])→Fr (fun k=>k=O∨av.ownBlock=some k) w w'→Q0 .normal ⟨#[c0,c1,c2,c3,c4,c5,c6,c7,.pointer (some ⟨O,0,none⟩),c9,Aa,Ab,Ad,.pointer (some ⟨X,0,none⟩),Ae,Af,Ag,Ah,Ak,Al,Am,An,Ao,Ap,Aq,Ar,As,Av,Aw,Ax,Ay,Az,Ba,Bb,Bc,Be,Bf,Bh,Bi,Bj,Bk,Bm,Bn,Bo,Bp,Bq,Br,Bs,Bt,Bu,Bv,Bw,Bx,By,Bz,Ca,Cb,Cc,Cd,Ce,Cf,Cg,Ch,Ci,Cj,Ck,Cl,Cm,Cn,Co,Cp,Cq,Cr,Ct,Cu,Cv,Cw,Cx,Cy,Cz,Da,Db,Dc,Dd,De,Df,Dg,Dh,Di,Dj,Dk,Dl,Dn,Dp,Dq,Dr,Dt,Du,Dv,Dw,Dx,Dy,Dz,Ea,Eb,Ec,Ed,Ee,Ef,Eg,Eh,Ei,Ej,Ek,El,Em,En,Eo,Ep,Eq,Er,Es,Et,Eu,Ev,Ew,Ex,Ey,Ez,Fa,Fb,Fc,Fd,Fe,Ff,Fg,Fh,Fi,Fj,Fk,Fm,Fn,Fo,Fp,Fq,Fs,Ft,Fu,Fv,Fw,Fx,Fy,Fz,Ga,Gb,Gc,Gd,Ge,Gf,Gg,Gh,Gi,Gj,Gk,Gl,Gm,Gn,Go,Gp,Gq,Gr,Gs,Gt,Gu,Gv,Gw,Gx,Gy,Hg,Hh,Hi,Hj,Hk,Hl,Hf],[]⟩ w') :
  Code.wp Tryz.prog (wR 26) Q0 ⟨#[c0,c1,c2,c3,c4,c5,c6,c7,.pointer (some ⟨O,0,none⟩),c9,Aa,Ab,Ad,.pointer (some ⟨X,0,none⟩),Ae,Af,Ag,Ah,Ak,Al,Am,An,Ao,Ap,Aq,Ar,As,Av,Aw,Ax,Ay,Az,Ba,Bb,Bc,Be,Bf,Bh,Bi,Bj,Bk,Bm,Bn,Bo,Bp,Bq,Br,Bs,Bt,Bu,Bv,Bw,Bx,By,Bz,Ca,Cb,Cc,Cd,Ce,Cf,Cg,Ch,Ci,Cj,Ck,Cl,Cm,Cn,Co,Cp,Cq,Cr,Ct,Cu,Cv,Cw,Cx,Cy,Cz,Da,Db,Dc,Dd,De,Df,Dg,Dh,Di,Dj,Dk,Dl,Dn,Dp,Dq,Dr,Dt,Du,Dv,Dw,Dx,Dy,Dz,Ea,Eb,Ec,Ed,Ee,Ef,Eg,Eh,Ei,Ej,Ek,El,Em,En,Eo,Ep,Eq,Er,Es,Et,Eu,Ev,Ew,Ex,Ey,Ez,Fa,Fb,Fc,Fd,Fe,Ff,Fg,Fh,Fi,Fj,Fk,Fm,Fn,Fo,Fp,Fq,Fs,Ft,Fu,Fv,Fw,Fx,Fy,Fz,Ga,Gb,Gc,Gd,Ge,Gf,Gg,Gh,Gi,Gj,Gk,Gl,Gm,Gn,Go,Gp,Gq,Gr,Gs,Gt,Gu,Gv,Gw,Gx,Gy,Gz,Ha,Hb,Hc,Hd,He,Hf],[]⟩ w:=by
 conv=>arg 2; whnf
 have hexit:=hid hexit
 obtain ⟨ao0,ac0,rfl⟩:=h.arcs.form
 simp only [List.length_map] at h hexit ⊢
 have y5:=h.blk.cell (i:=6) rfl
 have hXc:=hX.cs
 have hbN:Below w.heap.size w (w.alloc (.cells (acC x).toArray 54)):=below_alloc _
 have hnew:=Cs.fresh w (acC x) 54
 have h3:=h.next hbN
 replace hbN:=hid hbN
 go_wp2_with (first | ((with_reducible refine wp_loadArc rfl _ rfl X 0 ?_ x hXc ?_); exact rfl) | (at_builtin; refine wp_appF rfl (.tmp 179) (.tmp 181) 28 rfl 54 _ 11 152 Tryz.underlying28 Tryz.infoArc rfl (by decide) (O+1) _ _ rfl h3.arcs w.heap.size 0 1 1 [acC x] rfl rfl (by decide) (acC_len [x]) (by simp only [List.flatten_cons,List.flatten_nil,List.append_nil]; exact hnew) (acC_one [x]) (by rw [List.length_map]; omega) (by rw [List.length_map]; omega) h3.blk.lt ?_; intro v5 w5 hv5 hg5 hb5 ho5; have hO5:=h3.blk.under hb5 (Nat.lt_succ_self _); obtain ⟨ai,ki,rfl⟩:=hv5.form; have z5f:=hO5.free 6; have z5:=hO5.cell (i:=6) rfl))
 simp only [List.length_append,List.length_map,List.length_cons,List.length_nil,Nat.zero_add] at hv5 ho5 ⊢
 have hF5:=grown_fr (T:=fun k=>(Value.slice ao0 arcs.length ac0).ownBlock=some k) hg5 fun g hg=>hg
 have hF9:Fr (fun k=>k=O) w5 (w5.setCell ⟨O,6,none⟩ (.slice ai (arcs.length+1) ki)):=Fr.set (T:=fun k=>k=O) w5 (p:=⟨O,6,none⟩) rfl _
 have hi5:FO 45 8 w5 (O+1) iv (ini.map twC):=h3.ini.fr hF5 (fun g hg hg'=>own_ne' h3.arcs h3.ini (by decide) g hg' hg)
 have hf5:FO 45 8 w5 (O+1) fv (fin.map twC):=h3.fin.fr hF5 (fun g hg hg'=>own_ne' h3.arcs h3.fin (by decide) g hg' hg)
 refine hexit.out _ _ _ _ _ _ (.slice ai (arcs.length+1) ki) _ ?_ ?_
 ·refine ⟨hO5.put 6 _,hi5.fr hF9 (fun g hg e=>by have:=(hi5.lt hg).1; omega),hf5.fr hF9 (fun g hg e=>by have:=(hf5.lt hg).1; omega),by rw [List.map_append]; exact hv5.fr hF9 (fun g hg e=>by have:=(hv5.lt hg).1; omega),h.ne⟩
 ·exact (((below_fr hbN.out _).trans hF5).mono (T':=fun k=>k=O∨(Value.slice ao0 arcs.length ac0).ownBlock=some k) fun k _ h=>.inr h).trans (hF9.mono fun k _ h=>.inl h)
end
section
def Uq (L:List Ac):Prop:=∀ x∈L,∀ y∈L,x.1=y.1→x.2.1=y.2.1→x=y
end
section
open Go.RowKit
structure Aj (w:World) (O syms st:Nat) (sg:Bool) (iv fv av:Value) (ini fin:List Tw) (arcs:List Ac):Prop where
 om:Om w O syms st iv fv av ini fin arcs
 ok:∀ x∈arcs,x.1<st∧x.2.2.1<st∧1≤x.2.1∧x.2.1≤syms∧tc (wt x)≤5
 uq:sg=true→Uq arcs
theorem Aj.fr {K:Nat→Prop} {w w':World} {O syms st:Nat} {sg:Bool} {iv fv av:Value} {ini fin:List Tw} {arcs:List Ac} (h:Aj w O syms st sg iv fv av ini fin arcs) (hf:Fr K w w') (hK:∀ k,OmB O iv fv av k→¬ K k):Aj w' O syms st sg iv fv av ini fin arcs:=⟨h.om.fr hf hK,h.ok,h.uq⟩
theorem uq_more {L:List Ac} {x:Ac} (h:Uq L) (hx:∀ y∈L,¬ (y.1=x.1∧y.2.1=x.2.1)):Uq (L++[x]):=by
 intro a ha b hb e1 e2
 rcases List.mem_append.1 ha with ha | ha<;>rcases List.mem_append.1 hb with hb | hb
 ·exact h a ha b hb e1 e2
 ·rw [List.mem_singleton.1 hb] at e1 e2; exact absurd ⟨e1,e2⟩ (hx a ha)
 ·rw [List.mem_singleton.1 ha] at e1 e2; exact absurd ⟨e1.symm,e2.symm⟩ (hx b hb)
 ·rw [List.mem_singleton.1 ha,List.mem_singleton.1 hb]
theorem acC_swap (x:Ac):((acC x).set 0 (.int .i64 (x.2.2.1:Int))).set 2 (.int .i64 (x.1:Int))=acC (x.2.2.1,x.2.1,x.1,x.2.2.2):=rfl
set_option maxRecDepth 100000 in
set_option maxHeartbeats 4000000 in
theorem aut_turn (T:Nat) (lo:Option Addr) (n cap:Nat) (PB O syms st:Nat) (kst ksy:Int) (fw sg:Bool) (iv fv av:Value) (ini fin:List Tw) (arcs:List Ac) (w:World) (hP:Bl PB [.int .i64 kst,.int .i64 ksy,.bool fw,.bool sg,.slice lo n cap] 24 w) (hTa:Ta w T lo n cap) (hPT:PB<T) (hTO:T<O) (hst:1≤st∧st≤64) (hsy:1≤syms∧syms≤32) (hla:arcs.length≤64) (hA:Aj w O syms st sg iv fv av ini fin arcs)
  (c0 c2 c4 c5 c6 c9 Aa Ab Ad Ae Af Ag Ah Ak Al Am An Ao Ap Aq Ar As Av Aw Ax Ay Az Ba Bb Bc Be Bf Bh Bi Bj Bk Bm Bn Bo Bp Bq Br Bs Bt Bu Bv Bw Bx By Bz Ca Cb Cc Cd Ce Cf Cg Ch Ci Cj Ck Cl Cm Cn Co Cp Cq Cr Ct Cu Cv Cw Cx Cy Cz Da Db Dc Dd De Df Dg Dh Di Dj Dk Dl Dn Dp Dq Dr Dt Du Dv Dw Dx Dy Dz Ea Eb Ec Ed Ee Ef Eg Eh Ei Ej Ek El Em En Eo Ep Eq Er Es Et Eu Ev Ew Ex Ey Ez Fa Fb Fc Fd Fe Ff Fg Fh Fi Fj Fk Fm Fn Fo Fp Fq Fs Ft Fu Fv Fw Fx Fy Fz Ga Gb Gc Gd Ge Gf Gg Gh Gi Gj Gk Gl Gm Gn Go Gp Gq Gr Gs Gt Gu Gv Gw Gx Gy Gz Ha Hb Hc Hd He Hf Hg:Value) (Q0:Exit→Act→World→Prop) (hpan:∀ c (a:Act) d v w,Q0 (.panic c) (a.put d v) w→Q0 (.panic c) a w)
  (hexit:∀ (Hh Hi Hj Hk Hl Hm Hn Ho Hp Hq Hr Hs Ht Hu Hv Hw Hx Hy Hz Ia Ib Ic Id Ie Ig Ih Ii Ij Ik Il Im Io Ip Iq Ir It Iu Iv Iw Ix Iy Iz Ja Jb Jc Jd Je Jf Jg Jh Ji Jj Jk Jl Jm Jn Jo Jp Jq Jr Js Jt Ju Jv Jw Jx Jy Jz Ka Kb Kc Kd Ke Kf Kg Kh Ki Kj Kk:Value) (av':Value) (arcs':List Ac) (w':World),Aj w' O syms st sg iv fv av' ini fin arcs'→arcs'.length≤arcs.length+1→Ta w' T lo n cap→Below T w w'→Q0 .normal ⟨#[c0,.int .i64 2,c2,.pointer (some ⟨PB,0,none⟩),c4,c5,c6,.pointer (some ⟨T,0,none⟩),.pointer (some ⟨O,0,none⟩),c9,Aa,Ab,Ad,Hh,Hi,Hj,Ah,Ak,Al,Am,An,Ao,Ap,Aq,Ar,As,Av,Aw,Ax,Ay,Az,Ba,Bb,Bc,Be,Bf,Bh,Bi,Bj,Bk,Bm,Bn,Bo,Bp,Bq,Br,Bs,Bt,Bu,Bv,Bw,Bx,By,Bz,Ca,Cb,Cc,Cd,Ce,Cf,Cg,Ch,Ci,Cj,Ck,Cl,Cm,Cn,Co,Cp,Cq,Cr,Ct,Cu,Cv,Cw,Cx,Cy,Cz,Da,Db,Dc,Dd,De,Df,Dg,Dh,Di,Dj,Dk,Dl,Dn,Dp,Dq,Dr,Dt,Du,Dv,Dw,Dx,Dy,Dz,Ea,Eb,Ec,Ed,Ee,Ef,Hk,Hl,Hm,Hn,Ho,Hp,Hq,Hr,Hs,Ht,Hu,Hv,Hw,Hx,Hy,Hz,Ia,Ib,Ic,Id,Ie,Ig,Ih,Ii,Ij,Ik,Il,Im,Io,Ip,Iq,Ir,It,Iu,Iv,Iw,Ix,Iy,Iz,Ja,Jb,Jc,Jd,Je,Jf,Jg,Jh,Ji,Jj,Jk,Jl,Jm,Jn,Jo,Jp,Jq,Jr,Js,Jt,Ju,Jv,Jw,Jx,Jy,Jz,Ka,Kb,Kc,Kd,Ke,Kf,Kg,Kh,Ki,Kj,Kk,Hg],[]⟩ w') :
  Code.wp Tryz.prog (wB 3) Q0 ⟨#[c0,.int .i64 2,c2,.pointer (some ⟨PB,0,none⟩),c4,c5,c6,.pointer (some ⟨T,0,none⟩),.pointer (some ⟨O,0,none⟩),c9,Aa,Ab,Ad,Ae,Af,Ag,Ah,Ak,Al,Am,An,Ao,Ap,Aq,Ar,As,Av,Aw,Ax,Ay,Az,Ba,Bb,Bc,Be,Bf,Bh,Bi,Bj,Bk,Bm,Bn,Bo,Bp,Bq,Br,Bs,Bt,Bu,Bv,Bw,Bx,By,Bz,Ca,Cb,Cc,Cd,Ce,Cf,Cg,Ch,Ci,Cj,Ck,Cl,Cm,Cn,Co,Cp,Cq,Cr,Ct,Cu,Cv,Cw,Cx,Cy,Cz,Da,Db,Dc,Dd,De,Df,Dg,Dh,Di,Dj,Dk,Dl,Dn,Dp,Dq,Dr,Dt,Du,Dv,Dw,Dx,Dy,Dz,Ea,Eb,Ec,Ed,Ee,Ef,Eg,Eh,Ei,Ej,Ek,El,Em,En,Eo,Ep,Eq,Er,Es,Et,Eu,Ev,Ew,Ex,Ey,Ez,Fa,Fb,Fc,Fd,Fe,Ff,Fg,Fh,Fi,Fj,Fk,Fm,Fn,Fo,Fp,Fq,Fs,Ft,Fu,Fv,Fw,Fx,Fy,Fz,Ga,Gb,Gc,Gd,Ge,Gf,Gg,Gh,Gi,Gj,Gk,Gl,Gm,Gn,Go,Gp,Gq,Gr,Gs,Gt,Gu,Gv,Gw,Gx,Gy,Gz,Ha,Hb,Hc,Hd,He,Hf,Hg],[]⟩ w:=by
 conv=>arg 2; whnf
 have hTl:=hTa.lt
 have hexit:=hid hexit
 replace hA:=hid hA
 have hO23:w.cell? ⟨O,3,none⟩=some (.int .i64 (st:Int))∧w.cell? ⟨O,2,none⟩=some (.int .i64 (syms:Int)):=⟨hA.out.om.blk.cell rfl,hA.out.om.blk.cell rfl⟩
 have hOl:=hA.out.om.blk.lt
 go_upto_region 15 with fail
 refine aut_new T lo n cap O syms st w hO23 hst hsy hTa hTO _ _ _ _ _ _ _ _ _ _ _ _ _ _ _ _ _ _ _ _ _ _ _ _ _ _ _ _ _ _ _ _ _ _ _ _ _ _ _ _ _ _ _ _ _ _ _ _ _ _ _ _ _ _ _ _ _ _ _ _ _ _ _ _ _ _ _ _ _ _ _ _ _ _ _ _ _ _ _ _ _ _ _ _ _ _ _ _ _ _ _ _ _ _ _ _ _ _ _ _ _ _ _ _ _ _ _ _ _ _ _ _ _ _ _ _ _ _ _ _ _ _ _ _ _ _ _ _ _ _ _ _ _ _ _ _ _ _ _ _ _ _ _ _ _ _ _ _ _ _ _ _ _ _ _ _ _ _ _ _ _ _ _ _ _ _ _ _ _ _ _ _ _ _ _ _ _ _ _ _ _ _ _ (fun c a d v w h=>hpan c a d v w h) ?_
 intro Kl Km Kn Ko Kp Kq Kr Ks Kt Ku Kv Kw Kx Kz La Lb Lc G x w1 hX1 hwG hx1 hx2 hx3 hx4 hx5 hT1 hf1
 have hA1:=hid (hA.out.fr hf1 (fun k hk e=>by have:=hA.out.om.lt hk; omega))
 have hb1:=hid (hf1.below (B:=T) (fun q e=>by omega) (Nat.le_of_lt hTl))
 have hP1:=hid (hP.under hb1.out hPT)
 have p2:=hP1.out.cell (i:=2) rfl
 replace hX1:=hid hX1
 replace hT1:=hid hT1
 replace hf1:=hid hf1
 clear hO23
 cases fw with
 | false =>
  go_upto_block 4 with fail
  refine aut_there O syms st G iv fv av ini fin arcs x w1 hA1.out.om hla hX1.out _ _ _ _ _ _ _ _ _ _ _ _ _ _ _ _ _ _ _ _ _ _ _ _ _ _ _ _ _ _ _ _ _ _ _ _ _ _ _ _ _ _ _ _ _ _ _ _ _ _ _ _ _ _ _ _ _ _ _ _ _ _ _ _ _ _ _ _ _ _ _ _ _ _ _ _ _ _ _ _ _ _ _ _ _ _ _ _ _ _ _ _ _ _ _ _ _ _ _ _ _ _ _ _ _ _ _ _ _ _ _ _ _ _ _ _ _ _ _ _ _ _ _ _ _ _ _ _ _ _ _ _ _ _ _ _ _ _ _ _ _ _ _ _ _ _ _ _ _ _ _ _ _ _ _ _ _ _ _ _ _ _ _ _ _ _ _ _ _ _ _ _ _ _ _ _ _ _ _ _ _ _ (fun c a d v w h=>hpan c a d v w h) ?_
  intro Ld Le Lf Lg Lh Li Lj Lk Ll Lm Ln Lo Lp Lq Lr Lt Lu Lv Lx Ly Lz Ma Mb Mc Md Me Mf Mg Mh Mi Mj b w5 hnb hf5
  have hA5:=hid (hA1.out.fr hf5 (fun k _ h=>h))
  have hX5:=hid (hX1.out.fr hf5 (fun h=>h))
  have hb5:=hid (hb1.out.trans (hf5.below (fun q e=>e.elim) (Nat.le_trans (Nat.le_of_lt hTl) hb1.out.size)))
  have hT5:=hid (hT1.out.fr hf5 (fun q e=>e.elim))
  have p3:=(hP1.out.fr hf5 (fun h=>h)).cell (i:=3) rfl
  replace hnb:=hid hnb
  replace hf5:=hid hf5
  have hfin:∀ av6 w6,Om w6 O syms st iv fv av6 ini fin (arcs++[x])→Fr (fun k=>k=O∨av.ownBlock=some k) w5 w6→(sg=true→b=false)→Aj w6 O syms st sg iv fv av6 ini fin (arcs++[x])∧Ta w6 T lo n cap∧Below T w w6:=fun av6 w6 hO6 hf6 hsb=>by
   have hge:∀ q,(q=O∨av.ownBlock=some q)→T<q:=fun q e=>by
    rcases e with rfl | e
    ·exact hTO
    ·have:=(hA5.out.om.arcs.lt e).1; omega
   refine ⟨⟨hO6,fun y hy=>?_,fun h=>uq_more (hA5.out.uq h) (hnb.out (hsb h))⟩,hT5.out.fr hf6 hge,hb5.out.trans (hf6.below (fun q e=>Nat.le_of_lt (hge q e)) (Nat.le_trans (Nat.le_of_lt hTl) hb5.out.size))⟩
   rcases List.mem_append.1 hy with hy | hy
   ·exact hA5.out.ok y hy
   ·rw [List.mem_singleton.1 hy]; exact ⟨hx1,hx2,hx3,hx4,hx5⟩
  replace hfin:=hid hfin
  cases sg with
  | true =>
   cases b with
   | true =>
    go_wp2_with fail
    exact hexit.out _ _ _ _ _ _ _ _ _ _ _ _ _ _ _ _ _ _ _ _ _ _ _ _ _ _ _ _ _ _ _ _ _ _ _ _ _ _ _ _ _ _ _ _ _ _ _ _ _ _ _ _ _ _ _ _ _ _ _ _ _ _ _ _ _ _ _ _ _ _ _ _ _ _ _ _ _ _ _ av arcs w5 hA5.out (by omega) hT5.out hb5.out
   | false =>
    go_upto_region 26 with fail
    refine aut_arc O syms st G iv fv av ini fin arcs x w5 hA5.out.om hla hX5.out _ _ _ _ _ _ _ _ _ _ _ _ _ _ _ _ _ _ _ _ _ _ _ _ _ _ _ _ _ _ _ _ _ _ _ _ _ _ _ _ _ _ _ _ _ _ _ _ _ _ _ _ _ _ _ _ _ _ _ _ _ _ _ _ _ _ _ _ _ _ _ _ _ _ _ _ _ _ _ _ _ _ _ _ _ _ _ _ _ _ _ _ _ _ _ _ _ _ _ _ _ _ _ _ _ _ _ _ _ _ _ _ _ _ _ _ _ _ _ _ _ _ _ _ _ _ _ _ _ _ _ _ _ _ _ _ _ _ _ _ _ _ _ _ _ _ _ _ _ _ _ _ _ _ _ _ _ _ _ _ _ _ _ _ _ _ _ _ _ _ _ _ _ _ _ _ _ _ _ _ _ _ _ _ (fun c a d v w h=>hpan c a d v w h) ?_
    intro Ml Mm Mn Mp Mq Mr av6 w6 hO6 hf6
    obtain ⟨r1,r2,r3⟩:=hfin.out av6 w6 hO6 hf6 (fun _=>rfl)
    replace hO6:=hid hO6
    replace hf6:=hid hf6
    go_wp2_with fail
    exact hexit.out _ _ _ _ _ _ _ _ _ _ _ _ _ _ _ _ _ _ _ _ _ _ _ _ _ _ _ _ _ _ _ _ _ _ _ _ _ _ _ _ _ _ _ _ _ _ _ _ _ _ _ _ _ _ _ _ _ _ _ _ _ _ _ _ _ _ _ _ _ _ _ _ _ _ _ _ _ _ _ av6 _ w6 r1 (by simp) r2 r3
  | false =>
   go_upto_region 26 with fail
   refine aut_arc O syms st G iv fv av ini fin arcs x w5 hA5.out.om hla hX5.out _ _ _ _ _ _ _ _ _ _ _ _ _ _ _ _ _ _ _ _ _ _ _ _ _ _ _ _ _ _ _ _ _ _ _ _ _ _ _ _ _ _ _ _ _ _ _ _ _ _ _ _ _ _ _ _ _ _ _ _ _ _ _ _ _ _ _ _ _ _ _ _ _ _ _ _ _ _ _ _ _ _ _ _ _ _ _ _ _ _ _ _ _ _ _ _ _ _ _ _ _ _ _ _ _ _ _ _ _ _ _ _ _ _ _ _ _ _ _ _ _ _ _ _ _ _ _ _ _ _ _ _ _ _ _ _ _ _ _ _ _ _ _ _ _ _ _ _ _ _ _ _ _ _ _ _ _ _ _ _ _ _ _ _ _ _ _ _ _ _ _ _ _ _ _ _ _ _ _ _ _ _ _ _ (fun c a d v w h=>hpan c a d v w h) ?_
   intro Ml Mm Mn Mp Mq Mr av6 w6 hO6 hf6
   obtain ⟨r1,r2,r3⟩:=hfin.out av6 w6 hO6 hf6 (fun h=>by cases h)
   replace hO6:=hid hO6
   replace hf6:=hid hf6
   go_wp2_with fail
   exact hexit.out _ _ _ _ _ _ _ _ _ _ _ _ _ _ _ _ _ _ _ _ _ _ _ _ _ _ _ _ _ _ _ _ _ _ _ _ _ _ _ _ _ _ _ _ _ _ _ _ _ _ _ _ _ _ _ _ _ _ _ _ _ _ _ _ _ _ _ _ _ _ _ _ _ _ _ _ _ _ _ av6 _ w6 r1 (by simp) r2 r3
 | true =>
  have q0:=hX1.out.cell (i:=0) rfl
  have q2:=hX1.out.cell (i:=2) rfl
  by_cases he:x.1=x.2.2.1
  ·have k1:((x.1:Int)==(x.2.2.1:Int))=true:=by rw [beq_iff_eq]; omega
   have k1':(x.1:Int)=(x.2.2.1:Int):=by omega
   replace he:=hid he
   go_wp2_with fail
   exact hexit.out _ _ _ _ _ _ _ _ _ _ _ _ _ _ _ _ _ _ _ _ _ _ _ _ _ _ _ _ _ _ _ _ _ _ _ _ _ _ _ _ _ _ _ _ _ _ _ _ _ _ _ _ _ _ _ _ _ _ _ _ _ _ _ _ _ _ _ _ _ _ _ _ _ _ _ _ _ _ _ av arcs w1 hA1.out (by omega) hT1.out hb1.out
  ·have k1:((x.1:Int)==(x.2.2.1:Int))=false:=by rw [beq_eq_false_iff_ne]; omega
   have k1':¬ (x.1:Int)=(x.2.2.1:Int):=by omega
   replace he:=hid he
   by_cases hg:x.2.2.1<x.1
   ·have k2:(x.2.2.1:Int)<(x.1:Int):=by omega
    have f0:=hX1.out.free 0
    have f2:=hX1.out.free 2
    have hX2:Hid (Bl G (acC (x.2.2.1,x.2.1,x.1,x.2.2.2)) 54 ((w1.setCell ⟨G,0,none⟩ (.int .i64 (x.2.2.1:Int))).setCell ⟨G,2,none⟩ (.int .i64 (x.1:Int)))):=hid (by rw [←acC_swap]; exact (hX1.out.put 0 _).put 2 _)
    have hf2:Fr (fun k=>k=G) w1 ((w1.setCell ⟨G,0,none⟩ (.int .i64 (x.2.2.1:Int))).setCell ⟨G,2,none⟩ (.int .i64 (x.1:Int))):=(Fr.set (T:=fun k=>k=G) w1 (p:=⟨G,0,none⟩) rfl _).trans (Fr.set (T:=fun k=>k=G) _ (p:=⟨G,2,none⟩) rfl _)
    have hA2:=hid (hA1.out.fr hf2 (fun k hk e=>by have:=(hA.out.om.lt hk).2; omega))
    have hb2:=hid (hb1.out.trans (hf2.below (B:=T) (fun q e=>by omega) (by have:=hb1.out.size; omega)))
    have hT2:=hid (hT1.out.fr hf2 (fun q e=>by omega))
    have hP2:=hid (hP.under hb2.out hPT)
    replace hf2:=hid hf2
    go_upto_block 4 with fail
    refine aut_there O syms st G iv fv av ini fin arcs (x.2.2.1,x.2.1,x.1,x.2.2.2) _ hA2.out.om hla hX2.out _ _ _ _ _ _ _ _ _ _ _ _ _ _ _ _ _ _ _ _ _ _ _ _ _ _ _ _ _ _ _ _ _ _ _ _ _ _ _ _ _ _ _ _ _ _ _ _ _ _ _ _ _ _ _ _ _ _ _ _ _ _ _ _ _ _ _ _ _ _ _ _ _ _ _ _ _ _ _ _ _ _ _ _ _ _ _ _ _ _ _ _ _ _ _ _ _ _ _ _ _ _ _ _ _ _ _ _ _ _ _ _ _ _ _ _ _ _ _ _ _ _ _ _ _ _ _ _ _ _ _ _ _ _ _ _ _ _ _ _ _ _ _ _ _ _ _ _ _ _ _ _ _ _ _ _ _ _ _ _ _ _ _ _ _ _ _ _ _ _ _ _ _ _ _ _ _ _ _ _ _ _ (fun c a d v w h=>hpan c a d v w h) ?_
    intro Ld Le Lf Lg Lh Li Lj Lk Ll Lm Ln Lo Lp Lq Lr Lt Lu Lv Lx Ly Lz Ma Mb Mc Md Me Mf Mg Mh Mi Mj b w5 hnb hf5
    have hA5:=hid (hA2.out.fr hf5 (fun k _ h=>h))
    have hX5:=hid (hX2.out.fr hf5 (fun h=>h))
    have hb5:=hid (hb2.out.trans (hf5.below (fun q e=>e.elim) (Nat.le_trans (Nat.le_of_lt hTl) hb2.out.size)))
    have hT5:=hid (hT2.out.fr hf5 (fun q e=>e.elim))
    have p3:=(hP2.out.fr hf5 (fun h=>h)).cell (i:=3) rfl
    replace hnb:=hid hnb
    replace hf5:=hid hf5
    have hfin:∀ av6 w6,Om w6 O syms st iv fv av6 ini fin (arcs++[(x.2.2.1,x.2.1,x.1,x.2.2.2)])→Fr (fun k=>k=O∨av.ownBlock=some k) w5 w6→(sg=true→b=false)→Aj w6 O syms st sg iv fv av6 ini fin (arcs++[(x.2.2.1,x.2.1,x.1,x.2.2.2)])∧Ta w6 T lo n cap∧Below T w w6:=fun av6 w6 hO6 hf6 hsb=>by
     have hge:∀ q,(q=O∨av.ownBlock=some q)→T<q:=fun q e=>by
      rcases e with rfl | e
      ·exact hTO
      ·have:=(hA5.out.om.arcs.lt e).1; omega
     refine ⟨⟨hO6,fun y hy=>?_,fun h=>uq_more (hA5.out.uq h) (hnb.out (hsb h))⟩,hT5.out.fr hf6 hge,hb5.out.trans (hf6.below (fun q e=>Nat.le_of_lt (hge q e)) (Nat.le_trans (Nat.le_of_lt hTl) hb5.out.size))⟩
     rcases List.mem_append.1 hy with hy | hy
     ·exact hA5.out.ok y hy
     ·rw [List.mem_singleton.1 hy]; exact ⟨hx2,hx1,hx3,hx4,hx5⟩
    replace hfin:=hid hfin
    cases sg with
    | true =>
     cases b with
     | true =>
      go_wp2_with fail
      exact hexit.out _ _ _ _ _ _ _ _ _ _ _ _ _ _ _ _ _ _ _ _ _ _ _ _ _ _ _ _ _ _ _ _ _ _ _ _ _ _ _ _ _ _ _ _ _ _ _ _ _ _ _ _ _ _ _ _ _ _ _ _ _ _ _ _ _ _ _ _ _ _ _ _ _ _ _ _ _ _ _ av arcs w5 hA5.out (by omega) hT5.out hb5.out
     | false =>
      go_upto_region 26 with fail
      refine aut_arc O syms st G iv fv av ini fin arcs (x.2.2.1,x.2.1,x.1,x.2.2.2) w5 hA5.out.om hla hX5.out _ _ _ _ _ _ _ _ _ _ _ _ _ _ _ _ _ _ _ _ _ _ _ _ _ _ _ _ _ _ _ _ _ _ _ _ _ _ _ _ _ _ _ _ _ _ _ _ _ _ _ _ _ _ _ _ _ _ _ _ _ _ _ _ _ _ _ _ _ _ _ _ _ _ _ _ _ _ _ _ _ _ _ _ _ _ _ _ _ _ _ _ _ _ _ _ _ _ _ _ _ _ _ _ _ _ _ _ _ _ _ _ _ _ _ _ _ _ _ _ _ _ _ _ _ _ _ _ _ _ _ _ _ _ _ _ _ _ _ _ _ _ _ _ _ _ _ _ _ _ _ _ _ _ _ _ _ _ _ _ _ _ _ _ _ _ _ _ _ _ _ _ _ _ _ _ _ _ _ _ _ _ _ _ (fun c a d v w h=>hpan c a d v w h) ?_
      intro Ml Mm Mn Mp Mq Mr av6 w6 hO6 hf6
      obtain ⟨r1,r2,r3⟩:=hfin.out av6 w6 hO6 hf6 (fun _=>rfl)
      replace hO6:=hid hO6
      replace hf6:=hid hf6
      go_wp2_with fail
      exact hexit.out _ _ _ _ _ _ _ _ _ _ _ _ _ _ _ _ _ _ _ _ _ _ _ _ _ _ _ _ _ _ _ _ _ _ _ _ _ _ _ _ _ _ _ _ _ _ _ _ _ _ _ _ _ _ _ _ _ _ _ _ _ _ _ _ _ _ _ _ _ _ _ _ _ _ _ _ _ _ _ av6 _ w6 r1 (by simp) r2 r3
    | false =>
     go_upto_region 26 with fail
     refine aut_arc O syms st G iv fv av ini fin arcs (x.2.2.1,x.2.1,x.1,x.2.2.2) w5 hA5.out.om hla hX5.out _ _ _ _ _ _ _ _ _ _ _ _ _ _ _ _ _ _ _ _ _ _ _ _ _ _ _ _ _ _ _ _ _ _ _ _ _ _ _ _ _ _ _ _ _ _ _ _ _ _ _ _ _ _ _ _ _ _ _ _ _ _ _ _ _ _ _ _ _ _ _ _ _ _ _ _ _ _ _ _ _ _ _ _ _ _ _ _ _ _ _ _ _ _ _ _ _ _ _ _ _ _ _ _ _ _ _ _ _ _ _ _ _ _ _ _ _ _ _ _ _ _ _ _ _ _ _ _ _ _ _ _ _ _ _ _ _ _ _ _ _ _ _ _ _ _ _ _ _ _ _ _ _ _ _ _ _ _ _ _ _ _ _ _ _ _ _ _ _ _ _ _ _ _ _ _ _ _ _ _ _ _ _ _ (fun c a d v w h=>hpan c a d v w h) ?_
     intro Ml Mm Mn Mp Mq Mr av6 w6 hO6 hf6
     obtain ⟨r1,r2,r3⟩:=hfin.out av6 w6 hO6 hf6 (fun h=>by cases h)
     replace hO6:=hid hO6
     replace hf6:=hid hf6
     go_wp2_with fail
     exact hexit.out _ _ _ _ _ _ _ _ _ _ _ _ _ _ _ _ _ _ _ _ _ _ _ _ _ _ _ _ _ _ _ _ _ _ _ _ _ _ _ _ _ _ _ _ _ _ _ _ _ _ _ _ _ _ _ _ _ _ _ _ _ _ _ _ _ _ _ _ _ _ _ _ _ _ _ _ _ _ _ av6 _ w6 r1 (by simp) r2 r3
   ·have k2:¬ (x.2.2.1:Int)<(x.1:Int):=by omega
    go_upto_block 4 with fail
    refine aut_there O syms st G iv fv av ini fin arcs x w1 hA1.out.om hla hX1.out _ _ _ _ _ _ _ _ _ _ _ _ _ _ _ _ _ _ _ _ _ _ _ _ _ _ _ _ _ _ _ _ _ _ _ _ _ _ _ _ _ _ _ _ _ _ _ _ _ _ _ _ _ _ _ _ _ _ _ _ _ _ _ _ _ _ _ _ _ _ _ _ _ _ _ _ _ _ _ _ _ _ _ _ _ _ _ _ _ _ _ _ _ _ _ _ _ _ _ _ _ _ _ _ _ _ _ _ _ _ _ _ _ _ _ _ _ _ _ _ _ _ _ _ _ _ _ _ _ _ _ _ _ _ _ _ _ _ _ _ _ _ _ _ _ _ _ _ _ _ _ _ _ _ _ _ _ _ _ _ _ _ _ _ _ _ _ _ _ _ _ _ _ _ _ _ _ _ _ _ _ _ (fun c a d v w h=>hpan c a d v w h) ?_
    intro Ld Le Lf Lg Lh Li Lj Lk Ll Lm Ln Lo Lp Lq Lr Lt Lu Lv Lx Ly Lz Ma Mb Mc Md Me Mf Mg Mh Mi Mj b w5 hnb hf5
    have hA5:=hid (hA1.out.fr hf5 (fun k _ h=>h))
    have hX5:=hid (hX1.out.fr hf5 (fun h=>h))
    have hb5:=hid (hb1.out.trans (hf5.below (fun q e=>e.elim) (Nat.le_trans (Nat.le_of_lt hTl) hb1.out.size)))
    have hT5:=hid (hT1.out.fr hf5 (fun q e=>e.elim))
    have p3:=(hP1.out.fr hf5 (fun h=>h)).cell (i:=3) rfl
    replace hnb:=hid hnb
    replace hf5:=hid hf5
    have hfin:∀ av6 w6,Om w6 O syms st iv fv av6 ini fin (arcs++[x])→Fr (fun k=>k=O∨av.ownBlock=some k) w5 w6→(sg=true→b=false)→Aj w6 O syms st sg iv fv av6 ini fin (arcs++[x])∧Ta w6 T lo n cap∧Below T w w6:=fun av6 w6 hO6 hf6 hsb=>by
     have hge:∀ q,(q=O∨av.ownBlock=some q)→T<q:=fun q e=>by
      rcases e with rfl | e
      ·exact hTO
      ·have:=(hA5.out.om.arcs.lt e).1; omega
     refine ⟨⟨hO6,fun y hy=>?_,fun h=>uq_more (hA5.out.uq h) (hnb.out (hsb h))⟩,hT5.out.fr hf6 hge,hb5.out.trans (hf6.below (fun q e=>Nat.le_of_lt (hge q e)) (Nat.le_trans (Nat.le_of_lt hTl) hb5.out.size))⟩
     rcases List.mem_append.1 hy with hy | hy
     ·exact hA5.out.ok y hy
     ·rw [List.mem_singleton.1 hy]; exact ⟨hx1,hx2,hx3,hx4,hx5⟩
    replace hfin:=hid hfin
    cases sg with
    | true =>
     cases b with
     | true =>
      go_wp2_with fail
      exact hexit.out _ _ _ _ _ _ _ _ _ _ _ _ _ _ _ _ _ _ _ _ _ _ _ _ _ _ _ _ _ _ _ _ _ _ _ _ _ _ _ _ _ _ _ _ _ _ _ _ _ _ _ _ _ _ _ _ _ _ _ _ _ _ _ _ _ _ _ _ _ _ _ _ _ _ _ _ _ _ _ av arcs w5 hA5.out (by omega) hT5.out hb5.out
     | false =>
      go_upto_region 26 with fail
      refine aut_arc O syms st G iv fv av ini fin arcs x w5 hA5.out.om hla hX5.out _ _ _ _ _ _ _ _ _ _ _ _ _ _ _ _ _ _ _ _ _ _ _ _ _ _ _ _ _ _ _ _ _ _ _ _ _ _ _ _ _ _ _ _ _ _ _ _ _ _ _ _ _ _ _ _ _ _ _ _ _ _ _ _ _ _ _ _ _ _ _ _ _ _ _ _ _ _ _ _ _ _ _ _ _ _ _ _ _ _ _ _ _ _ _ _ _ _ _ _ _ _ _ _ _ _ _ _ _ _ _ _ _ _ _ _ _ _ _ _ _ _ _ _ _ _ _ _ _ _ _ _ _ _ _ _ _ _ _ _ _ _ _ _ _ _ _ _ _ _ _ _ _ _ _ _ _ _ _ _ _ _ _ _ _ _ _ _ _ _ _ _ _ _ _ _ _ _ _ _ _ _ _ _ (fun c a d v w h=>hpan c a d v w h) ?_
      intro Ml Mm Mn Mp Mq Mr av6 w6 hO6 hf6
      obtain ⟨r1,r2,r3⟩:=hfin.out av6 w6 hO6 hf6 (fun _=>rfl)
      replace hO6:=hid hO6
      replace hf6:=hid hf6
      go_wp2_with fail
      exact hexit.out _ _ _ _ _ _ _ _ _ _ _ _ _ _ _ _ _ _ _ _ _ _ _ _ _ _ _ _ _ _ _ _ _ _ _ _ _ _ _ _ _ _ _ _ _ _ _ _ _ _ _ _ _ _ _ _ _ _ _ _ _ _ _ _ _ _ _ _ _ _ _ _ _ _ _ _ _ _ _ av6 _ w6 r1 (by simp) r2 r3
    | false =>
     go_upto_region 26 with fail
     refine aut_arc O syms st G iv fv av ini fin arcs x w5 hA5.out.om hla hX5.out _ _ _ _ _ _ _ _ _ _ _ _ _ _ _ _ _ _ _ _ _ _ _ _ _ _ _ _ _ _ _ _ _ _ _ _ _ _ _ _ _ _ _ _ _ _ _ _ _ _ _ _ _ _ _ _ _ _ _ _ _ _ _ _ _ _ _ _ _ _ _ _ _ _ _ _ _ _ _ _ _ _ _ _ _ _ _ _ _ _ _ _ _ _ _ _ _ _ _ _ _ _ _ _ _ _ _ _ _ _ _ _ _ _ _ _ _ _ _ _ _ _ _ _ _ _ _ _ _ _ _ _ _ _ _ _ _ _ _ _ _ _ _ _ _ _ _ _ _ _ _ _ _ _ _ _ _ _ _ _ _ _ _ _ _ _ _ _ _ _ _ _ _ _ _ _ _ _ _ _ _ _ _ _ (fun c a d v w h=>hpan c a d v w h) ?_
     intro Ml Mm Mn Mp Mq Mr av6 w6 hO6 hf6
     obtain ⟨r1,r2,r3⟩:=hfin.out av6 w6 hO6 hf6 (fun h=>by cases h)
     replace hO6:=hid hO6
     replace hf6:=hid hf6
     go_wp2_with fail
     exact hexit.out _ _ _ _ _ _ _ _ _ _ _ _ _ _ _ _ _ _ _ _ _ _ _ _ _ _ _ _ _ _ _ _ _ _ _ _ _ _ _ _ _ _ _ _ _ _ _ _ _ _ _ _ _ _ _ _ _ _ _ _ _ _ _ _ _ _ _ _ _ _ _ _ _ _ _ _ _ _ _ av6 _ w6 r1 (by simp) r2 r3
end
end Go.Proofs.YtnapapijhhldpaaGreatDoor

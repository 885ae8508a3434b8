/-
  Texts joined by program: TwNf, TwNg. No condition of its own.
-/
import Derived.Test.YtnapapijhhldpaaGreatDoorJcAU
namespace Go.Proofs.YtnapapijhhldpaaGreatDoor
set_option linter.unusedSimpArgs false
set_option linter.unusedVariables false
section
open Go.RowKit
theorem Mk.obj {w:World} {b:Nat} {subs:List Vx} (h:Mk w b subs):∃ es clock,w.heap[b]? = some (.map es clock):=by
 obtain ⟨D,⟨es,clock,hb,_⟩,_⟩:=h
 exact ⟨es,clock,hb⟩
theorem Mk.lt {w:World} {b:Nat} {subs:List Vx} (h:Mk w b subs):b<w.heap.size:=by
 obtain ⟨es,clock,hb⟩:=h.obj
 exact (Array.getElem?_eq_some_iff.1 hb).1
theorem Mk.fr {T:Nat→Prop} {w w':World} {b:Nat} {subs:List Vx} (h:Mk w b subs) (hf:Fr T w w') (hT:¬ T b):Mk w' b subs:=by
 have hb:=hf.block b h.lt hT
 obtain ⟨D,⟨es,clock,h1,h2⟩,h3⟩:=h
 exact ⟨D,⟨es,clock,hb.trans h1,h2⟩,h3⟩
theorem Mk.ne_bl {w:World} {b O:Nat} {subs:List Vx} {cs:List Value} {T:TypeId} (h:Mk w b subs) (hO:Bl O cs T w):b≠O:=fun e=>by
 subst e
 obtain ⟨es,clock,hb⟩:=h.obj
 unfold Bl at hO
 rw [hb] at hO
 cases hO
theorem Mk.ne_row {w:World} {b base s n:Nat} {subs:List Vx} {e:TypeId} {v:Value} {xs:List Value} (h:Mk w b subs) (hr:w.ownsRow base e s v n xs):v.ownBlock≠some b:=fun hv=>by
 obtain ⟨es,clock,hb⟩:=h.obj
 rcases hr.2 with ⟨rfl,_⟩ | ⟨g,cap,cur,rfl,_,hh,_⟩
 ·cases hv
 ·have hg:g=b:=by simpa [Value.ownBlock] using hv
  rw [hg,hb] at hh
  cases hh
theorem Mk.idx {w:World} {b:Nat} {subs:List Vx} (h:Mk w b subs) {j:Nat} {S:Vx} (hj:subs[j]? = some S):subs.findIdx? (· == S)=some j:=by
 obtain ⟨D,_,h2,_⟩:=h
 rw [List.findIdx?_eq_some_iff_getElem]
 obtain ⟨hl,he⟩:=List.getElem?_eq_some_iff.1 hj
 refine ⟨hl,by simp [he],fun i hi hc=>?_⟩
 have hi':i<subs.length:=by omega
 have e:subs[i]=S:=by simpa using hc
 have k1:=(h2 i S (by rw [←e]; exact List.getElem?_eq_getElem hi')).2
 have k2:=(h2 j S hj).2
 rw [k1] at k2
 simp at k2
 omega
theorem Mk.entry' {w:World} {b:Nat} {subs:List Vx} (h:Mk w b subs) {S:Vx} (hS:S∉subs) {s:ByteArray} (hs:s.data.toList=keyT S) (hm:s.size≤maxLen) (hn:subs.length<1000000) :
  ∃ (v0:Value) (st:Nat) (w1 w2:World),(Instr.mapEntry 75 (.map (some b)) (.string s)).run Tryz.prog w=.ok (.tuple #[v0,.int .i64 (st:Int)]) w1 ∧
   (Instr.entryStore 75 (.map (some b)) (.int .i64 (st:Int)) (.int .i64 (subs.length:Int))).run Tryz.prog w1=.ok () w2∧Mk w2 b (subs++[S])∧w.grownBy w2 (some b):=h.entry Tryz.underlying75 hS hs hm hn
theorem findIdx_none {subs:List Vx} {S:Vx} (h:S∉subs):subs.findIdx? (· == S)=none:=by
 rw [List.findIdx?_eq_none_iff]
 intro x hx
 simp only [beq_eq_false_iff_ne,ne_eq]
 intro e; subst e; exact h hx
theorem Sb.ne_bl {w:World} {base g O:Nat} {S:Vx} {cs:List Value} {T:TypeId} (h:Sb w base g S) (hO:Bl O cs T w) (hT:T≠3):g≠O:=fun e=>by
 subst e
 rcases h.2 with ⟨hv,_⟩ | ⟨g',cap,cur,hv,hg,hh,_⟩
 ·cases hv
 ·injection hv with hv _ _
  injection hv with hv
  injection hv with hv
  subst hv
  unfold Bl at hO
  rw [hO] at hh
  injection hh with hh
  injection hh with _ hh _
  exact hT hh
theorem Sb.ne_row {w:World} {base g b2 s n:Nat} {S:Vx} {e:TypeId} {v:Value} {xs:List Value} (h:Sb w base g S) (h2:w.ownsRow b2 e s v n xs) (he:e≠3):v.ownBlock≠some g:=fun hv=>by
 rcases own_ne h2 h he with h3 | h3
 ·rw [h3] at hv; cases hv
 ·exact h3 (by rw [hv]; rfl)
theorem Sb.ne_mk {w:World} {base g b:Nat} {S:Vx} {subs:List Vx} (h:Sb w base g S) (h2:Mk w b subs):g≠b:=fun e=>h2.ne_row h (by rw [e]; rfl)
structure Dm (w:World) (base O st mb:Nat) (sv:Value) (gs:List Nat) (subs:List Vx):Prop where
 row:Rw 68 w (O+1) sv subs.length (fun j=>sbV st (gs.getD j 0))
 sbs:Sbs w base st subs gs
 mp:Mk w mb subs
section
variable {w w':World} {base O st mb:Nat} {sv:Value} {gs:List Nat} {subs:List Vx}
theorem Dm.next (h:Dm w base O st mb sv gs subs) (hb:Below w.heap.size w w'):Dm w' base O st mb sv gs subs:=⟨h.row.next hb,h.sbs.next hb,h.mp.next hb⟩
theorem Sbs.each (h:Sbs w base st subs gs) {g:Nat} (hg:g∈gs):∃ S,Sb w base g S:=by
 obtain ⟨i,hi⟩:=List.getElem?_of_mem hg
 have hl:i<subs.length:=by
  have:=(List.getElem?_eq_some_iff.1 hi).1
  rw [h.num] at this; exact this
 exact ⟨_,(h.lie i _ g (List.getElem?_eq_getElem hl) hi).1⟩
theorem Dm.out (h:Dm w base O st mb sv gs subs) {syms n:Nat} {iv fv av:Value} {ini fin:List Tw} {arcs:List Ac} (ho:Om w O syms n iv fv av ini fin arcs) (hf:Fr (OmB O iv fv av) w w'):Dm w' base O st mb sv gs subs:=by
 refine ⟨h.row.fr hf fun g hg=>?_,h.sbs.fr hf fun g hg=>?_,h.mp.fr hf ?_⟩
 ·have hr:=h.row
  have hlt:=(hr.lt hg).1
  rintro (rfl | hk | hk | hk)
  ·omega
  ·rcases own_ne hr ho.ini.1 (by decide) with e | e
   ·rw [hg] at e; cases e
   ·exact e (hg.trans hk.symm)
  ·rcases own_ne hr ho.fin.1 (by decide) with e | e
   ·rw [hg] at e; cases e
   ·exact e (hg.trans hk.symm)
  ·rcases own_ne hr ho.arcs.1 (by decide) with e | e
   ·rw [hg] at e; cases e
   ·exact e (hg.trans hk.symm)
 ·obtain ⟨S,hS⟩:=h.sbs.each hg
  rintro (hk | hk | hk | hk)
  ·exact hS.ne_bl ho.blk (by decide) hk
  ·exact hS.ne_row ho.ini.1 (by decide) hk
  ·exact hS.ne_row ho.fin.1 (by decide) hk
  ·exact hS.ne_row ho.arcs.1 (by decide) hk
 ·rintro (hk | hk | hk | hk)
  ·exact h.mp.ne_bl ho.blk hk
  ·exact h.mp.ne_row ho.ini.1 hk
  ·exact h.mp.ne_row ho.fin.1 hk
  ·exact h.mp.ne_row ho.arcs.1 hk
theorem Dm.mp8 {w8:World} (h:Dm w base O st mb sv gs subs) (hg8:w.grownBy w8 sv.ownBlock):Mk w8 mb subs :=
 h.mp.fr (grown_fr (T:=fun k=>sv.ownBlock=some k) hg8 fun g hg=>hg) (h.mp.ne_row h.row)
theorem Dm.grow {w8 wb:World} {g:Nat} {S:Vx} {sv':Value} (h:Dm w base O st mb sv gs subs) (hS:Sb w base g S) (hl:S.length=st)
  (hrow8:Rw 68 w8 (O+1) sv' (subs.length+1) (fun j=>sbV st ((gs++[g]).getD j 0))) (hg8:w.grownBy w8 sv.ownBlock) (hmk:Mk wb mb (subs++[S])) (hgr:w8.grownBy wb (some mb)) :
  Dm wb base O st mb sv' (gs++[g]) (subs++[S])∧Fr (fun k=>sv.ownBlock=some k∨k=mb) w wb:=by
 have hF1:Fr (fun k=>sv.ownBlock=some k) w w8:=grown_fr hg8 fun g hg=>hg
 have hF2:Fr (fun k=>k=mb) w8 wb:=grown_fr hgr fun g hg=>by injection hg with hg; exact hg.symm
 have hF:Fr (fun k=>sv.ownBlock=some k∨k=mb) w wb:=(hF1.mono fun k _ e=>.inl e).trans (hF2.mono fun k _ e=>.inr e)
 have hmk8:=h.mp8 hg8
 refine ⟨⟨?_,(h.sbs.fr hF fun q hq=>?_).app (hS.fr hF ?_) hl,hmk⟩,hF⟩
 ·rw [List.length_append]
  exact hrow8.fr hF2 fun q hq e=>by subst e; exact hmk8.ne_row hrow8 hq
 ·obtain ⟨T,hT⟩:=h.sbs.each hq
  rintro (e | e)
  ·exact hT.ne_row h.row (by decide) e
  ·exact hT.ne_mk h.mp e
 ·rintro (e | e)
  ·exact hS.ne_row h.row (by decide) e
  ·exact hS.ne_mk h.mp e
theorem Om.sub {syms n:Nat} {iv fv av:Value} {ini fin:List Tw} {arcs:List Ac} (ho:Om w O syms n iv fv av ini fin arcs) {m:Nat} {xs:List Value} {e:TypeId} (hr:w.ownsRow (O+1) e 1 sv m xs) (he:e=68) (hm:Mk w mb subs) (hf:Fr (fun k=>sv.ownBlock=some k∨k=mb) w w'):Om w' O syms n iv fv av ini fin arcs:=by
 subst he
 refine ho.fr hf fun k hk=>?_
 rintro (hs | hs)
 ·have hlt:=(hr.lt k hs).1
  rcases hk with rfl | hk | hk | hk
  ·omega
  ·rcases own_ne hr ho.ini.1 (by decide) with e | e
   ·rw [hs] at e; cases e
   ·exact e (hs.trans hk.symm)
  ·rcases own_ne hr ho.fin.1 (by decide) with e | e
   ·rw [hs] at e; cases e
   ·exact e (hs.trans hk.symm)
  ·rcases own_ne hr ho.arcs.1 (by decide) with e | e
   ·rw [hs] at e; cases e
   ·exact e (hs.trans hk.symm)
 ·subst hs
  rcases hk with hk | hk | hk | hk
  ·exact hm.ne_bl ho.blk hk
  ·exact hm.ne_row ho.ini.1 hk
  ·exact hm.ne_row ho.fin.1 hk
  ·exact hm.ne_row ho.arcs.1 hk
end
theorem Tryz.infoSub:(Tryz.prog.info? 68).map (fun i=>(i.zero,i.size,i.bytes))=some (some (.slice none 0 0),1,24):=by kernel_rfl
theorem wp_appSub {w:World} {ops:Array Oper} {rest:List Oper} {o:Oper} {a:Act} {Q:Exit→Act→World→Prop} (hgd:o.guard=none) (s x:Operand) (t:TypeId)
  (ho:o.op=.call { callee:=.builtin .append,args:=#[s,x],argTypes:=#[t,t] }) (ht:Tryz.prog.underlying t=some (.slice 68))
  (base st g:Nat) (v:Value) (n:Nat) (gs:List Nat) (hs:a.eval s=v) (hrow:Rw 68 w base v n (fun j=>sbV st (gs.getD j 0))) (hgs:gs.length=n) (hn:n≤64)
  (B:Nat) (hx:a.eval x=.slice (some ⟨B,0,none⟩) 1 1) (hB:Bl B [sbV st g] 68 w) (hbase:base≤w.heap.size)
  (h:∀ v' w',Rw 68 w' base v' (n+1) (fun j=>sbV st ((gs++[g]).getD j 0))→w.grownBy w' v.ownBlock→Below base w w'→wpList Tryz.prog ops Q rest (a.put o.dst v') w'):wpList Tryz.prog ops Q (o::rest) a w:=by
 refine wp_app hgd s x t ho _ _ 24 ht Tryz.infoSub rfl base v n _ hs hrow (some ⟨B,0,none⟩) 1 1 [sbV st g] hx ⟨rfl,Nat.le_refl _,by simp [maxLen],fun i u hi=>⟨B,0,rfl,by rw [Nat.zero_add]; exact hB.cell hi⟩⟩ (fun e=>by cases e) (fun u hu=>by obtain rfl:=List.mem_singleton.1 hu; rfl) (by omega) (by omega) hbase ?_
 intro v' w' h1 h2 h3
 refine h v' w' ?_ h2 h3
 unfold Rw
 have e:fnl n (fun j=>sbV st (gs.getD j 0))++[sbV st g]=fnl (n+1) (fun j=>sbV st ((gs++[g]).getD j 0)):=by
  unfold fnl
  rw [List.range_succ,List.map_append]
  have e1:(List.range n).map (fun j=>sbV st (gs.getD j 0))=(List.range n).map (fun j=>sbV st ((gs++[g]).getD j 0)):=List.map_congr_left fun j hj=>by
   have hj':=List.mem_range.1 hj
   rw [List.getD_eq_getElem?_getD,List.getD_eq_getElem?_getD,List.getElem?_append_left (by omega)]
  have e2:(gs++[g]).getD n 0=g:=by
   rw [List.getD_eq_getElem?_getD,List.getElem?_append_right (by omega),hgs,Nat.sub_self]; rfl
  rw [e1]
  show _=_++[sbV st ((gs++[g]).getD n 0)]
  rw [e2]
 rw [←e]
 exact h1
theorem setl_eq (S:Vx):setl S=(leastV S).map fun m=>(m,lowV S m):=by
 unfold setl; cases leastV S<;>rfl
theorem oneS_none {N:List Ac} {us:List Bool} {k l:Nat} {X:Ds} {R S:Vx} (hR:X.subs.getD k []=R) (hS:nextV N us R l=S) (h:leastV S=none):oneS N us k l X=some X:=by
 unfold oneS; rw [hR,hS,setl_eq,h]; rfl
theorem oneS_old {N:List Ac} {us:List Bool} {k l c num:Nat} {X:Ds} {R S:Vx} (hR:X.subs.getD k []=R) (hS:nextV N us R l=S) (h:leastV S=some c) (hf:X.subs.findIdx? (· == lowV S c)=some num) :
  oneS N us k l X=some ⟨X.subs,X.arcs++[(k,l,num,some c)]⟩:=by
 unfold oneS; rw [hR,hS,setl_eq,h]
 show (match X.subs.findIdx? (· == lowV S c) with | some num=>_ | none=>_)=_
 rw [hf]
theorem oneS_new {N:List Ac} {us:List Bool} {k l c:Nat} {X:Ds} {R S:Vx} (hR:X.subs.getD k []=R) (hS:nextV N us R l=S) (h:leastV S=some c) (hf:X.subs.findIdx? (· == lowV S c)=none) :
  oneS N us k l X=if X.subs.length=64 then none else some ⟨X.subs++[lowV S c],X.arcs++[(k,l,X.subs.length,some c)]⟩:=by
 unfold oneS; rw [hR,hS,setl_eq,h]
 show (match X.subs.findIdx? (· == lowV S c) with | some num=>_ | none=>_)=_
 rw [hf]
end
section
open Go.RowKit
theorem wp_storeBAuto {ops:Array Oper} {rest:List Oper} {o:Oper} {a:Act} {w:World} {Q:Exit→Act→World→Prop} (hgd:o.guard=none) (x y:Operand) (ho:o.op=.store 30 x y)
  (G:Nat) (T:TypeId) (old:List Value) (hG:Bl G old T w) (hx:a.eval x=.pointer (some ⟨G,0,none⟩)) (cs:List Value) (hk:cs.length=old.length) (hc:cs.length=7) (hy:a.eval y=.agg cs.toArray) (h1:∀ v∈cs,v.oneCell'=true)
  (h:∀ w',Bl G cs T w'→Fr (fun k=>k=G) w w'→wpList Tryz.prog ops Q rest (a.put o.dst undef) w'):wpList Tryz.prog ops Q (o::rest) a w :=
 wpList_plain hgd fun _ hK=>op_storeB _ x y ho G T old hG hx cs hk hy h1 (by rw [hc]; exact Tryz.sizeAuto) fun w' h2 h3=>hK _ _ (h w' h2 h3)
theorem zau_1:∀ u∈([.int .i64 0,.slice none 0 0,.int .i64 0,.int .i64 0,.slice none 0 0,.slice none 0 0,.slice none 0 0]:List Value),u.oneCell'=true:=fun u hu=>by
 simp only [List.mem_cons,List.not_mem_nil,or_false] at hu
 rcases hu with rfl | rfl | rfl | rfl | rfl | rfl | rfl<;>rfl
set_option maxRecDepth 100000 in
set_option maxHeartbeats 4000000 in
theorem det_label (W:World) (V gu syms C:Nat) (N:Au) (us:List Bool) (io:Option Addr) (ci:Nat) (fo:Option Addr) (cf:Nat) (ro:Option Addr) (nr cr:Nat) (vo:Option Addr) (cv:Nat) (hS:Hid (Sta W V gu syms C N us io ci fo cf ro nr cr vo cv)) (G0 RB O mb k l:Nat) (sv iv fv av:Value) (gs:List Nat) (ini fin:List Tw) (X:Ds) (w:World) (hb:Below W.heap.size W w) (hl:l≤32) (hk:k<X.subs.length) (hX:Hid (Dok N.st C k X)) (hD:Dm w W.heap.size O N.st mb sv gs X.subs) (hO:Om w O syms 0 iv fv av ini fin X.arcs) (hla:X.arcs.length≤4000) (hG:G0≤RB∧RB<W.heap.size) (hOW:W.heap.size≤O) (hmb:W.heap.size≤mb) (hRB:Bl RB [.int .i64 0,.slice none 0 0,.int .i64 0,.int .i64 0,.slice none 0 0,.slice none 0 0,.slice none 0 0] 30 W)
  (c0 c1 c3 c5 c7 c8 Aa Ab Ad Ae Af Ag Ah Ak Al Am An Ao Ap Aq Ar As Av Aw Ax Ay Az Ba Bb Bc Be Bf Bh Bi Bj Bk Bm Bn Bo Bp Bq Br Bs Bt Bu Bv Bw Bx By Bz Ca Cb Cc Cd Ce Cf Cg Ch Ci Cj Ck Cl Cm Cn Co Cp Cq Cr Ct Cu Cv Cw Cx Cy Cz Da Db Dc Dd De Df Dg Dh Di Dj Dk Dl Dn Dp Dq Dr Dt Du Dv Dw Dx Dy Dz Ea Eb Ec Ed Ee Ef Eg Eh Ei Ej Ek El Em En Eo Ep Eq Er Es Et Eu Ev Ew Ex Ey Ez Fa Fb Fc Fd Fe Ff Fg Fh Fi Fj Fk Fm Fn Fo Fp Fq Fs Ft Fu Fv Fw Fx Fy Fz Ga Gb Gc Gd Ge Gf Gg Gh Gi Gj Gk Gl Gm Gn Go Gp Gq Gr Gs Gt Gu Gv Gw Gx Gy Gz Ha Hb Hc Hd He Hf Hg Hh Hi Hj Hk Hl Hm Hn Ho Hp Hq Hr Hs Ht Hu Hv Hw Hx Hy Hz Ia Ib Ic Id Ie Ig Ih Ii Ij Ik Il Im Io Ip Iq Ir It Iu Iv Iw Ix Iy Iz Ja Jb Jc Jd Je Jf Jg Jh Ji Jj Jk Jl Jm Jn Jo Jp Jq Jr Js Jt Ju:Value) (Q0:Exit→Act→World→Prop) (hpan:∀ c (a:Act) d v w,Q0 (.panic c) (a.put d v) w→Q0 (.panic c) a w)
  (hexit:∀ (u3 Jv Jw Jx Jy Jz Ka Kb Kc Kd Ke Kf Kg Kh Ki Kj Kk Kl Km Kn Ko Kp Kq Kr Ks Kt Ku Kv Kw Kx Kz La Lb Lc Ld Le Lf Lg Lh Li Lj Lk Ll Lm Ln Lo Lp Lq Lr Lt Lu Lv Lx Ly Lz Ma Mb Mc Md Me Mf Mg Mh Mi Mj Ml Mm Mn Mp Mq Mr Ms Mt Mu Mw Mx My Mz Na Nb Nc Nd Ne Ng Nh Ni Nj Nk Nl Nm Nn Np Nq Nr Ns Nt:Value) (Y:Ds) (sv' av':Value) (gs':List Nat) (w':World),oneS N.arcs us k l X=some Y→Dm w' W.heap.size O N.st mb sv' gs' Y.subs→Om w' O syms 0 iv fv av' ini fin Y.arcs→Below W.heap.size W w'→Q0 .normal ⟨#[c0,c1,.pointer (some ⟨RB,0,none⟩),u3,.pointer (some ⟨V,0,none⟩),c5,.slice (some ⟨gu,0,none⟩) N.st N.st,c7,c8,.pointer (some ⟨O,0,none⟩),Aa,sv',.map (some mb),.int .i64 (k:Int),Ab,Ad,Ae,.int .i64 (l:Int),Jv,Jw,Jx,Ak,Jy,Jz,Ka,Kb,Ap,Aq,Ar,As,Av,Aw,Ax,Ay,Az,Ba,Bb,Bc,Be,Bf,Bh,Bi,Bj,Bk,Bm,Bn,Bo,Bp,Bq,Br,Bs,Bt,Bu,Bv,Bw,Bx,By,Bz,Ca,Cb,Cc,Cd,Ce,Cf,Cg,Ch,Ci,Cj,Ck,Cl,Cm,Cn,Co,Cp,Cq,Cr,Ct,Cu,Cv,Cw,Cx,Cy,Cz,Da,Db,Dc,Dd,De,Df,Dg,Dh,Di,Dj,Dk,Dl,Dn,Dp,Dq,Dr,Dt,Du,Dv,Dw,Dx,Dy,Dz,Ea,Eb,Ec,Ed,Ee,Ef,Eg,Eh,Ei,Ej,Ek,El,Em,En,Eo,Ep,Eq,Er,Es,Et,Eu,Ev,Ew,Ex,Ey,Ez,Fa,Fb,Fc,Fd,Fe,Ff,Fg,Fh,Fi,Fj,Fk,Fm,Fn,Fo,Fp,Fq,Fs,Ft,Fu,Fv,Fw,Fx,Fy,Kc,Kd,Ke,Kf,Kg,Kh,Ki,Kj,Kk,Kl,Km,Kn,Ko,Kp,Kq,Kr,Ks,Kt,Ku,Kv,Kw,Kx,Kz,La,Lb,Lc,Ld,Le,Lf,Lg,Lh,Li,Lj,Lk,Ll,Lm,Ln,Lo,Lp,Lq,Lr,Lt,Lu,Lv,Lx,Ly,Lz,Ma,Mb,Mc,Md,Me,Mf,Mg,Mh,Mi,Mj,Ml,Mm,Mn,Mp,Mq,Mr,Ms,Mt,Mu,Mw,Mx,My,Mz,Na,Nb,Nc,Nd,Ne,Ng,Nh,Ni,Nj,Nk,Nl,Nm,Nn,Np,Nq,Nr,Ns,Nt,Jm,Jn,Jo,Jp,Jq,Jr,Js,Jt,Ju],[]⟩ w')
  (hret:∀ (Nu Jv Jw Jx Jy Jz Ka Kb Kc Kd Ke Kf Kg Kh Ki Kj Kk Kl Km Kn Ko Kp Kq Kr Ks Kt Ku Kv Kw Kx Kz La Lb Lc Ld Le Lf Lg Lh Li Lj Lk Ll Lm Ln Lo Lp Lq Lr Lt Lu Lv Lx Ly Lz Ma Mb Mc Md Me Mf Mg Mh Mi Mj Ml Mm Mn Mp Mq Mr Ms Mt Mu Mw Mx My Mz Na Nb Nc Nd Ne Ng Nh Ni Nj Nk Nl Nm Nn Np Nq Nr Ns Nt:Value) (w':World),oneS N.arcs us k l X=none→Bl RB [.int .i64 0,.slice none 0 0,.int .i64 0,.int .i64 0,.slice none 0 0,.slice none 0 0,.slice none 0 0] 30 w'→Below G0 W w'→Q0 .ret ⟨#[c0,c1,.pointer (some ⟨RB,0,none⟩),.int .i64 2,.pointer (some ⟨V,0,none⟩),c5,.slice (some ⟨gu,0,none⟩) N.st N.st,c7,c8,.pointer (some ⟨O,0,none⟩),Aa,Nu,.map (some mb),.int .i64 (k:Int),Ab,Ad,Ae,.int .i64 (l:Int),Jv,Jw,Jx,Ak,Jy,Jz,Ka,Kb,Ap,Aq,Ar,As,Av,Aw,Ax,Ay,Az,Ba,Bb,Bc,Be,Bf,Bh,Bi,Bj,Bk,Bm,Bn,Bo,Bp,Bq,Br,Bs,Bt,Bu,Bv,Bw,Bx,By,Bz,Ca,Cb,Cc,Cd,Ce,Cf,Cg,Ch,Ci,Cj,Ck,Cl,Cm,Cn,Co,Cp,Cq,Cr,Ct,Cu,Cv,Cw,Cx,Cy,Cz,Da,Db,Dc,Dd,De,Df,Dg,Dh,Di,Dj,Dk,Dl,Dn,Dp,Dq,Dr,Dt,Du,Dv,Dw,Dx,Dy,Dz,Ea,Eb,Ec,Ed,Ee,Ef,Eg,Eh,Ei,Ej,Ek,El,Em,En,Eo,Ep,Eq,Er,Es,Et,Eu,Ev,Ew,Ex,Ey,Ez,Fa,Fb,Fc,Fd,Fe,Ff,Fg,Fh,Fi,Fj,Fk,Fm,Fn,Fo,Fp,Fq,Fs,Ft,Fu,Fv,Fw,Fx,Fy,Kc,Kd,Ke,Kf,Kg,Kh,Ki,Kj,Kk,Kl,Km,Kn,Ko,Kp,Kq,Kr,Ks,Kt,Ku,Kv,Kw,Kx,Kz,La,Lb,Lc,Ld,Le,Lf,Lg,Lh,Li,Lj,Lk,Ll,Lm,Ln,Lo,Lp,Lq,Lr,Lt,Lu,Lv,Lx,Ly,Lz,Ma,Mb,Mc,Md,Me,Mf,Mg,Mh,Mi,Mj,Ml,Mm,Mn,Mp,Mq,Mr,Ms,Mt,Mu,Mw,Mx,My,Mz,Na,Nb,Nc,Nd,Ne,Ng,Nh,Ni,Nj,Nk,Nl,Nm,Nn,Np,Nq,Nr,Ns,Nt,Jm,Jn,Jo,Jp,Jq,Jr,Js,Jt,Ju],[]⟩ w') :
  Code.wp Tryz.prog (dB 7) Q0 ⟨#[c0,c1,.pointer (some ⟨RB,0,none⟩),c3,.pointer (some ⟨V,0,none⟩),c5,.slice (some ⟨gu,0,none⟩) N.st N.st,c7,c8,.pointer (some ⟨O,0,none⟩),Aa,sv,.map (some mb),.int .i64 (k:Int),Ab,Ad,Ae,.int .i64 (l:Int),Af,Ag,Ah,Ak,Al,Am,An,Ao,Ap,Aq,Ar,As,Av,Aw,Ax,Ay,Az,Ba,Bb,Bc,Be,Bf,Bh,Bi,Bj,Bk,Bm,Bn,Bo,Bp,Bq,Br,Bs,Bt,Bu,Bv,Bw,Bx,By,Bz,Ca,Cb,Cc,Cd,Ce,Cf,Cg,Ch,Ci,Cj,Ck,Cl,Cm,Cn,Co,Cp,Cq,Cr,Ct,Cu,Cv,Cw,Cx,Cy,Cz,Da,Db,Dc,Dd,De,Df,Dg,Dh,Di,Dj,Dk,Dl,Dn,Dp,Dq,Dr,Dt,Du,Dv,Dw,Dx,Dy,Dz,Ea,Eb,Ec,Ed,Ee,Ef,Eg,Eh,Ei,Ej,Ek,El,Em,En,Eo,Ep,Eq,Er,Es,Et,Eu,Ev,Ew,Ex,Ey,Ez,Fa,Fb,Fc,Fd,Fe,Ff,Fg,Fh,Fi,Fj,Fk,Fm,Fn,Fo,Fp,Fq,Fs,Ft,Fu,Fv,Fw,Fx,Fy,Fz,Ga,Gb,Gc,Gd,Ge,Gf,Gg,Gh,Gi,Gj,Gk,Gl,Gm,Gn,Go,Gp,Gq,Gr,Gs,Gt,Gu,Gv,Gw,Gx,Gy,Gz,Ha,Hb,Hc,Hd,He,Hf,Hg,Hh,Hi,Hj,Hk,Hl,Hm,Hn,Ho,Hp,Hq,Hr,Hs,Ht,Hu,Hv,Hw,Hx,Hy,Hz,Ia,Ib,Ic,Id,Ie,Ig,Ih,Ii,Ij,Ik,Il,Im,Io,Ip,Iq,Ir,It,Iu,Iv,Iw,Ix,Iy,Iz,Ja,Jb,Jc,Jd,Je,Jf,Jg,Jh,Ji,Jj,Jk,Jl,Jm,Jn,Jo,Jp,Jq,Jr,Js,Jt,Ju],[]⟩ w:=by
 conv=>arg 2; whnf
 have hSw:=hS.out.next hb
 have hst:=hSw.st
 have y3:=hSw.vw.cell (i:=3) rfl
 have hCC:=hSw.cC
 have hpw:=hid hSw.pow
 clear hSw
 obtain ⟨gk,hgk,hkS,hkl,hklt⟩:=hD.sbs.get hk
 have hgd:gs.getD k 0=gk:=by rw [List.getD_eq_getElem?_getD,hgk]; rfl
 obtain ⟨v,hv⟩:∃ v,X.subs[k]? = some v:=⟨_,List.getElem?_eq_getElem hk⟩
 have hvR:X.subs.getD k []=v:=by rw [List.getD_eq_getElem?_getD,hv]; rfl
 have hnum:=hX.out.num
 have hvB:=hX.out.bd k v hv
 rw [hvR] at hkS hkl
 have hvR:=hid hvR
 have hbdR:Hid (Bd 1000000000000 v):=hid (hvB.mono (by have:C*(k+1)≤1048576*64:=Nat.mul_le_mul hCC (by omega); omega))
 have hbdS:Hid (∀ l,Bd (C*66) (nextV N.arcs us v l)):=hid fun l=>(bd_nextTo hvB hS.out.cst.1 _).mono (by
  have e:C*(k+1)+C=C*(k+2):=by rw [Nat.mul_add,Nat.mul_add]; omega
  rw [e]; exact Nat.mul_le_mul_left _ (by omega))
 have hC66:C*66≤69206016:=by omega
 obtain ⟨gr,cap,hsv,hgr1,hgr2⟩:=hD.row.place (by omega)
 subst hsv
 have hrc:=hD.row.cell hk
 simp only [hgd] at hrc
 unfold sbV at hrc
 replace hkl:=hid hkl
 replace hb:=hid hb
 have hnl:=hid hD.sbs.num
 replace hO:=hid hO
 clear hgd hv hvB
 have hlen64:X.subs.length≤64:=hnum
 obtain ⟨m,hm⟩:∃ m,X.subs.length=m:=⟨_,rfl⟩
 rw [hm] at hk hlen64 hD ⊢
 replace hD:=hid hD
 replace hm:=hid hm
 go_wp2_with fail
 refine (nothing_any N.st hst w).mono ?_; rintro e w1 ⟨⟨g,rfl,hg1⟩,hb1⟩
 have hglt:=(hg1.lt).1
 have hrc1:=cell_later hb1 hrc
 have hb1:=hid hb1
 have hg1:=hid hg1
 go_upto_block 8 with fail
 refine det_sts W V gu syms C N us io ci fo cf ro nr cr vo cv hS w.heap.size g W.heap.size gk l v hkl w1 (hb.out.trans (hb1.out.mono hb.out.size)) hl hbdR (hkS.next hb1.out) (by rw [hkl.out]; exact hg1.out) (Nat.le_trans hb.out.size hglt) (fun e=>by omega) _ _ _ _ _ _ _ _ _ _ _ _ _ _ _ _ _ _ _ _ _ _ _ _ _ _ _ _ _ _ _ _ _ _ _ _ _ _ _ _ _ _ _ _ _ _ _ _ _ _ _ _ _ _ _ _ _ _ _ _ _ _ _ _ _ _ _ _ _ _ _ _ _ _ _ _ _ _ _ _ _ _ _ _ _ _ _ _ _ _ _ _ _ _ _ _ _ _ _ _ _ _ _ _ _ _ _ _ _ _ _ _ _ _ _ _ _ _ _ _ _ _ _ _ _ _ _ _ _ _ _ _ _ _ _ _ _ _ _ _ _ _ _ _ _ _ _ _ _ _ _ _ _ _ _ _ _ _ _ _ _ _ _ _ _ _ _ _ _ _ _ _ _ _ _ _ _ _ _ _ _ _ _ _ _ _ _ _ _ _ _ _ _ _ _ _ _ _ _ _ _ _ _ _ _ _ _ _ _ _ _ _ _ _ _ _ _ _ _ _ _ _ _ _ _ _ _ _ _ _ _ _ _ _ _ _ _ _ _ _ _ _ _ _ _ _ ?_
 intro Nv Nw Nx Ny Nz Oa Ob Oc Od Oe Og Oh Oi Oj Ok Ol Oo Op Oq Os Ot Ou Ov Ow Ox Oy Oz Pa Pb Pc Pd Pe Pf Pg Ph w2 hg2 hfr2
 have hb2:Hid (Below w.heap.size w w2):=hid (hb1.out.trans (hfr2.below (fun k e=>by subst e; exact hglt) hb1.out.size))
 obtain ⟨S,hSv⟩:∃ S,nextV N.arcs us v l=S:=⟨_,rfl⟩
 have hSB:=hbdS.out l
 rw [hSv] at hg2 hSB
 have hSl:S.length=N.st:=by rw [←hSv,nextV_len]; exact hkl.out
 have hset:=settle_any w.heap.size g S (by omega) (hSB.mono (by omega)) w2 hg2
 rw [hSl] at hset
 have hset:=hid hset
 replace hSv:=hid hSv
 replace hSl:=hid hSl
 replace hg2:=hid hg2
 replace hfr2:=hid hfr2
 go_wp2_with fail
 refine hset.out.mono ?_; rintro e w3 ⟨rfl,hg3,hfr3⟩
 have hb3:Hid (Below w.heap.size w w3):=hid (hb2.out.trans (hfr3.below (fun k e=>by subst e; exact hglt) hb2.out.size))
 replace hfr3:=hid hfr3
 have hbW3:Hid (Below W.heap.size W w3):=hid (hb.out.trans (hb3.out.mono hb.out.size))
 cases hL:leastV S with
 | none =>
  replace hL:=hid hL
  unfold oV
  rw [oI_none]
  clear hg3
  go_wp2_with fail
  exact hexit _ _ _ _ _ _ _ _ _ _ _ _ _ _ _ _ _ _ _ _ _ _ _ _ _ _ _ _ _ _ _ _ _ _ _ _ _ _ _ _ _ _ _ _ _ _ _ _ _ _ _ _ _ _ _ _ _ _ _ _ _ _ _ _ _ _ _ _ _ _ _ _ _ _ _ _ _ _ _ _ _ _ _ _ _ _ _ _ _ _ _ _ _ _ _ _ X (.slice (some ⟨gr,0,none⟩) m cap) av gs w3 (oneS_none hvR.out hSv.out hL.out) (hD.out.next hb3.out) (hO.out.next hb3.out) hbW3.out
 | some c =>
  rw [hL] at hg3
  obtain ⟨S',hS'⟩:∃ S',lowV S c=S':=⟨_,rfl⟩
  have hg3:Sb w3 w.heap.size g S':=by rw [←hS']; exact hg3
  have hSl':S'.length=N.st:=by rw [←hS',lowV_len]; exact hSl.out
  have hSB':Bd (C*66) S':=by rw [←hS']; exact bd_low hSB
  have hc66:c≤C*66:=hSB c (least_mem hL)
  have hpos:0<S'.length:=by
   rw [hSl',←hSl.out]
   exact List.length_pos_of_mem (least_mem hL)
  have hklen:(keyT S').length≤10000000000:=by
   have h:=keyT_len hSB' S'.length (Nat.le_refl _)
   rw [List.take_length] at h
   refine Nat.le_trans h ?_
   have:S'.length*(C*66+3)≤64*69206019:=Nat.mul_le_mul (by omega) (by omega)
   omega
  replace hL:=hid hL
  replace hS':=hid hS'
  have hmx:=max_any (C*66) (by omega) S' (by omega) hpos hSB' w.heap.size g w3 hg3
  have hky:=fun w' (hb':Below w3.heap.size w3 w') (hp:Pow w')=>key_any (C*66) (by omega) S' (by omega) hSB' w.heap.size g w' (Rw.next hg3 hb') hp
  rw [hSl'] at hmx
  simp only [hSl'] at hky
  replace hmx:=hid hmx
  replace hky:=hid hky
  have hp3:=hid (hpw.out.next (hb3.out.mono (Nat.le_refl _)))
  replace hg3:=hid hg3
  replace hSl':=hid hSl'
  replace hSB':=hid hSB'
  replace hklen:=hid hklen
  have j1:(c:Int)≤69206016:=by omega
  have j0:(0:Int)≤(c:Int):=by omega
  have k1:((c:Int) == -1)=false:=by rw [beq_eq_false_iff_ne]; omega
  have k2:¬ (c:Int) = -1:=by omega
  have k3:¬ (1099511627776:Int)<(c:Int):=by omega
  have k3':decide ((1099511627776:Int)<(c:Int))=false:=decide_eq_false k3
  have hcv:Hid (oV (some c)=.int .i64 (c:Int)):=hid rfl
  unfold oV
  rw [oI_some]
  clear hset hSB hpos hc66
  go_wp2_with fail
  refine hmx.out.mono ?_; rintro e w4 ⟨⟨z,rfl,hz⟩,rfl⟩
  have k4:¬ (1099511627776:Int)<z:=by omega
  have k4':decide ((1099511627776:Int)<z)=false:=decide_eq_false k4
  clear hmx
  go_wp2_with fail
  refine (hky.out w3 (Below.refl _ _) hp3.out).mono ?_; rintro e w5 ⟨s,rfl,hs,hb5⟩
  have hsz:s.size≤maxLen:=by
   have:s.size=(keyT S').length:=by rw [←hs,Array.length_toList]; rfl
   rw [this]; have:=hklen.out; unfold maxLen; omega
  have hb35:=hid (below_chain hb3.out hb5)
  obtain ⟨cc,ff,hrun,hft,hff⟩:=(hD.out.mp.next hb35.out).find (t:=75) Tryz.underlying75 hs hsz
  replace hs:=hid hs
  replace hsz:=hid hsz
  replace hft:=hid hft
  replace hff:=hid hff
  have hbW5:=hid (hbW3.out.trans (hb5.mono hbW3.out.size))
  replace hb5:=hid hb5
  cases ff with
  | true =>
   obtain ⟨j,rfl,hj⟩:=hft.out rfl
   have hone:=hid (oneS_old (l:=l) hvR.out hSv.out hL.out (by rw [hS'.out]; exact (hD.out.mp.idx hj)))
   replace hj:=hid hj
   go_upto_region 54 with fail
   refine det_arc O syms 0 iv fv av ini fin X.arcs k l j (some c) w5 (hO.out.next hb35.out) (by omega) _ _ _ _ _ _ _ _ _ _ _ _ _ _ _ _ _ _ _ _ _ _ _ _ _ _ _ _ _ _ _ _ _ _ _ _ _ _ _ _ _ _ _ _ _ _ _ _ _ _ _ _ _ _ _ _ _ _ _ _ _ _ _ _ _ _ _ _ _ _ _ _ _ _ _ _ _ _ _ _ _ _ _ _ _ _ _ _ _ _ _ _ _ _ _ _ _ _ _ _ _ _ _ _ _ _ _ _ _ _ _ _ _ _ _ _ _ _ _ _ _ _ _ _ _ _ _ _ _ _ _ _ _ _ _ _ _ _ _ _ _ _ _ _ _ _ _ _ _ _ _ _ _ _ _ _ _ _ _ _ _ _ _ _ _ _ _ _ _ _ _ _ _ _ _ _ _ _ _ _ _ _ _ _ _ _ _ _ _ _ _ _ _ _ _ _ _ _ _ _ _ _ _ _ _ _ _ _ _ _ _ _ _ _ _ _ _ _ _ _ _ _ _ _ _ _ _ _ _ _ _ _ _ _ _ _ _ _ _ _ _ _ _ _ _ _ _ _ (fun c a d v w h=>hpan c a d v w h) ?_
   intro Pi Pj Pk Pl Pm Pn Po Pp Pq Ps Pt av' w6 hO6 hf6
   have hbW6:=hbW5.out.trans (hf6.below (fun q e=>by
    rcases e with rfl | e
    ·exact hOW
    ·have:=(hO.out.next hb35.out).lt (.inr (.inr (.inr e))); omega) hbW5.out.size)
   exact hexit _ _ _ _ _ _ _ _ _ _ _ _ _ _ _ _ _ _ _ _ _ _ _ _ _ _ _ _ _ _ _ _ _ _ _ _ _ _ _ _ _ _ _ _ _ _ _ _ _ _ _ _ _ _ _ _ _ _ _ _ _ _ _ _ _ _ _ _ _ _ _ _ _ _ _ _ _ _ _ _ _ _ _ _ _ _ _ _ _ _ _ _ _ _ _ _ ⟨X.subs,X.arcs++[(k,l,j,some c)]⟩ (.slice (some ⟨gr,0,none⟩) m cap) av' gs w6 hone.out ((hD.out.next hb35.out).out (hO.out.next hb35.out) (hf6.mono fun q _ e=>by
    rcases e with rfl | e
    ·exact .inl rfl
    ·exact .inr (.inr (.inr e)))) hO6 hbW6
  | false =>
   have hnin:=hff.out rfl
   have hone:=oneS_new (l:=l) hvR.out hSv.out hL.out (by rw [hS'.out]; exact findIdx_none hnin)
   rw [hS'.out,hm.out] at hone
   replace hnin:=hid hnin
   by_cases h64:m=64
   ·rw [if_pos h64] at hone
    replace hone:=hid hone
    subst h64
    have hRBn:=hid (hRB.next hbW5.out)
    go_wp2_with ((with_reducible refine wp_storeBAuto rfl _ _ rfl RB 30 _ hRBn.out ?_ [.int .i64 0,.slice none 0 0,.int .i64 0,.int .i64 0,.slice none 0 0,.slice none 0 0,.slice none 0 0] rfl rfl ?_ zau_1 ?_); exact rfl; exact rfl; intro w9 hR9 hfr9)
    exact hret _ _ _ _ _ _ _ _ _ _ _ _ _ _ _ _ _ _ _ _ _ _ _ _ _ _ _ _ _ _ _ _ _ _ _ _ _ _ _ _ _ _ _ _ _ _ _ _ _ _ _ _ _ _ _ _ _ _ _ _ _ _ _ _ _ _ _ _ _ _ _ _ _ _ _ _ _ _ _ _ _ _ _ _ _ _ _ _ _ _ _ _ _ _ _ _ w9 hone.out hR9 ((hbW5.out.mono (by omega)).trans (hfr9.below (fun q e=>by subst e; exact hG.1) (by have:=hbW5.out.size; omega)))
   ·rw [if_neg h64] at hone
    replace hone:=hid hone
    have hms:m<64:=by omega
    have hm0:((m:Int)==64)=false:=by rw [beq_eq_false_iff_ne]; omega
    have hm1:¬ (m:Int)=64:=by omega
    clear h64
    have hp5:=hid (hp3.out.next hb5.out)
    go_wp2_with fail
    refine (hky.out w5 hb5.out hp5.out).mono ?_; rintro e w6 ⟨s2,rfl,hs2,hb6⟩
    have hsz2:s2.size≤maxLen:=by
     have:s2.size=(keyT S').length:=by rw [←hs2,Array.length_toList]; rfl
     rw [this]; have:=hklen.out; unfold maxLen; omega
    have hb7:Below w6.heap.size w6 (w6.alloc (.cells #[.slice (some ⟨g,0,none⟩) N.st N.st] 68)):=below_alloc _
    have hB7:=Bl.fresh w6 [sbV N.st g] 68
    have hb57:=hid (below_chain hb6 hb7)
    have hD7:=hid ((hD.out.next hb35.out).next hb57.out)
    have hO7:=hid ((hO.out.next hb35.out).next hb57.out)
    have hg7:=hid ((hg3.out.next hb5.out).next hb57.out)
    have hO7l:=hO7.out.blk.lt
    have hrow7:=hid hD7.out.row
    rw [hm.out] at hrow7
    have hnl7:=hid hD7.out.sbs.num
    rw [hm.out] at hnl7
    have hbW7:=hid (hbW5.out.trans (hb57.out.mono hbW5.out.size))
    go_wp2_with (at_builtin; refine wp_appSub rfl (.tmp 225) (.tmp 227) 73 rfl Tryz.underlying73 (O+1) N.st g _ m gs rfl hrow7.out hnl7.out (by omega) w6.heap.size rfl hB7 hO7l ?_; intro sv' w8 hrow8 hg8 hb8; have hen:=(hD7.out.mp8 hg8).entry' hnin.out hs2 hsz2 (by rw [hm.out]; omega); rw [hm.out] at hen; obtain ⟨v0,stt,wa,wb,hr1,hr2,hmk,hgr⟩:=hen; replace hrow8:=hid hrow8; replace hg8:=hid hg8; replace hb8:=hid hb8; replace hmk:=hid hmk; replace hgr:=hid hgr)
    obtain ⟨hDn,hFn⟩:=hD7.out.grow (show Sb _ W.heap.size g S' from Rw.mono hg7.out hb.out.size) hSl'.out (by rw [hm.out]; exact hrow8.out) hg8.out hmk.out hgr.out
    replace hDn:=hid hDn
    have hOn:=hid (hO7.out.sub hD7.out.row rfl hD7.out.mp hFn)
    have hbWb:Below W.heap.size W wb:=hbW7.out.trans (hFn.below (fun q e=>by
     rcases e with e | rfl
     ·have:=(hD7.out.row.lt e).1; omega
     ·exact hmb) hbW7.out.size)
    refine det_arc O syms 0 iv fv av ini fin X.arcs k l m (some c) wb hOn.out (by omega) _ _ _ _ _ _ _ _ _ _ _ _ _ _ _ _ _ _ _ _ _ _ _ _ _ _ _ _ _ _ _ _ _ _ _ _ _ _ _ _ _ _ _ _ _ _ _ _ _ _ _ _ _ _ _ _ _ _ _ _ _ _ _ _ _ _ _ _ _ _ _ _ _ _ _ _ _ _ _ _ _ _ _ _ _ _ _ _ _ _ _ _ _ _ _ _ _ _ _ _ _ _ _ _ _ _ _ _ _ _ _ _ _ _ _ _ _ _ _ _ _ _ _ _ _ _ _ _ _ _ _ _ _ _ _ _ _ _ _ _ _ _ _ _ _ _ _ _ _ _ _ _ _ _ _ _ _ _ _ _ _ _ _ _ _ _ _ _ _ _ _ _ _ _ _ _ _ _ _ _ _ _ _ _ _ _ _ _ _ _ _ _ _ _ _ _ _ _ _ _ _ _ _ _ _ _ _ _ _ _ _ _ _ _ _ _ _ _ _ _ _ _ _ _ _ _ _ _ _ _ _ _ _ _ _ _ _ _ _ _ _ _ _ _ _ _ _ _ (fun c a d v w h=>hpan c a d v w h) ?_
    intro Pi Pj Pk Pl Pm Pn Po Pp Pq Ps Pt av' w9 hO9 hf9
    have hbW9:=hbWb.trans (hf9.below (fun q e=>by
     rcases e with rfl | e
     ·exact hOW
     ·have:=hOn.out.lt (.inr (.inr (.inr e))); omega) hbWb.size)
    exact hexit _ _ _ _ _ _ _ _ _ _ _ _ _ _ _ _ _ _ _ _ _ _ _ _ _ _ _ _ _ _ _ _ _ _ _ _ _ _ _ _ _ _ _ _ _ _ _ _ _ _ _ _ _ _ _ _ _ _ _ _ _ _ _ _ _ _ _ _ _ _ _ _ _ _ _ _ _ _ _ _ _ _ _ _ _ _ _ _ _ _ _ _ _ _ _ _ ⟨X.subs++[S'],X.arcs++[(k,l,m,some c)]⟩ sv' av' (gs++[g]) w9 hone.out (hDn.out.out hOn.out (hf9.mono fun q _ e=>by
     rcases e with rfl | e
     ·exact .inl rfl
     ·exact .inr (.inr (.inr e)))) hO9 hbW9
end
end Go.Proofs.YtnapapijhhldpaaGreatDoor

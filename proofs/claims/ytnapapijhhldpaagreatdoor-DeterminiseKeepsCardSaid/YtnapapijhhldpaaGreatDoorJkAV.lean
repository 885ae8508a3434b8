/-
  Texts joined by program: Trn, Tro, Trp. No condition of its own.
-/
import Derived.Test.YtnapapijhhldpaaGreatDoorJkAU
namespace Go.Proofs.YtnapapijhhldpaaGreatDoor
set_option linter.unusedSimpArgs false
set_option linter.unusedVariables false
set_option maxRecDepth 100000
set_option maxHeartbeats 4000000
section
open Go.RowKit
abbrev Pa:=Nat×Nat
def prC (p:Pa):List Value:=[.int .i64 (p.1:Int),.int .i64 (p.2:Int)]
inductive Rch (P:List Pa) (E:Nat->Bool):Nat->Prop
 | here {q:Nat} (h:E q=true):Rch P E q
 | step {p:Pa} (h:p∈P) (k:Rch P E p.1):Rch P E p.2
def ClP (P:List Pa) (E:Nat->Bool):Prop:=∀ p∈P,E p.1=true->E p.2=true
def SnP (P:List Pa) (E0 E:Nat->Bool):Prop:=(∀ q,E q=true->Rch P E0 q)/\∀ q,E0 q=true->E q=true
theorem z4x {P:List Pa} {E0 E:Nat->Bool} (h:SnP P E0 E) (hc:ClP P E) (q:Nat):E q=true↔Rch P E0 q:=⟨h.1 q,fun hr=>by
 induction hr with
 | here h1=>exact h.2 _ h1
 | step hp _ ih=>exact hc _ hp ih⟩
theorem z2b {P:List Pa} {E0 E:Nat->Bool} (h:SnP P E0 E) {p:Pa} (hp:p∈P) (ht:E p.1=true):SnP P E0 (updB E p.2 true) :=
 ⟨fun q hE=>by
  unfold updB at hE
  split at hE
  ·rename_i e; subst e; exact Rch.step hp (h.1 _ ht)
  ·exact h.1 q hE,fun q hq=>by
  unfold updB
  split
  ·rfl
  ·exact h.2 q hq⟩
theorem z1s {E:Nat->Bool} {j:Nat} (h:E j=true):updB E j true=E:=funext fun i=>by
 unfold updB; split
 ·rename_i e; rw [e,h]
 ·rfl
def Sp1 (P:List Pa) (n:Nat) (E E':Nat->Bool) (k:Nat):Prop:=((E'=E/\ClP (P.take k) E)\/cF E' n+1<=cF E n)/\(ClP P E->E'=E)
theorem j5c (P:List Pa) (n:Nat) (E:Nat->Bool):Sp1 P n E E 0:=⟨.inl ⟨rfl,fun p hp=>by simp at hp⟩,fun _=>rfl⟩
theorem z4p {P:List Pa} {n k:Nat} {E E':Nat->Bool} {p:Pa} (h:Sp1 P n E E' k) (hp:P[k]? = some p) (hE:E' p.1=false):Sp1 P n E E' (k+1):=by
 refine ⟨?_,h.2⟩
 rcases h.1 with ⟨h1,h2⟩ | h1
 ·refine .inl ⟨h1,fun r hr hr1=>?_⟩
  rw [jR hp] at hr
  rcases List.mem_append.1 hr with hr | hr
  ·exact h2 r hr hr1
  ·rw [List.mem_singleton.1 hr] at hr1 ⊢
   rw [<-h1,hE] at hr1; cases hr1
 ·exact .inr h1
theorem z1y {P:List Pa} {n k:Nat} {E E':Nat->Bool} {p:Pa} (h:Sp1 P n E E' k) (hp:P[k]? = some p) (hn:p.2<n) (hE:E' p.1=true):Sp1 P n E (updB E' p.2 true) (k+1):=by
 cases h2:E' p.2 with
 | true =>
  rw [z1s h2]
  refine ⟨?_,h.2⟩
  rcases h.1 with ⟨h1,h3⟩ | h1
  ·refine .inl ⟨h1,fun r hr hr1=>?_⟩
   rw [jR hp] at hr
   rcases List.mem_append.1 hr with hr | hr
   ·exact h3 r hr hr1
   ·rw [List.mem_singleton.1 hr,<-h1]; exact h2
  ·exact .inr h1
 | false =>
  have hs:=j7s hn h2
  refine ⟨.inr ?_,fun hc=>?_⟩
  ·rcases h.1 with ⟨h1,_⟩ | h1
   ·rw [<-h1]; omega
   ·omega
  ·have e:=h.2 hc
   rw [e] at hE h2
   rw [hc p (List.mem_of_getElem? hp) hE] at h2; cases h2
theorem z1z {P:List Pa} {n r:Nat} {E E':Nat->Bool} (h:Sp1 P n E E' P.length) (ho:ClP P E\/cF E n+r<=n):ClP P E'\/cF E' n+(r+1)<=n:=by
 rcases ho with ho | ho
 ·rw [h.2 ho]; exact .inl ho
 ·rcases h.1 with ⟨h1,h2⟩ | h1
  ·rw [List.take_length] at h2; rw [h1]; exact .inl h2
  ·exact .inr (by omega)
theorem z3u {P:List Pa} {n:Nat} {E:Nat->Bool} (hP:∀ p∈P,p.1<n/\p.2<n) (h:ClP P E\/cF E n+n<=n):ClP P E:=by
 rcases h with h | h
 ·exact h
 ·intro p hp _
  have h0:cF E n=0:=by omega
  unfold cF at h0
  rw [List.length_eq_zero_iff,List.filter_eq_nil_iff] at h0
  have:=h0 p.2 (List.mem_range.2 (hP p hp).2)
  simpa using this
def q4a (n:Nat) (R:(Nat->Bool)->Prop) (w:World) (e:Ending) (w':World):Prop:=∃ v E,e=.returned v/\Rw 4 w' w.heap.size v n (fBo E)/\R E/\Below w.heap.size w w'
theorem q4n (E0:Nat->Bool) (P:List Pa) (n m:Nat) (hn:n<=64) (hP:∀ p∈P,p.1<n/\p.2<n) (oo:OA) (oc:Nat) (hoo:oo=none->oc=0) (po:OA) (pc:Nat) (w:World) (ho:Rd w oo n oc (fBo E0)) (hp:Fl 2 w po m pc (P.map prC)) :
  Calls Tryz.prog 142 #[.slice oo n oc,.slice po m pc] w (q4a n (fun E=>∀ q,q<n->(E q=true↔Rch P E0 q)) w):=by
 have hpb:=hp.bound
 have hpl:=hid hp.lenMap
 have hP':=hid hP
 replace hp:=hid hp
 replace hP:=hid (fun (h:ClP P E0\/True)=>hP)
 clear hP
 go_enter Tryz.func142,Tryz.ntmps142
 go_upto_region 2 with (at_builtin; refine j1e rfl (.const (.slice none 0 0)) (.tmp 7) 66 rfl 4 (.bool false) 1 Tryz.underlying66 Tryz.infoBool rfl w.heap.size (.slice none 0 0) 0 [] rfl (World.ownsRow_nil _ _ _ _) oo n oc _ rfl ho hoo (by intro u hu; obtain ⟨j,_,rfl⟩:=List.mem_map.1 hu; rfl) (by omega) (by omega) (Nat.le_refl _) ?_; intro v1 w1 hv1 hg1 hb1)
 have hrow1:Rw 4 w1 w.heap.size v1 n (fBo E0):=by
  unfold Rw; rw [Nat.zero_add,List.nil_append] at hv1; exact hv1
 obtain ⟨ao,ac,hv,hrd⟩:=hrow1.rd
 subst hv
 replace hrow1:=hid hrow1
 replace hb1:=hid hb1
 clear hv1 hg1 hrd ho
 go_wp2_with fail
 go_loopw [5] (fun iv wr=>∃ (r:Nat) (E:Nat->Bool),r<=n/\iv=.int .i64 (r:Int)/\Rw 4 wr w.heap.size (.slice ao n ac) n (fBo E)/\Hid (SnP P E0 E)/\Hid (ClP P E\/cF E n+r<=n)/\Below w.heap.size w wr) (fun iv _=>n-(intOf iv).toNat)
 case atStart=>exact ⟨0,E0,Nat.zero_le _,rfl,hrow1.out,hid ⟨fun q h=>Rch.here h,fun q h=>h⟩,hid (.inr (by have:=z3v E0 n; omega)),hb1.out⟩
 case round =>
  obtain ⟨r,E,hr,rfl,hrow,hsn,hcl,hb⟩:=hrel
  by_cases hlt:r<n
  ·have i1:(r:Int)<(n:Int):=by omega
   have i0:(0:Int)<=(r:Int):=by omega
   obtain ⟨g,cap,hsl,hg1,hg2⟩:=hrow.place (by omega)
   injection hsl with hsl _ hcap
   subst hsl hcap
   replace hrow:=hid hrow
   replace hb:=hid hb
   obtain ⟨wo,rfl⟩:∃ wo:World,wo=wr:=⟨_,rfl⟩
   go_wp2_with fail
   go_loopw [6] (fun iv wr=>∃ (k:Nat) (E':Nat->Bool),k<=m/\iv=.int .i64 (k:Int)/\Rw 4 wr w.heap.size (.slice (some ⟨g,0,none⟩) n ac) n (fBo E')/\Hid (SnP P E0 E')/\Hid (Sp1 P n E E' k)/\Below w.heap.size w wr) (fun iv _=>m-(intOf iv).toNat)
   case atStart=>exact ⟨0,E,Nat.zero_le _,rfl,hrow.out,hsn,hid (j5c P n E),hb.out⟩
   case round =>
    obtain ⟨k,E',hk,rfl,hrw,hs,h1,hbr⟩:=hrel
    by_cases hkm:k<m
    ·obtain ⟨p,hpk,b,off,hpo,hcs⟩:=(hp.out.next hbr).get hkm
     subst hpo
     have hpn:=hP'.out p (List.mem_of_getElem? hpk)
     have j1:(k:Int)<(m:Int):=by omega
     have j0:(0:Int)<=(k:Int):=by omega
     have q1:(p.1:Int)<(n:Int):=by omega
     have q2:(p.2:Int)<(n:Int):=by omega
     have q3:(0:Int)<=(p.1:Int):=by omega
     have q4:(0:Int)<=(p.2:Int):=by omega
     have c1:=hcs 0 _ rfl
     have c2:=hcs 1 _ rfl
     have c3:=hrw.cell hpn.1
     have c4:=hrw.cell hpn.2
     have c5:=hrw.free p.2
     rw [Nat.add_zero] at c1
     simp only [fBo] at c3 c4
     have hpm:=List.mem_of_getElem? hpk
     replace hpm:=hid hpm
     replace hpk:=hid hpk
     obtain ⟨bq,hbq⟩:∃ bq,E' p.1=bq:=⟨_,rfl⟩
     rw [hbq] at c3
     replace hbq:=hid hbq
     replace hrw:=hid hrw
     clear hcs
     cases bq with
     | false =>
      have hs2:=hid (z4p h1.out hpk.out hbq.out)
      replace hbr:=hid hbr
      go_wp2_with fail
      go_roundw
      case rel=>exact ⟨k+1,E',by omega,by go_num,hrw.out,hs,hs2,hbr.out⟩
      case measure=>simp [intOf]; omega
     | true =>
      have hs2:=hid (z1y h1.out hpk.out hpn.2 hbq.out)
      have hs3:=hid (z2b hs.out hpm.out hbq.out)
      replace hbr:=hid hbr
      go_wp2_with fail
      go_roundw
      case rel=>exact ⟨k+1,updB E' p.2 true,by omega,by go_num,(hrw.out.put p.2 _).congr (fun i _=>q5b E' p.2 true i),hs3,hs2,hbr.out.setCell (p:=⟨g,p.2,none⟩) hg1 _⟩
      case measure=>simp [intOf]; omega
    ·obtain rfl:k=m:=by omega
     have j1:¬ (k:Int)<(k:Int):=by omega
     have h2:=h1.out
     rw [<-hpl.out] at h2
     have hcl2:=hid (z1z h2 hcl.out)
     replace hrw:=hid hrw
     replace hbr:=hid hbr
     clear h2
     go_wp2_with fail
     go_roundw
     case rel=>exact ⟨r+1,E',by omega,by go_num,hrw.out,hs,hcl2,hbr.out⟩
     case measure=>simp [intOf]; omega
  ·obtain rfl:r=n:=by omega
   have i1:¬ (r:Int)<(r:Int):=by omega
   have hcl2:=hid (z4x hsn.out (z3u hP'.out hcl.out))
   replace hrow:=hid hrow
   go_wp2_with fail
   go_ret
   exact ⟨_,E,rfl,hrow.out,fun q _=>hcl2.out q,hb⟩
end
section
open Go.RowKit
def sgl (n:Nat) (F:Nat->Value):List (List Value):=(List.range n).map fun j=>[F j]
theorem j1j (n:Nat) (F:Nat->Value):(sgl n F).flatten=fnl n F:=by
 unfold sgl fnl
 generalize List.range n=L
 induction L with
 | nil=>rfl
 | cons a r ih=>simp only [List.map_cons,List.flatten_cons,ih]; rfl
theorem q6p (n:Nat) (F:Nat->Value):(sgl n F).length=n:=by simp [sgl]
theorem j8v (n:Nat) (F:Nat->Value):sgl n F++[[F n]]=sgl (n+1) F:=by unfold sgl; rw [List.range_succ,List.map_append]; rfl
theorem Rw.fo {e:TypeId} {w:World} {base n:Nat} {v:Value} {F:Nat->Value} (h:Rw e w base v n F):FO e 1 w base v (sgl n F) :=
 ⟨by rw [q6p,j1j]; exact h,fun cs hc=>by obtain ⟨j,_,rfl⟩:=List.mem_map.1 hc; rfl⟩
theorem FO.rw1 {e:TypeId} {w:World} {base n:Nat} {v:Value} {F:Nat->Value} (h:FO e 1 w base v (sgl n F)):Rw e w base v n F:=by
 have:=h.1
 rw [q6p,j1j] at this; exact this
def lvE (xs:List Tw) (q:Nat):Bool:=(xs.getD q none).isSome
theorem j5w (P:List Pa):∀ cs∈P.map prC,cs.length=2:=by
 intro cs hc; obtain ⟨x,_,rfl⟩:=List.mem_map.1 hc; rfl
theorem j5v (P:List Pa):∀ cs∈P.map prC,∀ u∈cs,u.oneCell'=true:=by
 intro cs hc u hu
 obtain ⟨x,_,rfl⟩:=List.mem_map.1 hc
 simp only [prC,List.mem_cons,List.not_mem_nil,or_false] at hu
 rcases hu with rfl | rfl<;>rfl
theorem Tryz.infoPair:(Tryz.prog.info? 149).map (fun i=>(i.zero,i.size,i.bytes))=some (some (.agg #[.int .i64 0,.int .i64 0]),2,16):=by kernel_rfl
theorem q8e (xs:List Tw) (ao:OA) (n ca:Nat) (w:World) (hn:n<=64) (hx:Fl 8 w ao n ca (xs.map twC)):Calls Tryz.prog 99 #[.agg #[.int .i64 2,.slice none 0 0],.slice ao n ca] w (q4a n (fun E=>E=lvE xs) w):=by
 have hb0:Below w.heap.size w (w.alloc (.cells #[.int .i64 2,.slice none 0 0] 26)):=qJ _
 have hA:=Bl.fresh w rgC 26
 have hl:=hid hx.lenMap
 replace hx:=hid (hx.next hb0)
 go_enter Tryz.func99,Tryz.ntmps99
 go_wp2_with fail
 generalize (w.alloc (.cells #[.int .i64 2,.slice none 0 0] 26))=W1 at *
 go_loopw [5,6] (fun ov iv wr=>∃ k:Nat,k<=n/\iv=.int .i64 (k:Int)/\FO 4 1 wr W1.heap.size ov (sgl k (fBo (lvE xs)))/\Below W1.heap.size W1 wr) (fun _ iv _=>n-(intOf iv).toNat)
 case atStart=>exact ⟨0,by omega,rfl,FO.nil _ _ _ _,Below.refl _ _⟩
 case round =>
  obtain ⟨k,hk,rfl,hown,hb⟩:=hrel
  by_cases hlt:k<n
  ·obtain ⟨x,hxk,b1,o1,rfl,hc1⟩:=(hx.out.next hb).get hlt
   have i1:(k:Int)<(n:Int):=by omega
   have i0:(0:Int)<=(k:Int):=by omega
   obtain ⟨bq,hbq⟩:∃ bq,decide (x=none)=bq:=⟨_,rfl⟩
   have hE:=hid (fun w=>by have h:=q4p x w; rw [hbq] at h; exact h)
   have hlv:Hid (fBo (lvE xs) k=.bool (!bq)):=hid (by
    unfold fBo lvE; rw [List.getD_eq_getElem?_getD,hxk,<-hbq]; cases x<;>rfl)
   clear hxk hbq
   go_upto_region 5 with fail
   have hdr:=(Below.refl wr.heap.size wr).drew
   have hS:Cs wr.drew w.heap.size 0 rgC/\Cs wr.drew b1 (o1+k*8) (twC x):=⟨((hA.next hb).next hdr).cs,hc1.next hdr⟩
   have hK:∀ w' w'',(Cs w' w.heap.size 0 rgC/\Cs w' b1 (o1+k*8) (twC x))->Below w'.heap.size w' w''->(Cs w'' w.heap.size 0 rgC/\Cs w'' b1 (o1+k*8) (twC x)):=fun w' w'' h hb=>⟨h.1.next hb,h.2.next hb⟩
   have hb1:=hb.trans (hdr.mono hb.size)
   have hown1:=hown.next hdr
   clear hc1 hdr hb hown
   refine qV (fun w'=>Cs w' w.heap.size 0 rgC/\Cs w' b1 (o1+k*8) (twC x)) [9,10] (by kernel_rfl) ?_
   refine wAp 0 (some 13) rfl rfl hS ?_
   refine wAl 1 (some 14) (v:=?_) rfl rfl ?_ hS ?_
   rotate_left
   ·intro wz hw; refine qX w.heap.size 0 ?_ hw.1; go_simp
   refine wAp 2 (some 15) rfl rfl hS ?_
   refine wAp 3 (some 16) rfl rfl hS ?_
   refine wAp 4 (some 17) rfl rfl hS ?_
   refine wAl 5 (some 18) (v:=?_) rfl rfl ?_ hS ?_
   rotate_left
   ·intro wz hw; refine qY b1 (o1+k*8) ?_ x hw.2; go_simp
   go_simp
   refine wpO (i:=6) rfl fun KK hKK=>?_
   go_simp
   go_at_call 141
   refine (hE.out _).mono ?_; rintro e w2 ⟨rfl,hb2⟩
   have hown2:=hown1.next hb2
   have hb3:=hb1.trans (hb2.mono hb1.size)
   try go_simp
   refine hKK _ _ ⟨fun _=>(hK _ _ hS hb2),?_⟩; clear hKK KK
   refine wAl 7 (some 20) (v:=.bool (!bq)) rfl rfl ?_ (hK _ _ hS hb2) ?_
   ·intro wz _; first | (go_simp; done) | (go_simp; with_reducible rfl)
   refine wpO (i:=8) rfl fun KK hKK=>?_
   have hbN:Below w2.heap.size w2 (w2.alloc (.cells #[.bool (!bq)] 4)):=qJ _
   have hnew:=Cs.fresh w2 [.bool (!bq)] 4
   have hown3:=hown2.next hbN
   have hb4:=hb3.trans (hbN.mono hb3.size)
   go_simp
   refine hKK _ _ ⟨fun _=>(hK _ _ (hK _ _ hS hb2) hbN),?_⟩; clear hKK KK
   refine wpO (i:=9) rfl fun KK hKK=>?_
   rw [if_pos (by rfl)]
   refine jP (.tmp 13) (.tmp 21) 66 rfl 4 (.bool false) 1 1 Tryz.underlying66 Tryz.infoBool rfl (by decide) W1.heap.size _ _ rfl hown3 w2.heap.size 0 1 1 [[.bool (!bq)]] rfl rfl (by decide) (by intro cs hc; obtain rfl:=List.mem_singleton.1 hc; rfl) (by simp only [List.flatten_cons,List.flatten_nil,List.append_nil]; exact hnew) (by intro cs hc u hu; obtain rfl:=List.mem_singleton.1 hc; obtain rfl:=List.mem_singleton.1 hu; rfl) (by rw [q6p]; omega) (by rw [q6p]; omega) hb4.size ?_
   intro v' w5 hown4 hg5 hb5 _
   refine lN hKK ?_; clear hKK KK
   refine wpO (i:=10) rfl fun KK hKK=>?_
   go_simp
   refine lN hKK ?_; clear hKK KK
   refine qZ (by kernel_rfl) ?_ _
   have hb6:=hb4.trans hb5
   rw [<-hlv.out,j8v] at hown4
   replace hown4:=hid hown4
   go_wp2_with fail
   go_roundw
   case rel=>exact ⟨k+1,by omega,by go_num,hown4.out,hb6⟩
   case measure=>simp [intOf]; omega
  ·obtain rfl:k=n:=by omega
   have i1:¬ (k:Int)<(k:Int):=by omega
   replace hown:=hid hown
   go_wp2_with fail
   go_ret
   exact ⟨_,_,rfl,(hown.out.rw1).mono hb0.size,rfl,qQ hb0 hb⟩
def trn (P:List Pa):List Pa:=P.map fun p=>(p.2,p.1)
theorem j5t (E1 E2:Nat->Bool) (P:List Pa) (n m:Nat) (hn:n<=64) (hm:m<=2048) (hP:∀ p∈P,p.1<n/\p.2<n) (ao bo:OA) (ca cb:Nat) (hao:ao=none->ca=0) (hbo:bo=none->cb=0) (po:OA) (pc:Nat) (w:World) (h1:Rd w ao n ca (fBo E1)) (h2:Rd w bo n cb (fBo E2)) (hp:Fl 2 w po m pc (P.map prC)) :
  Calls Tryz.prog 98 #[.slice ao n ca,.slice bo n cb,.slice po m pc] w (q4a n (fun E=>∀ q,q<n->(E q=true↔Rch P E1 q/\Rch (trn P) E2 q)) w):=by
 have hpb:=hp.bound
 have hpl:=hid hp.lenMap
 have hPt:Hid (∀ p∈trn P,p.1<n/\p.2<n):=hid (fun p hp=>by
  obtain ⟨r,hr,rfl⟩:=List.mem_map.1 hp
  exact ⟨(hP r hr).2,(hP r hr).1⟩)
 replace hP:=hid hP
 replace hp:=hid hp
 replace h1:=hid h1
 replace h2:=hid h2
 go_enter Tryz.func98,Tryz.ntmps98
 go_wp2_with fail
 go_loopw [7,8] (fun tv iv wr=>∃ k:Nat,k<=m/\iv=.int .i64 (k:Int)/\FO 149 2 wr w.heap.size tv ((trn (P.take k)).map prC)/\Below w.heap.size w wr) (fun _ iv _=>m-(intOf iv).toNat)
 case atStart=>exact ⟨0,by omega,rfl,FO.nil _ _ _ _,Below.refl _ _⟩
 case round =>
  obtain ⟨k,hk,rfl,hown,hb⟩:=hrel
  by_cases hlt:k<m
  ·obtain ⟨p,hpk,b,off,hpo,hcs⟩:=(hp.out.next hb).get hlt
   subst hpo
   have i1:(k:Int)<(m:Int):=by omega
   have i0:(0:Int)<=(k:Int):=by omega
   have htk:Hid ((trn (P.take (k+1))).map prC=(trn (P.take k)).map prC++[prC (p.2,p.1)]):=hid (by unfold trn; rw [jR hpk,List.map_append,List.map_append]; rfl)
   have hlk:((trn (P.take k)).map prC).length<=m:=by unfold trn; rw [List.length_map,List.length_map,List.length_take]; omega
   clear hpk
   go_upto_region 5 with fail
   have hdr:=(Below.refl wr.heap.size wr).drew
   have hS:Cs wr.drew b (off+k*2) (prC p):=hcs.next hdr
   have hb1:=hb.trans (hdr.mono hb.size)
   have hown1:=hown.next hdr
   clear hcs hdr hb hown
   refine qV (fun w'=>Cs w' b (off+k*2) (prC p)) [13,14] (by kernel_rfl) ?_
   refine wAp 0 (some 19) rfl rfl hS ?_
   refine wAp 1 (some 20) rfl rfl hS ?_
   refine wAp 2 (some 21) rfl rfl hS ?_
   refine wAp 3 (some 22) rfl rfl hS ?_
   refine wAp 4 (some 23) rfl rfl hS ?_
   refine wAl 5 (some 24) (v:=?_) rfl rfl ?_ hS ?_
   rotate_left
   ·intro wz hw; refine qK b (off+k*2+1) ?_ (.int .i64 (p.2:Int)) (hw 1 _ rfl) _ Tryz.underlying3 rfl; go_simp
   refine wAp 6 (some 25) rfl rfl hS ?_
   refine wAp 7 (some 26) rfl rfl hS ?_
   refine wAp 8 (some 27) rfl rfl hS ?_
   refine wAp 9 (some 28) rfl rfl hS ?_
   refine wAl 10 (some 29) (v:=?_) rfl rfl ?_ hS ?_
   rotate_left
   ·intro wz hw; refine qK b (off+k*2+0) ?_ (.int .i64 (p.1:Int)) (hw 0 _ rfl) _ Tryz.underlying3 rfl; go_simp
   refine wAp 11 (some 30) rfl rfl hS ?_
   go_simp
   refine wpO (i:=12) rfl fun KK hKK=>?_
   have hbN:Below wr.drew.heap.size wr.drew (wr.drew.alloc (.cells (prC (p.2,p.1)).toArray 149)):=qJ _
   have hnew:=Cs.fresh wr.drew (prC (p.2,p.1)) 149
   have hown3:=hown1.next hbN
   have hb4:=hb1.trans (hbN.mono hb1.size)
   go_simp
   refine hKK _ _ ⟨fun _=>(Cs.next hS hbN),?_⟩; clear hKK KK
   refine wpO (i:=13) rfl fun KK hKK=>?_
   rw [if_pos (by rfl)]
   refine jP (.tmp 19) (.tmp 31) 148 rfl 149 _ 2 16 Tryz.underlying148 Tryz.infoPair rfl (by decide) w.heap.size _ _ rfl hown3 wr.drew.heap.size 0 1 1 [prC (p.2,p.1)] rfl rfl (by decide) (j5w [(p.2,p.1)]) (by simp only [List.flatten_cons,List.flatten_nil,List.append_nil]; exact hnew) (j5v [(p.2,p.1)]) (by omega) (by omega) hb4.size ?_
   intro v' w5 hown4 hg5 hb5 _
   refine lN hKK ?_; clear hKK KK
   refine wpO (i:=14) rfl fun KK hKK=>?_
   go_simp
   refine lN hKK ?_; clear hKK KK
   refine qZ (by kernel_rfl) ?_ _
   have hb6:=hid (hb4.trans hb5)
   replace hown4:=hid hown4
   go_wp2_with fail
   go_roundw
   case rel=>exact ⟨k+1,by omega,by go_num,by rw [htk.out]; exact hown4.out,hb6.out⟩
   case measure=>simp [intOf]; omega
  ·obtain rfl:k=m:=by omega
   have i1:¬ (k:Int)<(k:Int):=by omega
   rw [List.take_of_length_le (by rw [hpl.out]; exact Nat.le_refl _)] at hown
   obtain ⟨to_,tc_,htv⟩:=hown.form
   subst htv
   have hlt2:((trn P).map prC).length=k:=by unfold trn; rw [List.length_map,List.length_map]; exact hpl.out
   rw [hlt2] at hown ⊢
   have htf:=kG hown hlt2
   replace htf:=hid htf
   replace hown:=hid hown
   have hs1:=hid (q4n E1 P n k hn hP.out ao ca hao po pc wr (h1.out.next hb) (hp.out.next hb))
   go_wp2_with fail
   refine hs1.out.mono ?_; rintro e w2 ⟨v1,F1,rfl,hr1,hq1,hb2⟩
   have hb3:=hb.trans (hb2.mono hb.size)
   have hs2:=hid (q4n E2 (trn P) n k hn hPt.out bo cb hbo to_ tc_ w2 (h2.out.next hb3) (htf.out.next hb2))
   replace hr1:=hid hr1
   replace hq1:=hid hq1
   go_wp2_with fail
   refine hs2.out.mono ?_; rintro e w3 ⟨v2,F2,rfl,hr2,hq2,hb4⟩
   have hb5:=hb3.trans (hb4.mono hb3.size)
   have hr1':=hid (hr1.out.next hb4)
   obtain ⟨a1,c1,rfl,hd1⟩:=hr1'.out.rd
   obtain ⟨a2,c2,rfl,hd2⟩:=hr2.rd
   replace hd1:=hid hd1
   replace hd2:=hid hd2
   replace hq2:=hid hq2
   clear hr2 hr1 hr1' hs1 hs2 hown htf hb2 hb4 hb3
   replace hb5:=hid hb5
   obtain ⟨wo,rfl⟩:∃ wo:World,wo=wr:=⟨_,rfl⟩
   go_wp2_with fail
   go_loopw [11,12] (fun ov iv wr=>∃ j:Nat,j<=n/\iv=.int .i64 (j:Int)/\Rw 4 wr w3.heap.size ov j (fBo fun q=>F1 q&&F2 q)/\Below w3.heap.size w3 wr) (fun _ iv _=>n-(intOf iv).toNat)
   case atStart=>exact ⟨0,by omega,rfl,World.ownsRow_nil _ _ _ _,Below.refl _ _⟩
   case round =>
    obtain ⟨j,hj,rfl,hrow,hbj⟩:=hrel
    by_cases hjn:j<n
    ·obtain ⟨b1,o1,hA1,hC1⟩:=(hd1.out.next hbj).get hjn
     obtain ⟨b2,o2,hA2,hC2⟩:=(hd2.out.next hbj).get hjn
     subst hA1 hA2
     simp only [fBo] at hC1 hC2
     obtain ⟨q1,hQ1⟩:∃ q1,F1 j=q1:=⟨_,rfl⟩
     obtain ⟨q2,hQ2⟩:∃ q2,F2 j=q2:=⟨_,rfl⟩
     rw [hQ1] at hC1
     rw [hQ2] at hC2
     have hval:Hid ((F1 j&&F2 j)=(q1&&q2)):=hid (by rw [hQ1,hQ2])
     clear hQ1 hQ2
     have j1:(j:Int)<(n:Int):=by omega
     have j0:(0:Int)<=(j:Int):=by omega
     have hbN:Below wr.heap.size wr (wr.alloc (.cells #[.bool (q1&&q2)] 4)):=qJ _
     have hnew:=Bl.fresh wr [.bool (q1&&q2)] 4
     have hrow3:=hrow.next hbN
     have hbj2:=hbj.trans (hbN.mono hbj.size)
     clear hrow hbj
     cases q1 with
     | false =>
      go_wp2_with (at_builtin; refine j1e rfl (.tmp 45) (.tmp 56) 66 rfl 4 (.bool false) 1 Tryz.underlying66 Tryz.infoBool rfl w3.heap.size _ j _ rfl hrow3 (some ⟨wr.heap.size,0,none⟩) 1 1 [.bool (false&&q2)] rfl ⟨rfl,Nat.le_refl _,by simp [maxLen],fun i u hi=>⟨wr.heap.size,0,rfl,by rw [Nat.zero_add]; exact hnew.cell hi⟩⟩ (fun e=>by cases e) (fun u hu=>by obtain rfl:=List.mem_singleton.1 hu; rfl) (by omega) (by omega) hbj2.size ?_; intro v5 w5 hv5 hg5 hb6; have hv5:Rw 4 w5 w3.heap.size v5 (j+1) (fBo fun q=>F1 q&&F2 q):=(by unfold Rw fnl at *; rw [List.range_succ,List.map_append]; show World.ownsRow _ _ _ _ _ _ (_++[Value.bool (F1 j&&F2 j)]); rw [hval.out]; exact hv5); replace hv5:=hid hv5; replace hb6:=hid (hbj2.trans hb6))
      go_roundw
      case rel=>exact ⟨j+1,by omega,by go_num,hv5.out,hb6.out⟩
      case measure=>simp [intOf]; omega
     | true =>
      go_wp2_with (at_builtin; refine j1e rfl (.tmp 45) (.tmp 56) 66 rfl 4 (.bool false) 1 Tryz.underlying66 Tryz.infoBool rfl w3.heap.size _ j _ rfl hrow3 (some ⟨wr.heap.size,0,none⟩) 1 1 [.bool (true&&q2)] rfl ⟨rfl,Nat.le_refl _,by simp [maxLen],fun i u hi=>⟨wr.heap.size,0,rfl,by rw [Nat.zero_add]; exact hnew.cell hi⟩⟩ (fun e=>by cases e) (fun u hu=>by obtain rfl:=List.mem_singleton.1 hu; rfl) (by omega) (by omega) hbj2.size ?_; intro v5 w5 hv5 hg5 hb6; have hv5:Rw 4 w5 w3.heap.size v5 (j+1) (fBo fun q=>F1 q&&F2 q):=(by unfold Rw fnl at *; rw [List.range_succ,List.map_append]; show World.ownsRow _ _ _ _ _ _ (_++[Value.bool (F1 j&&F2 j)]); rw [hval.out]; exact hv5); replace hv5:=hid hv5; replace hb6:=hid (hbj2.trans hb6))
      go_roundw
      case rel=>exact ⟨j+1,by omega,by go_num,hv5.out,hb6.out⟩
      case measure=>simp [intOf]; omega
    ·obtain rfl:j=n:=by omega
     have j1:¬ (j:Int)<(j:Int):=by omega
     replace hrow:=hid hrow
     replace hbj:=hid hbj
     go_wp2_with fail
     go_ret
     exact ⟨_,_,rfl,hrow.out.mono hb5.out.size,fun q hq=>by rw [Bool.and_eq_true,hq1.out q hq,hq2.out q hq],hb5.out.trans (hbj.out.mono hb5.out.size)⟩
end
section
open Go.RowKit
def prs (L:List Ac):List Pa:=L.map fun x=>(x.1,x.2.2.1)
theorem q6z {xs:List Tw} {q:Nat}:lvE xs q=true↔∃ c,xs[q]? = some (some c):=by
 unfold lvE
 rw [List.getD_eq_getElem?_getD]
 cases h:xs[q]? with
 | none=>simp
 | some v=>cases v<;>simp
theorem j9b {L:List Ac} {ini:List Tw} {q:Nat}:Rch (prs L) (lvE ini) q↔kY L ini q:=by
 constructor
 ·intro h
  induction h with
  | here h=>obtain ⟨c,hc⟩:=q6z.1 h; exact kY.here hc
  | step hp _ ih =>
   obtain ⟨x,hx,rfl⟩:=List.mem_map.1 hp
   exact kY.step hx ih
 ·intro h
  induction h with
  | here h=>exact Rch.here (q6z.2 ⟨_,h⟩)
  | step hx _ ih=>exact Rch.step (p:=(_,_)) (List.mem_map.2 ⟨_,hx,rfl⟩) ih
theorem z4w {L:List Ac} {fin:List Tw} {q:Nat}:Rch (trn (prs L)) (lvE fin) q↔q0y L fin q:=by
 constructor
 ·intro h
  induction h with
  | here h=>obtain ⟨c,hc⟩:=q6z.1 h; exact q0y.here hc
  | step hp _ ih =>
   obtain ⟨r,hr,rfl⟩:=List.mem_map.1 hp
   obtain ⟨x,hx,rfl⟩:=List.mem_map.1 hr
   exact q0y.step hx ih
 ·intro h
  induction h with
  | here h=>exact Rch.here (q6z.2 ⟨_,h⟩)
  | step hx _ ih=>exact Rch.step (p:=(_,_)) (List.mem_map.2 ⟨_,List.mem_map.2 ⟨_,hx,rfl⟩,rfl⟩) ih
theorem j6a {e:TypeId} {w:World} {base n m c:Nat} {ao:OA} {F:Nat->Value} (h:Rw e w base (.slice ao m c) n F):ao=none->c=0:=fun e=>by
 subst e
 rcases h.2 with ⟨hv,_⟩ | ⟨g,cap,cur,hv,_⟩
 ·injection hv
 ·injection hv with hv; cases hv
def UsE (A:Au) (E:Nat->Bool):Prop:=∀ q,q<A.st->(E q=true↔kY A.arcs A.ini q/\q0y A.arcs A.fin q)
theorem j0f (syms:Nat) (A:Au) (hst:A.st<=64) (hnr0:A.arcs.length<=2048) (hA:∀ x∈A.arcs,x.1<A.st/\x.2.2.1<A.st) (io:OA) (ci:Nat) (fo:OA) (cf:Nat) (ro:OA) (nr cr:Nat) (w:World) (h:Mo w syms A io ci fo cf ro nr cr) :
  Calls Tryz.prog 72 #[.agg (auC syms A.st (.slice io A.st ci) (.slice fo A.st cf) (.slice ro nr cr)).toArray] w (q4a A.st (UsE A) w):=by
 have hb0:Below w.heap.size w (w.alloc (.cells (auC syms A.st (.slice io A.st ci) (.slice fo A.st cf) (.slice ro nr cr)).toArray 30)):=qJ _
 have hG:=Bl.fresh w (auC syms A.st (.slice io A.st ci) (.slice fo A.st cf) (.slice ro nr cr)) 30
 have hnl:=hid h.arcs.lenMap
 have hnr:nr<=2048:=by rw [<-hnl.out]; exact hnr0
 have hm:=hid (h.next hb0)
 replace hA:=hid hA
 clear h
 go_enter Tryz.func72,Tryz.ntmps72
 go_wp2_with fail
 generalize (w.alloc (.cells (auC syms A.st (.slice io A.st ci) (.slice fo A.st cf) (.slice ro nr cr)).toArray 30))=W1 at *
 go_loopw [3,4] (fun tv iv wr=>∃ k:Nat,k<=nr/\iv=.int .i64 (k:Int)/\FO 149 2 wr W1.heap.size tv ((prs (A.arcs.take k)).map prC)/\Below W1.heap.size W1 wr) (fun _ iv _=>nr-(intOf iv).toNat)
 case atStart=>exact ⟨0,by omega,rfl,FO.nil _ _ _ _,Below.refl _ _⟩
 case round =>
  obtain ⟨k,hk,rfl,hown,hb⟩:=hrel
  have x6:=(hG.next hb).cell (i:=6) rfl
  by_cases hlt:k<nr
  ·obtain ⟨x,hxk,b,off,hro,hcs⟩:=(hm.out.arcs.next hb).get hlt
   subst hro
   have i1:(k:Int)<(nr:Int):=by omega
   have i0:(0:Int)<=(k:Int):=by omega
   have htk:Hid ((prs (A.arcs.take (k+1))).map prC=(prs (A.arcs.take k)).map prC++[prC (x.1,x.2.2.1)]):=hid (by unfold prs; rw [jR hxk,List.map_append,List.map_append]; rfl)
   have hlk:((prs (A.arcs.take k)).map prC).length<=nr:=by unfold prs; rw [List.length_map,List.length_map,List.length_take]; omega
   clear hxk
   go_upto_region 5 with fail
   clear x6
   have hdr:=(Below.refl wr.heap.size wr).drew
   have hS:Cs wr.drew w.heap.size 0 (auC syms A.st (.slice io A.st ci) (.slice fo A.st cf) (.slice (some ⟨b,off,none⟩) nr cr))/\Cs wr.drew b (off+k*11) (acC x):=⟨((hG.next hb).next hdr).cs,hcs.next hdr⟩
   have hK:∀ w' w'',(Cs w' w.heap.size 0 (auC syms A.st (.slice io A.st ci) (.slice fo A.st cf) (.slice (some ⟨b,off,none⟩) nr cr))/\Cs w' b (off+k*11) (acC x))->Below w'.heap.size w' w''->(Cs w'' w.heap.size 0 (auC syms A.st (.slice io A.st ci) (.slice fo A.st cf) (.slice (some ⟨b,off,none⟩) nr cr))/\Cs w'' b (off+k*11) (acC x)):=fun w' w'' h hb=>⟨h.1.next hb,h.2.next hb⟩
   have hb1:=hb.trans (hdr.mono hb.size)
   have hown1:=hown.next hdr
   clear hcs hdr hb hown
   refine qV (fun w'=>Cs w' w.heap.size 0 (auC syms A.st (.slice io A.st ci) (.slice fo A.st cf) (.slice (some ⟨b,off,none⟩) nr cr))/\Cs w' b (off+k*11) (acC x)) [15,16] (by kernel_rfl) ?_
   refine wAp 0 (some 12) rfl rfl hS ?_
   refine wAp 1 (some 13) rfl rfl hS ?_
   refine wAl 2 (some 14) (v:=?_) rfl rfl ?_ hS ?_
   rotate_left
   ·intro wz hw; refine qK w.heap.size 6 ?_ (.slice (some ⟨b,off,none⟩) nr cr) (by have h:=hw.1 6 _ rfl; simpa using h) _ Tryz.underlying28 rfl; go_simp
   refine wAp 3 (some 15) rfl rfl hS ?_
   refine wAp 4 (some 16) rfl rfl hS ?_
   refine wAp 5 (some 17) rfl rfl hS ?_
   refine wAl 6 (some 18) (v:=?_) rfl rfl ?_ hS ?_
   rotate_left
   ·intro wz hw; refine qK b (off+k*11) ?_ (.int .i64 (x.1:Int)) (hw.2 0 _ rfl) _ Tryz.underlying3 rfl; go_simp
   refine wAp 7 (some 19) rfl rfl hS ?_
   refine wAl 8 (some 20) (v:=?_) rfl rfl ?_ hS ?_
   rotate_left
   ·intro wz hw; refine qK w.heap.size 6 ?_ (.slice (some ⟨b,off,none⟩) nr cr) (by have h:=hw.1 6 _ rfl; simpa using h) _ Tryz.underlying28 rfl; go_simp
   refine wAp 9 (some 21) rfl rfl hS ?_
   refine wAp 10 (some 22) rfl rfl hS ?_
   refine wAp 11 (some 23) rfl rfl hS ?_
   refine wAl 12 (some 24) (v:=?_) rfl rfl ?_ hS ?_
   rotate_left
   ·intro wz hw; refine qK b (off+k*11+2) ?_ (.int .i64 (x.2.2.1:Int)) (hw.2 2 _ rfl) _ Tryz.underlying3 rfl; go_simp
   refine wAp 13 (some 25) rfl rfl hS ?_
   go_simp
   refine wpO (i:=14) rfl fun KK hKK=>?_
   have hbN:Below wr.drew.heap.size wr.drew (wr.drew.alloc (.cells (prC (x.1,x.2.2.1)).toArray 149)):=qJ _
   have hnew:=Cs.fresh wr.drew (prC (x.1,x.2.2.1)) 149
   have hown3:=hown1.next hbN
   have hb4:=hb1.trans (hbN.mono hb1.size)
   go_simp
   refine hKK _ _ ⟨fun _=>(hK _ _ hS hbN),?_⟩; clear hKK KK
   refine wpO (i:=15) rfl fun KK hKK=>?_
   rw [if_pos (by rfl)]
   refine jP (.tmp 12) (.tmp 26) 148 rfl 149 _ 2 16 Tryz.underlying148 Tryz.infoPair rfl (by decide) W1.heap.size _ _ rfl hown3 wr.drew.heap.size 0 1 1 [prC (x.1,x.2.2.1)] rfl rfl (by decide) (j5w [(x.1,x.2.2.1)]) (by simp only [List.flatten_cons,List.flatten_nil,List.append_nil]; exact hnew) (j5v [(x.1,x.2.2.1)]) (by omega) (by omega) hb4.size ?_
   intro v' w5 hown4 hg5 hb5 _
   refine lN hKK ?_; clear hKK KK
   refine wpO (i:=16) rfl fun KK hKK=>?_
   go_simp
   refine lN hKK ?_; clear hKK KK
   refine qZ (by kernel_rfl) ?_ _
   have hb6:=hid (hb4.trans hb5)
   replace hown4:=hid hown4
   go_wp2_with fail
   go_roundw
   case rel=>exact ⟨k+1,by omega,by go_num,by rw [htk.out]; exact hown4.out,hb6.out⟩
   case measure=>simp [intOf]; omega
  ·obtain rfl:k=nr:=by omega
   have i1:¬ (k:Int)<(k:Int):=by omega
   rw [List.take_of_length_le (by rw [hnl.out]; exact Nat.le_refl _)] at hown
   obtain ⟨po,pc,htv⟩:=hown.form
   subst htv
   have hlt2:((prs A.arcs).map prC).length=k:=by unfold prs; rw [List.length_map,List.length_map]; exact hnl.out
   rw [hlt2] at hown ⊢
   have hpf:=kG hown hlt2
   have hPP:Hid (∀ p∈prs A.arcs,p.1<A.st/\p.2<A.st):=hid (fun p hp=>by
    obtain ⟨x,hx,rfl⟩:=List.mem_map.1 hp
    exact hA.out x hx)
   go_upto_region 6 with fail
   clear x6
   have hdr:=(Below.refl wr.heap.size wr).drew
   have hS:Cs wr.drew w.heap.size 0 (auC syms A.st (.slice io A.st ci) (.slice fo A.st cf) (.slice ro k cr)):=((hG.next hb).next hdr).cs
   have hb1:=hb.trans (hdr.mono hb.size)
   have hm1:=hid (hm.out.next hb1)
   have hpf1:=hid (hpf.next hdr)
   clear hown hpf hdr hb
   refine qV (fun w'=>Cs w' w.heap.size 0 (auC syms A.st (.slice io A.st ci) (.slice fo A.st cf) (.slice ro k cr))) [12] (by kernel_rfl) ?_
   refine wAp 0 (some 28) rfl rfl hS ?_
   refine wAl 1 (some 29) (v:=?_) rfl rfl ?_ hS ?_
   rotate_left
   ·intro wz hw; refine qX w.heap.size 0 ?_ (q1o hw); go_simp
   refine wAp 2 (some 30) rfl rfl hS ?_
   refine wAl 3 (some 31) (v:=?_) rfl rfl ?_ hS ?_
   rotate_left
   ·intro wz hw; refine qK w.heap.size 4 ?_ (.slice io A.st ci) (by have h:=hw 4 _ rfl; simpa using h) _ Tryz.underlying27 rfl; go_simp
   refine wAp 5 (some 33) rfl rfl hS ?_
   refine wAl 6 (some 34) (v:=?_) rfl rfl ?_ hS ?_
   rotate_left
   ·intro wz hw; refine qX w.heap.size 0 ?_ (q1o hw); go_simp
   refine wAp 7 (some 35) rfl rfl hS ?_
   refine wAl 8 (some 36) (v:=?_) rfl rfl ?_ hS ?_
   rotate_left
   ·intro wz hw; refine qK w.heap.size 5 ?_ (.slice fo A.st cf) (by have h:=hw 5 _ rfl; simpa using h) _ Tryz.underlying27 rfl; go_simp
   refine wAp 10 (some 38) rfl rfl hS ?_
   go_simp
   refine wpO (i:=4) rfl fun KK hKK=>?_
   go_simp
   go_at_call 99
   refine (q8e A.ini io A.st ci _ hst hm1.out.ini).mono ?_; rintro e w2 ⟨v1,E1,rfl,hr1,rfl,hb2⟩
   have hm2:=hid (hm1.out.next hb2)
   have hpf2:=hid (hpf1.out.next hb2)
   have hb3:=hb1.trans (hb2.mono hb1.size)
   try go_simp
   refine hKK _ _ ⟨fun _=>(Cs.next hS hb2),?_⟩; clear hKK KK
   refine wpO (i:=9) rfl fun KK hKK=>?_
   go_simp
   go_at_call 99
   refine (q8e A.fin fo A.st cf _ hst hm2.out.fin).mono ?_; rintro e w4 ⟨v2,E2,rfl,hr2,rfl,hb4⟩
   have hpf4:=hid (hpf2.out.next hb4)
   have hr1':=hr1.next hb4
   have hb5:=hb3.trans (hb4.mono hb3.size)
   obtain ⟨a1,c1,rfl,hd1⟩:=hr1'.rd
   obtain ⟨a2,c2,rfl,hd2⟩:=hr2.rd
   have hz1:a1=none->c1=0:=j6a hr1'
   have hz2:a2=none->c2=0:=j6a hr2
   try go_simp
   refine hKK _ _ ⟨fun _=>(Cs.next (Cs.next hS hb2) hb4),?_⟩; clear hKK KK
   refine wpO (i:=11) rfl fun KK hKK=>?_
   go_simp
   go_at_call 98
   refine (j5t _ _ (prs A.arcs) A.st k hst hnr hPP.out a1 a2 c1 c2 hz1 hz2 po pc _ hd1 hd2 hpf4.out).mono ?_; rintro e w6 ⟨v3,E3,rfl,hr3,hq3,hb6⟩
   try go_simp
   refine hKK _ _ ⟨fun _=>(Cs.next (Cs.next (Cs.next hS hb2) hb4) hb6),?_⟩; clear hKK KK
   refine wpO (i:=12) rfl fun KK hKK=>?_
   go_simp
   refine lN hKK ?_; clear hKK KK
   refine qZ (by kernel_rfl) ?_ _
   have hb7:=qQ hb0 (hb5.trans (hb6.mono hb5.size))
   replace hr3:=hid (hr3.mono (show w.heap.size<=w4.heap.size from Nat.le_trans hb0.size hb5.size))
   have hq4:Hid (UsE A E3):=hid (fun q hq=>by rw [hq3 q hq,j9b,z4w])
   clear hq3
   go_wp2_with fail
   go_ret
   exact ⟨_,_,rfl,hr3.out,hq4.out,hb7⟩
end
end Go.Proofs.YtnapapijhhldpaaGreatDoor

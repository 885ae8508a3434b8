/-
  Texts joined by program: Trx, Try, Trz. No condition of its own.
-/
import Derived.Test.YtnapapijhhldpaaGreatDoorJkAX
namespace Go.Proofs.YtnapapijhhldpaaGreatDoor
set_option linter.unusedSimpArgs false
set_option linter.unusedVariables false
set_option maxRecDepth 100000
set_option maxHeartbeats 4000000
section
open Go.RowKit
theorem kP (v:Tw) (w:World):Calls Tryz.prog 37 #[.agg (twC v).toArray] w fun e w'=>e=.returned (.bool (!ti v))/\Below w.heap.size w w':=by
 have hb0:Below w.heap.size w (w.alloc (.cells (twC v).toArray 45)):=qJ _
 have z4:=(Bl.fresh w (twC v) 45).cell (i:=4) rfl
 go_enter Tryz.func37,Tryz.ntmps37
 go_wp2_with fail
 go_ret
 exact ⟨rfl,hb0⟩
theorem q1u {P:Program} {fn:Func} {p q r:Tmp} {ty:TypeId} (h:fn.results=#[.cell p ty,.tmp q,.tmp r]) (tmps:Array Value) (w:World) (g:Nat) (cs:List Value) (d:TypeDesc)
  (hp:tmps.getD p undef=.pointer (some ⟨g,0,none⟩)) (hc:Cs w g 0 cs)
  (hu:P.underlying ty=some d) (hd:(match d with | .struct _ | .array _ _=>true | _=>false)=true) (hi:(P.info? ty).map (·.size)=some cs.length) :
  (results fn tmps).run P w=.ok (.tuple #[.agg cs.toArray,tmps.getD q undef,tmps.getD r undef]) w:=by
 have hp':tmps[p]?.getD undef=.pointer (some ⟨g,0,none⟩):=by simpa using hp
 simp [results,h,hp',asAddr,q1c w ty g 0 cs d hc hu hd hi]
theorem Tryz.sizeSub:(Tryz.prog.info? 84).map (·.size)=some 2:=by kernel_rfl
def noF (k j:Nat):Value:=if j<k then .int .i64 (-1) else .int .i64 0
theorem j9k (k:Nat):∀ j,q3r (noF k) k (.int .i64 (-1)) j=noF (k+1) j:=fun j=>by
 unfold q3r noF
 split
 ·rename_i e; subst e; rw [if_pos (by omega)]
 ·rename_i e
  by_cases h:j<k
  ·rw [if_pos h,if_pos (by omega)]
  ·rw [if_neg h,if_neg (by omega)]
theorem q8d (n:Nat) (hn:n<=64) (w:World) :
  Calls Tryz.prog 36 #[.int .i64 (n:Int)] w fun e w'=>(∃ g,e=.returned (.slice (some ⟨g,0,none⟩) n n)/\Sb w' w.heap.size g (List.replicate n none))/\Below w.heap.size w w':=by
 go_enter Tryz.func36,Tryz.ntmps36
 go_wp2_with (at_make; (with_reducible refine q1k rfl _ _ 22 rfl 3 (.int .i64 0) 8 Tryz.underlying22 Tryz.infoInt ?_ .i64 .i64 (n:Int) (n:Int) n ?_ ?_ ?_ ?_ ?_ ?_ ?_); exact rfl; exact rfl; exact rfl; exact rfl; exact rfl; omega; omega; intro w1 g hR1 hb1)
 replace hR1:=hid hR1
 replace hb1:=hid hb1
 go_loopw [4] (fun iv wr=>∃ k:Nat,k<=n/\iv=.int .i64 (k:Int)/\Rw 3 wr w.heap.size (.slice (some ⟨g,0,none⟩) n n) n (noF k)/\Below w.heap.size w wr) (fun iv _=>n-(intOf iv).toNat)
 case atStart=>exact ⟨0,by omega,rfl,hR1.out.congr (fun j _=>by unfold noF; rw [if_neg (by omega)]),hb1.out⟩
 case round =>
  obtain ⟨k,hk,rfl,hrow,hb⟩:=hrel
  by_cases hlt:k<n
  ·have i1:(k:Int)<(n:Int):=by omega
   have i0:(0:Int)<=(k:Int):=by omega
   have c1:=hrow.cell hlt
   have c2:=hrow.free k
   have hgl:=(hrow.lt (g:=g) rfl).1
   have hrow2:=hid ((hrow.put k (.int .i64 (-1))).congr (fun j _=>j9k k j))
   have hb2:=hid (hb.trans (Fr.below (T:=fun i=>i=g) (Fr.set (T:=fun i=>i=g) wr (p:=⟨g,k,none⟩) rfl (.int .i64 (-1))) (fun k e=>by subst e; exact hgl) hb.size))
   replace hrow:=hid hrow
   replace hb:=hid hb
   go_wp2_with fail
   go_roundw
   case rel=>exact ⟨k+1,by omega,by go_num,hrow2.out,hb2.out⟩
   case measure=>simp [intOf]; omega
  ·obtain rfl:k=n:=by omega
   have i1:¬ (k:Int)<(k:Int):=by omega
   replace hrow:=hid hrow
   replace hb:=hid hb
   go_wp2_with fail
   go_ret
   refine ⟨⟨g,rfl,?_⟩,hb.out⟩
   unfold Sb
   rw [List.length_replicate]
   exact hrow.out.congr fun i hi=>by unfold fS noF; simp [List.getD,hi]; rfl
def z5v (S:Vx) (w:World) (e:Ending) (w':World):Prop:=∃ sv rv,e=.returned (.tuple #[.agg #[sv,rv],oV (qG S),.bool (qG S).isSome])/\Sq w' w.heap.size sv rv (sup (vR S ((qG S).getD 0)))/\Below w.heap.size w w'
theorem q3k (base g:Nat) (S:Vx) (hn:S.length<=64) (hB:Bd 1000000000000000 S) (w:World) (h:Sb w base g S) :
  Calls Tryz.prog 38 #[.slice (some ⟨g,0,none⟩) S.length S.length] w (z5v S w):=by
 have hB:=hid hB
 obtain ⟨n,hnn⟩:∃ n,S.length=n:=⟨_,rfl⟩
 unfold Sb at *
 rw [hnn] at h hn ⊢
 have Hn:=hid hnn
 have hgw:=hid (h.lt (g:=g) rfl).2
 have hO1:Below w.heap.size w (w.alloc (.cells #[.slice none 0 0,.slice none 0 0] 84)):=qJ _
 have hR:=Bl.fresh' (G:=w.heap.size) w [.slice none 0 0,.slice none 0 0] 84 rfl
 have hst:=hid (h.next hO1)
 have hcell:=hid (fun k (hk:k<n)=>(h.next hO1).cell hk)
 clear hnn h
 go_enter Tryz.func38,Tryz.ntmps38
 go_upto_region 1 with fail
 generalize hW1:(w.alloc (.cells #[.slice none 0 0,.slice none 0 0] 84))=W1 at *
 have hW1s:Hid (W1.heap.size=w.heap.size+1):=hid (by rw [<-hW1]; simp)
 clear hW1
 replace hR:=hid hR
 replace hO1:=hid hO1
 go_wp2_with fail
 go_loopw [5,6] (fun lv iv wr=>∃ k:Nat,k<=n/\iv=.int .i64 (k:Int)/\lv=oV (qG (S.take k))/\wr=W1) (fun _ iv _=>n-(intOf iv).toNat)
 case atStart=>exact ⟨0,by omega,rfl,rfl,rfl⟩
 case round =>
  obtain ⟨k,hk,rfl,rfl,rfl⟩:=hrel
  by_cases hlt:k<n
  ·have i1:(k:Int)<(n:Int):=by omega
   have i0:(0:Int)<=(k:Int):=by omega
   obtain ⟨o,ho⟩:∃ o,S[k]? = some o:=⟨_,List.getElem?_eq_getElem (by have:=Hn.out; omega)⟩
   have hsn:Hid (qG (S.take (k+1))=qP (qG (S.take k)) o):=hid (by
    rw [List.take_succ_eq_append_getElem (List.getElem?_eq_some_iff.1 ho).1,(List.getElem?_eq_some_iff.1 ho).2,q0a])
   have c1:=hcell.out k hlt
   have e1:fS S k=oV o:=by unfold fS; rw [List.getD_eq_getElem?_getD,ho]; rfl
   rw [e1] at c1
   obtain ⟨L,hL⟩:∃ L,qG (S.take k)=L:=⟨_,rfl⟩
   rw [hL] at hsn ⊢
   clear e1 hL ho
   unfold oV at c1
   unfold oV
   cases o with
   | none =>
    rw [zP] at c1
    have h2:Hid (qG (S.take (k+1))=L):=hid (by rw [hsn.out,jU])
    go_wp2_with fail
    go_roundw
    case rel=>exact ⟨k+1,by omega,by go_num,by rw [h2.out],by trivial⟩
    case measure=>simp [intOf]; omega
   | some r =>
    rw [zN] at c1
    have k1:(0:Int)<=(r:Int):=by omega
    cases L with
    | none =>
     rw [zP]
     have h2:Hid (qG (S.take (k+1))=some r):=hid (by rw [hsn.out,zB])
     go_wp2_with fail
     go_roundw
     case rel=>exact ⟨k+1,by omega,by go_num,by rw [h2.out]; rfl,by trivial⟩
     case measure=>simp [intOf]; omega
    | some m =>
     rw [zN]
     have k4:¬ (m:Int)<0:=by omega
     by_cases hrm:r<m
     ·have h2:Hid (qG (S.take (k+1))=some r):=hid (by rw [hsn.out,zY,Nat.min_eq_right (by omega)])
      have k5:(r:Int)<(m:Int):=by omega
      go_wp2_with fail
      go_roundw
      case rel=>exact ⟨k+1,by omega,by go_num,by rw [h2.out]; rfl,by trivial⟩
      case measure=>simp [intOf]; omega
     ·have h2:Hid (qG (S.take (k+1))=some m):=hid (by rw [hsn.out,zY,Nat.min_eq_left (by omega)])
      have k5:¬ (r:Int)<(m:Int):=by omega
      go_wp2_with fail
      go_roundw
      case rel=>exact ⟨k+1,by omega,by go_num,by rw [h2.out]; rfl,by trivial⟩
      case measure=>simp [intOf]; omega
  ·obtain rfl:k=n:=by omega
   have i1:¬ (k:Int)<(k:Int):=by omega
   have htk:S.take k=S:=List.take_of_length_le (by rw [Hn.out]; exact Nat.le_refl _)
   rw [htk]
   clear htk
   have hle:Hid (∀ r,some r∈S->(qG S).getD 0<=r/\(qG S).isSome=true):=hid fun r hr=>by
    have:=kW hr
    cases hl:qG S with
    | none=>rw [hl] at this; cases this
    | some m=>rw [hl] at this; exact ⟨this,rfl⟩
   obtain ⟨L,hL⟩:∃ L,qG S=L:=⟨_,rfl⟩
   rw [hL] at hle ⊢
   have HL:=hid hL
   clear hL
   obtain ⟨m,hm⟩:∃ m,L.getD 0=m:=⟨_,rfl⟩
   rw [hm] at hle
   have Hm:=hid hm
   clear hm
   obtain ⟨l,hl⟩:∃ l,oI L=l:=⟨_,rfl⟩
   unfold oV
   rw [hl]
   have Hl:=hid hl
   clear hl
   have hbO:Below wr.heap.size wr (wr.alloc (.cells #[.slice none 0 0,.slice none 0 0] 84)):=qJ _
   have hO0:=Bl.fresh' (G:=w.heap.size+1) wr [.slice none 0 0,.slice none 0 0] 84 hW1s.out
   have y0:=hO0.cell (i:=0) rfl
   have y1:=hO0.cell (i:=1) rfl
   have y0f:=hO0.free 0
   have y1f:=hO0.free 1
   go_wp2_with fail
   generalize hW2:(wr.alloc (.cells #[.slice none 0 0,.slice none 0 0] 84))=W2 at *
   obtain ⟨O,hO⟩:∃ O,wr.heap.size=O:=⟨_,rfl⟩
   have hOw:w.heap.size+1=O:=by rw [<-hO]; exact hW1s.out.symm
   rw [hO] at hbO ⊢
   rw [hOw] at hO0
   replace hO0:=hid hO0
   have hgO:g<O:=by have:=hgw.out; omega
   have hwO:w.heap.size<O:=by omega
   replace hOw:=hid hOw
   replace hbO:=hid hbO
   clear hW2 hO y0 y1 y0f y1f
   obtain ⟨wo,hwo⟩:∃ wo,wo=wr:=⟨_,rfl⟩
   rw [<-hwo] at hR hW1s hO1 hst hcell hbO
   clear hwo
   go_loopw [8] (fun iv wq=>∃ (j:Nat) (sv rv:Value),j<=k/\iv=.int .i64 (j:Int)/\Bl O [sv,rv] 84 wq/\Sq wq (O+1) sv rv (q0z (vR S m) j)/\Below O wo wq) (fun iv _=>k-(intOf iv).toNat)
   case atStart=>exact ⟨0,_,_,by omega,rfl,hO0.out,⟨FO.nil _ _ _ _,FO.nil _ _ _ _,fun g h=>by cases h⟩,hbO.out⟩
   case round =>
    obtain ⟨j,sv,rv,hj,rfl,hBl,hSu,hbq⟩:=hrel
    by_cases hlt:j<k
    ·have i1:(j:Int)<(k:Int):=by omega
     have i0:(0:Int)<=(j:Int):=by omega
     obtain ⟨o,ho⟩:∃ o,S[j]? = some o:=⟨_,List.getElem?_eq_getElem (by have:=Hn.out; omega)⟩
     have c1:wr.cell? ⟨g,j,none⟩=some (fS S j):=(hbq.cell (p:=⟨g,j,none⟩) hgO).trans (hcell.out j hlt)
     have e1:fS S j=oV o:=by unfold fS; rw [List.getD_eq_getElem?_getD,ho]; rfl
     have hlo:(vR S m)[j]? = some (o.map (· - m)):=by unfold vR; rw [List.getElem?_map,ho]; rfl
     rw [e1] at c1
     clear e1
     unfold oV at c1
     cases o with
     | none =>
      rw [zP] at c1
      have hsk:=hid (q2z hlo)
      clear ho hlo
      replace hBl:=hid hBl
      replace hSu:=hid hSu
      replace hbq:=hid hbq
      go_wp2_with fail
      go_roundw
      case rel=>exact ⟨j+1,sv,rv,by omega,by go_num,hBl.out,by rw [hsk.out]; exact hSu.out,hbq.out⟩
      case measure=>simp [intOf]; omega
     | some r =>
      rw [zN] at c1
      have k1:(0:Int)<=(r:Int):=by omega
      have hrm:=hle.out r (List.mem_of_getElem? ho)
      have hsk:=hid (q2y hlo)
      have hrB:=hB.out r (List.mem_of_getElem? ho)
      clear ho hlo
      have hLm:L=some m:=by
       have h1:=Hm.out
       cases L with
       | none=>exact absurd hrm.2 (by simp)
       | some x=>simp at h1; rw [h1]
      have hlv2:l=(m:Int):=by rw [<-Hl.out,hLm]; rfl
      clear hLm
      subst hlv2
      have k3:=hrm.1
      have hPl:(q0z (vR S m) j).length<=64:=Nat.le_trans (q0o _ _) (by omega)
      replace hBl:=hid hBl
      replace hSu:=hid hSu
      replace hbq:=hid hbq
      go_upto_region 12 with fail
      refine z2v O g k k j r m hlt k3 hrB sv rv _ _ hn hBl.out hSu.out hPl c1 hgO (fun _ _ d _ _ h=>by cases d<;>exact h) ?_
      intro _ _ _ _ _ _ _ _ _ _ _ _ _ _ _ _ _ sv' rv' w3 hBl3 hSu3 hb3
      have hb4:=hid (hbq.out.trans hb3)
      replace hBl3:=hid hBl3
      replace hSu3:=hid hSu3
      clear hb3
      go_wp2_with fail
      go_roundw
      case rel=>exact ⟨j+1,sv',rv',by omega,by go_num,hBl3.out,by rw [hsk.out]; exact hSu3.out,hb4.out⟩
      case measure=>simp [intOf]; omega
    ·obtain rfl:j=k:=by omega
     have i1:¬ (j:Int)<(j:Int):=by omega
     have hsp:q0z (vR S m) j=sup (vR S m):=by unfold sup; rw [vZ,Hn.out]
     rw [hsp] at hSu
     clear hsp
     obtain ⟨so,sc,rfl⟩:=hSu.sts.form
     obtain ⟨r1,rc,rfl⟩:=hSu.rst.form
     have y0:=hBl.cell (i:=0) rfl
     have y1:=hBl.cell (i:=1) rfl
     have hRq:=hR.out.under hbq hwO
     have z0:=hRq.cell (i:=0) rfl
     have z1:=hRq.cell (i:=1) rfl
     have z0f:=hRq.free 0
     have z1f:=hRq.free 1
     have hne0:w.heap.size≠O:=by omega
     simp only [List.length_map] at hBl hSu y0 y1 ⊢
     replace hBl:=hid hBl
     replace hbq:=hid hbq
     replace hSu:=hid hSu
     have hmO:=Hm.out
     have hlO:=Hl.out
     cases L with
     | none =>
      obtain rfl:l = -1:=hlO.symm
      obtain rfl:m=0:=hmO.symm
      have hF9:Fr (fun k=>k=w.heap.size) wr ((wr.setCell ⟨w.heap.size,0,none⟩ (.slice so (sup (vR S 0)).length sc)).setCell ⟨w.heap.size,1,none⟩ (.slice r1 (sup (vR S 0)).length rc)):=(Fr.set (T:=fun k=>k=w.heap.size) wr (p:=⟨w.heap.size,0,none⟩) rfl _).trans (Fr.set (T:=fun k=>k=w.heap.size) _ (p:=⟨w.heap.size,1,none⟩) rfl _)
      have hbF:=hid ((hO1.out.trans (hbq.out.mono (by omega))).trans (hF9.below (fun k e=>by omega) (by have:=hRq.lt; omega)))
      have hSF:=hid (hSu.out.fr hF9 (fun g hg e=>by have:=(hSu.out.sts.lt hg).1; omega) (fun g hg e=>by have:=(hSu.out.rst.lt hg).1; omega))
      have hRF:=hid ((hRq.put 0 (.slice so (sup (vR S 0)).length sc)).put 1 (.slice r1 (sup (vR S 0)).length rc))
      go_wp2_with fail
      have hRF2:=hRF.out
      have hSF2:=hSF.out
      have hbF2:=hbF.out
      exact bodyPost_ret (q1u rfl _ _ w.heap.size [.slice so (sup (vR S 0)).length sc,.slice r1 (sup (vR S 0)).length rc] _ rfl hRF2.cs Tryz.underlying84 rfl Tryz.sizeSub) rfl ⟨_,_,by rw [HL.out]; rfl,by rw [HL.out]; exact ⟨hSF2.sts.mono (by omega),hSF2.rst.mono (by omega),hSF2.ne⟩,hbF2⟩
     | some x =>
      obtain rfl:x=m:=hmO
      obtain rfl:l=(x:Int):=hlO.symm
      have k1:(0:Int)<=(x:Int):=by omega
      have hF9:Fr (fun k=>k=w.heap.size) wr ((wr.setCell ⟨w.heap.size,0,none⟩ (.slice so (sup (vR S x)).length sc)).setCell ⟨w.heap.size,1,none⟩ (.slice r1 (sup (vR S x)).length rc)):=(Fr.set (T:=fun k=>k=w.heap.size) wr (p:=⟨w.heap.size,0,none⟩) rfl _).trans (Fr.set (T:=fun k=>k=w.heap.size) _ (p:=⟨w.heap.size,1,none⟩) rfl _)
      have hbF:=hid ((hO1.out.trans (hbq.out.mono (by omega))).trans (hF9.below (fun k e=>by omega) (by have:=hRq.lt; omega)))
      have hSF:=hid (hSu.out.fr hF9 (fun g hg e=>by have:=(hSu.out.sts.lt hg).1; omega) (fun g hg e=>by have:=(hSu.out.rst.lt hg).1; omega))
      have hRF:=hid ((hRq.put 0 (.slice so (sup (vR S x)).length sc)).put 1 (.slice r1 (sup (vR S x)).length rc))
      go_wp2_with fail
      have hRF2:=hRF.out
      have hSF2:=hSF.out
      have hbF2:=hbF.out
      exact bodyPost_ret (q1u rfl _ _ w.heap.size [.slice so (sup (vR S x)).length sc,.slice r1 (sup (vR S x)).length rc] _ rfl hRF2.cs Tryz.underlying84 rfl Tryz.sizeSub) rfl ⟨_,_,by rw [HL.out]; rfl,by rw [HL.out]; exact ⟨hSF2.sts.mono (by omega),hSF2.rst.mono (by omega),hSF2.ne⟩,hbF2⟩
end
section
open Go.RowKit
structure Rs (w:World) (so:OA) (sc:Nat) (ro:OA) (rc n:Nat) (P:List (Nat×Nat)):Prop where
 sts:Fl 1 w so n sc ((P.map Prod.fst).map i1C)
 rst:Fl 1 w ro n rc ((P.map Prod.snd).map i1C)
theorem Rs.next {w w':World} {so ro:OA} {sc rc n:Nat} {P:List (Nat×Nat)} (h:Rs w so sc ro rc n P) (hb:Below w.heap.size w w'):Rs w' so sc ro rc n P:=⟨h.sts.next hb,h.rst.next hb⟩
theorem Rs.len {w:World} {so ro:OA} {sc rc n:Nat} {P:List (Nat×Nat)} (h:Rs w so sc ro rc n P):P.length=n:=by have:=h.sts.lenMap; rwa [List.length_map] at this
theorem Rs.get {w:World} {so ro:OA} {sc rc n:Nat} {P:List (Nat×Nat)} (h:Rs w so sc ro rc n P) {i:Nat} (hi:i<n):∃ (q r b1 o1 b2 o2:Nat),P[i]? = some (q,r)/\so=some ⟨b1,o1,none⟩/\ro=some ⟨b2,o2,none⟩/\w.cell? ⟨b1,o1+i,none⟩=some (.int .i64 (q:Int))/\w.cell? ⟨b2,o2+i,none⟩=some (.int .i64 (r:Int)):=by
 obtain ⟨x,hx,b1,o1,e1,c1⟩:=h.sts.get hi
 obtain ⟨y,hy,b2,o2,e2,c2⟩:=h.rst.get hi
 rw [List.getElem?_map] at hx hy
 obtain ⟨p,hp⟩:∃ p,P[i]? = some p:=⟨_,List.getElem?_eq_getElem (by rw [h.len]; exact hi)⟩
 rw [hp] at hx hy
 cases hx; cases hy
 have d1:=c1 0 _ rfl
 have d2:=c2 0 _ rfl
 simp only [Nat.mul_one,Nat.add_zero] at d1 d2
 exact ⟨p.1,p.2,b1,o1,b2,o2,hp,e1,e2,d1,d2⟩
theorem Sq.rs {w:World} {O:Nat} {sv rv:Value} {P:List (Nat×Nat)} (h:Sq w O sv rv P):∃ so sc ro rc,sv=.slice so P.length sc/\rv=.slice ro P.length rc/\Rs w so sc ro rc P.length P:=by
 obtain ⟨so,sc,rfl⟩:=h.sts.form
 obtain ⟨ro,rc,rfl⟩:=h.rst.form
 simp only [List.length_map]
 have h1:=h.sts; have h2:=h.rst
 simp only [List.length_map] at h1 h2
 exact ⟨so,sc,ro,rc,rfl,rfl,kG h1 (by simp),kG h2 (by simp)⟩
theorem j4v {P Q:List (Nat×Nat)} {i:Nat} {x y:Nat×Nat} (hx:P[i]? = some x) (hy:Q[i]? = some y) (h:x≠y):P≠Q:=fun e=>by
 subst e; rw [hx] at hy; exact h (Option.some.inj hy)
theorem j2x {P Q:List (Nat×Nat)} {i:Nat} {x:Nat×Nat} (hx:P[i]? = some x) (hy:Q[i]? = some x) (h:P.take i=Q.take i):P.take (i+1)=Q.take (i+1):=by
 rw [jR hx,jR hy,h]
theorem j0g (P Q:List (Nat×Nat)) (n m:Nat) (so:OA) (sc:Nat) (ro:OA) (rc:Nat) (to_:OA) (tc_:Nat) (uo:OA) (uc:Nat) (hn:n<=64) (hm:m<=64) (w:World) (h1:Rs w so sc ro rc n P) (h2:Rs w to_ tc_ uo uc m Q) :
  Calls Tryz.prog 39 #[.agg #[.slice so n sc,.slice ro n rc],.agg #[.slice to_ m tc_,.slice uo m uc]] w fun e w'=>e=.returned (.bool (decide (P=Q)))/\Below w.heap.size w w':=by
 have hb0:Below w.heap.size w ((w.alloc (.cells #[.slice so n sc,.slice ro n rc] 84)).alloc (.cells #[.slice to_ m tc_,.slice uo m uc] 84)):=qQ (qJ _) (qJ _)
 have hG:=(Bl.fresh w [.slice so n sc,.slice ro n rc] 84).new (.cells #[.slice to_ m tc_,.slice uo m uc] 84)
 have hH:=Bl.fresh' (G:=w.heap.size+1) (w.alloc (.cells #[.slice so n sc,.slice ro n rc] 84)) [.slice to_ m tc_,.slice uo m uc] 84 (by simp)
 have hP:=hid h1.len
 have hQ:=hid h2.len
 replace h1:=hid (h1.next hb0)
 replace h2:=hid (h2.next hb0)
 go_enter Tryz.func39,Tryz.ntmps39
 go_upto_region 1 with fail
 generalize ((w.alloc (.cells #[.slice so n sc,.slice ro n rc] 84)).alloc (.cells #[.slice to_ m tc_,.slice uo m uc] 84))=W1 at *
 have g0:=hG.cell (i:=0) rfl
 have g1:=hG.cell (i:=1) rfl
 have k0:=hH.cell (i:=0) rfl
 have k1:=hH.cell (i:=1) rfl
 replace hG:=hid hG
 replace hH:=hid hH
 replace hb0:=hid hb0
 by_cases hnm:n=m
 ·subst hnm
  go_wp2_with fail
  go_loopw [5] (fun iv wr=>∃ i:Nat,i<=n/\iv=.int .i64 (i:Int)/\Hid (P.take i=Q.take i)/\Below W1.heap.size W1 wr) (fun iv _=>n-(intOf iv).toNat)
  case atStart=>exact ⟨0,by omega,rfl,hid rfl,Below.refl _ _⟩
  case round =>
   obtain ⟨i,hi,rfl,htk,hb⟩:=hrel
   have hgr:=(hG.out.next hb).cs
   have hhr:=(hH.out.next hb).cs
   have y0:=(hG.out.next hb).cell (i:=0) rfl
   by_cases hlt:i<n
   ·obtain ⟨q,r,b1,o1,b2,o2,hx,e1,e2,c1,c2⟩:=(h1.out.next hb).get hlt
    obtain ⟨q',r',b3,o3,b4,o4,hy,e3,e4,c3,c4⟩:=(h2.out.next hb).get hlt
    subst e1 e2 e3 e4
    have i1:(i:Int)<(n:Int):=by omega
    have i0:(0:Int)<=(i:Int):=by omega
    have hb1:=hb.trans (((Below.refl wr.heap.size wr).drew).mono hb.size)
    obtain ⟨wo,hwo⟩:∃ wo,wo=W1:=⟨_,rfl⟩
    have hdr:=(Below.refl wr.heap.size wr).drew
    have hS:(Cs wr.drew w.heap.size 0 [.slice (some ⟨b1,o1,none⟩) n sc,.slice (some ⟨b2,o2,none⟩) n rc]/\Cs wr.drew (w.heap.size+1) 0 [.slice (some ⟨b3,o3,none⟩) n tc_,.slice (some ⟨b4,o4,none⟩) n uc])/\(wr.drew.cell? ⟨b1,o1+i,none⟩=some (.int .i64 (q:Int))/\wr.drew.cell? ⟨b2,o2+i,none⟩=some (.int .i64 (r:Int)))/\(wr.drew.cell? ⟨b3,o3+i,none⟩=some (.int .i64 (q':Int))/\wr.drew.cell? ⟨b4,o4+i,none⟩=some (.int .i64 (r':Int))):=⟨⟨hgr.next hdr,hhr.next hdr⟩,⟨qR c1 hdr,qR c2 hdr⟩,qR c3 hdr,qR c4 hdr⟩
    clear hgr hhr c1 c2 c3 c4 hb hdr hwo
    by_cases hqq:q=q'
    ·subst hqq
     by_cases hrr:r=r'
     ·subst hrr
      have hsn:=hid (j2x hx hy htk.out)
      clear hx hy htk
      replace hb1:=hid hb1
      go_upto_region 6 with fail
      refine qV (fun w'=>(Cs w' w.heap.size 0 [.slice (some ⟨b1,o1,none⟩) n sc,.slice (some ⟨b2,o2,none⟩) n rc]/\Cs w' (w.heap.size+1) 0 [.slice (some ⟨b3,o3,none⟩) n tc_,.slice (some ⟨b4,o4,none⟩) n uc])/\(w'.cell? ⟨b1,o1+i,none⟩=some (.int .i64 (q:Int))/\w'.cell? ⟨b2,o2+i,none⟩=some (.int .i64 (r:Int)))/\(w'.cell? ⟨b3,o3+i,none⟩=some (.int .i64 (q:Int))/\w'.cell? ⟨b4,o4+i,none⟩=some (.int .i64 (r:Int)))) [] (by kernel_rfl) ?_
      refine wAp 0 (some 20) rfl rfl hS ?_
      refine wAl 1 (some 21) (v:=?_) rfl rfl ?_ hS ?_
      rotate_left
      ·intro wz hw; refine jW w.heap.size 0 ?_ (.slice (some ⟨b1,o1,none⟩) n sc) (by have h:=hw.1.1 0 _ rfl; simpa using h); go_simp
      refine wAp 2 (some 22) rfl rfl hS ?_
      refine wAp 3 (some 23) rfl rfl hS ?_
      refine wAl 4 (some 24) (v:=?_) rfl rfl ?_ hS ?_
      rotate_left
      ·intro wz hw; refine qW b1 (o1+i) ?_ (.int .i64 (q:Int)) hw.2.1.1; go_simp
      refine wAp 5 (some 25) rfl rfl hS ?_
      refine wAl 6 (some 26) (v:=?_) rfl rfl ?_ hS ?_
      rotate_left
      ·intro wz hw; refine jW (w.heap.size+1) 0 ?_ (.slice (some ⟨b3,o3,none⟩) n tc_) (by have h:=hw.1.2 0 _ rfl; simpa using h); go_simp
      refine wAp 7 (some 27) rfl rfl hS ?_
      refine wAp 8 (some 28) rfl rfl hS ?_
      refine wAl 9 (some 29) (v:=?_) rfl rfl ?_ hS ?_
      rotate_left
      ·intro wz hw; refine qW b3 (o3+i) ?_ (.int .i64 (q:Int)) hw.2.2.1; go_simp
      refine wAl 10 (some 30) (v:=.bool false) rfl rfl ?_ hS ?_
      ·intro wz _; first | (go_simp; done) | (go_simp; with_reducible rfl)
      refine wAl 11 (some 31) (v:=.bool false) rfl rfl ?_ hS ?_
      ·intro wz _; first | (go_simp; done) | (go_simp; with_reducible rfl)
      refine wAg 12 (some 32) rfl rfl hS ?_
      refine wAm 13 (some 33) (v:=?_) rfl rfl ?_ hS ?_
      rotate_left
      ·intro wz hw; refine jW w.heap.size 1 ?_ (.slice (some ⟨b2,o2,none⟩) n rc) (by have h:=hw.1.1 1 _ rfl; simpa using h); go_simp
      refine wAg 14 (some 34) rfl rfl hS ?_
      refine wAg 15 (some 35) rfl rfl hS ?_
      refine wAm 16 (some 36) (v:=?_) rfl rfl ?_ hS ?_
      rotate_left
      ·intro wz hw; refine qW b2 (o2+i) ?_ (.int .i64 (r:Int)) hw.2.1.2; go_simp
      refine wAg 17 (some 37) rfl rfl hS ?_
      refine wAm 18 (some 38) (v:=?_) rfl rfl ?_ hS ?_
      rotate_left
      ·intro wz hw; refine jW (w.heap.size+1) 1 ?_ (.slice (some ⟨b4,o4,none⟩) n uc) (by have h:=hw.1.2 1 _ rfl; simpa using h); go_simp
      refine wAg 19 (some 39) rfl rfl hS ?_
      refine wAg 20 (some 40) rfl rfl hS ?_
      refine wAm 21 (some 41) (v:=?_) rfl rfl ?_ hS ?_
      rotate_left
      ·intro wz hw; refine qW b4 (o4+i) ?_ (.int .i64 (r:Int)) hw.2.2.2; go_simp
      refine wAg 22 (some 42) rfl rfl hS ?_
      refine wAp 23 (some 43) rfl rfl hS ?_
      go_simp
      refine qZ (by kernel_rfl) ?_ _
      go_wp2_with fail
      go_roundw
      case rel=>exact ⟨i+1,by omega,by go_num,hsn,hb1.out⟩
      case measure=>simp [intOf]; omega
     ·have hne:=hid (j4v hx hy (fun e=>hrr (Prod.mk.inj e).2))
      have j1:((r:Int) != (r':Int))=true:=by simp; omega
      have j2:((r:Int)==(r':Int))=false:=by rw [beq_eq_false_iff_ne]; omega
      have j3:¬ (r:Int)=(r':Int):=by omega
      clear hx hy htk
      replace hb1:=hid hb1
      go_upto_region 6 with fail
      refine qV (fun w'=>(Cs w' w.heap.size 0 [.slice (some ⟨b1,o1,none⟩) n sc,.slice (some ⟨b2,o2,none⟩) n rc]/\Cs w' (w.heap.size+1) 0 [.slice (some ⟨b3,o3,none⟩) n tc_,.slice (some ⟨b4,o4,none⟩) n uc])/\(w'.cell? ⟨b1,o1+i,none⟩=some (.int .i64 (q:Int))/\w'.cell? ⟨b2,o2+i,none⟩=some (.int .i64 (r:Int)))/\(w'.cell? ⟨b3,o3+i,none⟩=some (.int .i64 (q:Int))/\w'.cell? ⟨b4,o4+i,none⟩=some (.int .i64 (r':Int)))) [] (by kernel_rfl) ?_
      refine wAp 0 (some 20) rfl rfl hS ?_
      refine wAl 1 (some 21) (v:=?_) rfl rfl ?_ hS ?_
      rotate_left
      ·intro wz hw; refine jW w.heap.size 0 ?_ (.slice (some ⟨b1,o1,none⟩) n sc) (by have h:=hw.1.1 0 _ rfl; simpa using h); go_simp
      refine wAp 2 (some 22) rfl rfl hS ?_
      refine wAp 3 (some 23) rfl rfl hS ?_
      refine wAl 4 (some 24) (v:=?_) rfl rfl ?_ hS ?_
      rotate_left
      ·intro wz hw; refine qW b1 (o1+i) ?_ (.int .i64 (q:Int)) hw.2.1.1; go_simp
      refine wAp 5 (some 25) rfl rfl hS ?_
      refine wAl 6 (some 26) (v:=?_) rfl rfl ?_ hS ?_
      rotate_left
      ·intro wz hw; refine jW (w.heap.size+1) 0 ?_ (.slice (some ⟨b3,o3,none⟩) n tc_) (by have h:=hw.1.2 0 _ rfl; simpa using h); go_simp
      refine wAp 7 (some 27) rfl rfl hS ?_
      refine wAp 8 (some 28) rfl rfl hS ?_
      refine wAl 9 (some 29) (v:=?_) rfl rfl ?_ hS ?_
      rotate_left
      ·intro wz hw; refine qW b3 (o3+i) ?_ (.int .i64 (q:Int)) hw.2.2.1; go_simp
      refine wAl 10 (some 30) (v:=.bool false) rfl rfl ?_ hS ?_
      ·intro wz _; first | (go_simp; done) | (go_simp; with_reducible rfl)
      refine wAl 11 (some 31) (v:=.bool false) rfl rfl ?_ hS ?_
      ·intro wz _; first | (go_simp; done) | (go_simp; with_reducible rfl)
      refine wAg 12 (some 32) rfl rfl hS ?_
      refine wAm 13 (some 33) (v:=?_) rfl rfl ?_ hS ?_
      rotate_left
      ·intro wz hw; refine jW w.heap.size 1 ?_ (.slice (some ⟨b2,o2,none⟩) n rc) (by have h:=hw.1.1 1 _ rfl; simpa using h); go_simp
      refine wAg 14 (some 34) rfl rfl hS ?_
      refine wAg 15 (some 35) rfl rfl hS ?_
      refine wAm 16 (some 36) (v:=?_) rfl rfl ?_ hS ?_
      rotate_left
      ·intro wz hw; refine qW b2 (o2+i) ?_ (.int .i64 (r:Int)) hw.2.1.2; go_simp
      refine wAg 17 (some 37) rfl rfl hS ?_
      refine wAm 18 (some 38) (v:=?_) rfl rfl ?_ hS ?_
      rotate_left
      ·intro wz hw; refine jW (w.heap.size+1) 1 ?_ (.slice (some ⟨b4,o4,none⟩) n uc) (by have h:=hw.1.2 1 _ rfl; simpa using h); go_simp
      refine wAg 19 (some 39) rfl rfl hS ?_
      refine wAg 20 (some 40) rfl rfl hS ?_
      refine wAm 21 (some 41) (v:=?_) rfl rfl ?_ hS ?_
      rotate_left
      ·intro wz hw; refine qW b4 (o4+i) ?_ (.int .i64 (r':Int)) hw.2.2.2; go_simp
      refine wAg 22 (some 42) rfl rfl hS ?_
      refine wAp 23 (some 43) rfl rfl hS ?_
      go_simp
      refine qZ (by kernel_rfl) ?_ _
      go_wp2_with fail
      go_ret
      exact ⟨by rw [decide_eq_false hne.out]; rfl,hb0.out.trans (hb1.out.mono hb0.out.size)⟩
    ·have hne:=hid (j4v hx hy (fun e=>hqq (Prod.mk.inj e).1))
     have j1:((q:Int) != (q':Int))=true:=by simp; omega
     have j2:((q:Int)==(q':Int))=false:=by rw [beq_eq_false_iff_ne]; omega
     have j3:¬ (q:Int)=(q':Int):=by omega
     clear hx hy htk
     replace hb1:=hid hb1
     go_upto_region 6 with fail
     refine qV (fun w'=>(Cs w' w.heap.size 0 [.slice (some ⟨b1,o1,none⟩) n sc,.slice (some ⟨b2,o2,none⟩) n rc]/\Cs w' (w.heap.size+1) 0 [.slice (some ⟨b3,o3,none⟩) n tc_,.slice (some ⟨b4,o4,none⟩) n uc])/\(w'.cell? ⟨b1,o1+i,none⟩=some (.int .i64 (q:Int))/\w'.cell? ⟨b2,o2+i,none⟩=some (.int .i64 (r:Int)))/\(w'.cell? ⟨b3,o3+i,none⟩=some (.int .i64 (q':Int))/\w'.cell? ⟨b4,o4+i,none⟩=some (.int .i64 (r':Int)))) [] (by kernel_rfl) ?_
     refine wAp 0 (some 20) rfl rfl hS ?_
     refine wAl 1 (some 21) (v:=?_) rfl rfl ?_ hS ?_
     rotate_left
     ·intro wz hw; refine jW w.heap.size 0 ?_ (.slice (some ⟨b1,o1,none⟩) n sc) (by have h:=hw.1.1 0 _ rfl; simpa using h); go_simp
     refine wAp 2 (some 22) rfl rfl hS ?_
     refine wAp 3 (some 23) rfl rfl hS ?_
     refine wAl 4 (some 24) (v:=?_) rfl rfl ?_ hS ?_
     rotate_left
     ·intro wz hw; refine qW b1 (o1+i) ?_ (.int .i64 (q:Int)) hw.2.1.1; go_simp
     refine wAp 5 (some 25) rfl rfl hS ?_
     refine wAl 6 (some 26) (v:=?_) rfl rfl ?_ hS ?_
     rotate_left
     ·intro wz hw; refine jW (w.heap.size+1) 0 ?_ (.slice (some ⟨b3,o3,none⟩) n tc_) (by have h:=hw.1.2 0 _ rfl; simpa using h); go_simp
     refine wAp 7 (some 27) rfl rfl hS ?_
     refine wAp 8 (some 28) rfl rfl hS ?_
     refine wAl 9 (some 29) (v:=?_) rfl rfl ?_ hS ?_
     rotate_left
     ·intro wz hw; refine qW b3 (o3+i) ?_ (.int .i64 (q':Int)) hw.2.2.1; go_simp
     refine wAl 10 (some 30) (v:=.bool true) rfl rfl ?_ hS ?_
     ·intro wz _; first | (go_simp; done) | (go_simp; with_reducible rfl)
     refine wAl 11 (some 31) (v:=.bool true) rfl rfl ?_ hS ?_
     ·intro wz _; first | (go_simp; done) | (go_simp; with_reducible rfl)
     refine wAu 12 (some 32) rfl rfl hS ?_
     refine wAu 13 (some 33) rfl rfl hS ?_
     refine wAu 14 (some 34) rfl rfl hS ?_
     refine wAu 15 (some 35) rfl rfl hS ?_
     refine wAu 16 (some 36) rfl rfl hS ?_
     refine wAu 17 (some 37) rfl rfl hS ?_
     refine wAu 18 (some 38) rfl rfl hS ?_
     refine wAu 19 (some 39) rfl rfl hS ?_
     refine wAu 20 (some 40) rfl rfl hS ?_
     refine wAu 21 (some 41) rfl rfl hS ?_
     refine wAu 22 (some 42) rfl rfl hS ?_
     refine wAp 23 (some 43) rfl rfl hS ?_
     go_simp
     refine qZ (by kernel_rfl) ?_ _
     go_wp2_with fail
     go_ret
     exact ⟨by rw [decide_eq_false hne.out]; rfl,hb0.out.trans (hb1.out.mono hb0.out.size)⟩
   ·obtain rfl:i=n:=by omega
    have i1:¬ (i:Int)<(i:Int):=by omega
    have heq:P=Q:=by
     have h:=htk.out
     have e1:P.take i=P:=List.take_of_length_le (by rw [hP.out]; exact Nat.le_refl _)
     have e2:Q.take i=Q:=List.take_of_length_le (by rw [hQ.out]; exact Nat.le_refl _)
     rw [e1,e2] at h
     exact h
    replace hb:=hid hb
    clear hgr hhr
    go_wp2_with fail
    go_ret
    exact ⟨by first | rfl | (rw [decide_eq_true heq]; rfl),hb0.out.trans (hb.out.mono hb0.out.size)⟩
 ·have hne:P≠Q:=fun e=>hnm (by rw [<-hP.out,<-hQ.out,e])
  have j1:((n:Int) != (m:Int))=true:=by simp; omega
  have j2:((n:Int)==(m:Int))=false:=by rw [beq_eq_false_iff_ne]; omega
  have j3:¬ (n:Int)=(m:Int):=by omega
  go_wp2_with fail
  go_ret
  exact ⟨by rw [decide_eq_false hne]; rfl,hb0.out⟩
end
section
open Go.RowKit
theorem z6h {A:Au} (hL:Lw A) {K:List Ac} (hK:Nf K A.arcs):∀ x∈K.filter nz,tc (wt x)<=1048576/\1<=x.2.1:=fun x hx=>by
 obtain ⟨⟨z,hz,hk,hw⟩,_⟩:=hK.2.1 x (List.mem_filter.1 hx).1
 have h1:=hL.2.2 z hz
 have h2:z.2.1=x.2.1:=congrArg (fun q:Ky=>q.2.1) hk
 rw [<-h2,<-hw]; exact h1
theorem j3f (syms:Nat) (A:Au) (hV:Vo syms A) (hL:Lw A) (io:OA) (ci:Nat) (fo:OA) (cf:Nat) (ro:OA) (nr cr:Nat) (w:World) (h:Mo w syms A io ci fo cf ro nr cr) :
  Calls Tryz.prog 34 #[.agg (auC syms A.st (.slice io A.st ci) (.slice fo A.st cf) (.slice ro nr cr)).toArray] w fun e w'=>e=.returned (.int .i64 0)/\Below w.heap.size w w':=by
 have hb0:Below w.heap.size w (w.alloc (.cells (auC syms A.st (.slice io A.st ci) (.slice fo A.st cf) (.slice ro nr cr)).toArray 30)):=qJ _
 have hG:=Bl.fresh w (auC syms A.st (.slice io A.st ci) (.slice fo A.st cf) (.slice ro nr cr)) 30
 have hm:=hid (h.next hb0)
 have hst:=hV.st
 replace hL:=hid hL
 clear h
 go_enter Tryz.func34,Tryz.ntmps34
 go_upto_region 1 with fail
 obtain ⟨W1,hW1⟩:∃ W1,W1=(w.alloc (.cells (auC syms A.st (.slice io A.st ci) (.slice fo A.st cf) (.slice ro nr cr)).toArray 30)):=⟨_,rfl⟩
 rw [<-hW1] at hb0 hG hm
 have hGc:=hG.cs
 subst hW1
 go_wp2_with ((with_reducible refine qM rfl _ rfl w.heap.size 0 ?_ (auC syms A.st (.slice io A.st ci) (.slice fo A.st cf) (.slice ro nr cr)) rfl hGc ?_); exact rfl)
 refine (kN syms A hV io ci fo cf ro nr cr _ hm.out).mono ?_; rintro e w1 ⟨rfl,hb1⟩
 have hm1:=hid (hm.out.next hb1)
 replace hG:=hG.next hb1
 replace hb0:=qQ hb0 hb1
 clear hGc hb1
 have hGc:=hG.cs
 have y0:=hG.cell (i:=0) rfl
 go_wp2_with ((with_reducible refine qM rfl _ rfl w.heap.size 0 ?_ (auC syms A.st (.slice io A.st ci) (.slice fo A.st cf) (.slice ro nr cr)) rfl hGc ?_); exact rfl)
 refine (j0i syms A hV io ci fo cf ro nr cr _ hm1.out).mono ?_; rintro e w2 ⟨v,rfl,K,io',ci',fo',cf',ro',nr',cr',rfl,hK,hMo,hb2⟩
 have hbN:Below w2.heap.size w2 (w2.alloc (.cells #[.int .i64 0,.slice none 0 0,.int .i64 0,.int .i64 0,.slice none 0 0,.slice none 0 0,.slice none 0 0] 30)):=qJ _
 have hX:=Bl.fresh w2 [.int .i64 0,.slice none 0 0,.int .i64 0,.int .i64 0,.slice none 0 0,.slice none 0 0,.slice none 0 0] 30
 have hG2:=hid (hG.next hb2)
 have hm2:=hid (hm1.out.next hb2)
 have hMo2:=hid (hMo.mo syms)
 have hKl:=hid (z6h hL.out hK)
 replace hb0:=hid (qQ hb0 hb2)
 have hbN:=hid hbN
 clear hK hMo hGc hG hb2 y0 hm1
 go_upto_region 6 with ((with_reducible refine jG rfl _ _ rfl w2.heap.size 30 _ hX ?_ (auC syms A.st (.slice io' A.st ci') (.slice fo' A.st cf') (.slice ro' nr' cr')) rfl rfl ?_ (kV _ _ _ _ _ _ _ _ _ _ _) ?_); exact rfl; exact rfl; intro w3 hX3 hfr3)
 have hb3:Below w2.heap.size w2 w3:=hbN.out.trans (hfr3.below (fun k e=>by subst e; exact Nat.le_refl _) hbN.out.size)
 have hG3:=hG2.out.next hb3
 have hm3:=hid (hm2.out.next hb3)
 have hM3:=hid (hMo2.out.next hb3)
 have hbW:=hid (qQ hb0.out hb3)
 have y6:=hX3.cell (i:=6) rfl
 have x3:=hG3.cell (i:=3) rfl
 have x4:=hG3.cell (i:=4) rfl
 have x5:=hG3.cell (i:=5) rfl
 clear hX hX3 hfr3 hb3 hG3 hG2 hm2 hMo2 hb0 hbN
 go_wp2_with fail
 go_loopw [5] (fun iv wr=>∃ i:Nat,i<=nr'/\iv=.int .i64 (i:Int)/\wr=w3) (fun iv _=>nr'-(intOf iv).toNat)
 case atStart=>exact ⟨0,by omega,rfl,rfl⟩
 case round =>
  obtain ⟨i,hi,rfl,rfl⟩:=hrel
  by_cases hlt:i<nr'
  ·obtain ⟨x,hx,b,off,hro,hcs⟩:=hM3.out.arcs.get hlt
   subst hro
   have hk:=(hKl.out x (List.mem_of_getElem? hx)).2
   have z1:=hcs 1 _ rfl
   clear hx hcs
   have hnb:=hM3.out.arcs.bound
   have i1:(i:Int)<(nr':Int):=by omega
   have i0:(0:Int)<=(i:Int):=by omega
   have k1:((x.2.1:Int)==0)=false:=by rw [beq_eq_false_iff_ne]; omega
   have k2:¬ (x.2.1:Int)=0:=by omega
   go_wp2_with fail
   go_roundw
   case rel=>exact ⟨i+1,by omega,by go_num,by trivial⟩
   case measure=>simp [intOf]; omega
  ·obtain rfl:i=nr':=by omega
   have i1:¬ (i:Int)<(i:Int):=by omega
   go_wp2_with fail
   go_loopw [6] (fun iv wq=>∃ j:Nat,j<=i/\iv=.int .i64 (j:Int)/\wq=wr) (fun iv _=>i-(intOf iv).toNat)
   case atStart=>exact ⟨0,by omega,rfl,rfl⟩
   case round =>
    obtain ⟨j,hj,rfl,rfl⟩:=hrel
    by_cases hlt:j<i
    ·obtain ⟨x,hx,b,off,hro,hcs⟩:=hM3.out.arcs.get hlt
     subst hro
     have hk:=(hKl.out x (List.mem_of_getElem? hx)).1
     have z6:=hcs 6 _ rfl
     clear hx hcs
     have hnb:=hM3.out.arcs.bound
     have i1:(j:Int)<(i:Int):=by omega
     have i0:(0:Int)<=(j:Int):=by omega
     have k2:¬ (1048576:Int)<(tc (wt x):Int):=by omega
     go_wp2_with fail
     go_roundw
     case rel=>exact ⟨j+1,by omega,by go_num,by trivial⟩
     case measure=>simp [intOf]; omega
    ·obtain rfl:j=i:=by omega
     have i1:¬ (j:Int)<(j:Int):=by omega
     go_wp2_with fail
     go_loopw [7] (fun iv wq=>∃ k:Nat,k<=A.st/\iv=.int .i64 (k:Int)/\wq=wr) (fun iv _=>A.st-(intOf iv).toNat)
     case atStart=>exact ⟨0,by omega,rfl,rfl⟩
     case round =>
      obtain ⟨k,hk,rfl,rfl⟩:=hrel
      by_cases hlt:k<A.st
      ·obtain ⟨x,hx,b1,o1,hio,hcx⟩:=hm3.out.ini.get hlt
       obtain ⟨y,hy,b2,o2,hfo,hcy⟩:=hm3.out.fin.get hlt
       subst hio hfo
       have q1:=hL.out.1 x (List.mem_of_getElem? hx)
       have q2:=hL.out.2.1 y (List.mem_of_getElem? hy)
       have z3:=hcx 3 _ rfl
       have z4:=hcy 3 _ rfl
       clear hx hcx hy hcy
       have i1:(k:Int)<(A.st:Int):=by omega
       have i0:(0:Int)<=(k:Int):=by omega
       have k2:¬ (1048576:Int)<(tc x:Int):=by omega
       have k3:¬ (1048576:Int)<(tc y:Int):=by omega
       go_wp2_with fail
       go_roundw
       case rel=>exact ⟨k+1,by omega,by go_num,by trivial⟩
       case measure=>simp [intOf]; omega
      ·obtain rfl:k=A.st:=by omega
       have i1:¬ (A.st:Int)<(A.st:Int):=by omega
       go_wp2_with fail
       go_ret
       exact ⟨rfl,hbW.out⟩
end
end Go.Proofs.YtnapapijhhldpaaGreatDoor

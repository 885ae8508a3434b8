/-
  Texts joined by program: TwH, TwI, TwJ, Shi, BuiS, TwK, TwL. No condition of its own.
-/
import Derived.Test.YtnapapijhhldpaaGreatDoorJtAN
namespace Go.Proofs.YtnapapijhhldpaaGreatDoor
set_option linter.unusedSimpArgs false
set_option linter.unusedVariables false
set_option maxRecDepth 100000
set_option maxHeartbeats 4000000
section
open Go.RowKit
theorem twPlus_assoc (a b c:Tw):twPlus (twPlus a b) c=twPlus a (twPlus b c):=by
 cases a<;>cases b<;>cases c<;>simp only [twPlus_none,none_twPlus,twPlus_some,Nat.min_assoc]
theorem leastV_snoc (A:Vx) (x:Option Nat):leastV (A++[x])=twPlus (leastV A) x:=by
 induction A with
 | nil=>show twPlus x none=twPlus none x; rw [twPlus_none,none_twPlus]
 | cons a r ih=>show twPlus a (leastV (r++[x]))=twPlus (twPlus a (leastV r)) x; rw [ih,twPlus_assoc]
def lowN (S:Vx) (m k j:Nat):Option Nat:=if j<k then (S.getD j none).map (· - m) else S.getD j none
theorem lowN_skip {S:Vx} {m k:Nat} (h:S[k]? = some none):∀ j,oV (lowN S m k j)=oV (lowN S m (k+1) j):=fun j=>by
 unfold lowN
 by_cases hj:j<k
 ·rw [if_pos hj,if_pos (by omega)]
 ·rw [if_neg hj]
  by_cases he:j=k
  ·subst he; rw [if_pos (by omega),List.getD_eq_getElem?_getD,h]; rfl
  ·rw [if_neg (by omega)]
theorem lowN_step {S:Vx} {m k r:Nat} (h:S[k]? = some (some r)):∀ j,updF (fun j=>oV (lowN S m k j)) k (.int .i64 ((r-m:Nat):Int)) j=oV (lowN S m (k+1) j):=fun j=>by
 unfold updF
 split
 ·rename_i e; subst e
  unfold lowN
  rw [if_pos (by omega),List.getD_eq_getElem?_getD,h]; rfl
 ·rename_i e
  show oV (lowN S m k j)=oV (lowN S m (k+1) j)
  unfold lowN
  by_cases hj:j<k
  ·rw [if_pos hj,if_pos (by omega)]
  ·rw [if_neg hj,if_neg (by omega)]
theorem lowN_end {S:Vx} {m k:Nat} (hk:S.length=k):∀ j,j<k->oV (lowN S m k j)=fS (lowV S m) j:=fun j hj=>by
 unfold lowN fS lowV
 rw [if_pos hj,List.getD_eq_getElem?_getD,List.getD_eq_getElem?_getD,List.getElem?_map]
 have:j<S.length:=by omega
 simp [this]
theorem settle_any (base g:Nat) (S:Vx) (hn:S.length<=64) (hB:Bd 1000000000000000 S) (w:World) (h:Sb w base g S) :
  Calls Tryz.prog 28 #[.slice (some ⟨g,0,none⟩) S.length S.length] w fun e w'=>e=.returned (oV (leastV S))/\Sb w' base g (lowV S ((leastV S).getD 0))/\Fr (fun k=>k=g) w w':=by
 have hB:=hid hB
 obtain ⟨n,hnn⟩:∃ n,S.length=n:=⟨_,rfl⟩
 unfold Sb at *
 rw [lowV_len]
 rw [hnn] at h hn ⊢
 have Hn:=hid hnn
 have hst:=hid h
 have hcell:=hid (fun k (hk:k<n)=>h.cell hk)
 clear hnn h
 go_enter Tryz.func28,Tryz.ntmps28
 go_wp2_with fail
 go_loopw [3,10] (fun lv iv wr=>∃ k:Nat,k<=n/\iv=.int .i64 (k:Int)/\lv=oV (leastV (S.take k))/\wr=w) (fun _ iv _=>n-(intOf iv).toNat)
 case atStart=>exact ⟨0,by omega,rfl,rfl,rfl⟩
 case round =>
  obtain ⟨k,hk,rfl,rfl,rfl⟩:=hrel
  by_cases hlt:k<n
  ·have i1:(k:Int)<(n:Int):=by omega
   have i0:(0:Int)<=(k:Int):=by omega
   obtain ⟨o,ho⟩:∃ o,S[k]? = some o:=⟨_,List.getElem?_eq_getElem (by have:=Hn.out; omega)⟩
   have hsn:Hid (leastV (S.take (k+1))=twPlus (leastV (S.take k)) o):=hid (by
    rw [List.take_succ_eq_append_getElem (List.getElem?_eq_some_iff.1 ho).1,(List.getElem?_eq_some_iff.1 ho).2,leastV_snoc])
   have c1:=hcell.out k hlt
   have e1:fS S k=oV o:=by unfold fS; rw [List.getD_eq_getElem?_getD,ho]; rfl
   rw [e1] at c1
   obtain ⟨L,hL⟩:∃ L,leastV (S.take k)=L:=⟨_,rfl⟩
   rw [hL] at hsn ⊢
   clear e1 hL ho
   unfold oV at c1
   unfold oV
   cases o with
   | none =>
    rw [oI_none] at c1
    have h2:Hid (leastV (S.take (k+1))=L):=hid (by rw [hsn.out,twPlus_none])
    go_wp2_with fail
    go_roundw
    case rel=>exact ⟨k+1,by omega,by go_num,by rw [h2.out],by trivial⟩
    case measure=>simp [intOf]; omega
   | some r =>
    rw [oI_some] at c1
    have k1:((r:Int) != -1)=true:=by simp
    have k1':((r:Int) == -1)=false:=by rw [beq_eq_false_iff_ne]; omega
    have k2:¬ (r:Int) = -1:=by omega
    cases L with
    | none =>
     rw [oI_none]
     have h2:Hid (leastV (S.take (k+1))=some r):=hid (by rw [hsn.out,none_twPlus])
     go_wp2_with fail
     go_roundw
     case rel=>exact ⟨k+1,by omega,by go_num,by rw [h2.out]; rfl,by trivial⟩
     case measure=>simp [intOf]; omega
    | some m =>
     rw [oI_some]
     have k3:((m:Int) == -1)=false:=by rw [beq_eq_false_iff_ne]; omega
     have k4:¬ (m:Int) = -1:=by omega
     by_cases hrm:r<m
     ·have h2:Hid (leastV (S.take (k+1))=some r):=hid (by rw [hsn.out,twPlus_some,Nat.min_eq_right (by omega)])
      have k5:(r:Int)<(m:Int):=by omega
      go_wp2_with fail
      go_roundw
      case rel=>exact ⟨k+1,by omega,by go_num,by rw [h2.out]; rfl,by trivial⟩
      case measure=>simp [intOf]; omega
     ·have h2:Hid (leastV (S.take (k+1))=some m):=hid (by rw [hsn.out,twPlus_some,Nat.min_eq_left (by omega)])
      have k5:¬ (r:Int)<(m:Int):=by omega
      go_wp2_with fail
      go_roundw
      case rel=>exact ⟨k+1,by omega,by go_num,by rw [h2.out]; rfl,by trivial⟩
      case measure=>simp [intOf]; omega
  ·obtain rfl:k=n:=by omega
   have i1:¬ (k:Int)<(k:Int):=by omega
   have htk:S.take k=S:=List.take_of_length_le (by rw [Hn.out]; exact Nat.le_refl _)
   rw [htk]
   clear htk hcell
   have hle:Hid (∀ r,some r∈S->(leastV S).getD 0<=r/\(leastV S).isSome=true):=hid fun r hr=>by
    have:=least_le hr
    cases hl:leastV S with
    | none=>rw [hl] at this; cases this
    | some m=>rw [hl] at this; exact ⟨this,rfl⟩
   obtain ⟨L,hL⟩:∃ L,leastV S=L:=⟨_,rfl⟩
   rw [hL] at hle ⊢
   have HL:=hid hL
   clear hL
   obtain ⟨m,hm⟩:∃ m,L.getD 0=m:=⟨_,rfl⟩
   rw [hm] at hle
   have Hm:=hid hm
   clear hm
   obtain ⟨lv,hlv⟩:∃ lv,oV L=lv:=⟨_,rfl⟩
   rw [hlv]
   have Hlv:=hid hlv
   clear hlv
   go_wp2_with fail
   go_loopw [29] (fun iv wq=>∃ j:Nat,j<=k/\iv=.int .i64 (j:Int)/\Rw 3 wq base (.slice (some ⟨g,0,none⟩) k k) k (fun i=>oV (lowN S m j i))/\Fr (fun i=>i=g) wr wq) (fun iv _=>k-(intOf iv).toNat)
   case atStart=>exact ⟨0,by omega,rfl,hst.out.congr (fun i _=>by unfold lowN fS; rw [if_neg (by omega)]),Fr.refl _ _⟩
   case round =>
    obtain ⟨j,hj,rfl,hrow,hfr⟩:=hrel
    by_cases hlt:j<k
    ·have i1:(j:Int)<(k:Int):=by omega
     have i0:(0:Int)<=(j:Int):=by omega
     obtain ⟨o,ho⟩:∃ o,S[j]? = some o:=⟨_,List.getElem?_eq_getElem (by have:=Hn.out; omega)⟩
     have c1:=hrow.cell hlt
     have c2:=hrow.free j
     have e1:lowN S m j j=o:=by unfold lowN; rw [if_neg (by omega),List.getD_eq_getElem?_getD,ho]; rfl
     simp only [e1] at c1
     clear e1
     unfold oV at c1
     cases o with
     | none =>
      rw [oI_none] at c1
      have hsk:=hid (lowN_skip (m:=m) ho)
      clear ho
      go_wp2_with fail
      go_roundw
      case rel=>exact ⟨j+1,by omega,by go_num,hrow.congr (fun i _=>hsk.out i),hfr⟩
      case measure=>simp [intOf]; omega
     | some r =>
      rw [oI_some] at c1
      have hrm:=hle.out r (List.mem_of_getElem? ho)
      have hsk:=hid (lowN_step (m:=m) ho)
      have hrB:=hB.out r (List.mem_of_getElem? ho)
      clear ho
      have hLm:L=some m:=by
       have h1:=Hm.out
       cases L with
       | none=>exact absurd hrm.2 (by simp)
       | some x=>simp at h1; rw [h1]
      have hlv2:lv=.int .i64 (m:Int):=by rw [<-Hlv.out,hLm]; rfl
      clear hLm
      subst hlv2
      have k1:((r:Int) != -1)=true:=by simp
      have k1':((r:Int) == -1)=false:=by rw [beq_eq_false_iff_ne]; omega
      have k2:¬ (r:Int) = -1:=by omega
      have k3:=hrm.1
      have k4:((r-m:Nat):Int)=(r:Int)-(m:Int):=by omega
      rw [k4] at hsk
      clear k4
      go_wp2_with fail
      go_roundw
      case rel=>exact ⟨j+1,by omega,by go_num,(hrow.put j _).congr (fun i _=>hsk.out i),hfr.trans (Fr.set (T:=fun i=>i=g) _ (p:=⟨g,j,none⟩) rfl _)⟩
      case measure=>simp [intOf]; omega
    ·obtain rfl:j=k:=by omega
     have i1:¬ (j:Int)<(j:Int):=by omega
     have hend:=hid (lowN_end (m:=m) Hn.out)
     go_wp2_with fail
     go_ret
     exact ⟨congrArg Ending.returned (by rw [HL.out]; exact Hlv.out.symm),by rw [HL.out,Hm.out]; exact hrow.congr (fun i hi=>hend.out i hi),hfr⟩
end
section
open Go.RowKit
theorem oI_le {B:Nat} {S:Vx} (hB:Bd B S) {k:Nat} {o:Option Nat} (h:S[k]? = some o) : -1<=oI o/\oI o<=(B:Int):=by
 cases o with
 | none=>exact ⟨by rw [oI_none]; omega,by rw [oI_none]; omega⟩
 | some r=>have:=hB r (List.mem_of_getElem? h); exact ⟨by rw [oI_some]; omega,by rw [oI_some]; omega⟩
theorem max_any (B:Nat) (hB2:B<=1000000000000000) (S:Vx) (hn:S.length<=64) (h0:0<S.length) (hB:Bd B S) (base g:Nat) (w:World) (h:Sb w base g S) :
  Calls Tryz.prog 33 #[.slice (some ⟨g,0,none⟩) S.length S.length] w fun e w'=>(∃ z:Int,e=.returned (.int .i64 z)/\z<=(B:Int))/\w=w':=by
 have hval:Hid (∀ k,k<S.length->∃ x:Int,w.cell? ⟨g,k,none⟩=some (.int .i64 x) /\ -1<=x/\x<=(B:Int)):=hid fun k hk=>by
  have ho:S[k]? = some S[k]:=List.getElem?_eq_getElem hk
  refine ⟨oI S[k],?_,oI_le hB ho⟩
  rw [h.cell hk]
  unfold fS
  rw [List.getD_eq_getElem?_getD,ho]; rfl
 obtain ⟨n,hnn⟩:∃ n,S.length=n:=⟨_,rfl⟩
 rw [hnn] at hval hn h0 ⊢
 clear h hnn hB
 obtain ⟨x0,y0,y1,y2⟩:=hval.out 0 h0
 have i1:(0:Int)<(n:Int):=by omega
 have i2:¬ (n:Int)<1:=by omega
 go_enter Tryz.func33,Tryz.ntmps33
 go_wp2_with fail
 go_loopw [3,4] (fun mv iv wr=>∃ (k:Nat) (z:Int),1<=k/\k<=n/\iv=.int .i64 (k:Int)/\mv=.int .i64 z /\ -1<=z/\z<=(B:Int)/\wr=w) (fun _ iv _=>n-(intOf iv).toNat)
 case atStart=>exact ⟨1,x0,by omega,by omega,rfl,rfl,y1,y2,rfl⟩
 case round =>
  obtain ⟨k,z,hk1,hk,rfl,rfl,hz1,hz2,rfl⟩:=hrel
  by_cases hlt:k<n
  ·have j1:(k:Int)<(n:Int):=by omega
   have j0:(0:Int)<=(k:Int):=by omega
   obtain ⟨x,c1,c2,c3⟩:=hval.out k hlt
   go_wp2_with fail
   go_roundw
   case rel=>exact ⟨k+1,_,by omega,by omega,by go_num,rfl,by omega,by omega,by trivial⟩
   case measure=>simp [intOf]; omega
  ·have j1:¬ (k:Int)<(n:Int):=by omega
   go_wp2_with fail
   go_ret
   exact ⟨⟨z,rfl,hz2⟩,rfl⟩
end
section
open Go.Shelf Go.RowKit
theorem Tryz.infoI64:(Tryz.prog.info? 3).map (fun i=>(i.zero,i.size,i.bytes))=some (some (.int .i64 0),1,8):=by kernel_rfl
def Tryz.lays212_ren:Go.Shelf.Ren:=⟨fun | 212=>91 | 263=>133 | 264=>134 | n=>n,fun | 46=>141 | 51=>170 | 146=>182 | 53=>42 | 148=>184 | n=>n,fun | n=>n⟩
theorem Tryz.lays212:Go.Proofs.Lays.n212 Tryz.prog Tryz.lays212_ren:={
 mixed:=by kernel_rfl
 f212:=Tryz.func91.trans (congrArg some (by kernel_rfl))
 f263:=Tryz.func133.trans (congrArg some (by kernel_rfl))
 f264:=Tryz.func134.trans (congrArg some (by kernel_rfl))
 t46:=Tryz.underlying141
 a46:=Tryz.isAgg141
 z46:=Tryz.sizeOf141
 v46:=Tryz.zeroValue141
 t51:=Tryz.underlying170
 a51:=Tryz.isAgg170
 z51:=Tryz.sizeOf170
 v51:=Tryz.zeroValue170
 t53:=Tryz.underlying42
 a53:=Tryz.isAgg42
 z53:=Tryz.sizeOf42
 v53:=Tryz.zeroValue42
 t146:=Tryz.underlying182
 a146:=Tryz.isAgg182
 z146:=Tryz.sizeOf182
 v146:=Tryz.zeroValue182
 t148:=Tryz.underlying184
 a148:=Tryz.isAgg184
 z148:=Tryz.sizeOf184
 v148:=Tryz.zeroValue184 }
theorem Tryz.bits_Mul (x y:Nat) (hx:x<18446744073709551616) (hy:y<18446744073709551616) (w:World) :
  Calls Tryz.prog 91 #[.int .u64 x,.int .u64 y] w fun e w'=>e=.returned (.tuple #[.int .u64 ((x*y/18446744073709551616:Nat):Int),.int .u64 ((x*y%18446744073709551616:Nat):Int)])/\w'=w:=Any.bits_Mul Tryz.lays212 x y hx hy w
def repL (c k:Nat) (x:Int):List Value:=List.replicate k (.int .i64 x)++List.replicate (c-k) (.int .i64 0)
theorem repL_len {c k:Nat} (h:k<=c) (x:Int):(repL c k x).length=c:=by simp [repL]; omega
def repC (m:Nat) (x:Int):List Value:=List.replicate m (.int .i64 x)
theorem repC_len (m:Nat) (x:Int):(repC m x).length=m:=by simp [repC]
theorem repL_splice {c k m:Nat} (h:k+m<=c) (x:Int):splice (repL c k x) k (repC m x)=repL c (k+m) x:=by
 unfold splice repL repC
 rw [List.take_append_of_le_length (by simp),List.take_of_length_le (by simp),List.length_replicate,List.drop_append,List.drop_of_length_le (by simp)]
 simp only [List.length_replicate,List.nil_append,List.drop_replicate]
 rw [<-List.append_assoc,<-List.replicate_append_replicate]
 congr 2; omega
theorem repL_at {c k j:Nat} (h:j<k) (x:Int):(repL c k x)[j]? = some (.int .i64 x):=by
 unfold repL
 rw [List.getElem?_append_left (by simp; omega)]
 simp [h]
theorem repC_one (m:Nat) (x:Int):∀ v∈repC m x,v.oneCell'=true:=by
 intro v hv; rw [(List.mem_replicate.1 hv).2]; rfl
theorem repC_at {m j:Nat} {v:Value} {x:Int} (h:(repC m x)[j]? = some v):j<m/\v=.int .i64 x:=by
 obtain ⟨h1,h2⟩:=List.getElem?_eq_some_iff.1 h
 simp [repC] at h1 h2
 exact ⟨h1,h2.symm⟩
theorem repeat_any (x:Int) (c:Nat) (hc2:c<=1000000) (ao:OA) (cap:Nat) (w:World) (h:Sl w ao 1 cap [.int .i64 x]) :
  Calls Tryz.prog 63 #[.slice ao 1 cap,.int .i64 (c:Int)] w fun e w'=>(∃ g,e=.returned (.slice (some ⟨g,0,none⟩) c c)/\Rw 3 w' w.heap.size (.slice (some ⟨g,0,none⟩) c c) c (fun _=>.int .i64 x))/\Below w.heap.size w w':=by
 obtain ⟨b,off,rfl,hcell⟩:=h.at_ 0 _ rfl
 obtain ⟨m0,hm0⟩:∃ m,Nat.min 1 c=m:=⟨_,rfl⟩
 have q1:m0<=c:=by rw [<-hm0]; exact Nat.min_le_right _ _
 have q2:m0<=1:=by rw [<-hm0]; exact Nat.min_le_left _ _
 have q3:1<=m0\/c=0:=by rw [<-hm0]; by_cases hc:c=0; exact .inr hc; exact .inl (Nat.le_min.2 ⟨Nat.le_refl _,by omega⟩)
 have Hm0:=hid hm0
 clear hm0
 have hmul:1*c/18446744073709551616=0/\1*c%18446744073709551616=c:=by omega
 have Hmul:=hid hmul
 clear hmul
 go_enter Tryz.func63,Tryz.ntmps63
 go_wp2_with fail
 refine (Tryz.bits_Mul 1 c (by decide) (by omega) _).mono ?_; rintro e w0 ⟨rfl,rfl⟩
 rw [Hmul.out.1,Hmul.out.2]
 go_wp2_with (at_make; go_loud (refine wp_make rfl (.tmp 29) (.tmp 29) 68 rfl 3 _ 8 Tryz.underlying68 Tryz.infoI64 rfl _ _ _ _ c rfl rfl rfl rfl (by omega) (by omega) ?_))
 intro w1 hown _ hb1
 have hg0:w1.heap[w0.heap.size]? = some (.cells (repL c 0 x).toArray 3 (0,0)):=by
  rcases hown.2 with ⟨hv,_⟩ | ⟨g,cap',cur,hv,_,hh,_,_,hsz,ht⟩
  ·cases hv
  ·injection hv with e1 e2 e3
   injection e1 with e1
   injection e1 with e1 _ _
   subst e1 e3
   have:cur=(repL c 0 x).toArray:=by
    apply Array.toList_inj.1
    rw [Nat.mul_one] at ht hsz
    rw [List.take_of_length_le (by rw [Array.length_toList]; omega)] at ht
    rw [ht]; simp [repL]
   rw [<-this]; exact hh
 have Hg0:=hid hg0
 clear hown hg0
 have hl1:=repC_len m0 x
 have hcell1:=hid ((hb1.cell (p:=⟨b,off+0,none⟩) (World.block_lt_of_cell? w0 _ hcell)).trans hcell)
 go_wp2_with (with_reducible refine wpList_copy_splice rfl (.tmp 31) (.tmp 32) 68 68 rfl 3 Tryz.underlying68 (by kernel_rfl) (some ⟨w0.heap.size,0,none⟩) (some ⟨b,off,none⟩) c c 1 cap rfl rfl w0.heap.size 0 (repL c 0 x) 3 Hg0.out (repC m0 x) (by rw [repC_len]; exact Hm0.out.symm) (fun _=>⟨rfl,_,rfl,fun j v hv=>by
  obtain ⟨hj,rfl⟩:=repC_at hv
  obtain rfl:j=0:=by omega
  rw [Addr.add_lit]; exact hcell1.out⟩) (by rw [repC_len,repL_len (by omega)]; omega) (repC_one m0 x) w0.heap.size w0 hb1 (Nat.le_refl _) ?_)
 intro w2 hg2 hb2
 have hg2:Hid (w2.heap[w0.heap.size]? = some (.cells (repL c m0 x).toArray 3 (0,0))):=hid (by
  have:=hg2.out
  rwa [repL_splice (by omega),Nat.zero_add] at this)
 go_wp2_with fail
 go_loopw [8] (fun i wr=>∃ k:Nat,(1<=k\/c=0)/\k<=c/\i=.int .i64 k/\Hid (wr.heap[w0.heap.size]? = some (.cells (repL c k x).toArray 3 (0,0)))/\Below w0.heap.size w0 wr) (fun i _=>c-(intOf i).toNat)
 case atStart=>exact ⟨m0,q3,q1,rfl,hg2,hb2⟩
 case round =>
  clear hg2 hb2 hcell1 Hg0 hb1 hl1 Hmul hcell
  obtain ⟨k,hk1,hkc,rfl,hg,hbel⟩:=hrel
  by_cases hlt:k<c
  ·have hk1:1<=k:=by omega
   obtain ⟨m,hm⟩:∃ m,Nat.min k (c-k)=m:=⟨_,rfl⟩
   have hm1:1<=m:=by rw [<-hm]; exact Nat.le_min.2 ⟨hk1,by omega⟩
   have hm2:m<=k:=by rw [<-hm]; exact Nat.min_le_left _ _
   have hm3:m<=c-k:=by rw [<-hm]; exact Nat.min_le_right _ _
   have hml:=repC_len m x
   have Hm:=hid hm
   clear hm
   have hgd:wr.drew.heap[w0.heap.size]? = some (.cells (repL c k x).toArray 3 (0,0)):=hg.out
   have Hgd:=hid hgd
   clear hgd
   have i1:(0:Int)<=(k:Int):=by omega
   have i2:(k:Int)<=(c:Int):=by omega
   have i3:c≠k:=by omega
   go_wp2_with fail
   have hcells:∀ j v,(repC m x)[j]? = some v->wr.drew.cell? ((⟨w0.heap.size,0,none⟩:Addr).add j)=some v:=by
    intro j v hv
    obtain ⟨hj,rfl⟩:=repC_at hv
    rw [Addr.add_lit,cell_of_row _ _ _ _ _ _ Hgd.out,List.getElem?_toArray,Nat.zero_add]
    exact repL_at (by omega) x
   have Hcells:=hid hcells
   clear hcells
   have hfit:k+(repC m x).length<=(repL c k x).length:=by rw [repC_len,repL_len (by omega)]; omega
   have hbd:=hbel.drew
   have hwk:IntKind.i64.wrap ((k:Int)+(m:Int))=(k:Int)+(m:Int):=by rw [IntKind.wrap_i64]; omega
   go_region_held3 (fun _=>True) (trivial)
    ((refine step_copy_splice (by rfl) (.tmp 41) (.tmp 44) 68 68 (by rfl) 3 Tryz.underlying68 (by kernel_rfl) (some ⟨w0.heap.size,k,none⟩) (some ⟨w0.heap.size,0,none⟩) (c-k) (c-k) k c (by rfl) (by rfl) w0.heap.size k (repL c k x) 3 Hgd.out (repC m x) (by rw [repC_len]; exact Hm.out.symm) (fun _=>⟨rfl,_,rfl,Hcells.out⟩) hfit (repC_one m x) w0.heap.size w0 hbd (Nat.le_refl _) ?_; intro w3 hg3 hb3))
   have hg3:Hid (w3.heap[w0.heap.size]? = some (.cells (repL c (k+m) x).toArray 3 (0,0))):=hid (by
    have:=hg3.out
    rwa [repL_splice (by omega)] at this)
   clear hwk
   go_wp2_with fail
   go_roundw
   case rel=>exact ⟨k+m,by omega,by omega,by go_num,hg3,hb3⟩
   case measure=>simp [intOf]; omega
  ·obtain rfl:k=c:=by omega
   go_wp2_with fail
   go_ret
   exact ⟨⟨_,rfl,by simp [fnl_len],.inr ⟨w0.heap.size,k,(repL k k x).toArray,rfl,Nat.le_refl _,hg.out,Nat.le_refl _,by unfold maxLen; omega,by simp [repL],by simp [repL,fnl_rep]; exact List.take_of_length_le (by rw [fnl_len]; exact Nat.le_refl _)⟩⟩,hbel⟩
theorem nothing_any (n:Nat) (hn:n<=64) (w:World) :
  Calls Tryz.prog 25 #[.int .i64 (n:Int)] w fun e w'=>(∃ g,e=.returned (.slice (some ⟨g,0,none⟩) n n)/\Sb w' w.heap.size g (List.replicate n none))/\Below w.heap.size w w':=by
 go_enter Tryz.func25,Tryz.ntmps25
 go_wp2_with fail
 have hb:=below_alloc (w:=w) (.cells #[.int .i64 (-1)] 3)
 have hS:Sl (w.alloc (.cells #[.int .i64 (-1)] 3)) (some ⟨w.heap.size,0,none⟩) 1 1 [.int .i64 (-1)]:=Sl.lit w [.int .i64 (-1)] 3 (by simp [maxLen])
 refine (repeat_any (-1) n (by omega) _ _ _ hS).mono ?_
 rintro e w1 ⟨⟨g,rfl,h1⟩,hb1⟩
 go_wp2_with fail
 go_ret
 refine ⟨⟨g,rfl,?_⟩,hb.trans (hb1.mono hb.size)⟩
 have:=h1.mono hb.size
 unfold Sb
 rw [List.length_replicate]
 exact this.congr fun i hi=>by unfold fS; simp [List.getD,hi]; rfl
end
section
open Go.Shelf Go.RowKit Go.Lib Go.Sort
def Tryz.laysM171_ren:Go.Shelf.Ren:=⟨fun | 171=>66 | 243=>94 | 246=>140 | 283=>175 | 284=>176 | 285=>177 | 286=>178 | 129=>248 | 317=>247 | 318=>249 | 319=>250 | 320=>251 | 337=>296 | 338=>297 | n=>n,fun | 3=>3 | 9=>9 | 2=>2 | 4=>4 | 171=>210 | 0=>0 | 53=>42 | 37=>112 | 5=>5 | 173=>213 | 212=>237 | 51=>170 | 20=>20 | 213=>238 | 46=>141 | 232=>307 | 233=>308 | n=>n,fun | 17=>0 | 18=>1 | 19=>2 | n=>n⟩
theorem Tryz.laysM171:Go.Proofs.LaysM.n171 Tryz.prog Tryz.laysM171_ren:={
 mixed:=by kernel_rfl
 f129:=Tryz.func248.trans (congrArg some (by kernel_rfl))
 f171:=Tryz.func66.trans (congrArg some (by kernel_rfl))
 f243:=Tryz.func94.trans (congrArg some (by kernel_rfl))
 f246:=Tryz.func140.trans (congrArg some (by kernel_rfl))
 f283:=Tryz.func175.trans (congrArg some (by kernel_rfl))
 f284:=Tryz.func176.trans (congrArg some (by kernel_rfl))
 f285:=Tryz.func177.trans (congrArg some (by kernel_rfl))
 f286:=Tryz.func178.trans (congrArg some (by kernel_rfl))
 f317:=Tryz.func247.trans (congrArg some (by kernel_rfl))
 f318:=Tryz.func249.trans (congrArg some (by kernel_rfl))
 f319:=Tryz.func250.trans (congrArg some (by kernel_rfl))
 f320:=Tryz.func251.trans (congrArg some (by kernel_rfl))
 f337:=Tryz.func296.trans (congrArg some (by kernel_rfl))
 f338:=Tryz.func297.trans (congrArg some (by kernel_rfl))
 t0:=Tryz.underlying0
 a0:=Tryz.isAgg0
 z0:=Tryz.sizeOf0
 v0:=Tryz.zeroValue0
 t2:=Tryz.underlying2
 a2:=Tryz.isAgg2
 z2:=Tryz.sizeOf2
 v2:=Tryz.zeroValue2
 t3:=Tryz.underlying3
 a3:=Tryz.isAgg3
 z3:=Tryz.sizeOf3
 v3:=Tryz.zeroValue3
 t4:=Tryz.underlying4
 a4:=Tryz.isAgg4
 z4:=Tryz.sizeOf4
 v4:=Tryz.zeroValue4
 t5:=Tryz.underlying5
 a5:=Tryz.isAgg5
 z5:=Tryz.sizeOf5
 v5:=Tryz.zeroValue5
 t9:=Tryz.underlying9
 a9:=Tryz.isAgg9
 z9:=Tryz.sizeOf9
 v9:=Tryz.zeroValue9
 t20:=Tryz.underlying20
 a20:=Tryz.isAgg20
 z20:=Tryz.sizeOf20
 v20:=Tryz.zeroValue20
 t37:=Tryz.underlying112
 a37:=Tryz.isAgg112
 z37:=Tryz.sizeOf112
 v37:=Tryz.zeroValue112
 t46:=Tryz.underlying141
 a46:=Tryz.isAgg141
 z46:=Tryz.sizeOf141
 v46:=Tryz.zeroValue141
 t51:=Tryz.underlying170
 a51:=Tryz.isAgg170
 z51:=Tryz.sizeOf170
 v51:=Tryz.zeroValue170
 t53:=Tryz.underlying42
 a53:=Tryz.isAgg42
 z53:=Tryz.sizeOf42
 v53:=Tryz.zeroValue42
 t171:=Tryz.underlying210
 a171:=Tryz.isAgg210
 z171:=Tryz.sizeOf210
 v171:=Tryz.zeroValue210
 t173:=Tryz.underlying213
 a173:=Tryz.isAgg213
 z173:=Tryz.sizeOf213
 v173:=Tryz.zeroValue213
 t212:=Tryz.underlying237
 a212:=Tryz.isAgg237
 z212:=Tryz.sizeOf237
 v212:=Tryz.zeroValue237
 t213:=Tryz.underlying238
 a213:=Tryz.isAgg238
 z213:=Tryz.sizeOf238
 t232:=Tryz.underlying307
 a232:=Tryz.isAgg307
 z232:=Tryz.sizeOf307
 v232:=Tryz.zeroValue307
 t233:=Tryz.underlying308
 a233:=Tryz.isAgg308
 z233:=Tryz.sizeOf308
 v233:=Tryz.zeroValue308
 g17:=by kernel_rfl
 g18:=by kernel_rfl
 g19:=by kernel_rfl
 i0:=by kernel_rfl
 i2:=by kernel_rfl
 i3:=by kernel_rfl
 i4:=by kernel_rfl
 i5:=by kernel_rfl
 i9:=by kernel_rfl
 i20:=by kernel_rfl
 i37:=by kernel_rfl
 i46:=by kernel_rfl
 i51:=by kernel_rfl
 i53:=by kernel_rfl
 i171:=by kernel_rfl
 i173:=by kernel_rfl
 i212:=by kernel_rfl
 i232:=by kernel_rfl
 i233:=by kernel_rfl
 m17:=by kernel_rfl
 m18:=by kernel_rfl
 m19:=by kernel_rfl }
open Go.RowKit Go.Sort Go.Lib in
theorem Tryz.strconv_Itoa (n:Int) (h0 : -9223372036854775808<=n) (h1:n<=9223372036854775807) (w:World) (htab:Lib.TabIs Tryz.prog w "internal/strconv.uint64pow10" .u64 Lib.pow10Tab) :
  Calls Tryz.prog 66 #[.int .i64 n] w fun e w'=>e=.returned (.string ⟨(Lib.itoa n).toArray⟩)/\∃ k os,w'=grow (w.drewN k) os:=Any.strconv_Itoa Tryz.laysM171 n h0 h1 w htab
def Pow (w:World):Prop:=Lib.TabIs Tryz.prog w "internal/strconv.uint64pow10" .u64 Lib.pow10Tab
theorem pow_glob:Tryz.prog.globalNamed "internal/strconv.uint64pow10"=some 0:=by kernel_rfl
theorem Pow.next {w w':World} (h:Pow w) (hb:Below w.heap.size w w'):Pow w':=Go.Joins.tab_stays pow_glob h hb (Nat.le_refl _)
theorem below_grow (w:World) (k:Nat) (os:Array Obj):Below w.heap.size w (Go.Sort.grow (w.drewN k) os):=by
 refine ⟨rfl,rfl,rfl,?_,fun j hj=>?_⟩
 ·simp
 ·show (w.heap++os)[j]? = w.heap[j]?
  rw [Array.getElem?_append,if_pos hj]
def StrOut (w:World) (l:List UInt8) (e:Ending) (w':World):Prop:=∃ s:ByteArray,e=.returned (.string s)/\s.data.toList=l/\Below w.heap.size w w'
theorem itoaZ_any (N:Int) (h0 : -9223372036854775808<=N) (h1:N<=9223372036854775807) (w:World) (hp:Pow w):Calls Tryz.prog 66 #[.int .i64 N] w (StrOut w (Lib.itoa N)):=by
 refine (Tryz.strconv_Itoa N h0 h1 w hp).mono ?_
 rintro e w' ⟨rfl,k,os,rfl⟩
 exact ⟨_,rfl,rfl,below_grow w k os⟩
end
section
open Go.Shelf Go.RowKit
def Tryz.lays169_ren:Go.Shelf.Ren:=⟨fun | 169=>67 | n=>n,fun | 70=>111 | 9=>9 | 0=>0 | 72=>114 | 37=>112 | 127=>144 | 3=>3 | 5=>5 | n=>n,fun | n=>n⟩
theorem Tryz.lays169:Go.Proofs.Lays.n169 Tryz.prog Tryz.lays169_ren:={
 mixed:=by kernel_rfl
 f169:=Tryz.func67.trans (congrArg some (by kernel_rfl))
 t0:=Tryz.underlying0
 a0:=Tryz.isAgg0
 z0:=Tryz.sizeOf0
 v0:=Tryz.zeroValue0
 t3:=Tryz.underlying3
 a3:=Tryz.isAgg3
 z3:=Tryz.sizeOf3
 v3:=Tryz.zeroValue3
 t9:=Tryz.underlying9
 a9:=Tryz.isAgg9
 z9:=Tryz.sizeOf9
 v9:=Tryz.zeroValue9
 t37:=Tryz.underlying112
 a37:=Tryz.isAgg112
 z37:=Tryz.sizeOf112
 v37:=Tryz.zeroValue112
 t70:=Tryz.underlying111
 a70:=Tryz.isAgg111
 z70:=Tryz.sizeOf111
 v70:=Tryz.zeroValue111
 t72:=Tryz.underlying114
 a72:=Tryz.isAgg114
 z72:=Tryz.sizeOf114
 v72:=Tryz.zeroValue114
 t127:=Tryz.underlying144
 a127:=Tryz.isAgg144
 z127:=Tryz.sizeOf144
 v127:=Tryz.zeroValue144 }
theorem Tryz.Builder_Extra_169:Builder.Extra Tryz.prog Tryz.lays169_ren:={
 sizeBuilder:=by kernel_rfl
 liesBuilder:=by kernel_rfl
 t5:=Tryz.underlying5
 a5:=Tryz.isAgg5
 z5:=Tryz.sizeOf5
 v5:=Tryz.zeroValue5
 infoByte:=by kernel_rfl
 cellsByte:=by kernel_rfl
 sizeByte:=by kernel_rfl
 neB5:=by decide }
open Go.RowKit in
theorem Tryz.Builder_String_any (B b:Nat) (l:List UInt8) (w:World) (h:Lib.IsBuilder 114 5 B b (Lib.byteCells l) w) (hBw:B<=w.heap.size) :
  Calls Tryz.prog 67 #[.pointer (some ⟨b,0,none⟩)] w fun e w'=>e=.returned (.string ⟨l.toArray⟩)/\Below B w w':=Any.Builder_String_any Tryz.lays169 Tryz.Builder_Extra_169 B b l w h hBw
end
section
open Go.RowKit
theorem Tryz.infoBui:(Tryz.prog.info? 114).map (·.size)=some 2:=by kernel_rfl
theorem Tryz.liesBui:liesAt Tryz.prog Tryz.prog.depth 114 (2/Tryz.prog.cellsOf 114) 0 114 1=true:=by kernel_rfl
theorem Tryz.infoByte:(Tryz.prog.info? 5).map (fun i=>(i.zero,i.size,i.bytes))=some (some (.int .u8 0),1,1):=by kernel_rfl
abbrev Bui (B b:Nat) (l:List UInt8) (w:World):Prop:=Lib.IsBuilder 114 5 B b (Lib.byteCells l) w
theorem bcheck_used (b:Nat) (w:World) (h0:w.cell? ⟨b,0,none⟩=some (.pointer (some ⟨b,0,none⟩))) :
  Calls Tryz.prog 93 #[.pointer (some ⟨b,0,none⟩)] w fun e w'=>e=.returned (.tuple #[])/\w'=w:=by
 obtain ⟨j,hj,_⟩:=Option.map_eq_some_iff.1 Tryz.infoBui
 go_enter Tryz.func93,Tryz.ntmps93
 go_wp2_with fail
 rw [Lib.run_neq_ptr_same w _ Tryz.underlying111 hj]
 go_wp2_with fail
 go_end0
 exact ⟨rfl,rfl⟩
theorem bcheck_fresh (b:Nat) (w:World) (h0:w.cell? ⟨b,0,none⟩=some (.pointer none)) (hsh:w.shape? b=some (114,2)) (hfz:w.frozen? ⟨b,0,none⟩=false) :
  Calls Tryz.prog 93 #[.pointer (some ⟨b,0,none⟩)] w fun e w'=>e=.returned (.tuple #[])/\w'=w.setCell ⟨b,0,none⟩ (.pointer (some ⟨b,0,none⟩)):=by
 obtain ⟨j,hj,hjs⟩:=Option.map_eq_some_iff.1 Tryz.infoBui
 go_enter Tryz.func93,Tryz.ntmps93
 go_wp2_with fail
 rw [Lib.run_to_unsafe w ⟨b,0,none⟩ Tryz.underlying111 Tryz.underlying189 hj (by rw [hjs]; decide) hsh (Nat.zero_lt_succ 1)]
 simp only [Result.andThen]
 rw [Oper.upon_value]
 go_wp2_with fail
 rw [run_callFunc_extern Tryz.func139 (by kernel_rfl) (by kernel_rfl) (by kernel_rfl) (e:=Extern.AbiNoEscape.same) (by kernel_rfl)]
 rw [Lib.run_noEscape]
 simp only [Result.andThen]
 rw [Oper.upon_value]
 go_wp2_with fail
 rw [Lib.run_from_unsafe w ⟨b,0,none⟩ Tryz.underlying189 Tryz.underlying111 hj hsh Tryz.liesBui]
 simp only [Result.andThen]
 rw [Oper.upon_value]
 go_wp2_with fail
 go_end0
 exact ⟨rfl,rfl⟩
theorem bcheck_any (B b:Nat) (bs:List Value) (w:World) (h:Lib.IsBuilder 114 5 B b bs w) :
  Calls Tryz.prog 93 #[.pointer (some ⟨b,0,none⟩)] w fun e w'=>e=.returned (.tuple #[])/\(Lib.BuilderAt 114 5 B b (.pointer (some ⟨b,0,none⟩)) bs w'/\Below B w w')/\(w'=w\/w'=w.setCell ⟨b,0,none⟩ (.pointer (some ⟨b,0,none⟩))):=by
 rcases h with h | h
 ·refine (bcheck_fresh b w h.cell0 h.shape h.frozen0).mono ?_
  rintro e w' ⟨rfl,rfl⟩
  exact ⟨rfl,⟨h.used _,(Below.refl B w).setCell (p:=⟨b,0,none⟩) h.1 _⟩,.inr rfl⟩
 ·refine (bcheck_used b w h.cell0).mono ?_
  rintro e w' ⟨rfl,rfl⟩
  exact ⟨rfl,⟨h,Below.refl B _⟩,.inl rfl⟩
def BOff (b j:Nat) (w:World):Prop:=∀ v,w.cell? ⟨b,1,none⟩=some v->v.ownBlock≠some j
theorem cell_same {w w':World} {j:Nat} (h:w'.heap[j]? = w.heap[j]?) (i:Nat):w'.cell? ⟨j,i,none⟩=w.cell? ⟨j,i,none⟩:=by
 unfold World.cell?; rw [h]
theorem bytes_str (l:List UInt8) (s:ByteArray):Lib.byteCells l++Lib.strCells s=Lib.byteCells (l++s.data.toList):=by simp [Lib.byteCells,Lib.strCells]
theorem bytes_len (l:List UInt8):(Lib.byteCells l).length=l.length:=by simp [Lib.byteCells]
theorem bwrite_any (B b:Nat) (l:List UInt8) (s:ByteArray) (w:World) (h:Bui B b l w) (hlen:l.length+s.size<=140737488355328) (hBw:B<=w.heap.size) :
  Calls Tryz.prog 65 #[.pointer (some ⟨b,0,none⟩),.string s] w fun e w'=>e=.returned (.tuple #[.int .i64 s.size,.nilIface])/\Bui B b (l++s.data.toList) w'/\Below B w w'/\∀ j,j<w.heap.size->j≠b->BOff b j w->w'.heap[j]? = w.heap[j]? := by
 obtain ⟨i0,hi,hz0,hz1,hz2⟩:=info_parts Tryz.infoByte
 have hck:=hid (bcheck_any B b _ w h)
 go_enter Tryz.func65,Tryz.ntmps65
 go_wp2_with fail
 refine hck.out.mono ?_
 rintro e w1 ⟨rfl,⟨⟨hB,v,hbk,hown,hne⟩,hb1⟩,hw1⟩
 have c0:w1.cell? ⟨b,0,none⟩=some (.pointer (some ⟨b,0,none⟩)):=by rw [Lib.cell_of_heap hbk]; rfl
 have c1:w1.cell? ⟨b,1,none⟩=some v:=by rw [Lib.cell_of_heap hbk]; rfl
 have hbl:=bytes_len l
 go_wp2_with (at_builtin; refine Lib.wpList_append_own_string _ rfl _ _ 112 9 rfl B 5 i0 Tryz.underlying112 Tryz.underlying9 hi hz0 hz1 hz2 _ _ _ rfl hown s rfl ?c3 ?c4 ?c5 ?_)
 case c3=>unfold maxLen; omega
 case c4=>omega
 case c5=>have:=hb1.size; omega
 intro v' w2 hown' hgrow _
 have hlt:b<w1.heap.size:=by
  rcases Nat.lt_or_ge b w1.heap.size with h' | h'
  ·exact h'
  ·simp [Array.getElem?_eq_none h'] at hbk
 have hb2:w2.heap[b]? = some (.cells #[.pointer (some ⟨b,0,none⟩),v] 114 (0,0)):=by
  rw [hgrow.block b hlt (fun e=>hne e.symm)]
  exact hbk
 have d0:w2.cell? ⟨b,0,none⟩=some (.pointer (some ⟨b,0,none⟩)):=by rw [Lib.cell_of_heap hb2]; rfl
 have d1:w2.cell? ⟨b,1,none⟩=some v:=by rw [Lib.cell_of_heap hb2]; rfl
 have f1:w2.frozen? ⟨b,1,none⟩=false:=Lib.frozen_of_heap hb2 1
 obtain ⟨ao,n',cap,rfl⟩:∃ ao n' cap,v'=.slice ao n' cap:=by
  rcases hown'.2 with ⟨hv,_⟩ | ⟨g,cap,cur,hv,_⟩
  ·exact ⟨_,_,_,hv⟩
  ·exact ⟨_,_,_,hv⟩
 go_wp2_with fail
 go_ret2
 refine ⟨rfl,?_,?_,?_⟩
 ·have:=Lib.BuilderAt.put (T:=114) (e:=5) hB hb2 (bs':=Lib.byteCells l++Lib.strCells s) (by simpa [Lib.strCells_length,bytes_len] using hown') (by decide)
  rw [bytes_str] at this
  exact .inr this
 ·exact (hb1.grown hgrow (by have:=hb1.size; omega) (fun k hk=>(hown.lt k hk).1)).setCell (p:=⟨b,1,none⟩) hB _
 ·intro j hj hjb hoff
  have hk:w1.heap[j]? = w.heap[j]? /\ w1.cell? ⟨b,1,none⟩=w.cell? ⟨b,1,none⟩/\j<w1.heap.size:=by
   rcases hw1 with rfl | rfl
   ·exact ⟨rfl,rfl,hj⟩
   ·exact ⟨Below.heap_setCell _ _ _ _ hjb,by simp [go_sem],by simpa using hj⟩
  rw [Below.heap_setCell _ _ _ _ hjb,hgrow.block j hk.2.2 (fun e=>hoff v (hk.2.1.symm.trans c1) e.symm)]
  exact hk.1
theorem Bui.off {B b:Nat} {l:List UInt8} {w w':World} (h:Bui B b l w) (hb:Below w.heap.size w w'):BOff b w.heap.size w':=by
 have key:∀ p,Lib.BuilderAt 114 5 B b p (Lib.byteCells l) w->BOff b w.heap.size w':=by
  rintro p ⟨hB,v,hbk,hown,hne⟩ u hu
  have hlt:b<w.heap.size:=by
   rcases Nat.lt_or_ge b w.heap.size with h' | h'
   ·exact h'
   ·simp [Array.getElem?_eq_none h'] at hbk
  rw [cell_same (hb.block b hlt),show w.cell? ⟨b,1,none⟩=some v by rw [Lib.cell_of_heap hbk]; rfl] at hu
  obtain rfl:=Option.some.inj hu
  intro e
  have:=(hown.lt _ e).2
  omega
 exact h.elim (key _) (key _)
theorem Bui.lt {B b:Nat} {l:List UInt8} {w:World} (h:Bui B b l w):b<w.heap.size:=h.elim (fun h=>h.lt) (fun h=>h.lt)
theorem bstring_any (B b:Nat) (l:List UInt8) (w:World) (h:Bui B b l w) (hBw:B<=w.heap.size):Calls Tryz.prog 67 #[.pointer (some ⟨b,0,none⟩)] w fun e w'=>e=.returned (.string ⟨l.toArray⟩)/\Below B w w' :=
 Tryz.Builder_String_any B b l w h hBw
theorem Bui.fresh (w:World):Bui w.heap.size w.heap.size [] (w.alloc (.cells #[.pointer none,.slice none 0 0] 114)):=Lib.fresh_isBuilder _ _ w
theorem Bui.next {B b:Nat} {l:List UInt8} {w w':World} (h:Bui B b l w) (hb:Below w.heap.size w w'):Bui B b l w':=by
 have key:∀ p,Lib.BuilderAt 114 5 B b p (Lib.byteCells l) w->Lib.BuilderAt 114 5 B b p (Lib.byteCells l) w':=by
  rintro p ⟨hB,v,hbk,hown,hne⟩
  have hlt:b<w.heap.size:=by
   rcases Nat.lt_or_ge b w.heap.size with h' | h'
   ·exact h'
   ·simp [Array.getElem?_eq_none h'] at hbk
  exact ⟨hB,v,(hb.block b hlt).trans hbk,ownsRow_below hown hb (Nat.le_refl _),hne⟩
 exact h.imp (key _) (key _)
end
section
open Go.RowKit
def keyT:Vx->List UInt8
 | []=>[]
 | o::S=>Lib.itoa (oI o)++(32::keyT S)
theorem keyT_app:∀ (S T:Vx),keyT (S++T)=keyT S++keyT T
 | [],T=>rfl
 | o::S,T=>by simp [keyT,keyT_app S T]
theorem keyT_next (S:Vx) (k:Nat) (o:Option Nat) (h:S[k]? = some o):keyT (S.take (k+1))=keyT (S.take k)++(Lib.itoa (oI o)++[32]):=by
 rw [List.take_add_one,h,keyT_app]; rfl
theorem nDigits_le:∀ (u:Nat),Lib.nDigits u<=u+1:=by
 intro u
 induction u using Nat.strongRecOn with
 | ind u ih =>
  unfold Lib.nDigits
  split
  ·omega
  ·have:=ih (u/10) (by omega); omega
theorem itoa_oI (o:Option Nat):Lib.itoa (oI o)=match o with | none=>[45,49] | some r=>Lib.decDigits r:=by
 cases o with
 | none=>rw [oI_none]; show Lib.itoa (-1)=[45,49]; unfold Lib.itoa; rw [if_pos (by omega)]; show 45::Lib.decDigits 1=_; rw [Lib.decDigits]; simp
 | some r=>rw [oI_some]; unfold Lib.itoa; rw [if_neg (by omega)]; simp
theorem itoa_len {B:Nat} {S:Vx} (hB:Bd B S) {k:Nat} {o:Option Nat} (h:S[k]? = some o):(Lib.itoa (oI o)).length<=B+2:=by
 rw [itoa_oI]
 cases o with
 | none=>simp
 | some r=>have:=hB r (List.mem_of_getElem? h); have h2:=nDigits_le r; show (Lib.decDigits r).length<=_; rw [Lib.decDigits_length]; omega
theorem keyT_len {B:Nat} {S:Vx} (hB:Bd B S):∀ k,k<=S.length->(keyT (S.take k)).length<=k*(B+3)
 | 0,_=>by simp [keyT]
 | k+1,hk=>by
  have ho:S[k]? = some S[k]:=List.getElem?_eq_getElem (by omega)
  rw [keyT_next S k _ ho,List.length_append,List.length_append]
  have h1:=keyT_len hB k (by omega)
  have h2:=itoa_len hB ho
  rw [Nat.add_mul]; simp only [List.length_cons,List.length_nil]; omega
theorem key_any (B:Nat) (hB2:B<=2000000000000) (S:Vx) (hn:S.length<=64) (hB:Bd B S) (base g:Nat) (w:World) (h:Sb w base g S) (hp:Pow w) :
  Calls Tryz.prog 29 #[.slice (some ⟨g,0,none⟩) S.length S.length] w (StrOut w (keyT S)):=by
 have hall:Hid (∀ k,k<S.length->S[k]? = some (S.getD k none)):=hid fun k hk=>by rw [List.getD_eq_getElem?_getD,List.getElem?_eq_getElem hk]; rfl
 have hlen:=hid fun k (hk:k<=S.length)=>keyT_len hB k hk
 have hil:=hid fun k (hk:k<S.length)=>itoa_len hB (hall.out k hk)
 have hob:=hid fun k (hk:k<S.length)=>oI_le hB (hall.out k hk)
 have hnx:=hid fun k (hk:k<S.length)=>keyT_next S k _ (hall.out k hk)
 have hcl:=hid fun k (hk:k<S.length) (w':World) (hb:Below w.heap.size w w')=>(Rw.next h hb).cell hk
 have hend:Hid (keyT (S.take S.length)=keyT S):=hid (by rw [List.take_length])
 obtain ⟨n,hnn⟩:∃ n,S.length=n:=⟨_,rfl⟩
 rw [hnn] at hlen hil hob hnx hcl hn hend ⊢
 clear h hall hB hnn
 have hbui:=hid (Bui.fresh w)
 have hb0:=below_alloc (w:=w) (.cells #[.pointer none,.slice none 0 0] 114)
 go_enter Tryz.func29,Tryz.ntmps29
 go_wp2_with fail
 go_loopw [8] (fun iv wr=>∃ k:Nat,k<=n/\iv=.int .i64 (k:Int)/\Bui w.heap.size w.heap.size (keyT (S.take k)) wr/\Below w.heap.size w wr) (fun iv _=>n-(intOf iv).toNat)
 case atStart=>exact ⟨0,by omega,rfl,hbui.out,hb0⟩
 case round =>
  obtain ⟨k,hk,rfl,hB1,hb1⟩:=hrel
  by_cases hlt:k<n
  ·have j1:(k:Int)<(n:Int):=by omega
   have j0:(0:Int)<=(k:Int):=by omega
   have c1:=hcl.out k hlt wr hb1
   unfold fS at c1
   have c2:=hob.out k hlt
   have c3:=hil.out k hlt
   have c4:=hlen.out k hk
   have c5:=hnx.out k hlt
   obtain ⟨o,ho⟩:∃ o,S.getD k none=o:=⟨_,rfl⟩
   rw [ho] at c1 c2 c3 c5
   unfold oV at c1
   obtain ⟨z,hz⟩:∃ z,oI o=z:=⟨_,rfl⟩
   rw [hz] at c1 c2 c3 c5
   have c6:(keyT (S.take k)).length<=64*(B+3):=Nat.le_trans c4 (Nat.mul_le_mul (Nat.le_trans hk hn) (Nat.le_refl _))
   go_wp2_with fail
   refine (itoaZ_any z (by omega) (by omega) _ (hp.next hb1)).mono ?_
   rintro e w2 ⟨s,rfl,hs,hb2⟩
   have s1:s.size<=B+2:=by rw [Lib.size_eq,hs]; exact c3
   have s2:¬ 9223372036854775807<s.size+1:=by omega
   have s3:(s++(⟨#[32]⟩:ByteArray)).size=s.size+1:=by rw [ByteArray.size_append]; rfl
   have s4:(s++(⟨#[32]⟩:ByteArray)).data.toList=Lib.itoa z++[32]:=by rw [ByteArray.data_append,Array.toList_append,hs]
   have hB2':=hB1.next hb2
   have hb3:=hb1.trans (hb2.mono hb1.size)
   clear c1
   go_wp2_with fail
   refine (bwrite_any _ _ _ _ _ hB2' (by rw [s3]; omega) hb3.size).mono ?_
   rintro e w3 ⟨rfl,hB3,hb4,_⟩
   rw [s4,<-c5] at hB3
   have hb5:=hb3.trans hb4
   go_wp2_with fail
   go_roundw
   case rel=>exact ⟨k+1,by omega,by go_num,hB3,hb5⟩
   case measure=>simp [intOf]; omega
  ·have j1:¬ (k:Int)<(n:Int):=by omega
   obtain rfl:k=n:=by omega
   rw [hend.out] at hB1
   go_wp2_with fail
   refine (bstring_any _ _ _ _ hB1 hb1.size).mono ?_
   rintro e w2 ⟨rfl,hb2⟩
   go_wp2_with fail
   go_ret
   exact ⟨_,rfl,rfl,hb1.trans hb2⟩
theorem dec_no32 (n:Nat):∀ b∈Lib.decDigits n,b≠32:=by
 induction n using Nat.strongRecOn with
 | ind n ih =>
  rw [Lib.decDigits]
  split
  ·intro b hb; simp only [List.mem_singleton] at hb; subst hb; intro h; have:=congrArg UInt8.toNat h; simp at this; omega
  ·intro b hb
   rcases List.mem_append.1 hb with hb | hb
   ·exact ih (n/10) (by omega) b hb
   ·simp only [List.mem_singleton] at hb; subst hb; intro h; have:=congrArg UInt8.toNat h; simp at this; omega
theorem oI_no32 (o:Option Nat):∀ b∈Lib.itoa (oI o),b≠32:=by
 rw [itoa_oI]
 cases o with
 | none=>intro b hb; simp at hb; rcases hb with rfl | rfl<;>decide
 | some r=>exact dec_no32 r
theorem cut32:∀ (a b c d:List UInt8),(∀ x∈a,x≠32)->(∀ x∈c,x≠32)->a++(32::b)=c++(32::d)->a=c/\b=d
 | [],b,[],d,_,_,h=>⟨rfl,by simpa using h⟩
 | [],b,y::c,d,_,hc,h=>by
  simp only [List.nil_append,List.cons_append,List.cons.injEq] at h
  exact absurd h.1.symm (hc y (List.mem_cons_self ..))
 | x::a,b,[],d,ha,_,h=>by
  simp only [List.nil_append,List.cons_append,List.cons.injEq] at h
  exact absurd h.1 (ha x (List.mem_cons_self ..))
 | x::a,b,y::c,d,ha,hc,h=>by
  simp only [List.cons_append,List.cons.injEq] at h
  obtain ⟨h1,h2⟩:=cut32 a b c d (fun z hz=>ha z (List.mem_cons_of_mem _ hz)) (fun z hz=>hc z (List.mem_cons_of_mem _ hz)) h.2
  exact ⟨by rw [h.1,h1],h2⟩
theorem dec_val (n:Nat):∀ a,(Lib.decDigits n).foldl (fun a b=>a*10+(b.toNat-48)) a=a*10^(Lib.decDigits n).length+n:=by
 induction n using Nat.strongRecOn with
 | ind n ih =>
  intro a
  rw [Lib.decDigits]
  split
  ·rename_i h
   have:(48+n%10)%256=48+n%10:=by omega
   simp [Nat.mod_eq_of_lt h]; omega
  ·rename_i h
   rw [List.foldl_append,ih (n/10) (by omega),List.length_append]
   have:(48+n%10)%256=48+n%10:=by omega
   simp [Nat.pow_succ,<-Nat.mul_assoc]; omega
theorem oI_itoa {o p:Option Nat} (h:Lib.itoa (oI o)=Lib.itoa (oI p)):o=p:=by
 rw [itoa_oI,itoa_oI] at h
 have h45:∀ n,Lib.decDigits n≠[45,49]:=by
  intro n hn
  have hv:∀ b∈Lib.decDigits n,b≠45:=by
   clear hn
   induction n using Nat.strongRecOn with
   | ind n ih =>
    rw [Lib.decDigits]
    split
    ·intro b hb; simp only [List.mem_singleton] at hb; subst hb; intro h; have:=congrArg UInt8.toNat h; simp at this; omega
    ·intro b hb
     rcases List.mem_append.1 hb with hb | hb
     ·exact ih (n/10) (by omega) b hb
     ·simp only [List.mem_singleton] at hb; subst hb; intro h; have:=congrArg UInt8.toNat h; simp at this; omega
  rw [hn] at hv
  exact hv 45 (by simp) rfl
 cases o with
 | none=>cases p with
  | none=>rfl
  | some q=>exact absurd h.symm (h45 q)
 | some r=>cases p with
  | none=>exact absurd h (h45 r)
  | some q =>
   have h1:=dec_val r 0
   have h2:=dec_val q 0
   have h':Lib.decDigits r=Lib.decDigits q:=h
   rw [h',h2] at h1
   have:r=q:=by simpa using h1.symm
   rw [this]
theorem keyT_inj:∀ (S T:Vx),keyT S=keyT T->S=T
 | [],[],_=>rfl
 | [],o::T,h=>by have:=congrArg List.length h; simp [keyT] at this
 | o::S,[],h=>by have:=congrArg List.length h; simp [keyT] at this
 | o::S,p::T,h=>by
  obtain ⟨h1,h2⟩:=cut32 _ _ _ _ (oI_no32 o) (oI_no32 p) h
  rw [oI_itoa h1,keyT_inj S T h2]
end
section
open Go.RowKit
def sbV (st:Nat) (g:Nat):Value:=.slice (some ⟨g,0,none⟩) st st
structure Sbs (w:World) (base st:Nat) (subs:List Vx) (gs:List Nat):Prop where
 num:gs.length=subs.length
 len:∀ S:Vx,S∈subs->S.length=st
 lie:∀ (i:Nat) (S:Vx) (g:Nat),subs[i]? = some S->gs[i]? = some g->Sb w base g S/\g<w.heap.size
theorem Sb.lt {w:World} {base g:Nat} {S:Vx} (h:Sb w base g S):base<=g/\g<w.heap.size:=Rw.lt h rfl
theorem Sb.fr {w w':World} {base g:Nat} {S:Vx} {T:Nat->Prop} (h:Sb w base g S) (hf:Fr T w w') (hT:¬ T g):Sb w' base g S:=Rw.fr h hf fun k hk=>by
 have:k=g:=by simpa [Value.ownBlock] using hk.symm
 subst this; exact hT
theorem Sbs.next {w w':World} {base st:Nat} {subs:List Vx} {gs:List Nat} (h:Sbs w base st subs gs) (hb:Below w.heap.size w w'):Sbs w' base st subs gs :=
 ⟨h.num,h.len,fun i S g hS hg=>by
  obtain ⟨h1,h2⟩:=h.lie i S g hS hg
  exact ⟨Rw.next h1 hb,Nat.lt_of_lt_of_le h2 hb.size⟩⟩
theorem Sbs.fr {w w':World} {base st:Nat} {subs:List Vx} {gs:List Nat} {T:Nat->Prop} (h:Sbs w base st subs gs) (hf:Fr T w w') (hT:∀ g∈gs,¬ T g):Sbs w' base st subs gs :=
 ⟨h.num,h.len,fun i S g hS hg=>by
  obtain ⟨h1,h2⟩:=h.lie i S g hS hg
  have h3:=h1.fr hf (hT g (List.mem_of_getElem? hg))
  exact ⟨h3,h3.lt.2⟩⟩
theorem Sbs.one {w:World} {base g:Nat} {S:Vx} (h:Sb w base g S):Sbs w base S.length [S] [g] :=
 ⟨rfl,fun T hT=>by simp only [List.mem_singleton] at hT; rw [hT],fun i T k hT hk=>by
  cases i with
  | zero=>simp at hT hk; subst hT hk; exact ⟨h,h.lt.2⟩
  | succ i=>simp at hT⟩
theorem Sbs.app {w:World} {base st g:Nat} {subs:List Vx} {gs:List Nat} {S:Vx} (h:Sbs w base st subs gs) (hS:Sb w base g S) (hl:S.length=st):Sbs w base st (subs++[S]) (gs++[g]) :=
 ⟨by simp [h.num],fun T hT=>by
  rcases List.mem_append.1 hT with hT | hT
  ·exact h.len T hT
  ·simp only [List.mem_singleton] at hT; rw [hT]; exact hl,fun i T k hT hk=>by
  by_cases hi:i<subs.length
  ·rw [List.getElem?_append_left hi] at hT
   rw [List.getElem?_append_left (by rw [h.num]; exact hi)] at hk
   exact h.lie i T k hT hk
  ·rw [List.getElem?_append_right (by omega)] at hT
   rw [List.getElem?_append_right (by rw [h.num]; omega),h.num] at hk
   obtain ⟨j,hj⟩:∃ j,i-subs.length=j:=⟨_,rfl⟩
   rw [hj] at hT hk
   cases j with
   | zero=>simp at hT hk; subst hT hk; exact ⟨hS,hS.lt.2⟩
   | succ j=>simp at hT⟩
theorem Sbs.get {w:World} {base st:Nat} {subs:List Vx} {gs:List Nat} (h:Sbs w base st subs gs) {k:Nat} (hk:k<subs.length):∃ g,gs[k]? = some g/\Sb w base g (subs.getD k [])/\(subs.getD k []).length=st/\g<w.heap.size:=by
 have h1:gs[k]? = some (gs[k]'(by rw [h.num]; exact hk)):=List.getElem?_eq_getElem _
 have h2:subs[k]? = some subs[k]:=List.getElem?_eq_getElem hk
 obtain ⟨a,b⟩:=h.lie k _ _ h2 h1
 refine ⟨_,h1,?_,?_,b⟩
 ·rw [List.getD_eq_getElem?_getD,h2]; exact a
 ·rw [List.getD_eq_getElem?_getD,h2]; exact h.len _ (List.getElem_mem hk)
end
end Go.Proofs.YtnapapijhhldpaaGreatDoor

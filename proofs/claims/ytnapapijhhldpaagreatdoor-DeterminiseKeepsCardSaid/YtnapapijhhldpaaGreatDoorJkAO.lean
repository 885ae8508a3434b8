/-
  Texts joined by program: BuiS, TwK, TwL, TwM, TwMb, TwN, TwNa, TwNb. No condition of its own.
-/
import Derived.Test.YtnapapijhhldpaaGreatDoorJkAN
namespace Go.Proofs.YtnapapijhhldpaaGreatDoor
set_option linter.unusedSimpArgs false
set_option linter.unusedVariables false
set_option maxRecDepth 100000
set_option maxHeartbeats 4000000
section
open Go.Shelf Go.RowKit
def Tryz.lays169_ren:Go.Shelf.Ren:=⟨fun | 169=>67 | n=>n,fun | 70=>111 | 9=>9 | 0=>0 | 72=>114 | 37=>112 | 127=>144 | 3=>3 | 5=>5 | n=>n,fun | n=>n⟩
theorem Tryz.lays169:Go.Proofs.Lays.n169 Tryz.prog Tryz.lays169_ren:={
 mixed:=by kernel_rfl
 f169:=Tryz.func67.trans (congrArg some (by kernel_rfl))
 t0:=Tryz.underlying0
 a0:=Tryz.isAgg0
 z0:=Tryz.sizeOf0
 v0:=Tryz.zeroValue0
 t3:=Tryz.underlying3
 a3:=Tryz.isAgg3
 z3:=Tryz.sizeOf3
 v3:=Tryz.zeroValue3
 t9:=Tryz.underlying9
 a9:=Tryz.isAgg9
 z9:=Tryz.sizeOf9
 v9:=Tryz.zeroValue9
 t37:=Tryz.underlying112
 a37:=Tryz.isAgg112
 z37:=Tryz.sizeOf112
 v37:=Tryz.zeroValue112
 t70:=Tryz.underlying111
 a70:=Tryz.isAgg111
 z70:=Tryz.sizeOf111
 v70:=Tryz.zeroValue111
 t72:=Tryz.underlying114
 a72:=Tryz.isAgg114
 z72:=Tryz.sizeOf114
 v72:=Tryz.zeroValue114
 t127:=Tryz.underlying144
 a127:=Tryz.isAgg144
 z127:=Tryz.sizeOf144
 v127:=Tryz.zeroValue144 }
theorem Tryz.Builder_Extra_169:Builder.Extra Tryz.prog Tryz.lays169_ren:={
 sizeBuilder:=by kernel_rfl
 liesBuilder:=by kernel_rfl
 t5:=Tryz.underlying5
 a5:=Tryz.isAgg5
 z5:=Tryz.sizeOf5
 v5:=Tryz.zeroValue5
 infoByte:=by kernel_rfl
 cellsByte:=by kernel_rfl
 sizeByte:=by kernel_rfl
 neB5:=by decide }
open Go.RowKit in
theorem Tryz.Builder_String_any (B b:Nat) (l:List UInt8) (w:World) (h:Lib.IsBuilder 114 5 B b (Lib.byteCells l) w) (hBw:B<=w.heap.size) :
  Calls Tryz.prog 67 #[.pointer (some ⟨b,0,none⟩)] w fun e w'=>e=.returned (.string ⟨l.toArray⟩)/\Below B w w':=Any.Builder_String_any Tryz.lays169 Tryz.Builder_Extra_169 B b l w h hBw
end
section
open Go.RowKit
theorem Tryz.infoBui:(Tryz.prog.info? 114).map (·.size)=some 2:=by kernel_rfl
theorem Tryz.liesBui:liesAt Tryz.prog Tryz.prog.depth 114 (2/Tryz.prog.cellsOf 114) 0 114 1=true:=by kernel_rfl
theorem Tryz.infoByte:(Tryz.prog.info? 5).map (fun i=>(i.zero,i.size,i.bytes))=some (some (.int .u8 0),1,1):=by kernel_rfl
abbrev Bui (B b:Nat) (l:List UInt8) (w:World):Prop:=Lib.IsBuilder 114 5 B b (Lib.byteCells l) w
theorem j1d (b:Nat) (w:World) (h0:w.cell? ⟨b,0,none⟩=some (.pointer (some ⟨b,0,none⟩))) :
  Calls Tryz.prog 93 #[.pointer (some ⟨b,0,none⟩)] w fun e w'=>e=.returned (.tuple #[])/\w'=w:=by
 obtain ⟨j,hj,_⟩:=Option.map_eq_some_iff.1 Tryz.infoBui
 go_enter Tryz.func93,Tryz.ntmps93
 go_wp2_with fail
 rw [Lib.run_neq_ptr_same w _ Tryz.underlying111 hj]
 go_wp2_with fail
 go_end0
 exact ⟨rfl,rfl⟩
theorem q9i (b:Nat) (w:World) (h0:w.cell? ⟨b,0,none⟩=some (.pointer none)) (hsh:w.shape? b=some (114,2)) (hfz:w.frozen? ⟨b,0,none⟩=false) :
  Calls Tryz.prog 93 #[.pointer (some ⟨b,0,none⟩)] w fun e w'=>e=.returned (.tuple #[])/\w'=w.setCell ⟨b,0,none⟩ (.pointer (some ⟨b,0,none⟩)):=by
 obtain ⟨j,hj,hjs⟩:=Option.map_eq_some_iff.1 Tryz.infoBui
 go_enter Tryz.func93,Tryz.ntmps93
 go_wp2_with fail
 rw [Lib.run_to_unsafe w ⟨b,0,none⟩ Tryz.underlying111 Tryz.underlying189 hj (by rw [hjs]; decide) hsh (Nat.zero_lt_succ 1)]
 simp only [Result.andThen]
 rw [Oper.upon_value]
 go_wp2_with fail
 rw [run_callFunc_extern Tryz.func139 (by kernel_rfl) (by kernel_rfl) (by kernel_rfl) (e:=Extern.AbiNoEscape.same) (by kernel_rfl)]
 rw [Lib.run_noEscape]
 simp only [Result.andThen]
 rw [Oper.upon_value]
 go_wp2_with fail
 rw [Lib.run_from_unsafe w ⟨b,0,none⟩ Tryz.underlying189 Tryz.underlying111 hj hsh Tryz.liesBui]
 simp only [Result.andThen]
 rw [Oper.upon_value]
 go_wp2_with fail
 go_end0
 exact ⟨rfl,rfl⟩
theorem j4h (B b:Nat) (bs:List Value) (w:World) (h:Lib.IsBuilder 114 5 B b bs w) :
  Calls Tryz.prog 93 #[.pointer (some ⟨b,0,none⟩)] w fun e w'=>e=.returned (.tuple #[])/\(Lib.BuilderAt 114 5 B b (.pointer (some ⟨b,0,none⟩)) bs w'/\Below B w w')/\(w'=w\/w'=w.setCell ⟨b,0,none⟩ (.pointer (some ⟨b,0,none⟩))):=by
 rcases h with h | h
 ·refine (q9i b w h.cell0 h.shape h.frozen0).mono ?_
  rintro e w' ⟨rfl,rfl⟩
  exact ⟨rfl,⟨h.used _,(Below.refl B w).setCell (p:=⟨b,0,none⟩) h.1 _⟩,.inr rfl⟩
 ·refine (j1d b w h.cell0).mono ?_
  rintro e w' ⟨rfl,rfl⟩
  exact ⟨rfl,⟨h,Below.refl B _⟩,.inl rfl⟩
def z6m (b j:Nat) (w:World):Prop:=∀ v,w.cell? ⟨b,1,none⟩=some v->v.ownBlock≠some j
theorem j7r {w w':World} {j:Nat} (h:w'.heap[j]? = w.heap[j]?) (i:Nat):w'.cell? ⟨j,i,none⟩=w.cell? ⟨j,i,none⟩:=by
 unfold World.cell?; rw [h]
theorem j7u (l:List UInt8) (s:ByteArray):Lib.byteCells l++Lib.strCells s=Lib.byteCells (l++s.data.toList):=by simp [Lib.byteCells,Lib.strCells]
theorem q9f (l:List UInt8):(Lib.byteCells l).length=l.length:=by simp [Lib.byteCells]
theorem j4f (B b:Nat) (l:List UInt8) (s:ByteArray) (w:World) (h:Bui B b l w) (hlen:l.length+s.size<=140737488355328) (hBw:B<=w.heap.size) :
  Calls Tryz.prog 65 #[.pointer (some ⟨b,0,none⟩),.string s] w fun e w'=>e=.returned (.tuple #[.int .i64 s.size,.nilIface])/\Bui B b (l++s.data.toList) w'/\Below B w w'/\∀ j,j<w.heap.size->j≠b->z6m b j w->w'.heap[j]? = w.heap[j]? := by
 obtain ⟨i0,hi,hz0,hz1,hz2⟩:=info_parts Tryz.infoByte
 have hck:=hid (j4h B b _ w h)
 go_enter Tryz.func65,Tryz.ntmps65
 go_wp2_with fail
 refine hck.out.mono ?_
 rintro e w1 ⟨rfl,⟨⟨hB,v,hbk,hown,hne⟩,hb1⟩,hw1⟩
 have c0:w1.cell? ⟨b,0,none⟩=some (.pointer (some ⟨b,0,none⟩)):=by rw [Lib.cell_of_heap hbk]; rfl
 have c1:w1.cell? ⟨b,1,none⟩=some v:=by rw [Lib.cell_of_heap hbk]; rfl
 have hbl:=q9f l
 go_wp2_with (at_builtin; refine Lib.wpList_append_own_string _ rfl _ _ 112 9 rfl B 5 i0 Tryz.underlying112 Tryz.underlying9 hi hz0 hz1 hz2 _ _ _ rfl hown s rfl ?c3 ?c4 ?c5 ?_)
 case c3=>unfold maxLen; omega
 case c4=>omega
 case c5=>have:=hb1.size; omega
 intro v' w2 hown' hgrow _
 have hlt:b<w1.heap.size:=by
  rcases Nat.lt_or_ge b w1.heap.size with h' | h'
  ·exact h'
  ·simp [Array.getElem?_eq_none h'] at hbk
 have hb2:w2.heap[b]? = some (.cells #[.pointer (some ⟨b,0,none⟩),v] 114 (0,0)):=by
  rw [hgrow.block b hlt (fun e=>hne e.symm)]
  exact hbk
 have d0:w2.cell? ⟨b,0,none⟩=some (.pointer (some ⟨b,0,none⟩)):=by rw [Lib.cell_of_heap hb2]; rfl
 have d1:w2.cell? ⟨b,1,none⟩=some v:=by rw [Lib.cell_of_heap hb2]; rfl
 have f1:w2.frozen? ⟨b,1,none⟩=false:=Lib.frozen_of_heap hb2 1
 obtain ⟨ao,n',cap,rfl⟩:∃ ao n' cap,v'=.slice ao n' cap:=by
  rcases hown'.2 with ⟨hv,_⟩ | ⟨g,cap,cur,hv,_⟩
  ·exact ⟨_,_,_,hv⟩
  ·exact ⟨_,_,_,hv⟩
 go_wp2_with fail
 go_ret2
 refine ⟨rfl,?_,?_,?_⟩
 ·have:=Lib.BuilderAt.put (T:=114) (e:=5) hB hb2 (bs':=Lib.byteCells l++Lib.strCells s) (by simpa [Lib.strCells_length,q9f] using hown') (by decide)
  rw [j7u] at this
  exact .inr this
 ·exact (hb1.grown hgrow (by have:=hb1.size; omega) (fun k hk=>(hown.lt k hk).1)).setCell (p:=⟨b,1,none⟩) hB _
 ·intro j hj hjb hoff
  have hk:w1.heap[j]? = w.heap[j]? /\ w1.cell? ⟨b,1,none⟩=w.cell? ⟨b,1,none⟩/\j<w1.heap.size:=by
   rcases hw1 with rfl | rfl
   ·exact ⟨rfl,rfl,hj⟩
   ·exact ⟨Below.heap_setCell _ _ _ _ hjb,by simp [go_sem],by simpa using hj⟩
  rw [Below.heap_setCell _ _ _ _ hjb,hgrow.block j hk.2.2 (fun e=>hoff v (hk.2.1.symm.trans c1) e.symm)]
  exact hk.1
theorem Bui.off {B b:Nat} {l:List UInt8} {w w':World} (h:Bui B b l w) (hb:Below w.heap.size w w'):z6m b w.heap.size w':=by
 have key:∀ p,Lib.BuilderAt 114 5 B b p (Lib.byteCells l) w->z6m b w.heap.size w':=by
  rintro p ⟨hB,v,hbk,hown,hne⟩ u hu
  have hlt:b<w.heap.size:=by
   rcases Nat.lt_or_ge b w.heap.size with h' | h'
   ·exact h'
   ·simp [Array.getElem?_eq_none h'] at hbk
  rw [j7r (hb.block b hlt),show w.cell? ⟨b,1,none⟩=some v by rw [Lib.cell_of_heap hbk]; rfl] at hu
  obtain rfl:=Option.some.inj hu
  intro e
  have:=(hown.lt _ e).2
  omega
 exact h.elim (key _) (key _)
theorem Bui.lt {B b:Nat} {l:List UInt8} {w:World} (h:Bui B b l w):b<w.heap.size:=h.elim (fun h=>h.lt) (fun h=>h.lt)
theorem j1c (B b:Nat) (l:List UInt8) (w:World) (h:Bui B b l w) (hBw:B<=w.heap.size):Calls Tryz.prog 67 #[.pointer (some ⟨b,0,none⟩)] w fun e w'=>e=.returned (.string ⟨l.toArray⟩)/\Below B w w' :=
 Tryz.Builder_String_any B b l w h hBw
theorem Bui.fresh (w:World):Bui w.heap.size w.heap.size [] (w.alloc (.cells #[.pointer none,.slice none 0 0] 114)):=Lib.fresh_isBuilder _ _ w
theorem Bui.next {B b:Nat} {l:List UInt8} {w w':World} (h:Bui B b l w) (hb:Below w.heap.size w w'):Bui B b l w':=by
 have key:∀ p,Lib.BuilderAt 114 5 B b p (Lib.byteCells l) w->Lib.BuilderAt 114 5 B b p (Lib.byteCells l) w':=by
  rintro p ⟨hB,v,hbk,hown,hne⟩
  have hlt:b<w.heap.size:=by
   rcases Nat.lt_or_ge b w.heap.size with h' | h'
   ·exact h'
   ·simp [Array.getElem?_eq_none h'] at hbk
  exact ⟨hB,v,(hb.block b hlt).trans hbk,q6v hown hb (Nat.le_refl _),hne⟩
 exact h.imp (key _) (key _)
end
section
open Go.RowKit
def q0b:Vx->List UInt8
 | []=>[]
 | o::S=>Lib.itoa (oI o)++(32::q0b S)
theorem j1y:∀ (S T:Vx),q0b (S++T)=q0b S++q0b T
 | [],T=>rfl
 | o::S,T=>by simp [q0b,j1y S T]
theorem q8n (S:Vx) (k:Nat) (o:Option Nat) (h:S[k]? = some o):q0b (S.take (k+1))=q0b (S.take k)++(Lib.itoa (oI o)++[32]):=by
 rw [List.take_add_one,h,j1y]; rfl
theorem j3o:∀ (u:Nat),Lib.nDigits u<=u+1:=by
 intro u
 induction u using Nat.strongRecOn with
 | ind u ih =>
  unfold Lib.nDigits
  split
  ·omega
  ·have:=ih (u/10) (by omega); omega
theorem q7c (o:Option Nat):Lib.itoa (oI o)=match o with | none=>[45,49] | some r=>Lib.decDigits r:=by
 cases o with
 | none=>rw [zP]; show Lib.itoa (-1)=[45,49]; unfold Lib.itoa; rw [if_pos (by omega)]; show 45::Lib.decDigits 1=_; rw [Lib.decDigits]; simp
 | some r=>rw [zN]; unfold Lib.itoa; rw [if_neg (by omega)]; simp
theorem j1z {B:Nat} {S:Vx} (hB:Bd B S) {k:Nat} {o:Option Nat} (h:S[k]? = some o):(Lib.itoa (oI o)).length<=B+2:=by
 rw [q7c]
 cases o with
 | none=>simp
 | some r=>have:=hB r (List.mem_of_getElem? h); have h2:=j3o r; show (Lib.decDigits r).length<=_; rw [Lib.decDigits_length]; omega
theorem q3w {B:Nat} {S:Vx} (hB:Bd B S):∀ k,k<=S.length->(q0b (S.take k)).length<=k*(B+3)
 | 0,_=>by simp [q0b]
 | k+1,hk=>by
  have ho:S[k]? = some S[k]:=List.getElem?_eq_getElem (by omega)
  rw [q8n S k _ ho,List.length_append,List.length_append]
  have h1:=q3w hB k (by omega)
  have h2:=j1z hB ho
  rw [Nat.add_mul]; simp only [List.length_cons,List.length_nil]; omega
theorem j6o (B:Nat) (hB2:B<=2000000000000) (S:Vx) (hn:S.length<=64) (hB:Bd B S) (base g:Nat) (w:World) (h:Sb w base g S) (hp:Pow w) :
  Calls Tryz.prog 29 #[.slice (some ⟨g,0,none⟩) S.length S.length] w (z1n w (q0b S)):=by
 have hall:Hid (∀ k,k<S.length->S[k]? = some (S.getD k none)):=hid fun k hk=>by rw [List.getD_eq_getElem?_getD,List.getElem?_eq_getElem hk]; rfl
 have hlen:=hid fun k (hk:k<=S.length)=>q3w hB k hk
 have hil:=hid fun k (hk:k<S.length)=>j1z hB (hall.out k hk)
 have hob:=hid fun k (hk:k<S.length)=>z5h hB (hall.out k hk)
 have hnx:=hid fun k (hk:k<S.length)=>q8n S k _ (hall.out k hk)
 have hcl:=hid fun k (hk:k<S.length) (w':World) (hb:Below w.heap.size w w')=>(Rw.next h hb).cell hk
 have hend:Hid (q0b (S.take S.length)=q0b S):=hid (by rw [List.take_length])
 obtain ⟨n,hnn⟩:∃ n,S.length=n:=⟨_,rfl⟩
 rw [hnn] at hlen hil hob hnx hcl hn hend ⊢
 clear h hall hB hnn
 have hbui:=hid (Bui.fresh w)
 have hb0:=qJ (w:=w) (.cells #[.pointer none,.slice none 0 0] 114)
 go_enter Tryz.func29,Tryz.ntmps29
 go_wp2_with fail
 go_loopw [8] (fun iv wr=>∃ k:Nat,k<=n/\iv=.int .i64 (k:Int)/\Bui w.heap.size w.heap.size (q0b (S.take k)) wr/\Below w.heap.size w wr) (fun iv _=>n-(intOf iv).toNat)
 case atStart=>exact ⟨0,by omega,rfl,hbui.out,hb0⟩
 case round =>
  obtain ⟨k,hk,rfl,hB1,hb1⟩:=hrel
  by_cases hlt:k<n
  ·have j1:(k:Int)<(n:Int):=by omega
   have j0:(0:Int)<=(k:Int):=by omega
   have c1:=hcl.out k hlt wr hb1
   unfold fS at c1
   have c2:=hob.out k hlt
   have c3:=hil.out k hlt
   have c4:=hlen.out k hk
   have c5:=hnx.out k hlt
   obtain ⟨o,ho⟩:∃ o,S.getD k none=o:=⟨_,rfl⟩
   rw [ho] at c1 c2 c3 c5
   unfold oV at c1
   obtain ⟨z,hz⟩:∃ z,oI o=z:=⟨_,rfl⟩
   rw [hz] at c1 c2 c3 c5
   have c6:(q0b (S.take k)).length<=64*(B+3):=Nat.le_trans c4 (Nat.mul_le_mul (Nat.le_trans hk hn) (Nat.le_refl _))
   go_wp2_with fail
   refine (j6r z (by omega) (by omega) _ (hp.next hb1)).mono ?_
   rintro e w2 ⟨s,rfl,hs,hb2⟩
   have s1:s.size<=B+2:=by rw [Lib.size_eq,hs]; exact c3
   have s2:¬ 9223372036854775807<s.size+1:=by omega
   have s3:(s++(⟨#[32]⟩:ByteArray)).size=s.size+1:=by rw [ByteArray.size_append]; rfl
   have s4:(s++(⟨#[32]⟩:ByteArray)).data.toList=Lib.itoa z++[32]:=by rw [ByteArray.data_append,Array.toList_append,hs]
   have hB2':=hB1.next hb2
   have hb3:=hb1.trans (hb2.mono hb1.size)
   clear c1
   go_wp2_with fail
   refine (j4f _ _ _ _ _ hB2' (by rw [s3]; omega) hb3.size).mono ?_
   rintro e w3 ⟨rfl,hB3,hb4,_⟩
   rw [s4,<-c5] at hB3
   have hb5:=hb3.trans hb4
   go_wp2_with fail
   go_roundw
   case rel=>exact ⟨k+1,by omega,by go_num,hB3,hb5⟩
   case measure=>simp [intOf]; omega
  ·have j1:¬ (k:Int)<(n:Int):=by omega
   obtain rfl:k=n:=by omega
   rw [hend.out] at hB1
   go_wp2_with fail
   refine (j1c _ _ _ _ hB1 hb1.size).mono ?_
   rintro e w2 ⟨rfl,hb2⟩
   go_wp2_with fail
   go_ret
   exact ⟨_,rfl,rfl,hb1.trans hb2⟩
theorem z0i (n:Nat):∀ b∈Lib.decDigits n,b≠32:=by
 induction n using Nat.strongRecOn with
 | ind n ih =>
  rw [Lib.decDigits]
  split
  ·intro b hb; simp only [List.mem_singleton] at hb; subst hb; intro h; have:=congrArg UInt8.toNat h; simp at this; omega
  ·intro b hb
   rcases List.mem_append.1 hb with hb | hb
   ·exact ih (n/10) (by omega) b hb
   ·simp only [List.mem_singleton] at hb; subst hb; intro h; have:=congrArg UInt8.toNat h; simp at this; omega
theorem j6c (o:Option Nat):∀ b∈Lib.itoa (oI o),b≠32:=by
 rw [q7c]
 cases o with
 | none=>intro b hb; simp at hb; rcases hb with rfl | rfl<;>decide
 | some r=>exact z0i r
theorem z5l:∀ (a b c d:List UInt8),(∀ x∈a,x≠32)->(∀ x∈c,x≠32)->a++(32::b)=c++(32::d)->a=c/\b=d
 | [],b,[],d,_,_,h=>⟨rfl,by simpa using h⟩
 | [],b,y::c,d,_,hc,h=>by
  simp only [List.nil_append,List.cons_append,List.cons.injEq] at h
  exact absurd h.1.symm (hc y (List.mem_cons_self ..))
 | x::a,b,[],d,ha,_,h=>by
  simp only [List.nil_append,List.cons_append,List.cons.injEq] at h
  exact absurd h.1 (ha x (List.mem_cons_self ..))
 | x::a,b,y::c,d,ha,hc,h=>by
  simp only [List.cons_append,List.cons.injEq] at h
  obtain ⟨h1,h2⟩:=z5l a b c d (fun z hz=>ha z (List.mem_cons_of_mem _ hz)) (fun z hz=>hc z (List.mem_cons_of_mem _ hz)) h.2
  exact ⟨by rw [h.1,h1],h2⟩
theorem j7p (n:Nat):∀ a,(Lib.decDigits n).foldl (fun a b=>a*10+(b.toNat-48)) a=a*10^(Lib.decDigits n).length+n:=by
 induction n using Nat.strongRecOn with
 | ind n ih =>
  intro a
  rw [Lib.decDigits]
  split
  ·rename_i h
   have:(48+n%10)%256=48+n%10:=by omega
   simp [Nat.mod_eq_of_lt h]; omega
  ·rename_i h
   rw [List.foldl_append,ih (n/10) (by omega),List.length_append]
   have:(48+n%10)%256=48+n%10:=by omega
   simp [Nat.pow_succ,<-Nat.mul_assoc]; omega
theorem z2p {o p:Option Nat} (h:Lib.itoa (oI o)=Lib.itoa (oI p)):o=p:=by
 rw [q7c,q7c] at h
 have h45:∀ n,Lib.decDigits n≠[45,49]:=by
  intro n hn
  have hv:∀ b∈Lib.decDigits n,b≠45:=by
   clear hn
   induction n using Nat.strongRecOn with
   | ind n ih =>
    rw [Lib.decDigits]
    split
    ·intro b hb; simp only [List.mem_singleton] at hb; subst hb; intro h; have:=congrArg UInt8.toNat h; simp at this; omega
    ·intro b hb
     rcases List.mem_append.1 hb with hb | hb
     ·exact ih (n/10) (by omega) b hb
     ·simp only [List.mem_singleton] at hb; subst hb; intro h; have:=congrArg UInt8.toNat h; simp at this; omega
  rw [hn] at hv
  exact hv 45 (by simp) rfl
 cases o with
 | none=>cases p with
  | none=>rfl
  | some q=>exact absurd h.symm (h45 q)
 | some r=>cases p with
  | none=>exact absurd h (h45 r)
  | some q =>
   have h1:=j7p r 0
   have h2:=j7p q 0
   have h':Lib.decDigits r=Lib.decDigits q:=h
   rw [h',h2] at h1
   have:r=q:=by simpa using h1.symm
   rw [this]
theorem q7b:∀ (S T:Vx),q0b S=q0b T->S=T
 | [],[],_=>rfl
 | [],o::T,h=>by have:=congrArg List.length h; simp [q0b] at this
 | o::S,[],h=>by have:=congrArg List.length h; simp [q0b] at this
 | o::S,p::T,h=>by
  obtain ⟨h1,h2⟩:=z5l _ _ _ _ (j6c o) (j6c p) h
  rw [z2p h1,q7b S T h2]
end
section
open Go.RowKit
def sbV (st:Nat) (g:Nat):Value:=.slice (some ⟨g,0,none⟩) st st
structure Sbs (w:World) (base st:Nat) (subs:List Vx) (gs:List Nat):Prop where
 num:gs.length=subs.length
 len:∀ S:Vx,S∈subs->S.length=st
 lie:∀ (i:Nat) (S:Vx) (g:Nat),subs[i]? = some S->gs[i]? = some g->Sb w base g S/\g<w.heap.size
theorem Sb.lt {w:World} {base g:Nat} {S:Vx} (h:Sb w base g S):base<=g/\g<w.heap.size:=Rw.lt h rfl
theorem Sb.fr {w w':World} {base g:Nat} {S:Vx} {T:Nat->Prop} (h:Sb w base g S) (hf:Fr T w w') (hT:¬ T g):Sb w' base g S:=Rw.fr h hf fun k hk=>by
 have:k=g:=by simpa [Value.ownBlock] using hk.symm
 subst this; exact hT
theorem Sbs.next {w w':World} {base st:Nat} {subs:List Vx} {gs:List Nat} (h:Sbs w base st subs gs) (hb:Below w.heap.size w w'):Sbs w' base st subs gs :=
 ⟨h.num,h.len,fun i S g hS hg=>by
  obtain ⟨h1,h2⟩:=h.lie i S g hS hg
  exact ⟨Rw.next h1 hb,Nat.lt_of_lt_of_le h2 hb.size⟩⟩
theorem Sbs.fr {w w':World} {base st:Nat} {subs:List Vx} {gs:List Nat} {T:Nat->Prop} (h:Sbs w base st subs gs) (hf:Fr T w w') (hT:∀ g∈gs,¬ T g):Sbs w' base st subs gs :=
 ⟨h.num,h.len,fun i S g hS hg=>by
  obtain ⟨h1,h2⟩:=h.lie i S g hS hg
  have h3:=h1.fr hf (hT g (List.mem_of_getElem? hg))
  exact ⟨h3,h3.lt.2⟩⟩
theorem Sbs.one {w:World} {base g:Nat} {S:Vx} (h:Sb w base g S):Sbs w base S.length [S] [g] :=
 ⟨rfl,fun T hT=>by simp only [List.mem_singleton] at hT; rw [hT],fun i T k hT hk=>by
  cases i with
  | zero=>simp at hT hk; subst hT hk; exact ⟨h,h.lt.2⟩
  | succ i=>simp at hT⟩
theorem Sbs.app {w:World} {base st g:Nat} {subs:List Vx} {gs:List Nat} {S:Vx} (h:Sbs w base st subs gs) (hS:Sb w base g S) (hl:S.length=st):Sbs w base st (subs++[S]) (gs++[g]) :=
 ⟨by simp [h.num],fun T hT=>by
  rcases List.mem_append.1 hT with hT | hT
  ·exact h.len T hT
  ·simp only [List.mem_singleton] at hT; rw [hT]; exact hl,fun i T k hT hk=>by
  by_cases hi:i<subs.length
  ·rw [List.getElem?_append_left hi] at hT
   rw [List.getElem?_append_left (by rw [h.num]; exact hi)] at hk
   exact h.lie i T k hT hk
  ·rw [List.getElem?_append_right (by omega)] at hT
   rw [List.getElem?_append_right (by rw [h.num]; omega),h.num] at hk
   obtain ⟨j,hj⟩:∃ j,i-subs.length=j:=⟨_,rfl⟩
   rw [hj] at hT hk
   cases j with
   | zero=>simp at hT hk; subst hT hk; exact ⟨hS,hS.lt.2⟩
   | succ j=>simp at hT⟩
theorem Sbs.get {w:World} {base st:Nat} {subs:List Vx} {gs:List Nat} (h:Sbs w base st subs gs) {k:Nat} (hk:k<subs.length):∃ g,gs[k]? = some g/\Sb w base g (subs.getD k [])/\(subs.getD k []).length=st/\g<w.heap.size:=by
 have h1:gs[k]? = some (gs[k]'(by rw [h.num]; exact hk)):=List.getElem?_eq_getElem _
 have h2:subs[k]? = some subs[k]:=List.getElem?_eq_getElem hk
 obtain ⟨a,b⟩:=h.lie k _ _ h2 h1
 refine ⟨_,h1,?_,?_,b⟩
 ·rw [List.getD_eq_getElem?_getD,h2]; exact a
 ·rw [List.getD_eq_getElem?_getD,h2]; exact h.len _ (List.getElem_mem hk)
end
section
open Go.RowKit
open Go.Maps (Keyed)
theorem Tryz.keysStr:Keyed Tryz.prog 9:=Go.Maps.string_keyed Tryz.underlying9
def Mk (w:World) (b:Nat) (subs:List Vx):Prop:=∃ D:DataW Value,w.ownsMap Tryz.prog 9 (plainElem Tryz.prog 3) b subs.length D /\
 (∀ (j:Nat) (S:Vx),subs[j]? = some S->Maps.has D (.string (q0b S))=true/\D.atKey (.string (q0b S)) (.lit (.int .i64 0))=.lit (.int .i64 (j:Int))) /\
 ∀ x,Maps.has D (.string x)=true->∃ S,S∈subs/\x=q0b S
theorem Mk.next {w w':World} {b:Nat} {subs:List Vx} (h:Mk w b subs) (hb:Below w.heap.size w w'):Mk w' b subs:=by
 obtain ⟨D,h1,h2⟩:=h
 have hg:w.grownBy w' none:=⟨hb.os,hb.tape,hb.output,hb.size,fun k hk _=>hb.block k hk⟩
 exact ⟨D,h1.kept hg (by simp),h2⟩
theorem Mk.made (w:World):Mk (w.alloc (.map #[] 0)) w.heap.size [] :=
 ⟨_,World.ownsMap_made w _ _ _,fun j S h=>by simp at h,fun x h=>by cases h⟩
theorem Mk.find {w:World} {b:Nat} {subs:List Vx} (h:Mk w b subs) {t:TypeId} (ht:Tryz.prog.underlying t=some (.map 9 3)) {S:Vx} {s:ByteArray} (hs:s.data.toList=q0b S) (hm:s.size<=maxLen) :
  ∃ (c:Int) (f:Bool),(Instr.lookup t (.map (some b)) (.string s) true).run Tryz.prog w=.ok (.tuple #[.int .i64 c,.bool f]) w/\(f=true->∃ j:Nat,c=(j:Int)/\subs[j]? = some S)/\(f=false->S∉subs):=by
 obtain ⟨D,h1,h2,h3⟩:=h
 have hk:keyOf Tryz.prog 9 (.string s)=some (.string (q0b S)):=by rw [<-hs]; exact Go.WideMaps.keyOf_string_mk Tryz.underlying9 hm
 obtain ⟨v,ps,hrun,hv⟩:=h1.look_ok Tryz.keysStr ht (z:=.int .i64 0) (zd:=.lit (.int .i64 0)) (zp:=[]) (by kernel_rfl) (plainElem_int Tryz.underlying3 (by decide)) hk
 obtain ⟨c,rfl,hc,_⟩:=plainElem_int_inv Tryz.underlying3 hv
 have hat:D.atKey (.string (q0b S)) (.lit (.int .i64 0))=.lit (.int .i64 c):=by injection hc
 refine ⟨c,_,hrun,fun hf=>?_,fun hf hS=>?_⟩
 ·obtain ⟨T,hT,hx⟩:=h3 _ hf
  obtain rfl:=q7b _ _ hx
  obtain ⟨j,hj⟩:=List.getElem?_of_mem hT
  obtain ⟨_,k2⟩:=h2 j _ hj
  rw [k2] at hat
  refine ⟨j,?_,hj⟩
  simpa using hat.symm
 ·obtain ⟨j,hj⟩:=List.getElem?_of_mem hS
  rw [(h2 j S hj).1] at hf
  cases hf
theorem z5j {w:World} {b:Nat} {subs:List Vx} {S:Vx} (hS:S∉subs) {D:DataW Value} (hD:Maps.IsMap D)
  (h2:∀ (j:Nat) (T:Vx),subs[j]? = some T->Maps.has D (.string (q0b T))=true/\D.atKey (.string (q0b T)) (.lit (.int .i64 0))=.lit (.int .i64 (j:Int)))
  (h3:∀ x,Maps.has D (.string x)=true->∃ T,T∈subs/\x=q0b T)
  (h1:w.ownsMap Tryz.prog 9 (plainElem Tryz.prog 3) b (subs.length+1) (D.put (.string (q0b S)) (.lit (.int .i64 (subs.length:Int))))):Mk w b (subs++[S]):=by
 refine ⟨_,by rw [List.length_append]; exact h1,fun j T hT=>?_,fun x hx=>?_⟩
 ·by_cases hj:j<subs.length
  ·rw [List.getElem?_append_left hj] at hT
   obtain ⟨k1,k2⟩:=h2 j T hT
   have hne:(Lit.string (q0b T))≠.string (q0b S):=fun e=>by
    injection e with e
    exact hS (q7b _ _ e▸List.mem_of_getElem? hT)
   exact ⟨by rw [Maps.has_put_other hne]; exact k1,by rw [Maps.atKey_put_other hne]; exact k2⟩
  ·rw [List.getElem?_append_right (by omega)] at hT
   obtain ⟨i,hi⟩:∃ i,j-subs.length=i:=⟨_,rfl⟩
   rw [hi] at hT
   cases i with
   | zero =>
    simp at hT; subst hT
    obtain rfl:j=subs.length:=by omega
    exact ⟨Maps.has_put_same (k:=.string (q0b S)) hD (show WideAt.IsKeyLit (.string (q0b S)) from trivial) _,Maps.atKey_put_same (k:=.string (q0b S)) hD (show WideAt.IsKeyLit (.string (q0b S)) from trivial) _ _⟩
   | succ i=>simp at hT
 ·by_cases hxe:x=q0b S
  ·exact ⟨S,by simp,hxe⟩
  ·have hne:(Lit.string x)≠.string (q0b S):=fun e=>by injection e with e; exact hxe e
   rw [Maps.has_put_other hne] at hx
   obtain ⟨T,hT,rfl⟩:=h3 x hx
   exact ⟨T,List.mem_append_left _ hT,rfl⟩
theorem Mk.lay {w:World} {b:Nat} {subs:List Vx} (h:Mk w b subs) {t:TypeId} (ht:Tryz.prog.underlying t=some (.map 9 3)) {S:Vx} (hS:S∉subs) {s:ByteArray} (hs:s.data.toList=q0b S) (hm:s.size<=maxLen) (hn:subs.length<1000000) :
  ∃ w',(Instr.mapUpdate t (.map (some b)) (.string s) (.int .i64 (subs.length:Int))).run Tryz.prog w=.ok () w'/\Mk w' b (subs++[S])/\w.grownBy w' (some b):=by
 obtain ⟨D,h1,h2,h3⟩:=h
 have hk:keyOf Tryz.prog 9 (.string s)=some (.string (q0b S)):=by rw [<-hs]; exact Go.WideMaps.keyOf_string_mk Tryz.underlying9 hm
 have hwf:(Lit.int .i64 (subs.length:Int)).wf=true:=by
  have e1:IntKind.i64.min = -9223372036854775808:=by decide
  have e2:IntKind.i64.max=9223372036854775807:=by decide
  simp only [Lit.wf,e1,e2,Bool.and_eq_true,decide_eq_true_eq]; omega
 obtain ⟨w',hrun,k1,k2⟩:=h1.update Tryz.keysStr ht (by unfold maxLen; omega) hk (plainElem_int Tryz.underlying3 (a:=(subs.length:Int)) hwf)
 exact ⟨w',hrun,z5j hS h1.isMap h2 h3 k1,k2⟩
end
section
open Go.RowKit Go.ChangeMaps
theorem Mk.entry {w:World} {b:Nat} {subs:List Vx} (h:Mk w b subs) {t:TypeId} (ht:Tryz.prog.underlying t=some (.map 9 3)) {S:Vx} (hS:S∉subs) {s:ByteArray} (hs:s.data.toList=q0b S) (hm:s.size<=maxLen) (hn:subs.length<1000000) :
  ∃ (v0:Value) (st:Nat) (w1 w2:World),(Instr.mapEntry t (.map (some b)) (.string s)).run Tryz.prog w=.ok (.tuple #[v0,goInt st]) w1 /\
   (Instr.entryStore t (.map (some b)) (goInt st) (.int .i64 (subs.length:Int))).run Tryz.prog w1=.ok () w2/\Mk w2 b (subs++[S])/\w.grownBy w2 (some b):=by
 have hk:keyOf Tryz.prog 9 (.string s)=some (.string (q0b S)):=by rw [<-hs]; exact Go.WideMaps.keyOf_string_mk Tryz.underlying9 hm
 obtain ⟨w',hrun,k1,k2⟩:=h.lay ht hS hs hm hn
 obtain ⟨D,⟨es,clock,hb,F,_,_⟩,_⟩:=h
 obtain ⟨v0,st,es1,clock1,e1,_,e2⟩:=Go.WideElems.entry_then_store (Go.WideMaps.string_law Tryz.underlying9) ht (z:=.int .i64 0) (fun u=>by kernel_rfl) hb F hk
 obtain ⟨es',clock',e3,e4⟩:=e2 (setBlock w b (.map es1 clock1)) (.int .i64 (subs.length:Int)) (by have:=(Array.getElem?_eq_some_iff.1 hb).1; simp [setBlock,this])
 rw [hrun] at e4
 have hw:w'=setBlock w b (.map es' clock'):=by simpa using e4
 refine ⟨v0,st,_,_,e1,e3,?_,?_⟩
 ·have:setBlock (setBlock w b (.map es1 clock1)) b (.map es' clock')=w':=by rw [hw]; simp [setBlock]
  rw [this]; exact k1
 ·have:setBlock (setBlock w b (.map es1 clock1)) b (.map es' clock')=w':=by rw [hw]; simp [setBlock]
  rw [this]; exact k2
end
section
open Go.RowKit
def q3p (n:Nat):Code->Option Code
 | .block m c=>if m=n then some (.block m c) else q3p n c
 | .seq a b=>match q3p n a with
  | some c=>some c
  | none=>q3p n b
 | .loop c=>q3p n c
 | .scope c=>q3p n c
 | .cond _ a b=>match q3p n a with
  | some c=>some c
  | none=>q3p n b
 | _=>none
def q3e (n:Nat):Code->Option Code
 | .region m o d=>if m=n then some (.region m o d) else none
 | .block _ c=>q3e n c
 | .seq a b=>match q3e n a with
  | some c=>some c
  | none=>q3e n b
 | .loop c=>q3e n c
 | .scope c=>q3e n c
 | .cond _ a b=>match q3e n a with
  | some c=>some c
  | none=>q3e n b
 | _=>none
noncomputable def dB (n:Nat):Code:=(Tryz.f7.body.bind (q3p n)).getD .skip
noncomputable def dR (n:Nat):Code:=(Tryz.f7.body.bind (q3e n)).getD .skip
theorem Fl.fr {T:Nat->Prop} {k n cap:Nat} {w w':World} {ao:OA} {css:List (List Value)} (h:Fl k w ao n cap css) (hf:Fr T w w') (hT:∀ b o,ao=some ⟨b,o,none⟩->¬ T b):Fl k w' ao n cap css :=
 ⟨h.len,h.le,h.most,h.nil,fun i cs hi=>by
  obtain ⟨b,o,e,hc⟩:=h.at_ i cs hi
  exact ⟨b,o,e,fun c v hv=>hf.cell (hc c v hv) (hT b o e)⟩⟩
theorem Fl.ne_sb {w:World} {b o n c base g:Nat} {L:List Ac} {S:Vx} (h:Fl 11 w (some ⟨b,o,none⟩) n c (L.map acC)) (hL:0<n) (hS:Sb w base g S):b≠g:=by
 intro e
 subst e
 obtain ⟨x,hx,b',o',e,hc⟩:=h.get hL
 injection e with e
 injection e with e1 e2
 subst e1 e2
 have h3:=hc 3 (.bool false) rfl
 rcases hS.2 with ⟨hv,_⟩ | ⟨g',cap,cur,hv,hg,hh,hn,hm,hcs,ht⟩
 ·cases hv
 ·injection hv with hv _ hcap
  injection hv with hv
  injection hv with hv
  subst hv hcap
  rw [cell_of_row w b (o+0*11+3) cur _ (0,0) hh] at h3
  generalize o+0*11+3=j at h3
  have hj:j<cur.size:=(Array.getElem?_eq_some_iff.1 h3).1
  rw [Nat.mul_one] at hcs ht
  have h4:(cur.toList.take S.length)[j]? = some (.bool false):=by
   rw [List.getElem?_take,if_pos (by omega)]; simpa using h3
  rw [ht,q1h (by omega)] at h4
  injection h4 with h4
  unfold fS oV at h4
  cases h4
structure Sta (W:World) (V gu syms C:Nat) (N:Au) (us:List Bool) (io:OA) (ci:Nat) (fo:OA) (cf:Nat) (ro:OA) (nr cr:Nat) (vo:OA) (cv:Nat):Prop where
 vm:Vm W syms N io ci fo cf ro nr cr vo cv
 row:ro=none\/∃ b,ro=some ⟨b,0,none⟩
 vw:Bl V (viC syms N.st (.slice io N.st ci) (.slice fo N.st cf) (.slice ro nr cr) (.slice vo (N.st+1) cv)) 63 W
 uf:Rw 4 W 0 (.slice (some ⟨gu,0,none⟩) N.st N.st) N.st (fBo fun q=>us.getD q false)
 ss:Ss N.arcs
 st:N.st<=64
 num:nr<=4096
 ini:N.ini.length=N.st
 fin:N.fin.length=N.st
 arc:∀ x∈N.arcs,x.1<N.st/\x.2.2.1<N.st
 lu:us.length=N.st
 cst:(∀ x∈N.arcs,cst x<=C)/\(∀ v∈N.ini,tc v<=C)/\∀ v∈N.fin,tc v<=C
 cC:C<=1048576
 sym:syms<=32
 pow:Pow W
theorem Sta.next {W W':World} {V gu syms C:Nat} {N:Au} {us:List Bool} {io fo ro vo:OA} {ci cf nr cr cv:Nat} (h:Sta W V gu syms C N us io ci fo cf ro nr cr vo cv) (hb:Below W.heap.size W W'):Sta W' V gu syms C N us io ci fo cf ro nr cr vo cv :=
 ⟨h.vm.next hb,h.row,h.vw.next hb,h.uf.next hb,h.ss,h.st,h.num,h.ini,h.fin,h.arc,h.lu,h.cst,h.cC,h.sym,h.pow.next hb⟩
theorem q4i (us:List Bool) (r:Nat):∀ (L M:List Ac) (S:Vx),stepQ us r (L++M) S=stepQ us r M (stepQ us r L S)
 | [],M,S=>rfl
 | x::L,M,S=>by
  show stepQ us r (L++M) _=_
  rw [q4i us r L M]; rfl
theorem j2y {us:List Bool} {r:Nat} {L:List Ac} {k:Nat} {x:Ac} (h:L[k]? = some x) (S:Vx) :
  stepQ us r (L.take (k+1)) S=if us.getD x.2.2.1 false then vY (stepQ us r (L.take k) S) x.2.2.1 (r+tc (wt x)) else stepQ us r (L.take k) S:=by
 rw [List.take_succ_eq_append_getElem (List.getElem?_eq_some_iff.1 h).1,(List.getElem?_eq_some_iff.1 h).2,q4i]
 rfl
end
section
open Go.RowKit
theorem z3n (W:World) (V gu syms C:Nat) (N:Au) (us:List Bool) (io:OA) (ci:Nat) (fo:OA) (cf:Nat) (ro:OA) (nr cr:Nat) (vo:OA) (cv:Nat) (hS:Hid (Sta W V gu syms C N us io ci fo cf ro nr cr vo cv)) (base g r:Nat) (S:Vx) (hSl:Hid (S.length=N.st)) (L:List Ac) (lo:OA) (ln lc:Nat) (w:World) (hb:Below W.heap.size W w) (hr:r<=1000000000000) (hL:Hid (∀ x∈L,x∈N.arcs)) (hl:Fl 11 w lo ln lc (L.map acC)) (hg:Sb w base g S) (hgb:W.heap.size<=g)
  {c0 c1 c2 c3 c4 c5 c7 c8 c9 Aa Ab Ad Ae Af Ag Ah Ak Al Am An Ao Ap Aq Ar As Av Aw Ax Ay Az Ba Bb Bc Be Bf Bh Bi Bj Bk Bm Bn Bo Bp Bq Br Bs Bt Bu Bv Bw Bx By Bz Ca Cb Cc Cd Ce Cf Cg Ch Ci Cj Ck Cl Cm Cn Co Cp Cq Cr Ct Cu Cv Cw Cx Cy Cz Da Db Dc Dd De Df Dg Dh Di Dj Dk Dl Dn Dp Dq Dr Dt Du Dv Dw Dx Dy Dz Ea Eb Ec Ed Ee Ef Eg Eh Ei Ej Ek El Em En Eo Ep Eq Er Es Et Eu Ev Ew Ex Ey Ez Fa Fb Fc Fd Fe Ff Fg Fh Fi Fj Fk Fm Fn Fo Fp Fq Fs Ft Fu Fv Fw Fx Fy Fz Ga Gb Gc Gd Ge Gf Gg Gh Gi Gj Gk Gl Gm Gn Go Gp Gq Gr Gs Gt Gu Gv Gw Gx Gy Gz Ha Hb Hc Hd He Hf Hg Hh Hi Hj Hk Hl Hm Hn Ho Hp Hq Hr Hs Ht Hu Hv Hw Hx Hy Hz Ia Ib Ic Id Ie Ig Ih Ii Ij Ik Il Im Io Ip Iq Ir It Iu Iv Iw Ix Iy Iz Ja Jb Jc Jd Je Jf Jg Jh Ji Jj Jk Jl Jm Jn Jo Jp Jq Jr Js Jt:Value} {Q0:EP}
  (hexit:∀ (Ju Jv Jw Jx Jy Jz Ka Kb Kc Kd Ke Kf Kg Kh Ki Kj Kk Kl Km Kn:Value) (w':World),Sb w' base g (stepQ us r L S)->Fr (fun k=>k=g) w w'->Q0 .normal ⟨#[c0,c1,c2,c3,c4,c5,.slice (some ⟨gu,0,none⟩) N.st N.st,c7,c8,c9,Aa,Ab,Ad,Ae,Af,Ag,Ah,Ak,.slice (some ⟨g,0,none⟩) N.st N.st,Al,.int .i64 (r:Int),Am,Ju,Ao,Ap,Aq,Ar,As,Av,Aw,Ax,Ay,Az,Ba,Bb,Bc,Be,Bf,Bh,Bi,Bj,Bk,Bm,Bn,Bo,Bp,Bq,Br,Bs,Bt,Bu,Bv,Bw,Bx,By,Bz,Ca,Cb,Cc,Cd,Ce,Cf,Cg,Ch,Ci,Cj,Ck,Cl,Cm,Cn,Co,Cp,Cq,Cr,Ct,Cu,Cv,Cw,Cx,Cy,Cz,Da,Db,Dc,Dd,De,Df,Dg,Dh,Di,Dj,Dk,Dl,Dn,Dp,Dq,Dr,Dt,Du,Dv,Dw,Dx,Dy,Dz,Ea,Eb,Ec,Ed,Ee,Ef,Eg,Eh,Ei,Ej,Ek,El,Em,En,Eo,Ep,Eq,Er,Es,Et,Eu,Ev,Ew,Ex,Ey,Ez,Fa,Fb,Fc,Fd,Fe,Ff,Fg,Fh,Fi,Fj,Fk,Fm,Fn,Fo,Fp,Fq,Fs,Ft,Fu,Fv,Fw,Fx,Fy,Fz,Ga,Gb,Gc,Gd,Ge,Gf,Gg,Gh,Gi,Gj,Gk,Gl,Gm,Gn,Go,Gp,Gq,Gr,Gs,Gt,.slice lo ln lc,.int .i64 (ln:Int),Jv,Jw,Jx,Jy,Jz,Ka,Kb,Kc,Kd,Ke,Kf,Kg,Kh,Ki,Kj,Kk,Kl,Km,Kn,Hm,Hn,Ho,Hp,Hq,Hr,Hs,Ht,Hu,Hv,Hw,Hx,Hy,Hz,Ia,Ib,Ic,Id,Ie,Ig,Ih,Ii,Ij,Ik,Il,Im,Io,Ip,Iq,Ir,It,Iu,Iv,Iw,Ix,Iy,Iz,Ja,Jb,Jc,Jd,Je,Jf,Jg,Jh,Ji,Jj,Jk,Jl,Jm,Jn,Jo,Jp,Jq,Jr,Js,Jt],[]⟩ w') :
  Code.wp Tryz.prog (dB 10) Q0 ⟨#[c0,c1,c2,c3,c4,c5,.slice (some ⟨gu,0,none⟩) N.st N.st,c7,c8,c9,Aa,Ab,Ad,Ae,Af,Ag,Ah,Ak,.slice (some ⟨g,0,none⟩) N.st N.st,Al,.int .i64 (r:Int),Am,An,Ao,Ap,Aq,Ar,As,Av,Aw,Ax,Ay,Az,Ba,Bb,Bc,Be,Bf,Bh,Bi,Bj,Bk,Bm,Bn,Bo,Bp,Bq,Br,Bs,Bt,Bu,Bv,Bw,Bx,By,Bz,Ca,Cb,Cc,Cd,Ce,Cf,Cg,Ch,Ci,Cj,Ck,Cl,Cm,Cn,Co,Cp,Cq,Cr,Ct,Cu,Cv,Cw,Cx,Cy,Cz,Da,Db,Dc,Dd,De,Df,Dg,Dh,Di,Dj,Dk,Dl,Dn,Dp,Dq,Dr,Dt,Du,Dv,Dw,Dx,Dy,Dz,Ea,Eb,Ec,Ed,Ee,Ef,Eg,Eh,Ei,Ej,Ek,El,Em,En,Eo,Ep,Eq,Er,Es,Et,Eu,Ev,Ew,Ex,Ey,Ez,Fa,Fb,Fc,Fd,Fe,Ff,Fg,Fh,Fi,Fj,Fk,Fm,Fn,Fo,Fp,Fq,Fs,Ft,Fu,Fv,Fw,Fx,Fy,Fz,Ga,Gb,Gc,Gd,Ge,Gf,Gg,Gh,Gi,Gj,Gk,Gl,Gm,Gn,Go,Gp,Gq,Gr,Gs,Gt,.slice lo ln lc,.int .i64 (ln:Int),.int .i64 0,Gu,Gv,Gw,Gx,Gy,Gz,Ha,Hb,Hc,Hd,He,Hf,Hg,Hh,Hi,Hj,Hk,Hl,Hm,Hn,Ho,Hp,Hq,Hr,Hs,Ht,Hu,Hv,Hw,Hx,Hy,Hz,Ia,Ib,Ic,Id,Ie,Ig,Ih,Ii,Ij,Ik,Il,Im,Io,Ip,Iq,Ir,It,Iu,Iv,Iw,Ix,Iy,Iz,Ja,Jb,Jc,Jd,Je,Jf,Jg,Jh,Ji,Jj,Jk,Jl,Jm,Jn,Jo,Jp,Jq,Jr,Js,Jt],[]⟩ w:=by
 conv=>arg 2; whnf
 have hlen:=hid hl.lenMap
 have hlb:=hl.bound
 have hl0:=hid hl
 have hg0:=hid hg
 have hb0:=hid hb
 have hne:Hid (0<ln->∀ b o,lo=some ⟨b,o,none⟩->¬ b=g):=hid fun h0 b o e=>by
  subst e; exact hl.ne_sb h0 hg
 have hr0:(r:Int)<=1000000000000:=by omega
 have hr1:(0:Int)<=(r:Int):=by omega
 have hexit:=hid hexit
 clear hg hl hb
 go_wp2_with fail
 go_loopw [176] (fun iv wr=>∃ j:Nat,j<=ln/\iv=.int .i64 (j:Int)/\Sb wr base g (stepQ us r (L.take j) S)/\Fr (fun k=>k=g) w wr) (fun iv _=>ln-(intOf iv).toNat)
 case atStart=>exact ⟨0,by omega,rfl,hg0.out,Fr.refl _ _⟩
 case round =>
  obtain ⟨j,hj,rfl,hrow,hfr⟩:=hrel
  by_cases hlt:j<ln
  ·obtain ⟨x,hxk,b,off,rfl,hcs⟩:=(hl0.out.fr hfr (hne.out (by omega))).get hlt
   have hxN:=hL.out x (List.mem_of_getElem? hxk)
   have hst:=hS.out.arc x hxN
   have hcx:tc (wt x)<=C:=hS.out.cst.1 x hxN
   have hC:=hS.out.cC
   have hbr:Below W.heap.size W wr:=hb0.out.trans (hfr.below (fun k e=>by subst e; exact hgb) hb0.out.size)
   have hsn:=hid (j2y (us:=us) (r:=r) hxk S)
   obtain ⟨Sj,hSj⟩:∃ Sj,stepQ us r (L.take j) S=Sj:=⟨_,rfl⟩
   have hSjl:Hid (Sj.length=N.st):=hid (by rw [<-hSj,q1b]; exact hSl.out)
   rw [hSj] at hrow hsn
   clear hSj
   have i1:(j:Int)<(ln:Int):=by omega
   have i0:(0:Int)<=(j:Int):=by omega
   have i2:(x.2.2.1:Int)<(N.st:Int):=by omega
   have i3:(0:Int)<=(x.2.2.1:Int):=by omega
   have i4:(tc (wt x):Int)<=1048576:=by omega
   have i5:(0:Int)<=(tc (wt x):Int):=by omega
   have hbX:Below wr.heap.size wr (wr.alloc (.cells (acC x).toArray 54)):=qJ _
   have hX:=Bl.fresh wr (acC x) 54
   have z2:=hX.cell (i:=2) rfl
   have z6:=hX.cell (i:=6) rfl
   have hrow2:=hid (hrow.next hbX)
   have hfr2:=hid (hfr.trans (qH hbX _))
   have c1:=((hS.out.next hbr).uf.next hbX).cell hst.2
   obtain ⟨e1,he1⟩:∃ e1,us.getD x.2.2.1 false=e1:=⟨_,rfl⟩
   simp only [fBo] at c1
   rw [he1] at c1
   replace hsn:=hsn.out
   rw [he1] at hsn
   replace hsn:=hid hsn
   clear he1 hX hxk hrow hfr hxN hcx hC
   go_upto_region 40 with ((first | ((with_reducible refine jV rfl _ rfl b (off+j*11) ?_ x hcs ?_); exact rfl) | ((with_reducible refine jZ rfl _ _ rfl _ _ ?_ x ?_ ?_ ?_); exact rfl; exact rfl; exact rfl)))
   generalize hW2:(wr.alloc (.cells (acC x).toArray 54))=W2 at *
   clear hW2
   cases e1 with
   | false =>
    go_wp2_with fail
    go_roundw
    case rel=>exact ⟨j+1,by omega,by go_num,by rw [hsn.out,if_neg (by simp)]; exact hrow2.out,hfr2.out⟩
    case measure=>simp [intOf]; omega
   | true =>
    have hnote:=j1w base g x.2.2.1 (r+tc (wt x)) Sj (by rw [hSjl.out]; exact hst.2) W2 hrow2.out
    rw [hSjl.out,Int.natCast_add] at hnote
    have hnote:=hid hnote
    go_wp2_with fail
    refine hnote.out.mono ?_; rintro e w3 ⟨rfl,hrow3,hfr3⟩
    have hrow3:=hid hrow3
    have hfr3:=hid (hfr2.out.trans hfr3)
    go_wp2_with fail
    go_roundw
    case rel=>exact ⟨j+1,by omega,by go_num,by rw [hsn.out]; first | (rw [if_pos rfl]; exact hrow3.out) | (rw [if_pos trivial]; exact hrow3.out),hfr3.out⟩
    case measure=>simp [intOf]; omega
  ·obtain rfl:j=ln:=by omega
   have i1:¬ (j:Int)<(j:Int):=by omega
   have htk:L.take j=L:=List.take_of_length_le (by rw [hlen.out]; exact Nat.le_refl _)
   rw [htk] at hrow
   clear htk
   have hrow:=hid hrow
   go_wp2_with fail
   exact hexit.out _ _ _ _ _ _ _ _ _ _ _ _ _ _ _ _ _ _ _ _ _ hrow.out hfr
end
section
open Go.RowKit
theorem q4v {N:List Ac} {us:List Bool} {R:Vx} {l q r:Nat} (h:R[q]? = some (some r)):vH N us R l (q+1)=stepQ us r (stp N q l) (vH N us R l q):=by
 show (match R[q]? with | some (some r)=>_ | _=>_)=_
 rw [h]
theorem q4w {N:List Ac} {us:List Bool} {R:Vx} {l q:Nat} (h:R[q]? = some none):vH N us R l (q+1)=vH N us R l q:=by
 show (match R[q]? with | some (some r)=>_ | _=>_)=_
 rw [h]
theorem z3l (W:World) (V gu syms C:Nat) (N:Au) (us:List Bool) (io:OA) (ci:Nat) (fo:OA) (cf:Nat) (ro:OA) (nr cr:Nat) (vo:OA) (cv:Nat) (hS:Hid (Sta W V gu syms C N us io ci fo cf ro nr cr vo cv)) (base g bk gk l:Nat) (R:Vx) (hRl:Hid (R.length=N.st)) (w:World) (hb:Below W.heap.size W w) (hl:l<=32) (hR:Hid (Bd 1000000000000 R)) (hk:Sb w bk gk R) (hg:Sb w base g (List.replicate R.length none)) (hgb:W.heap.size<=g) (hne:gk≠g)
  {c0 c1 c2 c3 c5 c7 c8 c9 Aa Ab Ad Ae Af Ag Ah Ak Al Am An Ao Ap Aq Ar As Av Aw Ax Ay Az Ba Bb Bc Be Bf Bh Bi Bj Bk Bm Bn Bo Bp Bq Br Bs Bt Bu Bv Bw Bx By Bz Ca Cb Cc Cd Ce Cf Cg Ch Ci Cj Ck Cl Cm Cn Co Cp Cq Cr Ct Cu Cv Cw Cx Cy Cz Da Db Dc Dd De Df Dg Dh Di Dj Dk Dl Dn Dp Dq Dr Dt Du Dv Dw Dx Dy Dz Ea Eb Ec Ed Ee Ef Eg Eh Ei Ej Ek El Em En Eo Ep Eq Er Es Et Eu Ev Ew Ex Ey Ez Fa Fb Fc Fd Fe Ff Fg Fh Fi Fj Fk Fm Fn Fo Fp Fq Fs Ft Fu Fv Fw Fx Fy Fz Ga Gb Gc Gd Ge Gf Gg Gh Gi Gj Gk Gl Gm Gn Go Gp Gq Gr Gs Gt Gu Gv Gw Gx Gy Gz Ha Hb Hc Hd He Hf Hg Hh Hi Hj Hk Hl Hm Hn Ho Hp Hq Hr Hs Ht Hu Hv Hw Hx Hy Hz Ia Ib Ic Id Ie Ig Ih Ii Ij Ik Il Im Io Ip Iq Ir It Iu Iv Iw Ix Iy Iz Ja Jb Jc Jd Je Jf Jg Jh Ji Jj Jk Jl Jm Jn Jo Jp Jq Jr Js Jt:Value} {Q0:EP}
  (hexit:∀ (Ju Jv Jw Jx Jy Jz Ka Kb Kc Kd Ke Kf Kg Kh Ki Kj Kk Kl Km Kn Ko Kp Kq Kr Ks Kt Ku Kv Kw Kx Kz La Lb Lc Ld:Value) (w':World),Sb w' base g (vQ N.arcs us R l)->Fr (fun k=>k=g) w w'->Q0 .normal ⟨#[c0,c1,c2,c3,.pointer (some ⟨V,0,none⟩),c5,.slice (some ⟨gu,0,none⟩) N.st N.st,c7,c8,c9,Aa,Ab,Ad,Ae,Af,Ag,Ah,.int .i64 (l:Int),.slice (some ⟨g,0,none⟩) N.st N.st,Ju,Jv,Am,Jw,Ao,Ap,Aq,Ar,As,Av,Aw,Ax,Ay,Az,Ba,Bb,Bc,Be,Bf,Bh,Bi,Bj,Bk,Bm,Bn,Bo,Bp,Bq,Br,Bs,Bt,Bu,Bv,Bw,Bx,By,Bz,Ca,Cb,Cc,Cd,Ce,Cf,Cg,Ch,Ci,Cj,Ck,Cl,Cm,Cn,Co,Cp,Cq,Cr,Ct,Cu,Cv,Cw,Cx,Cy,Cz,Da,Db,Dc,Dd,De,Df,Dg,Dh,Di,Dj,Dk,Dl,Dn,Dp,Dq,Dr,Dt,Du,Dv,Dw,Dx,Dy,Dz,Ea,Eb,Ec,Ed,Ee,Ef,Eg,Eh,Ei,Ej,Ek,El,Em,En,Eo,Ep,Eq,Er,Es,Et,Eu,Ev,Ew,Ex,Ey,Ez,Fa,Fb,Fc,Fd,Fe,Ff,Fg,Fh,Fi,Fj,Fk,Fm,Fn,Fo,Fp,Fq,Fs,Ft,Fu,Fv,Fw,Fx,Fy,Fz,Ga,Gb,Gc,Gd,Ge,Gf,Gg,Gh,.slice (some ⟨gk,0,none⟩) N.st N.st,.int .i64 (N.st:Int),Jx,Jy,Jz,Ka,Kb,Kc,Kd,Ke,Kf,Kg,Kh,Ki,Kj,Kk,Kl,Km,Kn,Ko,Kp,Kq,Kr,Ks,Kt,Ku,Kv,Kw,Kx,Kz,La,Lb,Lc,Ld,Hn,Ho,Hp,Hq,Hr,Hs,Ht,Hu,Hv,Hw,Hx,Hy,Hz,Ia,Ib,Ic,Id,Ie,Ig,Ih,Ii,Ij,Ik,Il,Im,Io,Ip,Iq,Ir,It,Iu,Iv,Iw,Ix,Iy,Iz,Ja,Jb,Jc,Jd,Je,Jf,Jg,Jh,Ji,Jj,Jk,Jl,Jm,Jn,Jo,Jp,Jq,Jr,Js,Jt],[]⟩ w') :
  Code.wp Tryz.prog (dB 8) Q0 ⟨#[c0,c1,c2,c3,.pointer (some ⟨V,0,none⟩),c5,.slice (some ⟨gu,0,none⟩) N.st N.st,c7,c8,c9,Aa,Ab,Ad,Ae,Af,Ag,Ah,.int .i64 (l:Int),.slice (some ⟨g,0,none⟩) N.st N.st,Ak,Al,Am,An,Ao,Ap,Aq,Ar,As,Av,Aw,Ax,Ay,Az,Ba,Bb,Bc,Be,Bf,Bh,Bi,Bj,Bk,Bm,Bn,Bo,Bp,Bq,Br,Bs,Bt,Bu,Bv,Bw,Bx,By,Bz,Ca,Cb,Cc,Cd,Ce,Cf,Cg,Ch,Ci,Cj,Ck,Cl,Cm,Cn,Co,Cp,Cq,Cr,Ct,Cu,Cv,Cw,Cx,Cy,Cz,Da,Db,Dc,Dd,De,Df,Dg,Dh,Di,Dj,Dk,Dl,Dn,Dp,Dq,Dr,Dt,Du,Dv,Dw,Dx,Dy,Dz,Ea,Eb,Ec,Ed,Ee,Ef,Eg,Eh,Ei,Ej,Ek,El,Em,En,Eo,Ep,Eq,Er,Es,Et,Eu,Ev,Ew,Ex,Ey,Ez,Fa,Fb,Fc,Fd,Fe,Ff,Fg,Fh,Fi,Fj,Fk,Fm,Fn,Fo,Fp,Fq,Fs,Ft,Fu,Fv,Fw,Fx,Fy,Fz,Ga,Gb,Gc,Gd,Ge,Gf,Gg,Gh,.slice (some ⟨gk,0,none⟩) N.st N.st,.int .i64 (N.st:Int),.int .i64 0,Gi,Gj,Gk,Gl,Gm,Gn,Go,Gp,Gq,Gr,Gs,Gt,Gu,Gv,Gw,Gx,Gy,Gz,Ha,Hb,Hc,Hd,He,Hf,Hg,Hh,Hi,Hj,Hk,Hl,Hm,Hn,Ho,Hp,Hq,Hr,Hs,Ht,Hu,Hv,Hw,Hx,Hy,Hz,Ia,Ib,Ic,Id,Ie,Ig,Ih,Ii,Ij,Ik,Il,Im,Io,Ip,Iq,Ir,It,Iu,Iv,Iw,Ix,Iy,Iz,Ja,Jb,Jc,Jd,Je,Jf,Jg,Jh,Ji,Jj,Jk,Jl,Jm,Jn,Jo,Jp,Jq,Jr,Js,Jt],[]⟩ w:=by
 conv=>arg 2; whnf
 have hk0:=hid hk
 have hg0:=hid hg
 have hb0:=hid hb
 have hexit:=hid hexit
 have hne:=hid hne
 have hst:=hS.out.st
 clear hg hk hb
 go_wp2_with fail
 go_loopw [164] (fun iv wr=>∃ q:Nat,q<=N.st/\iv=.int .i64 (q:Int)/\Sb wr base g (vH N.arcs us R l q)/\Fr (fun k=>k=g) w wr) (fun iv _=>N.st-(intOf iv).toNat)
 case atStart=>exact ⟨0,by omega,rfl,hg0.out,Fr.refl _ _⟩
 case round =>
  obtain ⟨q,hq,rfl,hrow,hfr⟩:=hrel
  by_cases hlt:q<N.st
  ·have i1:(q:Int)<(N.st:Int):=by omega
   have i0:(0:Int)<=(q:Int):=by omega
   obtain ⟨o,ho⟩:∃ o,R[q]? = some o:=⟨_,List.getElem?_eq_getElem (by rw [hRl.out]; exact hlt)⟩
   have hbr:Below W.heap.size W wr:=hb0.out.trans (hfr.below (fun k e=>by subst e; exact hgb) hb0.out.size)
   have hkr:=hk0.out.fr hfr hne.out
   unfold Sb at hkr
   rw [hRl.out] at hkr
   have c1:=hkr.cell hlt
   have e1:fS R q=oV o:=by unfold fS; rw [List.getD_eq_getElem?_getD,ho]; rfl
   rw [e1] at c1
   clear e1 hkr
   unfold oV at c1
   have hrow:=hid hrow
   cases o with
   | none =>
    rw [zP] at c1
    have hnx:=hid (q4w (N:=N.arcs) (us:=us) (l:=l) ho)
    clear ho
    go_wp2_with fail
    go_roundw
    case rel=>exact ⟨q+1,by omega,by go_num,by rw [hnx.out]; exact hrow.out,hfr⟩
    case measure=>simp [intOf]; omega
   | some r =>
    rw [zN] at c1
    have k2:((r:Int) == -1)=false:=by rw [beq_eq_false_iff_ne]; omega
    have k3:¬ (r:Int) = -1:=by omega
    have hr:=hR.out r (List.mem_of_getElem? ho)
    have hnx:=hid (q4v (N:=N.arcs) (us:=us) (l:=l) ho)
    have hSr:=hS.out.next hbr
    have hXc:=hSr.vw.cs
    have hstep:=hid (j8s syms N hSr.ss (.slice io N.st ci) (.slice fo N.st cf) ro hSr.row nr cr vo cv q l hlt hSr.st hSr.num wr hSr.vm.mo.arcs hSr.vm.fst)
    have hnl:Hid ((vH N.arcs us R l q).length=N.st):=hid (by rw [q0u]; exact hRl.out)
    have hfr:=hid hfr
    have hbr:=hid hbr
    clear ho hSr
    go_upto_block 10 with (first | ((with_reducible refine zX rfl _ rfl V 0 ?_ (viC syms N.st (.slice io N.st ci) (.slice fo N.st cf) (.slice ro nr cr) (.slice vo (N.st+1) cv)) rfl hXc ?_); exact rfl) | ((with_reducible refine hstep.out.mono ?_); rintro e w3 ⟨⟨lo,ln,lc,rfl,hl3⟩,hb3⟩; have hl3:=hid hl3; have hb3:=hid hb3))
    refine z3n W V gu syms C N us io ci fo cf ro nr cr vo cv hS base g r (vH N.arcs us R l q) hnl (stp N.arcs q l) lo ln lc w3 (hbr.out.trans (hb3.out.mono hbr.out.size)) hr (hid fun x hx=>(List.mem_filter.1 hx).1) hl3.out (hrow.out.next hb3.out) hgb ?_
    intro Le Lf Lg Lh Li Lj Lk Ll Lm Ln Lo Lp Lq Lr Lt Lu Lv Lx Ly Lz w4 hrow4 hfr4
    have hrow4:=hid hrow4
    have hfr4:=hid (hfr.out.trans ((qH hb3.out _).trans hfr4))
    go_wp2_with fail
    go_roundw
    case rel=>exact ⟨q+1,by omega,by go_num,by rw [hnx.out]; exact hrow4.out,hfr4.out⟩
    case measure=>simp [intOf]; omega
  ·obtain rfl:q=N.st:=by omega
   have i1:¬ (N.st:Int)<(N.st:Int):=by omega
   have hrow:=hid hrow
   go_wp2_with fail
   exact hexit.out _ _ _ _ _ _ _ _ _ _ _ _ _ _ _ _ _ _ _ _ _ _ _ _ _ _ _ _ _ _ _ _ _ _ _ _ (by unfold vQ; rw [hRl.out]; exact hrow.out) hfr
end
end Go.Proofs.YtnapapijhhldpaaGreatDoor

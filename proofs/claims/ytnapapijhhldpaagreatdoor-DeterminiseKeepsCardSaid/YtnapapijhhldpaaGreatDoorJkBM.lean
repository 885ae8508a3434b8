/-
  Texts joined by program: Tvg, Tvh, Tvk, Tvl, Tvm. No condition of its own.
-/
import Derived.Test.YtnapapijhhldpaaGreatDoorJkBL
namespace Go.Proofs.YtnapapijhhldpaaGreatDoor
set_option linter.unusedSimpArgs false
set_option linter.unusedVariables false
set_option maxRecDepth 100000
set_option maxHeartbeats 4000000
section
open Go.RowKit
theorem z5z {syms:Nat} {A:Au} {C:List Ac} (hV:Vo syms A) (hC:Nf C A.arcs):Vo syms ⟨A.st,A.ini,A.fin,C.filter nz⟩ :=
 ⟨hV.sym,hV.st,Nat.le_trans (List.length_filter_le _ _) (Nat.le_trans (q5z hC hV.arcs) hV.num),hV.ini,hV.fin,fun x hx=>by
  obtain ⟨z,hz,e1,e2⟩:=j6e hC x hx
  obtain rfl:=z2w e1 e2
  exact hV.arcs z hz⟩
def q7e (A:Au) (word:List Nat):List Tw:=word.foldl (fun v l=>q2w l v A.arcs (List.replicate A.st none)) A.ini
theorem q8t (A:Au) {word:List Nat} {k l:Nat} (h:word[k]? = some l):q7e A (word.take (k+1))=q2w l (q7e A (word.take k)) A.arcs (List.replicate A.st none):=by
 unfold q7e; rw [jR h,List.foldl_append]; rfl
theorem q8u (A:Au):∀ (word:List Nat) (v:List Tw),v.length=A.st->(word.foldl (fun v l=>q2w l v A.arcs (List.replicate A.st none)) v).length=A.st
 | [],_,h=>h
 | l::word,v,h=>q8u A word _ (by rw [q0x,List.length_replicate])
theorem q3y {A:Au} (hi:A.ini.length=A.st) (word:List Nat):(q7e A word).length=A.st:=q8u A word _ hi
theorem j2a (A:Au):∀ (word:List Nat) (v:List Tw),(∀ x∈v,vW x)->∀ x∈word.foldl (fun v l=>q2w l v A.arcs (List.replicate A.st none)) v,vW x
 | [],_,h=>h
 | l::word,v,h=>j2a A word _ (q3s l v _ _ fun y hy=>by rw [(List.mem_replicate.1 hy).2]; exact Nat.zero_le _)
theorem q7d {A:Au} (hi:∀ x∈A.ini,vW x) (word:List Nat):∀ x∈q7e A word,vW x:=j2a A word _ hi
theorem z0u {word:List Nat} {k:Nat} {x:Int} (h:(wI word)[k]? = some x):∃ l:Nat,word[k]? = some l/\x=(l:Int):=by
 unfold wI at h; rw [List.getElem?_map] at h
 cases e:word[k]? with
 | none=>rw [e] at h; cases h
 | some l=>rw [e] at h; exact ⟨l,rfl,(Option.some.inj h).symm⟩
theorem z0t {w:World} {word:List Nat} {lo:OA} {nl cl:Nat} (h:Sl w lo nl cl (j3w (wI word))):word.length=nl:=by
 have:=h.lenI; unfold wI at this; rwa [List.length_map] at this
theorem q7r (syms:Nat) (A:Au) (hV:Vo syms A) (hs:A.arcs.length<20\/UpA A.arcs) (hli:A.ini.length=A.st) (hlf:A.fin.length=A.st) (hl1:∀ x∈A.arcs,1<=x.2.1) (word:List Nat) (hw:∀ l∈word,1<=l/\l<=syms) (hwl:word.length<=256) (io:OA) (ci:Nat) (fo:OA) (cf:Nat) (ro:OA) (nr cr:Nat) (lo:OA) (nl cl:Nat) (w:World) (h:Mo w syms A io ci fo cf ro nr cr) (hl:Sl w lo nl cl (j3w (wI word))) :
  Calls Tryz.prog 43 #[.agg (auC syms A.st (.slice io A.st ci) (.slice fo A.st cf) (.slice ro nr cr)).toArray,.slice lo nl cl] w fun e w' =>
   (∃ vo cv,e=.returned (.tuple #[.slice vo A.st cv,.int .i64 0])/\∃ C,Nf C A.arcs/\FO 45 8 w' w.heap.size (.slice vo A.st cv) ((q7e ⟨A.st,A.ini,A.fin,C.filter nz⟩ word).map twC))/\Below w.heap.size w w':=by
 have hwn:=z0t hl
 have hbl:=hl.bound
 have hb0:Below w.heap.size w (w.alloc (.cells (auC syms A.st (.slice io A.st ci) (.slice fo A.st cf) (.slice ro nr cr)).toArray 30)):=qJ _
 have hB:=Bl.fresh w (auC syms A.st (.slice io A.st ci) (.slice fo A.st cf) (.slice ro nr cr)) 30
 replace h:=hid (h.next hb0)
 have hl0:=hid hl
 replace hl:=hid (hl.next hb0)
 go_enter Tryz.func43,Tryz.ntmps43
 go_upto_region 1 with fail
 generalize hW1:(w.alloc (.cells (auC syms A.st (.slice io A.st ci) (.slice fo A.st cf) (.slice ro nr cr)).toArray 30))=W1 at *
 have hBw:w.heap.size<W1.heap.size:=hB.lt
 have hBc:=hB.cs
 clear hW1
 go_wp2_with ((with_reducible refine qM rfl _ rfl w.heap.size 0 ?_ (auC syms A.st (.slice io A.st ci) (.slice fo A.st cf) (.slice ro nr cr)) rfl hBc ?_); exact rfl)
 refine (j5n syms A hV hs hli hlf hl1 word hw hwl io ci fo cf ro nr cr lo nl cl _ h.out hl.out).mono ?_; rintro e w1 ⟨⟨io',ci',fo',cf',ro',nr',cr',C,rfl,hm,hnf⟩,hb1⟩
 replace hB:=hB.next hb1
 replace hb0:=qQ hb0 hb1
 have hone:∀ u∈(auC syms A.st (.slice io' A.st ci') (.slice fo' A.st cf') (.slice ro' nr' cr')),u.oneCell'=true:=kV _ _ _ _ _ _ _ _ _ _ _
 obtain ⟨O,hO⟩:∃ O,W1.heap.size=O:=⟨_,rfl⟩
 have hO1:O<=w1.heap.size:=by rw [<-hO]; exact hb1.size
 rw [hO] at hm hBw
 have hnl:=j2c hm.arcs
 replace hm:=hid hm
 replace hnf:=hid hnf
 replace hb0:=hid hb0
 clear hBc hb1 hl h
 go_upto_region 2 with ((with_reducible refine jG rfl _ _ rfl w.heap.size 30 _ hB ?_ (auC syms A.st (.slice io' A.st ci') (.slice fo' A.st cf') (.slice ro' nr' cr')) rfl rfl ?_ hone ?_); exact rfl; exact rfl; intro w2 hB2 hfr2)
 have hm2:MoF w2 O ⟨A.st,A.ini,A.fin,C.filter nz⟩ io' ci' fo' cf' ro' nr' cr':=⟨hm.out.ini.fr hfr2 fun g e h=>by have:=(hm.out.ini.lt e).1; omega,hm.out.fin.fr hfr2 fun g e h=>by have:=(hm.out.fin.lt e).1; omega,hm.out.arcs.fr hfr2 fun g e h=>by have:=(hm.out.arcs.lt e).1; omega⟩
 have hb2:Below w.heap.size w w2:=hb0.out.trans (hfr2.below (fun k e=>by omega) hb0.out.size)
 have hO2:O<=w2.heap.size:=Nat.le_trans hO1 hfr2.size
 clear hB hfr2 hm hb0
 obtain ⟨⟨a0,a1,a2,a3⟩,a4,a5,a6⟩:=hB2.seven
 have hV':=z5z hV hnf.out
 replace hm2:=hid hm2
 replace hb2:=hid hb2
 go_wp2_with fail
 go_loopw [7,23] (fun vv iv wr=>∃ (k:Nat) (vo:OA) (cv:Nat),k<=nl/\iv=.int .i64 (k:Int)/\vv=.slice vo A.st cv/\FO 45 8 wr O (.slice vo A.st cv) ((q7e ⟨A.st,A.ini,A.fin,C.filter nz⟩ (word.take k)).map twC)/\MoF wr O ⟨A.st,A.ini,A.fin,C.filter nz⟩ io' ci' fo' cf' ro' nr' cr'/\Bl w.heap.size (auC syms A.st (.slice io' A.st ci') (.slice fo' A.st cf') (.slice ro' nr' cr')) 30 wr/\O<=wr.heap.size/\Below w.heap.size w wr) (fun _ iv _=>nl-(intOf iv).toNat)
 case atStart=>exact ⟨0,io',ci',Nat.zero_le _,rfl,rfl,hm2.out.ini,hm2.out,hB2,hO2,hb2.out⟩
 case round =>
  clear hm2 hB2 hb2 a0 a1 a2 a3 a4 a5 a6
  obtain ⟨k,vo,cv,hk,rfl,rfl,hrow,hm,hB,hOw,hb⟩:=hrel
  have hBc:=hB.cs
  by_cases hlt:k<nl
  ·obtain ⟨x,hx,b,o,rfl,hcx⟩:=(hl0.out.next hb).i64 hlt
   obtain ⟨l,hwk,rfl⟩:=z0u hx
   have hsn:=hid (q8t ⟨A.st,A.ini,A.fin,C.filter nz⟩ hwk)
   have i1:(k:Int)<(nl:Int):=by omega
   have i0:(0:Int)<=(k:Int):=by omega
   have hl8:=q3y (A:=⟨A.st,A.ini,A.fin,C.filter nz⟩) hli (word.take k)
   have ho8:=q7d (A:=⟨A.st,A.ini,A.fin,C.filter nz⟩) hV.ini (word.take k)
   have hfv:Fl 8 wr vo A.st cv ((q7e ⟨A.st,A.ini,A.fin,C.filter nz⟩ (word.take k)).map twC):=kG hrow (by rw [List.length_map]; exact hl8)
   have hmo:Mo wr syms ⟨A.st,A.ini,A.fin,C.filter nz⟩ io' ci' fo' cf' ro' nr' cr':=hm.mo syms
   clear hx hwk
   have hrow:=hid hrow
   have hm:=hid hm
   have hb:=hid hb
   go_wp2_with ((with_reducible refine qM rfl _ rfl w.heap.size 0 ?_ (auC syms A.st (.slice io' A.st ci') (.slice fo' A.st cf') (.slice ro' nr' cr')) rfl hBc ?_); exact rfl)
   refine (j4q ⟨A.st,A.ini,A.fin,C.filter nz⟩ syms hV' l _ hl8 ho8 io' ci' fo' cf' ro' nr' cr' vo cv _ hmo hfv).mono ?_; rintro e w3 ⟨rv,rfl,hr3,hb3⟩
   obtain ⟨vo3,cv3,hrv⟩:=hr3.form
   rw [List.length_map,q0x,List.length_replicate] at hrv
   change rv=.slice vo3 A.st cv3 at hrv
   subst hrv
   rw [<-hsn.out] at hr3
   have hr4:Hid (FO 45 8 w3 O (.slice vo3 A.st cv3) ((q7e ⟨A.st,A.ini,A.fin,C.filter nz⟩ (word.take (k+1))).map twC)):=hid (hr3.mono hOw)
   have hO3:O<=w3.heap.size:=Nat.le_trans hOw hb3.size
   have hm3:=hid (show MoF w3 O ⟨A.st,A.ini,A.fin,C.filter nz⟩ io' ci' fo' cf' ro' nr' cr' from ⟨hm.out.ini.next hb3,hm.out.fin.next hb3,hm.out.arcs.next hb3⟩)
   have hB3:=hid (hB.next hb3)
   have hb4:=hid (qQ hb.out hb3)
   clear hr3 hfv hmo hrow hm hb hB hb3 hBc hcx
   go_wp2_with fail
   go_roundw
   case rel=>exact ⟨k+1,vo3,cv3,by omega,by go_num,rfl,hr4.out,hm3.out,hB3.out,hO3,hb4.out⟩
   case measure=>simp [intOf]; omega
  ·obtain rfl:k=nl:=by omega
   have i1:¬ (k:Int)<(k:Int):=by omega
   rw [List.take_of_length_le (by rw [hwn]; exact Nat.le_refl _)] at hrow
   have hrow:=hid hrow
   have hb:=hid hb
   go_wp2_with fail
   go_ret2
   exact ⟨⟨vo,cv,rfl,C,hnf.out,hrow.out.mono (Nat.le_of_lt hBw)⟩,hb.out⟩
end
section
open Go.RowKit
def q4b (A:Au) (word:List Nat):Tw:=q7f (q7e A word) A.fin A.st
abbrev kA (A:Au) (C:List Ac):Au:=⟨A.st,A.ini,A.fin,C.filter nz⟩
theorem z5q (syms st:Nat) (iv fv rv:Value) (W:World):(Instr.field 30 (.agg (auC syms st iv fv rv).toArray) 3).run Tryz.prog W=.ok iv W:=by kernel_rfl
theorem q9q (syms:Nat) (A:Au) (hV:Vo syms A) (hs:A.arcs.length<20\/UpA A.arcs) (hli:A.ini.length=A.st) (hlf:A.fin.length=A.st) (hl1:∀ x∈A.arcs,1<=x.2.1) (word:List Nat) (hw:∀ l∈word,1<=l/\l<=syms) (hwl:word.length<=256) (io:OA) (ci:Nat) (fo:OA) (cf:Nat) (ro:OA) (nr cr:Nat) (lo:OA) (nl cl:Nat) (w:World) (h:Mo w syms A io ci fo cf ro nr cr) (hl:Sl w lo nl cl (j3w (wI word))) :
  Calls Tryz.prog 12 #[.agg (auC syms A.st (.slice io A.st ci) (.slice fo A.st cf) (.slice ro nr cr)).toArray,.slice lo nl cl] w fun e w'=>(∃ C,Nf C A.arcs/\e=.returned (.tuple #[.agg #[.bool false,.slice none 0 0,.slice none 0 0,.int .i64 (tc (q4b (kA A C) word):Int),.bool (ti (q4b (kA A C) word)),.int .u64 0,.slice none 0 0,.slice none 0 0],.int .i64 0]))/\Below w.heap.size w w':=by
 have hb0:Below w.heap.size w ((w.alloc (.cells (auC syms A.st (.slice io A.st ci) (.slice fo A.st cf) (.slice ro nr cr)).toArray 30)).alloc (.cells #[.bool false,.slice none 0 0,.slice none 0 0,.int .i64 0,.bool false,.int .u64 0,.slice none 0 0,.slice none 0 0] 45)):=qQ (qJ _) (qJ _)
 have hB:=(Bl.fresh w (auC syms A.st (.slice io A.st ci) (.slice fo A.st cf) (.slice ro nr cr)) 30).new (.cells #[.bool false,.slice none 0 0,.slice none 0 0,.int .i64 0,.bool false,.int .u64 0,.slice none 0 0,.slice none 0 0] 45)
 have hR:=Bl.fresh' (G:=w.heap.size+1) (w.alloc (.cells (auC syms A.st (.slice io A.st ci) (.slice fo A.st cf) (.slice ro nr cr)).toArray 30)) [.bool false,.slice none 0 0,.slice none 0 0,.int .i64 0,.bool false,.int .u64 0,.slice none 0 0,.slice none 0 0] 45 (by simp)
 have hff:=hid (h.next hb0).fin
 replace h:=hid (h.next hb0)
 replace hl:=hid (hl.next hb0)
 go_enter Tryz.func12,Tryz.ntmps12
 go_upto_region 1 with fail
 generalize hW1:((w.alloc (.cells (auC syms A.st (.slice io A.st ci) (.slice fo A.st cf) (.slice ro nr cr)).toArray 30)).alloc (.cells #[.bool false,.slice none 0 0,.slice none 0 0,.int .i64 0,.bool false,.int .u64 0,.slice none 0 0,.slice none 0 0] 45))=W1 at *
 have hRl:=hR.lt
 have hBc:=hB.cs
 clear hW1
 go_wp2_with ((with_reducible refine qM rfl _ rfl w.heap.size 0 ?_ (auC syms A.st (.slice io A.st ci) (.slice fo A.st cf) (.slice ro nr cr)) rfl hBc ?_); exact rfl)
 refine (q7r syms A hV hs hli hlf hl1 word hw hwl io ci fo cf ro nr cr lo nl cl _ h.out hl.out).mono ?_; rintro e w1 ⟨⟨vo,cv,rfl,C,hnf,hrow⟩,hb1⟩
 replace hB:=hB.next hb1
 replace hR:=hR.next hb1
 replace hff:=hff.out.next hb1
 replace hb0:=hid (qQ hb0 hb1)
 clear hBc h hl hb1
 obtain ⟨⟨a0,a1,a2,a3⟩,a4,a5,a6⟩:=hB.seven
 have hfv:=kG hrow (by rw [List.length_map]; exact q3y (A:=⟨A.st,A.ini,A.fin,C.filter nz⟩) hli word)
 clear hrow
 go_wp2_with fail
 refine (j8f (q7e ⟨A.st,A.ini,A.fin,C.filter nz⟩ word) A.fin (q7d (A:=⟨A.st,A.ini,A.fin,C.filter nz⟩) hV.ini word) hV.fin A.st vo fo cv cf _ hfv hff).mono ?_; rintro e w4 ⟨rfl,hb4⟩
 replace hR:=hR.next hb4
 replace hb0:=hid (qQ hb0.out hb4)
 clear hB hff hfv hb4 a0 a1 a2 a3 a4 a5 a6
 obtain ⟨d,hd⟩:∃ d,q7f (q7e ⟨A.st,A.ini,A.fin,C.filter nz⟩ word) A.fin A.st=d:=⟨_,rfl⟩
 rw [hd]
 go_wp2_with ((with_reducible refine jJ rfl _ _ rfl (w.heap.size+1) 45 _ hR ?_ d rfl ?_ ?_); exact rfl; exact rfl; intro w9 hR9 hfr9)
 refine bodyPost_ret (jY rfl _ _ (w.heap.size+1) (twC d) _ rfl hR9.cs Tryz.underlying45 rfl Tryz.sizeTw) rfl ⟨?_,hb0.out.trans (hfr9.below (fun k e=>by omega) hb0.out.size)⟩
 exact ⟨C,hnf,by rw [show q4b (kA A C) word=d from hd]; rfl⟩
theorem j3e (syms:Nat) (A:Au) (hV:Vo syms A) (hl1:∀ x∈A.arcs,1<=x.2.1) (io:OA) (ci:Nat) (fo:OA) (cf:Nat) (ro:OA) (nr cr:Nat) (w:World) (h:Mo w syms A io ci fo cf ro nr cr) :
  Calls Tryz.prog 111 #[.agg (auC syms A.st (.slice io A.st ci) (.slice fo A.st cf) (.slice ro nr cr)).toArray] w fun e w'=>e=.returned (.bool true)/\Below w.heap.size w w':=by
 have hnr:nr<=2048:=by have:=h.arcs.lenMap; have:=hV.num; omega
 have hb0:Below w.heap.size w (w.alloc (.cells (auC syms A.st (.slice io A.st ci) (.slice fo A.st cf) (.slice ro nr cr)).toArray 30)):=qJ _
 have hB:=Bl.fresh w (auC syms A.st (.slice io A.st ci) (.slice fo A.st cf) (.slice ro nr cr)) 30
 replace h:=hid (h.next hb0)
 obtain ⟨⟨a0,a1,a2,a3⟩,a4,a5,a6⟩:=hB.seven
 go_enter Tryz.func111,Tryz.ntmps111
 go_upto_region 1 with fail
 generalize hW1:(w.alloc (.cells (auC syms A.st (.slice io A.st ci) (.slice fo A.st cf) (.slice ro nr cr)).toArray 30))=W1 at *
 clear hW1
 go_wp2_with fail
 refine (q8h A.arcs ro nr cr hnr (z0v hV) (fun x hx=>(hV.arcs x hx).2.2.2) _ h.out.arcs).mono ?_; rintro e w1 ⟨⟨K,kv,rfl,hK,hk⟩,hb1⟩
 replace hb0:=qQ hb0 hb1
 have hC1:∀ x∈K.filter nz,1<=x.2.1:=fun x hx=>by
  obtain ⟨z,hz,e1,e2⟩:=j6e hK x hx
  obtain rfl:=z2w e1 e2
  exact hl1 z hz
 obtain ⟨ko,kc,rfl⟩:=hk.form
 have hfk:=kG hk rfl
 rw [List.length_map] at hfk ⊢
 obtain ⟨m,hm⟩:∃ m,(K.filter nz).length=m:=⟨_,rfl⟩
 rw [hm] at hfk ⊢
 have hbm:=hfk.bound
 replace hfk:=hid hfk
 replace hm:=hid hm
 clear hk hB h a0 a1 a2 a3 a4 a5 a6 hb1
 go_wp2_with fail
 go_loopw [4] (fun iv wr=>∃ k:Nat,k<=m/\iv=.int .i64 (k:Int)/\Below w.heap.size w wr/\Below w1.heap.size w1 wr) (fun iv _=>m-(intOf iv).toNat)
 case atStart=>exact ⟨0,Nat.zero_le _,rfl,hb0,Below.refl _ _⟩
 case round =>
  obtain ⟨k,hk,rfl,hb,hb2⟩:=hrel
  by_cases hlt:k<m
  ·obtain ⟨x,hxk,b,off,rfl,hcs⟩:=(hfk.out.next hb2).get hlt
   have hxo:=hC1 x (List.mem_of_getElem? hxk)
   obtain ⟨⟨x0,x1,x2,x3⟩,⟨x4,x5,x6,x7⟩,x8,x9,x10⟩:=hcs.eleven
   have hxk:=hid hxk
   have i1:(k:Int)<(m:Int):=by omega
   have i0:(0:Int)<=(k:Int):=by omega
   have k1:((x.2.1:Int)==0)=false:=by rw [beq_eq_false_iff_ne]; omega
   have k2:¬ (x.2.1:Int)=0:=by omega
   have k3:¬ x.2.1=0:=by omega
   go_wp2_with fail
   go_roundw
   case rel=>exact ⟨k+1,by omega,by go_num,hb,hb2⟩
   case measure=>simp [intOf]; omega
  ·obtain rfl:k=m:=by omega
   have i1:¬ (k:Int)<(k:Int):=by omega
   go_wp2_with fail
   go_ret
   exact ⟨rfl,hb⟩
theorem j3g (syms:Nat) (A:Au) (hV:Vo syms A) (hli:A.ini.length=A.st) (hlf:A.fin.length=A.st) (hl1:∀ x∈A.arcs,1<=x.2.1) (word:List Nat) (hw:∀ l∈word,1<=l/\l<=syms) (hwl:word.length<=256) (io:OA) (ci:Nat) (fo:OA) (cf:Nat) (ro:OA) (nr cr:Nat) (lo:OA) (nl cl:Nat) (w:World) (h:Mo w syms A io ci fo cf ro nr cr) (hl:Sl w lo nl cl (j3w (wI word))) :
  Calls Tryz.prog 79 #[.agg (auC syms A.st (.slice io A.st ci) (.slice fo A.st cf) (.slice ro nr cr)).toArray,.slice lo nl cl] w fun e w'=>e=.returned (.int .i64 0)/\Below w.heap.size w w':=by
 have hb0:Below w.heap.size w (w.alloc (.cells (auC syms A.st (.slice io A.st ci) (.slice fo A.st cf) (.slice ro nr cr)).toArray 30)):=qJ _
 have hB:=Bl.fresh w (auC syms A.st (.slice io A.st ci) (.slice fo A.st cf) (.slice ro nr cr)) 30
 replace h:=hid (h.next hb0)
 replace hl:=hid (hl.next hb0)
 have hok:=j1u hV.sym.1 hV.sym.2 hw hwl
 go_enter Tryz.func79,Tryz.ntmps79
 go_upto_region 1 with fail
 generalize hW1:(w.alloc (.cells (auC syms A.st (.slice io A.st ci) (.slice fo A.st cf) (.slice ro nr cr)).toArray 30))=W1 at *
 have hBc:=hB.cs
 clear hW1
 go_wp2_with ((with_reducible refine qM rfl _ rfl w.heap.size 0 ?_ (auC syms A.st (.slice io A.st ci) (.slice fo A.st cf) (.slice ro nr cr)) rfl hBc ?_); exact rfl)
 refine (kN syms A hV io ci fo cf ro nr cr _ h.out).mono ?_; rintro e w1 ⟨rfl,hb1⟩
 replace hB:=hB.next hb1
 replace h:=hid (h.out.next hb1)
 replace hl:=hid (hl.out.next hb1)
 replace hb0:=qQ hb0 hb1
 clear hBc hb1
 have hBc:=hB.cs
 go_wp2_with ((with_reducible refine qM rfl _ rfl w.heap.size 0 ?_ (auC syms A.st (.slice io A.st ci) (.slice fo A.st cf) (.slice ro nr cr)) rfl hBc ?_); exact rfl)
 refine (j3e syms A hV hl1 io ci fo cf ro nr cr _ h.out).mono ?_; rintro e w2 ⟨rfl,hb2⟩
 replace hB:=hB.next hb2
 replace hl:=hl.out.next hb2
 replace hb0:=qQ hb0 hb2
 obtain ⟨⟨a0,a1,a2,a3⟩,a4,a5,a6⟩:=hB.seven
 clear hBc hb2 hB h
 go_wp2_with fail
 refine (q9y (wI word) (syms:Int) lo nl cl _ hl).mono ?_; rintro e w4 ⟨rfl,rfl⟩
 rw [hok]
 go_wp2_with fail
 go_ret
 exact ⟨rfl,hb0⟩
theorem q8f (syms:Nat) (A:Au) (hV:Vo syms A) (hli:A.ini.length=A.st) (hlf:A.fin.length=A.st) (hl1:∀ x∈A.arcs,1<=x.2.1) (word:List Nat) (hw:∀ l∈word,1<=l/\l<=syms) (hwl:word.length<=256) (io:OA) (ci:Nat) (fo:OA) (cf:Nat) (ro:OA) (nr cr:Nat) (lo:OA) (nl cl:Nat) (w:World) (h:Mo w syms A io ci fo cf ro nr cr) (hl:Sl w lo nl cl (j3w (wI word))) :
  Calls Tryz.prog 45 #[.agg (auC syms A.st (.slice io A.st ci) (.slice fo A.st cf) (.slice ro nr cr)).toArray,.slice lo nl cl] w fun e w' =>
   (∃ vo cv,e=.returned (.tuple #[.slice vo A.st cv,.int .i64 0])/\FO 45 8 w' w.heap.size (.slice vo A.st cv) ((q7e A word).map twC))/\Below w.heap.size w w':=by
 have hwn:=z0t hl
 have hbl:=hl.bound
 have hnr:=h.arcs.bound
 have hb0:Below w.heap.size w (w.alloc (.cells (auC syms A.st (.slice io A.st ci) (.slice fo A.st cf) (.slice ro nr cr)).toArray 30)):=qJ _
 have hB:=Bl.fresh w (auC syms A.st (.slice io A.st ci) (.slice fo A.st cf) (.slice ro nr cr)) 30
 have h0:=hid h
 have hl0:=hid hl
 replace h:=hid (h.next hb0)
 replace hl:=hid (hl.next hb0)
 go_enter Tryz.func45,Tryz.ntmps45
 go_upto_region 1 with fail
 generalize hW1:(w.alloc (.cells (auC syms A.st (.slice io A.st ci) (.slice fo A.st cf) (.slice ro nr cr)).toArray 30))=W1 at *
 have hBw:w.heap.size<W1.heap.size:=hB.lt
 have hBc:=hB.cs
 clear hW1
 go_wp2_with ((with_reducible refine qM rfl _ rfl w.heap.size 0 ?_ (auC syms A.st (.slice io A.st ci) (.slice fo A.st cf) (.slice ro nr cr)) rfl hBc ?_); exact rfl)
 refine (j3g syms A hV hli hlf hl1 word hw hwl io ci fo cf ro nr cr lo nl cl _ h.out hl.out).mono ?_; rintro e w1 ⟨rfl,hb1⟩
 replace hB:=hB.next hb1
 replace h:=hid (h.out.next hb1)
 replace hb0:=qQ hb0 hb1
 have hBw1:w.heap.size<w1.heap.size:=hB.lt
 clear hBc hb1 hl hBw
 have hBc:=hB.cs
 go_wp2_with ((with_reducible refine qM rfl _ rfl w.heap.size 0 ?_ (auC syms A.st (.slice io A.st ci) (.slice fo A.st cf) (.slice ro nr cr)) rfl hBc ?_); exact rfl)
 refine (q4q syms A hV io ci fo cf ro nr cr _ h.out).mono ?_; rintro e w2 ⟨v,rfl,K,io',ci',fo',cf',ro',nr',cr',rfl,hK,hm,hb2⟩
 replace hB:=hB.next hb2
 replace hb0:=hid (qQ hb0 hb2)
 obtain ⟨O,hO⟩:∃ O,w1.heap.size=O:=⟨_,rfl⟩
 have hO1:O<=w2.heap.size:=by rw [<-hO]; exact hb2.size
 rw [hO] at hm hBw1
 replace hm:=hid hm.ini
 clear hBc hb2 h hO
 have hfF:=z5q syms A.st (.slice io' A.st ci') (.slice fo' A.st cf') (.slice ro' nr' cr')
 go_wp2_with fail
 go_loopw [7,8] (fun vv iv wr=>∃ (k:Nat) (vo:OA) (cv:Nat),k<=nl/\iv=.int .i64 (k:Int)/\vv=.slice vo A.st cv/\FO 45 8 wr O (.slice vo A.st cv) ((q7e A (word.take k)).map twC)/\Bl w.heap.size (auC syms A.st (.slice io A.st ci) (.slice fo A.st cf) (.slice ro nr cr)) 30 wr/\O<=wr.heap.size/\Below w.heap.size w wr) (fun _ iv _=>nl-(intOf iv).toNat)
 case atStart=>exact ⟨0,io',ci',Nat.zero_le _,rfl,rfl,hm.out,hB,hO1,hb0.out⟩
 case round =>
  clear hm hB hb0 hO1
  obtain ⟨k,vo,cv,hk,rfl,rfl,hrow,hB,hOw,hb⟩:=hrel
  have hBc:=hB.cs
  by_cases hlt:k<nl
  ·obtain ⟨x,hx,b,o,rfl,hcx⟩:=(hl0.out.next hb).i64 hlt
   obtain ⟨l,hwk,rfl⟩:=z0u hx
   have hsn:=hid (q8t A hwk)
   have i1:(k:Int)<(nl:Int):=by omega
   have i0:(0:Int)<=(k:Int):=by omega
   have hl8:=q3y (A:=A) hli (word.take k)
   have ho8:=q7d (A:=A) hV.ini (word.take k)
   have hfv:Fl 8 wr vo A.st cv ((q7e A (word.take k)).map twC):=kG hrow (by rw [List.length_map]; exact hl8)
   have hmo:=h0.out.next hb
   clear hx hwk hrow
   replace hb:=hid hb
   go_upto_region 8 with fail
   have hdr:=(Below.refl wr.heap.size wr).drew
   replace hB:=hB.next hdr
   replace hb:=hid (qQ hb.out hdr)
   replace hfv:=hid (hfv.next hdr)
   replace hmo:=hid (hmo.next hdr)
   have hOd:O<=wr.drew.heap.size:=Nat.le_trans hOw hdr.size
   have hS:Cs wr.drew w.heap.size 0 (auC syms A.st (.slice io A.st ci) (.slice fo A.st cf) (.slice ro nr cr))/\Cs wr.drew b (o+k) [.int .i64 (l:Int)]:=⟨hB.cs,Cs.next (fun c v hv=>by match c,hv with | 0,hv=>cases hv; exact hcx:Cs wr b (o+k) [.int .i64 (l:Int)]) hdr⟩
   clear hcx hBc hOw hdr
   refine qV (fun w'=>Cs w' w.heap.size 0 (auC syms A.st (.slice io A.st ci) (.slice fo A.st cf) (.slice ro nr cr))/\Cs w' b (o+k) [.int .i64 (l:Int)]) [] (by kernel_rfl) ?_
   refine wAl 0 (some 24) (v:=?_) rfl rfl ?_ hS ?_
   rotate_left
   ·intro wz hw; skip; refine kH w.heap.size 0 ?_ (auC syms A.st (.slice io A.st ci) (.slice fo A.st cf) (.slice ro nr cr)) rfl hw.1; go_simp
   refine wAp 1 (some 25) rfl rfl hS ?_
   refine wAp 2 (some 26) rfl rfl hS ?_
   refine wAp 3 (some 27) rfl rfl hS ?_
   refine wAp 4 (some 28) rfl rfl hS ?_
   refine wAl 5 (some 29) (v:=?_) rfl rfl ?_ hS ?_
   rotate_left
   ·intro wz hw; skip; refine qW b (o+k) ?_ (.int .i64 (l:Int)) (hw.2 0 _ rfl); go_simp
   go_simp
   refine wpO (i:=6) rfl fun KK hKK=>?_
   go_simp
   go_at_call 80
   refine (j5r A syms hV l _ hl8 ho8 io ci fo cf ro nr cr vo cv _ hmo.out hfv.out).mono ?_; rintro e w3 ⟨rv,rfl,hr3,hb3⟩
   obtain ⟨vo3,cv3,hrv⟩:=hr3.form
   rw [List.length_map,q0x,List.length_replicate] at hrv
   subst hrv
   rw [<-hsn.out] at hr3
   have hr4:Hid (FO 45 8 w3 O (.slice vo3 A.st cv3) ((q7e A (word.take (k+1))).map twC)):=hid (hr3.mono hOd)
   have hO3:O<=w3.heap.size:=Nat.le_trans hOd hb3.size
   have hB3:=hid (hB.next hb3)
   have hb4:=hid (qQ hb.out hb3)
   try go_simp
   refine hKK _ _ ⟨fun _=>(⟨(hS).1.next hb3,(hS).2.next hb3⟩),?_⟩; clear hKK KK
   refine wAp 7 (some 7) rfl rfl (⟨(hS).1.next hb3,(hS).2.next hb3⟩) ?_
   refine qZ (by kernel_rfl) ?_ _
   clear hr3 hfv hmo hB hb hb3 hS
   go_wp2_with fail
   go_roundw
   case rel=>exact ⟨k+1,vo3,cv3,by omega,by go_num,rfl,hr4.out,hB3.out,hO3,hb4.out⟩
   case measure=>simp [intOf]; omega
  ·obtain rfl:k=nl:=by omega
   have i1:¬ (k:Int)<(k:Int):=by omega
   rw [List.take_of_length_le (by rw [hwn]; exact Nat.le_refl _)] at hrow
   have hrow:=hid hrow
   have hb:=hid hb
   go_wp2_with fail
   go_ret2
   exact ⟨⟨vo,cv,rfl,hrow.out.mono (Nat.le_of_lt hBw1)⟩,hb.out⟩
theorem j0b (syms:Nat) (A:Au) (hV:Vo syms A) (hli:A.ini.length=A.st) (hlf:A.fin.length=A.st) (hl1:∀ x∈A.arcs,1<=x.2.1) (word:List Nat) (hw:∀ l∈word,1<=l/\l<=syms) (hwl:word.length<=256) (io:OA) (ci:Nat) (fo:OA) (cf:Nat) (ro:OA) (nr cr:Nat) (lo:OA) (nl cl:Nat) (w:World) (h:Mo w syms A io ci fo cf ro nr cr) (hl:Sl w lo nl cl (j3w (wI word))) :
  Calls Tryz.prog 13 #[.agg (auC syms A.st (.slice io A.st ci) (.slice fo A.st cf) (.slice ro nr cr)).toArray,.slice lo nl cl] w fun e w'=>e=.returned (.tuple #[.agg #[.bool false,.slice none 0 0,.slice none 0 0,.int .i64 (tc (q4b A word):Int),.bool (ti (q4b A word)),.int .u64 0,.slice none 0 0,.slice none 0 0],.int .i64 0])/\Below w.heap.size w w':=by
 have hb0:Below w.heap.size w ((w.alloc (.cells (auC syms A.st (.slice io A.st ci) (.slice fo A.st cf) (.slice ro nr cr)).toArray 30)).alloc (.cells #[.bool false,.slice none 0 0,.slice none 0 0,.int .i64 0,.bool false,.int .u64 0,.slice none 0 0,.slice none 0 0] 45)):=qQ (qJ _) (qJ _)
 have hB:=(Bl.fresh w (auC syms A.st (.slice io A.st ci) (.slice fo A.st cf) (.slice ro nr cr)) 30).new (.cells #[.bool false,.slice none 0 0,.slice none 0 0,.int .i64 0,.bool false,.int .u64 0,.slice none 0 0,.slice none 0 0] 45)
 have hR:=Bl.fresh' (G:=w.heap.size+1) (w.alloc (.cells (auC syms A.st (.slice io A.st ci) (.slice fo A.st cf) (.slice ro nr cr)).toArray 30)) [.bool false,.slice none 0 0,.slice none 0 0,.int .i64 0,.bool false,.int .u64 0,.slice none 0 0,.slice none 0 0] 45 (by simp)
 have hff:=hid (h.next hb0).fin
 replace h:=hid (h.next hb0)
 replace hl:=hid (hl.next hb0)
 go_enter Tryz.func13,Tryz.ntmps13
 go_upto_region 1 with fail
 generalize hW1:((w.alloc (.cells (auC syms A.st (.slice io A.st ci) (.slice fo A.st cf) (.slice ro nr cr)).toArray 30)).alloc (.cells #[.bool false,.slice none 0 0,.slice none 0 0,.int .i64 0,.bool false,.int .u64 0,.slice none 0 0,.slice none 0 0] 45))=W1 at *
 have hRl:=hR.lt
 have hBc:=hB.cs
 clear hW1
 go_wp2_with ((with_reducible refine qM rfl _ rfl w.heap.size 0 ?_ (auC syms A.st (.slice io A.st ci) (.slice fo A.st cf) (.slice ro nr cr)) rfl hBc ?_); exact rfl)
 refine (q8f syms A hV hli hlf hl1 word hw hwl io ci fo cf ro nr cr lo nl cl _ h.out hl.out).mono ?_; rintro e w1 ⟨⟨vo,cv,rfl,hrow⟩,hb1⟩
 replace hB:=hB.next hb1
 replace hR:=hR.next hb1
 replace hff:=hff.out.next hb1
 replace hb0:=hid (qQ hb0 hb1)
 clear hBc h hl hb1
 obtain ⟨⟨a0,a1,a2,a3⟩,a4,a5,a6⟩:=hB.seven
 have hfv:=kG hrow (by rw [List.length_map]; exact q3y (A:=A) hli word)
 clear hrow
 go_wp2_with fail
 refine (j9c (q7e A word) A.fin (q7d (A:=A) hV.ini word) hV.fin A.st vo fo cv cf _ hfv hff).mono ?_; rintro e w4 ⟨rfl,hb4⟩
 replace hR:=hR.next hb4
 replace hb0:=hid (qQ hb0.out hb4)
 clear hB hff hfv hb4 a0 a1 a2 a3 a4 a5 a6
 obtain ⟨d,hd⟩:∃ d,q7f (q7e A word) A.fin A.st=d:=⟨_,rfl⟩
 rw [hd]
 go_wp2_with ((with_reducible refine jJ rfl _ _ rfl (w.heap.size+1) 45 _ hR ?_ d rfl ?_ ?_); exact rfl; exact rfl; intro w9 hR9 hfr9)
 refine bodyPost_ret (jY rfl _ _ (w.heap.size+1) (twC d) _ rfl hR9.cs Tryz.underlying45 rfl Tryz.sizeTw) rfl ⟨?_,hb0.out.trans (hfr9.below (fun k e=>by omega) hb0.out.size)⟩
 rw [show q4b A word=d from hd]; rfl
end
section
theorem j2b {A:Au} {syms C:Nat} (hA:Aok A syms) (hC:∀ x∈A.arcs,cst x<=C):∀ (word:List Nat) (v:List Tw) (B:Nat),v.length=A.st->Bd B v->B+C*word.length<=1099511627776 ->
  word.foldl (fun v l=>q2w l v A.arcs (List.replicate A.st none)) v=word.foldl (q0p A) v/\(word.foldl (q0p A) v).length=A.st/\Bd (B+C*word.length) (word.foldl (q0p A) v)
 | [],v,B,hl,hb,_=>⟨rfl,hl,by rw [List.length_nil,Nat.mul_zero]; exact hb⟩
 | l::word,v,B,hl,hb,hB=>by
  rw [List.length_cons,Nat.mul_succ] at hB
  have e:=j4x (l:=l) (B:=B) (C:=C) hA hC hb hl (by omega)
  have ih:=j2b hA hC word (q0p A v l) (B+C) (by rw [q2i]; exact hl) (z0k hC hb) (by omega)
  rw [List.foldl_cons,List.foldl_cons,e]
  refine ⟨ih.1,ih.2.1,?_⟩
  rw [List.length_cons,Nat.mul_succ,show B+(C*word.length+C)=B+C+C*word.length by omega]
  exact ih.2.2
theorem j1f {A:Au} {syms C F:Nat} (hA:Aok A syms) (hC:∀ x∈A.arcs,cst x<=C) (hi:Bd C A.ini) (hf:Bd F A.fin) (word:List Nat) (hb:C+C*word.length+F<=1099511627776):q4b A word=j8e A word:=by
 obtain ⟨h1,h2,h3⟩:=j2b hA hC word A.ini C hA.ini hi (by omega)
 unfold q4b j8e q7e z6o
 rw [h1]
 have hl:(word.foldl (q0p A) A.ini).length=A.fin.length:=by rw [h2,hA.fin]
 have h:=z0c hl (fun i x y e1 e2=>by
  have a:=h3 x (List.mem_of_getElem? e1)
  have b:=hf y (List.mem_of_getElem? e2)
  omega)
 rw [h2] at h
 exact h
end
section
theorem z0d {most syms:Nat} {sg:Bool} {A B:Au} (h:AuO most syms sg A) {K:List Ac} {us:List Bool} (hK:Nf K A.arcs) (hu:q6j us ⟨A.st,A.ini,A.fin,K.filter nz⟩) (hd:q1v syms us ⟨A.st,A.ini,A.fin,K.filter nz⟩=some B) :
  (∀ x∈B.arcs,1<=x.2.1)/\Ss B.arcs/\Uq B.arcs/\(∀ q c,B.ini[q]? = some (some c)->q=0)/\∀ (C:List Ac) (word:List Nat),Nf C A.arcs->(∀ l∈word,1<=l/\l<=syms)->word.length<=256->q4b (kA A C) word=q4b B word:=by
 obtain ⟨hA,hc⟩:=h.aok hK
 have hi:∀ w∈A.ini,∀ r,w=some r->r<=5:=fun w hw r e=>q6n (h.bi w hw) e
 have hf:∀ w∈A.fin,∀ r,w=some r->r<=5:=fun w hw r e=>q6n (h.bf w hw) e
 obtain ⟨h1,h2,h3,h4,h5,h6,h7,h8⟩:=q8z hA hu hc hi hf hd
 obtain ⟨k1,k2,k3⟩:=j7j hA hu hc hi hd
 refine ⟨fun x hx=>(h1.arc x hx).2.2.1,h2,k1,k2,fun C word hC hw hl=>?_⟩
 obtain rfl:=hC.unique hK
 have e1:=j1f (A:=kA A C) (C:=5) (F:=5) hA hc (fun r hr=>hi _ hr r rfl) (fun r hr=>hf _ hr r rfl) word (by omega)
 have e2:=j1f (A:=B) (C:=330) (F:=330) h1 h6 (fun r hr=>by have:=h7 _ hr r rfl; omega) (fun r hr=>h8 _ hr r rfl) word (by omega)
 rw [e1,e2,k3 word hw]
end
section
open Go.RowKit
theorem z6c {L:List Ac} (h:Ss L) {i k:Nat} {x y:Ac} (hx:L[i]? = some x) (hy:L[k]? = some y) (hk:k<i):y≠x:=by
 have key:∀ {L:List Ac} {i k:Nat} {x y:Ac},Ss L->L[i]? = some x->L[k]? = some y->k<i->klt (ky y) (ky x):=by
  intro L
  induction L with
  | nil=>intro i k x y _ hx; simp at hx
  | cons z r ih =>
   intro i k x y h hx hy hk
   cases i with
   | zero=>omega
   | succ i =>
    rw [List.getElem?_cons_succ] at hx
    cases k with
    | zero =>
     obtain rfl:z=y:=by simpa using hy
     exact h.1 x (List.mem_of_getElem? hx)
    | succ k =>
     rw [List.getElem?_cons_succ] at hy
     exact ih h.2 hx hy (by omega)
 intro e
 subst e
 exact zJ _ (key h hx hy hk)
theorem q5m (syms:Nat) (B:Au) (hst:B.st<=64) (hno:B.arcs.length<=2048) (hss:Ss B.arcs) (huq:Uq B.arcs) (hi0:∀ q c,B.ini[q]? = some (some c)->q=0) (io:OA) (ci:Nat) (fo:OA) (cf:Nat) (ro:OA) (nr cr:Nat) (w:World) (h:Mo w syms B io ci fo cf ro nr cr) :
  Calls Tryz.prog 16 #[.agg (auC syms B.st (.slice io B.st ci) (.slice fo B.st cf) (.slice ro nr cr)).toArray] w fun e w'=>e=.returned (.bool true)/\Below w.heap.size w w':=by
 have hnr:=hid h.arcs.lenMap
 have hnr2:nr<=2048:=by have:=h.arcs.lenMap; omega
 have hb0:Below w.heap.size w (w.alloc (.cells (auC syms B.st (.slice io B.st ci) (.slice fo B.st cf) (.slice ro nr cr)).toArray 30)):=qJ _
 have hB:=Bl.fresh w (auC syms B.st (.slice io B.st ci) (.slice fo B.st cf) (.slice ro nr cr)) 30
 replace h:=hid (h.next hb0)
 go_enter Tryz.func16,Tryz.ntmps16
 go_upto_region 1 with fail
 generalize hW1:(w.alloc (.cells (auC syms B.st (.slice io B.st ci) (.slice fo B.st cf) (.slice ro nr cr)).toArray 30))=W1 at *
 clear hW1
 obtain ⟨⟨a0,a1,a2,a3⟩,a4,a5,a6⟩:=hB.seven
 go_wp2_with fail
 go_loopw [3,4] (fun sv iv wr=>∃ k s:Nat,k<=B.st/\iv=.int .i64 (k:Int)/\sv=.int .i64 (s:Int)/\Hid (s<=1/\(k=0->s=0))/\W1=wr) (fun _ iv _=>B.st-(intOf iv).toNat)
 case atStart=>exact ⟨0,0,Nat.zero_le _,rfl,rfl,hid ⟨Nat.zero_le _,fun _=>rfl⟩,rfl⟩
 case round =>
  obtain ⟨k,s,hk,rfl,rfl,hs,rfl⟩:=hrel
  have hs1:=hs.out.1
  by_cases hlt:k<B.st
  ·obtain ⟨x,hxk,b,off,rfl,hcs⟩:=h.out.ini.get hlt
   have i1:(k:Int)<(B.st:Int):=by omega
   have i0:(0:Int)<=(k:Int):=by omega
   have x4:=hcs 4 _ rfl
   cases x with
   | none =>
    replace hs:=hid (show s<=1/\(k+1=0->s=0) from ⟨hs1,fun e=>by omega⟩)
    go_wp2_with fail
    go_roundw
    case rel=>exact ⟨k+1,s,by omega,by go_num,rfl,hs,trivial⟩
    case measure=>simp [intOf]; omega
   | some c =>
    obtain rfl:=hi0 k c hxk
    obtain rfl:=hs.out.2 rfl
    go_wp2_with fail
    go_roundw
    case rel=>exact ⟨1,1,by omega,rfl,rfl,hid ⟨Nat.le_refl _,fun e=>by omega⟩,trivial⟩
    case measure=>simp [intOf]; omega
  ·obtain rfl:k=B.st:=by omega
   have i1:¬ (B.st:Int)<(B.st:Int):=by omega
   have c1:(s:Int)<=1:=by omega
   go_wp2_with fail
   go_loopw [5] (fun iv wr=>∃ i:Nat,i<=nr/\iv=.int .i64 (i:Int)/\Bl w.heap.size (auC syms B.st (.slice io B.st ci) (.slice fo B.st cf) (.slice ro nr cr)) 30 wr/\Mo wr syms B io ci fo cf ro nr cr/\Below w.heap.size w wr) (fun iv _=>nr-(intOf iv).toNat)
   case atStart=>exact ⟨0,Nat.zero_le _,rfl,hB,h.out,hb0⟩
   case round =>
    clear hB h hb0 a0 a1 a2 a3 a4 a5 a6 i1
    obtain ⟨i,hi,rfl,hB,h,hb⟩:=hrel
    obtain ⟨⟨a0,a1,a2,a3⟩,a4,a5,a6⟩:=hB.seven
    by_cases hlt:i<nr
    ·have i1:(i:Int)<(nr:Int):=by omega
     have i0:(0:Int)<=(i:Int):=by omega
     obtain ⟨x,hxi,b,o,rfl,_⟩:=h.arcs.get hlt
     have h:=hid h
     have hb:=hid hb
     go_wp2_with fail
     go_loopw [6] (fun kv wr=>∃ k:Nat,k<=i/\kv=.int .i64 (k:Int)/\Bl w.heap.size (auC syms B.st (.slice io B.st ci) (.slice fo B.st cf) (.slice (some ⟨b,o,none⟩) nr cr)) 30 wr/\Mo wr syms B io ci fo cf (some ⟨b,o,none⟩) nr cr/\Below w.heap.size w wr) (fun kv _=>i-(intOf kv).toNat)
     case atStart=>exact ⟨0,Nat.zero_le _,rfl,hB,h.out,hb.out⟩
     case round =>
      clear hB h hb a0 a1 a2 a3 a4 a5 a6
      obtain ⟨k,hk,rfl,hB,h,hb⟩:=hrel
      by_cases hlk:k<i
      ·have k1:(k:Int)<(i:Int):=by omega
       have k0:(0:Int)<=(k:Int):=by omega
       have k2:(k:Int)<(nr:Int):=by omega
       obtain ⟨y,hyk,b1,o1,e1,hcy⟩:=h.arcs.get (i:=k) (by omega)
       cases e1
       obtain ⟨x',hxi',b2,o2,e2,hcx⟩:=h.arcs.get hlt
       cases e2
       rw [hxi] at hxi'
       cases hxi'
       have hne:=z6c hss hxi hyk hlk
       have hnk:¬ (y.1=x.1/\y.2.1=x.2.1):=fun e=>hne (huq y (List.mem_of_getElem? hyk) x (List.mem_of_getElem? hxi) e.1 e.2)
       clear hne hyk
       go_upto_region 13 with fail
       have hdr:=(Below.refl wr.heap.size wr).drew
       replace hB:=hB.next hdr
       replace h:=hid (h.next hdr)
       replace hb:=hid (qQ hb hdr)
       have hS:Cs wr.drew w.heap.size 0 (auC syms B.st (.slice io B.st ci) (.slice fo B.st cf) (.slice (some ⟨b,o,none⟩) nr cr))/\Cs wr.drew b (o+k*11) (acC y)/\Cs wr.drew b (o+i*11) (acC x):=⟨hB.cs,hcy.next hdr,hcx.next hdr⟩
       replace hB:=hid hB
       clear hcy hcx hdr
       by_cases hf:y.1=x.1
       ·have hl2:¬ y.2.1=x.2.1:=fun e=>hnk ⟨hf,e⟩
        have f1:(y.1:Int)=(x.1:Int):=by omega
        have f2:¬ (y.2.1:Int)=(x.2.1:Int):=by omega
        refine qV (fun w'=>Cs w' w.heap.size 0 (auC syms B.st (.slice io B.st ci) (.slice fo B.st cf) (.slice (some ⟨b,o,none⟩) nr cr))/\Cs w' b (o+k*11) (acC y)/\Cs w' b (o+i*11) (acC x)) [] (by kernel_rfl) ?_
        refine wAp 0 (some 34) rfl rfl hS ?_
        refine wAl 1 (some 35) (v:=?_) rfl rfl ?_ hS ?_
        rotate_left
        ·intro wz hw; skip; refine qK w.heap.size 6 ?_ (.slice (some ⟨b,o,none⟩) nr cr) (hw.1 6 _ rfl) _ Tryz.underlying28 (by rfl); go_simp
        refine wAp 2 (some 36) rfl rfl hS ?_
        refine wAp 3 (some 37) rfl rfl hS ?_
        refine wAp 4 (some 38) rfl rfl hS ?_
        refine wAl 5 (some 39) (v:=?_) rfl rfl ?_ hS ?_
        rotate_left
        ·intro wz hw; skip; refine qW b (o+k*11) ?_ (.int .i64 ((y.1:Nat):Int)) (hw.2.1 0 _ rfl); go_simp
        refine wAp 6 (some 40) rfl rfl hS ?_
        refine wAl 7 (some 41) (v:=?_) rfl rfl ?_ hS ?_
        rotate_left
        ·intro wz hw; skip; refine qK w.heap.size 6 ?_ (.slice (some ⟨b,o,none⟩) nr cr) (hw.1 6 _ rfl) _ Tryz.underlying28 (by rfl); go_simp
        refine wAp 8 (some 42) rfl rfl hS ?_
        refine wAp 9 (some 43) rfl rfl hS ?_
        refine wAp 10 (some 44) rfl rfl hS ?_
        refine wAl 11 (some 45) (v:=?_) rfl rfl ?_ hS ?_
        rotate_left
        ·intro wz hw; skip; refine qW b (o+i*11) ?_ (.int .i64 ((x.1:Nat):Int)) (hw.2.2 0 _ rfl); go_simp
        refine wAl 12 (some 46) (v:=.bool true) rfl rfl ?_ hS ?_
        ·intro wz _; first | (go_simp; done) | (go_simp; with_reducible rfl)
        refine wAp 13 (some 47) rfl rfl hS ?_
        refine wAg 14 (some 48) rfl rfl hS ?_
        refine wAm 15 (some 49) (v:=?_) rfl rfl ?_ hS ?_
        rotate_left
        ·intro wz hw; skip; refine qK w.heap.size 6 ?_ (.slice (some ⟨b,o,none⟩) nr cr) (hw.1 6 _ rfl) _ Tryz.underlying28 (by rfl); go_simp
        refine wAg 16 (some 50) rfl rfl hS ?_
        refine wAg 17 (some 51) rfl rfl hS ?_
        refine wAg 18 (some 52) rfl rfl hS ?_
        refine wAm 19 (some 53) (v:=?_) rfl rfl ?_ hS ?_
        rotate_left
        ·intro wz hw; skip; refine qW b (o+k*11+1) ?_ (.int .i64 ((y.2.1:Nat):Int)) (hw.2.1 1 _ rfl); go_simp
        refine wAg 20 (some 54) rfl rfl hS ?_
        refine wAm 21 (some 55) (v:=?_) rfl rfl ?_ hS ?_
        rotate_left
        ·intro wz hw; skip; refine qK w.heap.size 6 ?_ (.slice (some ⟨b,o,none⟩) nr cr) (hw.1 6 _ rfl) _ Tryz.underlying28 (by rfl); go_simp
        refine wAg 22 (some 56) rfl rfl hS ?_
        refine wAg 23 (some 57) rfl rfl hS ?_
        refine wAg 24 (some 58) rfl rfl hS ?_
        refine wAm 25 (some 59) (v:=?_) rfl rfl ?_ hS ?_
        rotate_left
        ·intro wz hw; skip; refine qW b (o+i*11+1) ?_ (.int .i64 ((x.2.1:Nat):Int)) (hw.2.2 1 _ rfl); go_simp
        refine wAm 26 (some 60) (v:=.bool false) rfl rfl ?_ hS ?_
        ·intro wz _; first | (go_simp; done) | (go_simp; with_reducible rfl)
        refine wAl 27 (some 61) (v:=.bool false) rfl rfl ?_ hS ?_
        ·intro wz _; first | (go_simp; done) | (go_simp; with_reducible rfl)
        go_simp
        refine qZ (by kernel_rfl) ?_ _
        go_wp2_with fail
        go_roundw
        case rel=>exact ⟨k+1,by omega,by go_num,hB.out,h.out,hb.out⟩
        case measure=>simp [intOf]; omega
       ·have f1:¬ (y.1:Int)=(x.1:Int):=by omega
        refine qV (fun w'=>Cs w' w.heap.size 0 (auC syms B.st (.slice io B.st ci) (.slice fo B.st cf) (.slice (some ⟨b,o,none⟩) nr cr))/\Cs w' b (o+k*11) (acC y)/\Cs w' b (o+i*11) (acC x)) [] (by kernel_rfl) ?_
        refine wAp 0 (some 34) rfl rfl hS ?_
        refine wAl 1 (some 35) (v:=?_) rfl rfl ?_ hS ?_
        rotate_left
        ·intro wz hw; skip; refine qK w.heap.size 6 ?_ (.slice (some ⟨b,o,none⟩) nr cr) (hw.1 6 _ rfl) _ Tryz.underlying28 (by rfl); go_simp
        refine wAp 2 (some 36) rfl rfl hS ?_
        refine wAp 3 (some 37) rfl rfl hS ?_
        refine wAp 4 (some 38) rfl rfl hS ?_
        refine wAl 5 (some 39) (v:=?_) rfl rfl ?_ hS ?_
        rotate_left
        ·intro wz hw; skip; refine qW b (o+k*11) ?_ (.int .i64 ((y.1:Nat):Int)) (hw.2.1 0 _ rfl); go_simp
        refine wAp 6 (some 40) rfl rfl hS ?_
        refine wAl 7 (some 41) (v:=?_) rfl rfl ?_ hS ?_
        rotate_left
        ·intro wz hw; skip; refine qK w.heap.size 6 ?_ (.slice (some ⟨b,o,none⟩) nr cr) (hw.1 6 _ rfl) _ Tryz.underlying28 (by rfl); go_simp
        refine wAp 8 (some 42) rfl rfl hS ?_
        refine wAp 9 (some 43) rfl rfl hS ?_
        refine wAp 10 (some 44) rfl rfl hS ?_
        refine wAl 11 (some 45) (v:=?_) rfl rfl ?_ hS ?_
        rotate_left
        ·intro wz hw; skip; refine qW b (o+i*11) ?_ (.int .i64 ((x.1:Nat):Int)) (hw.2.2 0 _ rfl); go_simp
        refine wAl 12 (some 46) (v:=.bool false) rfl rfl ?_ hS ?_
        ·intro wz _; first | (go_simp; done) | (go_simp; with_reducible rfl)
        refine wAp 13 (some 47) rfl rfl hS ?_
        refine wAu 14 (some 48) rfl rfl hS ?_
        refine wAu 15 (some 49) rfl rfl hS ?_
        refine wAu 16 (some 50) rfl rfl hS ?_
        refine wAu 17 (some 51) rfl rfl hS ?_
        refine wAu 18 (some 52) rfl rfl hS ?_
        refine wAu 19 (some 53) rfl rfl hS ?_
        refine wAu 20 (some 54) rfl rfl hS ?_
        refine wAu 21 (some 55) rfl rfl hS ?_
        refine wAu 22 (some 56) rfl rfl hS ?_
        refine wAu 23 (some 57) rfl rfl hS ?_
        refine wAu 24 (some 58) rfl rfl hS ?_
        refine wAu 25 (some 59) rfl rfl hS ?_
        refine wAu 26 (some 60) rfl rfl hS ?_
        refine wAl 27 (some 61) (v:=.bool false) rfl rfl ?_ hS ?_
        ·intro wz _; first | (go_simp; done) | (go_simp; with_reducible rfl)
        go_simp
        refine qZ (by kernel_rfl) ?_ _
        go_wp2_with fail
        go_roundw
        case rel=>exact ⟨k+1,by omega,by go_num,hB.out,h.out,hb.out⟩
        case measure=>simp [intOf]; omega
      ·obtain rfl:k=i:=by omega
       have k1:¬ (k:Int)<(k:Int):=by omega
       have h:=hid h
       have hb:=hid hb
       go_wp2_with fail
       go_roundw
       case rel=>exact ⟨k+1,by omega,by go_num,hB,h.out,hb.out⟩
       case measure=>simp [intOf]; omega
    ·obtain rfl:i=nr:=by omega
     have i1:¬ (i:Int)<(i:Int):=by omega
     have hb:=hid hb
     go_wp2_with fail
     go_ret
     exact ⟨rfl,hb.out⟩
end
end Go.Proofs.YtnapapijhhldpaaGreatDoor

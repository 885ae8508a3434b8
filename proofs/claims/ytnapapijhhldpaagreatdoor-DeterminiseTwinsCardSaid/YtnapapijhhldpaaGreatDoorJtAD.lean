/-
  Texts joined by program: Bl, Twb, Twc. No condition of its own.
-/
import Derived.Test.YtnapapijhhldpaaGreatDoorJtAC
namespace Go.Proofs.YtnapapijhhldpaaGreatDoor
set_option linter.unusedSimpArgs false
set_option linter.unusedVariables false
set_option maxRecDepth 100000
set_option maxHeartbeats 4000000
section
open Go.RowKit
def Bl (G:Nat) (cs:List Value) (T:TypeId) (w:World):Prop:=w.heap[G]? = some (.cells cs.toArray T (0,0))
section
variable {G:Nat} {cs:List Value} {T:TypeId} {w w':World}
theorem Bl.lt (h:Bl G cs T w):G<w.heap.size:=(Array.getElem?_eq_some_iff.1 h).1
theorem Bl.next (h:Bl G cs T w) (hb:Below w.heap.size w w'):Bl G cs T w':=by
 have:=h.lt
 unfold Bl at *; rw [hb.block G this]; exact h
theorem Bl.under {B:Nat} (h:Bl G cs T w) (hb:Below B w w') (hB:G<B):Bl G cs T w':=by
 unfold Bl at *; rw [hb.block G hB]; exact h
theorem Bl.fr {S:Nat->Prop} (h:Bl G cs T w) (hf:Fr S w w') (hG:¬ S G):Bl G cs T w':=by
 have:=h.lt
 unfold Bl at *; rw [hf.block G this hG]; exact h
theorem Bl.new (h:Bl G cs T w) (o:Obj):Bl G cs T (w.alloc o):=h.next (below_alloc o)
theorem Bl.fresh (w:World) (cs:List Value) (T:TypeId):Bl w.heap.size cs T (w.alloc (.cells cs.toArray T)):=heap_alloc_new w _
theorem Bl.fresh' (w:World) (cs:List Value) (T:TypeId) (hG:w.heap.size=G):Bl G cs T (w.alloc (.cells cs.toArray T)):=by subst hG; exact Bl.fresh w cs T
theorem Bl.cell (h:Bl G cs T w) {i:Nat} {v:Value} (hi:cs[i]? = some v):w.cell? ⟨G,i,none⟩=some v:=by
 unfold Bl at h
 simp [World.cell?,h,hi]
theorem Bl.free (h:Bl G cs T w) (i:Nat):w.frozen? ⟨G,i,none⟩=false:=by
 unfold Bl at h
 simp [World.frozen?,h]
theorem Bl.put (h:Bl G cs T w) (i:Nat) (v:Value):Bl G (cs.set i v) T (w.setCell ⟨G,i,none⟩ v):=by
 have hh:=heap_setCell_same w G i _ T v h
 unfold Bl
 rw [hh]
 simp
theorem Bl.off (h:Bl G cs T w) {p:Addr} (hp:G≠p.block) (v:Value):Bl G cs T (w.setCell p v):=by
 unfold Bl at *
 rw [Below.heap_setCell _ _ _ _ hp]; exact h
theorem Bl.drewN (h:Bl G cs T w) (n:Nat):Bl G cs T (w.drewN n):=h
end
theorem Bl.two {G:Nat} {a b:Value} {T:TypeId} {w:World} (h:Bl G [a,b] T w):w.cell? ⟨G,0,none⟩=some a/\w.cell? ⟨G,1,none⟩=some b:=⟨h.cell rfl,h.cell rfl⟩
theorem Bl.eight {G:Nat} {a b c d e f g k:Value} {T:TypeId} {w:World} (h:Bl G [a,b,c,d,e,f,g,k] T w) :
  (w.cell? ⟨G,0,none⟩=some a/\w.cell? ⟨G,1,none⟩=some b/\w.cell? ⟨G,2,none⟩=some c/\w.cell? ⟨G,3,none⟩=some d)/\w.cell? ⟨G,4,none⟩=some e/\w.cell? ⟨G,5,none⟩=some f/\w.cell? ⟨G,6,none⟩=some g/\w.cell? ⟨G,7,none⟩=some k :=
 ⟨⟨h.cell rfl,h.cell rfl,h.cell rfl,h.cell rfl⟩,h.cell rfl,h.cell rfl,h.cell rfl,h.cell rfl⟩
theorem Bl.put8 {G:Nat} {a b c d e f g k:Value} {T:TypeId} {w:World} (h:Bl G [a,b,c,d,e,f,g,k] T w) (a' b' c' d' e' f' g' k':Value) :
  Bl G [a',b',c',d',e',f',g',k'] T ((((((((w.setCell ⟨G,0,none⟩ a').setCell ⟨G,1,none⟩ b').setCell ⟨G,2,none⟩ c').setCell ⟨G,3,none⟩ d').setCell ⟨G,4,none⟩ e').setCell ⟨G,5,none⟩ f').setCell ⟨G,6,none⟩ g').setCell ⟨G,7,none⟩ k') :=
 (((((((h.put 0 a').put 1 b').put 2 c').put 3 d').put 4 e').put 5 f').put 6 g').put 7 k'
theorem below8 {B G:Nat} {v w:World} (h:Below B v w) (hG:B<=G) (a' b' c' d' e' f' g' k':Value):Below B v ((((((((w.setCell ⟨G,0,none⟩ a').setCell ⟨G,1,none⟩ b').setCell ⟨G,2,none⟩ c').setCell ⟨G,3,none⟩ d').setCell ⟨G,4,none⟩ e').setCell ⟨G,5,none⟩ f').setCell ⟨G,6,none⟩ g').setCell ⟨G,7,none⟩ k') :=
 (((((((h.setCell hG a').setCell hG b').setCell hG c').setCell hG d').setCell hG e').setCell hG f').setCell hG g').setCell hG k'
theorem Bl.free8 {G:Nat} {cs:List Value} {T:TypeId} {w:World} (h:Bl G cs T w) :
  (w.frozen? ⟨G,0,none⟩=false/\w.frozen? ⟨G,1,none⟩=false/\w.frozen? ⟨G,2,none⟩=false/\w.frozen? ⟨G,3,none⟩=false)/\w.frozen? ⟨G,4,none⟩=false/\w.frozen? ⟨G,5,none⟩=false/\w.frozen? ⟨G,6,none⟩=false/\w.frozen? ⟨G,7,none⟩=false :=
 ⟨⟨h.free 0,h.free 1,h.free 2,h.free 3⟩,h.free 4,h.free 5,h.free 6,h.free 7⟩
theorem Bl.nine {G:Nat} {a b c d e f g k l:Value} {T:TypeId} {w:World} (h:Bl G [a,b,c,d,e,f,g,k,l] T w) :
  (w.cell? ⟨G,0,none⟩=some a/\w.cell? ⟨G,1,none⟩=some b/\w.cell? ⟨G,2,none⟩=some c/\w.cell? ⟨G,3,none⟩=some d)/\w.cell? ⟨G,4,none⟩=some e/\w.cell? ⟨G,5,none⟩=some f/\w.cell? ⟨G,6,none⟩=some g/\w.cell? ⟨G,7,none⟩=some k/\w.cell? ⟨G,8,none⟩=some l :=
 ⟨⟨h.cell rfl,h.cell rfl,h.cell rfl,h.cell rfl⟩,h.cell rfl,h.cell rfl,h.cell rfl,h.cell rfl,h.cell rfl⟩
theorem Bl.put9 {G:Nat} {a b c d e f g k l:Value} {T:TypeId} {w:World} (h:Bl G [a,b,c,d,e,f,g,k,l] T w) (a' b' c' d' e' f' g' k' l':Value) :
  Bl G [a',b',c',d',e',f',g',k',l'] T (((((((((w.setCell ⟨G,0,none⟩ a').setCell ⟨G,1,none⟩ b').setCell ⟨G,2,none⟩ c').setCell ⟨G,3,none⟩ d').setCell ⟨G,4,none⟩ e').setCell ⟨G,5,none⟩ f').setCell ⟨G,6,none⟩ g').setCell ⟨G,7,none⟩ k').setCell ⟨G,8,none⟩ l') :=
 ((((((((h.put 0 a').put 1 b').put 2 c').put 3 d').put 4 e').put 5 f').put 6 g').put 7 k').put 8 l'
theorem below9 {B G:Nat} {v w:World} (h:Below B v w) (hG:B<=G) (a' b' c' d' e' f' g' k' l':Value):Below B v (((((((((w.setCell ⟨G,0,none⟩ a').setCell ⟨G,1,none⟩ b').setCell ⟨G,2,none⟩ c').setCell ⟨G,3,none⟩ d').setCell ⟨G,4,none⟩ e').setCell ⟨G,5,none⟩ f').setCell ⟨G,6,none⟩ g').setCell ⟨G,7,none⟩ k').setCell ⟨G,8,none⟩ l') :=
 ((((((((h.setCell hG a').setCell hG b').setCell hG c').setCell hG d').setCell hG e').setCell hG f').setCell hG g').setCell hG k').setCell hG l'
theorem Bl.seven {G:Nat} {a b c d e f g:Value} {T:TypeId} {w:World} (h:Bl G [a,b,c,d,e,f,g] T w) :
  (w.cell? ⟨G,0,none⟩=some a/\w.cell? ⟨G,1,none⟩=some b/\w.cell? ⟨G,2,none⟩=some c/\w.cell? ⟨G,3,none⟩=some d)/\w.cell? ⟨G,4,none⟩=some e/\w.cell? ⟨G,5,none⟩=some f/\w.cell? ⟨G,6,none⟩=some g :=
 ⟨⟨h.cell rfl,h.cell rfl,h.cell rfl,h.cell rfl⟩,h.cell rfl,h.cell rfl,h.cell rfl⟩
theorem Bl.eleven {G:Nat} {x y z a b c d e f g k:Value} {T:TypeId} {w:World} (h:Bl G [x,y,z,a,b,c,d,e,f,g,k] T w) :
  (w.cell? ⟨G,0,none⟩=some x/\w.cell? ⟨G,1,none⟩=some y/\w.cell? ⟨G,2,none⟩=some z/\w.cell? ⟨G,3,none⟩=some a)/\(w.cell? ⟨G,4,none⟩=some b/\w.cell? ⟨G,5,none⟩=some c/\w.cell? ⟨G,6,none⟩=some d/\w.cell? ⟨G,7,none⟩=some e)/\w.cell? ⟨G,8,none⟩=some f/\w.cell? ⟨G,9,none⟩=some g/\w.cell? ⟨G,10,none⟩=some k :=
 ⟨⟨h.cell rfl,h.cell rfl,h.cell rfl,h.cell rfl⟩,⟨h.cell rfl,h.cell rfl,h.cell rfl,h.cell rfl⟩,h.cell rfl,h.cell rfl,h.cell rfl⟩
end
section
open Go.RowKit
theorem rValidT_any (w:World):Calls Tryz.prog 49 #[.agg #[.int .i64 2,.slice none 0 0]] w fun e w'=>e=.returned (.bool true)/\Below w.heap.size w w':=by
 have hb0:Below w.heap.size w (w.alloc (.cells #[.int .i64 2,.slice none 0 0] 26)):=below_alloc _
 go_enter Tryz.func49,Tryz.ntmps49
 go_wp2_with fail
 go_ret
 exact ⟨rfl,hb0⟩
theorem rZeroT_any (w:World):Calls Tryz.prog 22 #[.agg #[.int .i64 2,.slice none 0 0]] w fun e w'=>e=.returned (.agg #[.bool false,.slice none 0 0,.slice none 0 0,.int .i64 0,.bool true,.int .u64 0,.slice none 0 0,.slice none 0 0])/\Below w.heap.size w w':=by
 have hR:=((Bl.fresh w [.int .i64 2,.slice none 0 0] 26).new (.cells #[.bool false,.slice none 0 0,.slice none 0 0,.int .i64 0,.bool false,.int .u64 0,.slice none 0 0,.slice none 0 0] 45)).new (.cells #[.bool false,.slice none 0 0,.slice none 0 0,.int .i64 0,.bool false,.int .u64 0,.slice none 0 0,.slice none 0 0] 45)
 have hO:=(Bl.fresh' (G:=w.heap.size+1) (w.alloc (.cells #[.int .i64 2,.slice none 0 0] 26)) [.bool false,.slice none 0 0,.slice none 0 0,.int .i64 0,.bool false,.int .u64 0,.slice none 0 0,.slice none 0 0] 45 (by simp)).new (.cells #[.bool false,.slice none 0 0,.slice none 0 0,.int .i64 0,.bool false,.int .u64 0,.slice none 0 0,.slice none 0 0] 45)
 have hZ:=Bl.fresh' (G:=w.heap.size+1+1) ((w.alloc (.cells #[.int .i64 2,.slice none 0 0] 26)).alloc (.cells #[.bool false,.slice none 0 0,.slice none 0 0,.int .i64 0,.bool false,.int .u64 0,.slice none 0 0,.slice none 0 0] 45)) [.bool false,.slice none 0 0,.slice none 0 0,.int .i64 0,.bool false,.int .u64 0,.slice none 0 0,.slice none 0 0] 45 (by simp)
 have hb0:Below w.heap.size w (((w.alloc (.cells #[.int .i64 2,.slice none 0 0] 26)).alloc (.cells #[.bool false,.slice none 0 0,.slice none 0 0,.int .i64 0,.bool false,.int .u64 0,.slice none 0 0,.slice none 0 0] 45)).alloc (.cells #[.bool false,.slice none 0 0,.slice none 0 0,.int .i64 0,.bool false,.int .u64 0,.slice none 0 0,.slice none 0 0] 45)):=below_chain (below_chain (below_alloc _) (below_alloc _)) (below_alloc _)
 go_enter Tryz.func22,Tryz.ntmps22
 go_wp2_with fail
 refine (rValidT_any _).mono ?_; rintro e w1 ⟨rfl,hb1⟩
 replace hR:=hR.next hb1
 replace hO:=hO.next hb1
 replace hZ:=hZ.next hb1
 have hb:=below_chain hb0 hb1
 obtain ⟨r0,r1⟩:=hR.two
 obtain ⟨⟨z0,z1,z2,z3⟩,z4,z5,z6,z7⟩:=hZ.eight
 have hz4:=hZ.free 4
 obtain ⟨⟨f0,f1,f2,f3⟩,f4,f5,f6,f7⟩:=hO.free8
 obtain ⟨⟨o0,o1,o2,o3⟩,o4,o5,o6,o7⟩:=hO.eight
 have hO2:=(hO.off (p:=⟨w.heap.size+1+1,4,none⟩) (by show w.heap.size+1≠w.heap.size+1+1; omega) (.bool true)).put8 (.bool false) (.slice none 0 0) (.slice none 0 0) (.int .i64 0) (.bool true) (.int .u64 0) (.slice none 0 0) (.slice none 0 0)
 have HO:=hid hO2.eight
 have hb2:=below8 (hb.setCell (p:=⟨w.heap.size+1+1,4,none⟩) (by show w.heap.size<=w.heap.size+1+1; omega) (.bool true)) (show w.heap.size<=w.heap.size+1 by omega) (.bool false) (.slice none 0 0) (.slice none 0 0) (.int .i64 0) (.bool true) (.int .u64 0) (.slice none 0 0) (.slice none 0 0)
 clear hO2
 clear hR hZ hb0 hb1 hO
 go_wp2_with fail
 go_loop [4] (fun iv=>iv=.int .i64 0) (fun _=>0)
 case atStart=>rfl
 case round =>
  obtain rfl:=hrel
  go_wp2_with fail
  obtain ⟨⟨e0,e1,e2,e3⟩,e4,e5,e6,e7⟩:=HO.out
  refine bodyPost_ret (v:=.agg #[.bool false,.slice none 0 0,.slice none 0 0,.int .i64 0,.bool true,.int .u64 0,.slice none 0 0,.slice none 0 0]) (by simp [results,Tryz.results22,go_sem,e0,e1,e2,e3,e4,e5,e6,e7]) rfl ?_
  exact ⟨rfl,hb2⟩
theorem Tp.off8 {T G:Nat} {lo:OA} {n cap a:Nat} {w:World} (h:Tp T lo n cap a w) (hG:T≠G) (a' b' c' d' e' f' g' k':Value):Tp T lo n cap a ((((((((w.setCell ⟨G,0,none⟩ a').setCell ⟨G,1,none⟩ b').setCell ⟨G,2,none⟩ c').setCell ⟨G,3,none⟩ d').setCell ⟨G,4,none⟩ e').setCell ⟨G,5,none⟩ f').setCell ⟨G,6,none⟩ g').setCell ⟨G,7,none⟩ k'):=by
 have h':Bl T [.slice lo n cap,.int .i64 (a:Int)] 57 w:=h
 exact (((((((h'.off (p:=⟨G,0,none⟩) hG a').off (p:=⟨G,1,none⟩) hG b').off (p:=⟨G,2,none⟩) hG c').off (p:=⟨G,3,none⟩) hG d').off (p:=⟨G,4,none⟩) hG e').off (p:=⟨G,5,none⟩) hG f').off (p:=⟨G,6,none⟩) hG g').off (p:=⟨G,7,none⟩) hG k'
theorem frT {T:Nat} {a b c:World} (h:Fr (fun k=>k=T) a b) (k:Fr (fun k=>k=T) b c):Fr (fun k=>k=T) a c:=h.trans k
theorem frAlloc (T:Nat) (w:World) (o:Obj):Fr (fun k=>k=T) w (w.alloc o):=below_fr (below_alloc o) _
theorem fr8 {T G:Nat} {w:World} {v:World} (h:Fr (fun k=>k=T) v w) (hG:v.heap.size<=G) (a' b' c' d' e' f' g' k':Value):Fr (fun k=>k=T) v ((((((((w.setCell ⟨G,0,none⟩ a').setCell ⟨G,1,none⟩ b').setCell ⟨G,2,none⟩ c').setCell ⟨G,3,none⟩ d').setCell ⟨G,4,none⟩ e').setCell ⟨G,5,none⟩ f').setCell ⟨G,6,none⟩ g').setCell ⟨G,7,none⟩ k'):=by
 have hb:=below8 (B:=v.heap.size) (v:=w) (Below.refl _ w) hG a' b' c' d' e' f' g' k'
 refine ⟨hb.os.trans h.os,hb.tape.trans h.tape,hb.output.trans h.output,Nat.le_trans h.size ?_,fun k hk hn=>?_⟩
 ·simp
 ·exact (hb.block k hk).trans (h.block k hk hn)
theorem weightT_any (T:Nat) (lo:OA) (n cap a:Nat) (w:World) (hT:Tp T lo n cap a w) (hL:TpL T lo n cap w) (ha:a<=n) (hn:n<=9223372036854775807) :
  Calls Tryz.prog 20 #[.int .i64 2,.pointer (some ⟨T,0,none⟩)] w fun e w'=>∃ (c:Nat) (i:Bool) (b:Nat),e=.returned (.agg #[.bool false,.slice none 0 0,.slice none 0 0,.int .i64 (c:Int),.bool i,.int .u64 0,.slice none 0 0,.slice none 0 0])/\c<=5/\(i=true->c=0)/\Tp T lo n cap b w'/\b<=n/\Fr (fun k=>k=T) w w':=by
 have hO:=Bl.fresh w [.bool false,.slice none 0 0,.slice none 0 0,.int .i64 0,.bool false,.int .u64 0,.slice none 0 0,.slice none 0 0] 45
 have hTlt:=hT.lt
 have hT0:=hT.next (below_alloc (.cells #[.bool false,.slice none 0 0,.slice none 0 0,.int .i64 0,.bool false,.int .u64 0,.slice none 0 0,.slice none 0 0] 45))
 have hL0:=hL.fr (below_alloc (.cells #[.bool false,.slice none 0 0,.slice none 0 0,.int .i64 0,.bool false,.int .u64 0,.slice none 0 0,.slice none 0 0] 45)) (Nat.le_of_lt hTlt)
 have hfr0:=frAlloc T w (.cells #[.bool false,.slice none 0 0,.slice none 0 0,.int .i64 0,.bool false,.int .u64 0,.slice none 0 0,.slice none 0 0] 45)
 go_enter Tryz.func20,Tryz.ntmps20
 go_wp2_with fail
 refine (next_any T lo n cap a 8 (by decide) (by decide) _ hT0 hL0 ha hn).mono ?_; rintro e w1 ⟨r,b1,rfl,hr,hT1,hb1,hbT1,hf1⟩
 have hfr1:=frT hfr0 hf1
 have hO1:=hO.fr hf1 (by show ¬ w.heap.size=T; omega)
 have hL1:=hL0.fr hbT1 (Nat.le_refl _)
 clear hf1 hbT1 hO hL0 hT0 hfr0
 obtain ⟨⟨f0,f1,f2,f3⟩,f4,f5,f6,f7⟩:=hO1.free8
 obtain ⟨⟨o0,o1,o2,o3⟩,o4,o5,o6,o7⟩:=hO1.eight
 by_cases hr0:r=0
 ·subst hr0
  have hO2:=hO1.put8 (.bool false) (.slice none 0 0) (.slice none 0 0) (.int .i64 0) (.bool true) (.int .u64 0) (.slice none 0 0) (.slice none 0 0)
  have hfr2:=fr8 hfr1 (Nat.le_refl w.heap.size) (.bool false) (.slice none 0 0) (.slice none 0 0) (.int .i64 0) (.bool true) (.int .u64 0) (.slice none 0 0) (.slice none 0 0)
  have hT2:=hT1.off8 (G:=w.heap.size) (by omega) (.bool false) (.slice none 0 0) (.slice none 0 0) (.int .i64 0) (.bool true) (.int .u64 0) (.slice none 0 0) (.slice none 0 0)
  have HO:=hid hO2.eight
  clear hO2 hO1
  go_wp2_with fail
  obtain ⟨⟨e0,e1,e2,e3⟩,e4,e5,e6,e7⟩:=HO.out
  refine bodyPost_ret (v:=.agg #[.bool false,.slice none 0 0,.slice none 0 0,.int .i64 0,.bool true,.int .u64 0,.slice none 0 0,.slice none 0 0]) (by simp [results,Tryz.results20,go_sem,e0,e1,e2,e3,e4,e5,e6,e7]) rfl ?_
  exact ⟨0,true,b1,rfl,by decide,fun _=>rfl,hT2,hb1,hfr2⟩
 ·have c1:((r:Int)==0)=false:=by rw [beq_eq_false_iff_ne]; omega
  have c2:(r==0)=false:=by rw [beq_eq_false_iff_ne]; omega
  clear hr0
  go_wp2_with fail
  refine (next_any T lo n cap b1 6 (by decide) (by decide) _ hT1 hL1 hb1 hn).mono ?_; rintro e w2 ⟨c,b2,rfl,hc,hT2,hb2,hbT2,hf2⟩
  have hfr2:=frT hfr1 hf2
  have hO2:=hO1.fr hf2 (by show ¬ w.heap.size=T; omega)
  clear f0 f1 f2 f3 f4 f5 f6 f7 o0 o1 o2 o3 o4 o5 o6 o7 hf2 hO1
  obtain ⟨⟨f0,f1,f2,f3⟩,f4,f5,f6,f7⟩:=hO2.free8
  obtain ⟨⟨o0,o1,o2,o3⟩,o4,o5,o6,o7⟩:=hO2.eight
  have hO3:=hO2.put8 (.bool false) (.slice none 0 0) (.slice none 0 0) (.int .i64 (c:Int)) (.bool false) (.int .u64 0) (.slice none 0 0) (.slice none 0 0)
  have hfr3:=fr8 hfr2 (Nat.le_refl w.heap.size) (.bool false) (.slice none 0 0) (.slice none 0 0) (.int .i64 (c:Int)) (.bool false) (.int .u64 0) (.slice none 0 0) (.slice none 0 0)
  have hT3:=hT2.off8 (G:=w.heap.size) (by omega) (.bool false) (.slice none 0 0) (.slice none 0 0) (.int .i64 (c:Int)) (.bool false) (.int .u64 0) (.slice none 0 0) (.slice none 0 0)
  have HO:=hid hO3.eight
  clear hO2 hO3
  go_wp2_with fail
  obtain ⟨⟨e0,e1,e2,e3⟩,e4,e5,e6,e7⟩:=HO.out
  refine bodyPost_ret (v:=.agg #[.bool false,.slice none 0 0,.slice none 0 0,.int .i64 (c:Int),.bool false,.int .u64 0,.slice none 0 0,.slice none 0 0]) (by simp [results,Tryz.results20,go_sem,e0,e1,e2,e3,e4,e5,e6,e7]) rfl ?_
  exact ⟨c,false,b2,rfl,by omega,fun h=>(by cases h),hT3,hb2,hfr3⟩
end
section
open Go.RowKit
theorem sEqNil_any (w:World):Calls Tryz.prog 174 #[.slice none 0 0,.slice none 0 0] w fun e w'=>e=.returned (.bool true)/\w=w':=by
 go_enter Tryz.func174,Tryz.ntmps174
 go_wp2_with fail
 go_loop [13] (fun iv=>iv=.int .i64 0) (fun _=>0)
 case atStart=>rfl
 case round =>
  obtain rfl:=hrel
  go_wp2_with fail
  go_ret
  exact ⟨rfl,rfl⟩
theorem eqfM_any (f:Value) (w:World):Calls Tryz.prog 137 #[.slice none 0 0,.slice none 0 0,f] w fun e w'=>e=.returned (.bool true)/\w=w':=by
 go_enter Tryz.func137,Tryz.ntmps137
 go_wp2_with fail
 go_loop [17] (fun iv=>iv=.int .i64 0) (fun _=>0)
 case atStart=>rfl
 case round =>
  obtain rfl:=hrel
  go_wp2_with fail
  go_ret
  exact ⟨rfl,rfl⟩
theorem eqfW_any (f:Value) (w:World):Calls Tryz.prog 138 #[.slice none 0 0,.slice none 0 0,f] w fun e w'=>e=.returned (.bool true)/\w=w':=by
 go_enter Tryz.func138,Tryz.ntmps138
 go_wp2_with fail
 go_loop [17] (fun iv=>iv=.int .i64 0) (fun _=>0)
 case atStart=>rfl
 case round =>
  obtain rfl:=hrel
  go_wp2_with fail
  go_ret
  exact ⟨rfl,rfl⟩
theorem sameRat0_any (w:World):Calls Tryz.prog 136 #[.agg #[.bool false,.slice none 0 0,.slice none 0 0],.agg #[.bool false,.slice none 0 0,.slice none 0 0]] w fun e w'=>e=.returned (.bool true)/\Below w.heap.size w w':=by
 have hb:Below w.heap.size w ((w.alloc (.cells #[.bool false,.slice none 0 0,.slice none 0 0] 41)).alloc (.cells #[.bool false,.slice none 0 0,.slice none 0 0] 41)):=below_chain (below_alloc _) (below_alloc _)
 go_enter Tryz.func136,Tryz.ntmps136
 go_wp2_with fail
 refine (sEqNil_any _).mono ?_; rintro e w1 ⟨rfl,rfl⟩
 go_wp2_with fail
 refine (sEqNil_any _).mono ?_; rintro e w1 ⟨rfl,rfl⟩
 go_wp2_with fail
 go_ret
 exact ⟨rfl,hb⟩
theorem two_boxes (w:World) (c d:Int) (i j:Bool):Below w.heap.size w ((w.alloc (.cells #[.bool false,.slice none 0 0,.slice none 0 0,.int .i64 c,.bool i,.int .u64 0,.slice none 0 0,.slice none 0 0] 45)).alloc (.cells #[.bool false,.slice none 0 0,.slice none 0 0,.int .i64 d,.bool j,.int .u64 0,.slice none 0 0,.slice none 0 0] 45)) /\
  Bl w.heap.size [.bool false,.slice none 0 0,.slice none 0 0,.int .i64 c,.bool i,.int .u64 0,.slice none 0 0,.slice none 0 0] 45 ((w.alloc (.cells #[.bool false,.slice none 0 0,.slice none 0 0,.int .i64 c,.bool i,.int .u64 0,.slice none 0 0,.slice none 0 0] 45)).alloc (.cells #[.bool false,.slice none 0 0,.slice none 0 0,.int .i64 d,.bool j,.int .u64 0,.slice none 0 0,.slice none 0 0] 45)) /\
  Bl (w.heap.size+1) [.bool false,.slice none 0 0,.slice none 0 0,.int .i64 d,.bool j,.int .u64 0,.slice none 0 0,.slice none 0 0] 45 ((w.alloc (.cells #[.bool false,.slice none 0 0,.slice none 0 0,.int .i64 c,.bool i,.int .u64 0,.slice none 0 0,.slice none 0 0] 45)).alloc (.cells #[.bool false,.slice none 0 0,.slice none 0 0,.int .i64 d,.bool j,.int .u64 0,.slice none 0 0,.slice none 0 0] 45)) :=
 ⟨below_chain (below_alloc _) (below_alloc _),(Bl.fresh w [.bool false,.slice none 0 0,.slice none 0 0,.int .i64 c,.bool i,.int .u64 0,.slice none 0 0,.slice none 0 0] 45).new _,Bl.fresh' (G:=w.heap.size+1) (w.alloc (.cells #[.bool false,.slice none 0 0,.slice none 0 0,.int .i64 c,.bool i,.int .u64 0,.slice none 0 0,.slice none 0 0] 45)) [.bool false,.slice none 0 0,.slice none 0 0,.int .i64 d,.bool j,.int .u64 0,.slice none 0 0,.slice none 0 0] 45 (by simp)⟩
theorem equalT_any (c d:Nat) (i j:Bool) (w:World):Calls Tryz.prog 92 #[.agg #[.bool false,.slice none 0 0,.slice none 0 0,.int .i64 (c:Int),.bool i,.int .u64 0,.slice none 0 0,.slice none 0 0],.agg #[.bool false,.slice none 0 0,.slice none 0 0,.int .i64 (d:Int),.bool j,.int .u64 0,.slice none 0 0,.slice none 0 0]] w fun e w'=>e=.returned (.bool (decide (c=d/\i=j)))/\Below w.heap.size w w':=by
 obtain ⟨hb0,hA,hB⟩:=two_boxes w c d i j
 go_enter Tryz.func92,Tryz.ntmps92
 go_wp2_with fail
 refine (sameRat0_any _).mono ?_; rintro e w1 ⟨rfl,hb1⟩
 replace hA:=hA.next hb1
 replace hB:=hB.next hb1
 have hb:=below_chain hb0 hb1
 obtain ⟨⟨x0,x1,x2,x3⟩,x4,x5,x6,x7⟩:=hA.eight
 obtain ⟨⟨y0,y1,y2,y3⟩,y4,y5,y6,y7⟩:=hB.eight
 clear hb0 hb1 hA hB
 by_cases h:c=d
 ·subst h
  cases i<;>cases j
  case false.true | true.false =>
   go_wp2_with fail
   go_ret
   exact ⟨by simp,hb⟩
  all_goals
   go_wp2_with fail
   refine (eqfM_any _ _).mono ?_; rintro e w2 ⟨rfl,rfl⟩
   go_wp2_with fail
   refine (eqfW_any _ _).mono ?_; rintro e w3 ⟨rfl,rfl⟩
   go_wp2_with fail
   go_ret
   exact ⟨by simp,hb⟩
 ·have c1:((c:Int)==(d:Int))=false:=by rw [beq_eq_false_iff_ne]; omega
  have c2:(c==d)=false:=by rw [beq_eq_false_iff_ne]; omega
  have hdd:Hid (decide (c=d/\i=j)=false):=hid (by simp [h])
  clear h
  go_wp2_with fail
  go_ret
  exact ⟨by rw [hdd.out]; rfl,hb⟩
theorem lessT_any (c d:Nat) (i j:Bool) (w:World):Calls Tryz.prog 198 #[.agg #[.bool false,.slice none 0 0,.slice none 0 0,.int .i64 (c:Int),.bool i,.int .u64 0,.slice none 0 0,.slice none 0 0],.agg #[.bool false,.slice none 0 0,.slice none 0 0,.int .i64 (d:Int),.bool j,.int .u64 0,.slice none 0 0,.slice none 0 0]] w fun e w'=>e=.returned (.bool (!i&&(j||decide (c<d))))/\Below w.heap.size w w':=by
 obtain ⟨hb0,hA,hB⟩:=two_boxes w c d i j
 obtain ⟨⟨x0,x1,x2,x3⟩,x4,x5,x6,x7⟩:=hA.eight
 obtain ⟨⟨y0,y1,y2,y3⟩,y4,y5,y6,y7⟩:=hB.eight
 clear hA hB
 obtain ⟨q,hq⟩:∃ q,decide (c<d)=q:=⟨_,rfl⟩
 have c1:decide ((c:Int)<(d:Int))=q:=by rw [<-hq]; exact decide_eq_decide.2 (by omega)
 rw [hq]
 have c2:=hq
 clear hq
 go_enter Tryz.func198,Tryz.ntmps198
 cases i with
 | true =>
  go_wp2_with fail
  go_ret
  exact ⟨rfl,hb0⟩
 | false =>
  cases j with
  | true =>
   go_wp2_with fail
   go_ret
   exact ⟨rfl,hb0⟩
  | false =>
   go_wp2_with fail
   go_ret
   exact ⟨rfl,hb0⟩
theorem costs2_any (w:World):Calls Tryz.prog 195 #[] w fun e w'=>e=.returned (.agg #[.bool false,.slice none 0 0,.slice none 0 0,.int .i64 0,.bool true,.int .u64 0,.slice none 0 0,.slice none 0 0])/\Below w.heap.size w w':=by
 have hO:=Bl.fresh w [.bool false,.slice none 0 0,.slice none 0 0,.int .i64 0,.bool false,.int .u64 0,.slice none 0 0,.slice none 0 0] 45
 have hO2:=hO.put8 (.bool false) (.slice none 0 0) (.slice none 0 0) (.int .i64 0) (.bool true) (.int .u64 0) (.slice none 0 0) (.slice none 0 0)
 have hb:=below8 (below_alloc (w:=w) (.cells #[.bool false,.slice none 0 0,.slice none 0 0,.int .i64 0,.bool false,.int .u64 0,.slice none 0 0,.slice none 0 0] 45)) (Nat.le_refl w.heap.size) (.bool false) (.slice none 0 0) (.slice none 0 0) (.int .i64 0) (.bool true) (.int .u64 0) (.slice none 0 0) (.slice none 0 0)
 have HO:=hid hO2.eight
 obtain ⟨⟨f0,f1,f2,f3⟩,f4,f5,f6,f7⟩:=hO.free8
 obtain ⟨⟨o0,o1,o2,o3⟩,o4,o5,o6,o7⟩:=hO.eight
 clear hO hO2
 go_enter Tryz.func195,Tryz.ntmps195
 go_upto_region 1 with fail
 generalize w.alloc (.cells #[.bool false,.slice none 0 0,.slice none 0 0,.int .i64 0,.bool false,.int .u64 0,.slice none 0 0,.slice none 0 0] 45)=W0 at *
 go_wp2_with fail
 obtain ⟨⟨e0,e1,e2,e3⟩,e4,e5,e6,e7⟩:=HO.out
 refine bodyPost_ret (v:=.agg #[.bool false,.slice none 0 0,.slice none 0 0,.int .i64 0,.bool true,.int .u64 0,.slice none 0 0,.slice none 0 0]) (by simp [results,Tryz.results195,go_sem,e0,e1,e2,e3,e4,e5,e6,e7]) rfl ?_
 exact ⟨rfl,hb⟩
theorem costs1_any (c:Nat) (i:Bool) (hc:c<=1099511627776) (hi:i=true->c=0) (w:World):Calls Tryz.prog 194 #[.agg #[.bool false,.slice none 0 0,.slice none 0 0,.int .i64 (c:Int),.bool i,.int .u64 0,.slice none 0 0,.slice none 0 0]] w fun e w'=>e=.returned (.bool true)/\Below w.heap.size w w':=by
 have hA:=Bl.fresh w [.bool false,.slice none 0 0,.slice none 0 0,.int .i64 (c:Int),.bool i,.int .u64 0,.slice none 0 0,.slice none 0 0] 45
 have hb0:Below w.heap.size w (w.alloc (.cells #[.bool false,.slice none 0 0,.slice none 0 0,.int .i64 (c:Int),.bool i,.int .u64 0,.slice none 0 0,.slice none 0 0] 45)):=below_alloc _
 obtain ⟨⟨x0,x1,x2,x3⟩,x4,x5,x6,x7⟩:=hA.eight
 clear hA
 have heq:=hid (fun W=>equalT_any c c i i W)
 cases i with
 | true =>
  have h0:=hi rfl
  subst h0
  go_enter Tryz.func194,Tryz.ntmps194
  go_wp2_with fail
  refine (heq.out _).mono ?_; rintro e w1 ⟨rfl,hb1⟩
  go_wp2_with fail
  go_ret
  exact ⟨by simp,below_chain hb0 hb1⟩
 | false =>
  have c1:¬ (1099511627776:Int)<(c:Int):=by omega
  have c2:(c:Int)<=1099511627776:=by omega
  go_enter Tryz.func194,Tryz.ntmps194
  go_wp2_with fail
  refine (heq.out _).mono ?_; rintro e w1 ⟨rfl,hb1⟩
  go_wp2_with fail
  go_ret
  exact ⟨by simp,below_chain hb0 hb1⟩
end
end Go.Proofs.YtnapapijhhldpaaGreatDoor

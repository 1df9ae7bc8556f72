/- The words and walks that the law QuotaPlays is proved by, part 5: each text in a section of its own. -/
import Derived.Test.YtfldklimlcnnnaaQL4
import Derived.Deep.RegionHeld3
import Derived.RangeFuncNested
import Derived.RangeFuncCalls
import Derived.RangeFuncLeaves
import Derived.Below
import Derived.Maps.OwnIn
import Derived.Maps.RangeWalk
import Derived.Maps.OwnSet
import Derived.Sort.MapsRangeIn
import Derived.Test.YtfldklimlcnnnaaProg
import Derived.BigRegion
import Derived.WalkKit
import Derived.OwnWalkIn
import Derived.TacticsInMore
import Derived.LoopNIn
import Derived.LoopIn
import Derived.Laws.IdiomStrings
import Derived.RangeFuncFrom
import Derived.Shelf.Abstract
import Derived.RangeFuncBox
import Derived.RangeFuncWrites
import Derived.RangeFuncMany
import Derived.Deep.RegionLaw
import Derived.WalkMore
set_option linter.unusedVariables false
set_option linter.unusedSimpArgs false
section
namespace Go.Proofs.Ytfldklimlcnnnaa.XRV
open Go.RowKit PHq YtfldklimlcnnnaaW.PrintWords YtfldklimlcnnnaaW.PrintLast YtfldklimlcnnnaaW.PrintMore MWords
open MNat QNat QText QEv QRatio
def RV (W:World) (x y:Value) (a b:List Int):Prop :=
 (∃A c,x=.slice A a.length c/\a.length<=c/\Kd.C (Kd.int .u32) W A a.length a)/\∃A c,y=.slice A b.length c/\b.length<=c/\Kd.C (Kd.int .u32) W A b.length b
theorem RV.below {W W':World} {x y:Value} {a b:List Int} (h:RV W x y a b) (hb:Below W.heap.size W W'):RV W' x y a b:=by
 obtain ⟨⟨A,c,e1,h1,h2⟩,A',c',e3,h3,h4⟩:=h
 exact ⟨⟨A,c,e1,h1,Kd.C_below h2 hb⟩,A',c',e3,h3,Kd.C_below h4 hb⟩
theorem RV.shape {W:World} {x y:Value} {a b:List Int} (h:RV W x y a b):∃A c A' c',x=.slice A a.length c/\y=.slice A' b.length c':=by
 obtain ⟨⟨A,c,e1,_⟩,A',c',e3,_⟩:=h
 exact ⟨A,c,A',c',e1,e3⟩
theorem RV.ofV {W:World} {x y:Value} {a b:List Int} {e e' base base':Nat} {ok ok':Nat->Prop} (h1:Kd.V (Kd.int .u32) e W base ok x a) (h2:Kd.V (Kd.int .u32) e' W base' ok' y b):RV W x y a b:=by
 obtain ⟨A,c,rfl⟩:=Kd.V_slice h1
 obtain ⟨A',c',rfl⟩:=Kd.V_slice h2
 exact ⟨⟨A,c,rfl,(Kd.V_reads' h1).2.1,(Kd.V_reads' h1).2.2⟩,A',c',rfl,(Kd.V_reads' h2).2.1,(Kd.V_reads' h2).2.2⟩
theorem RV.ofR {W:World} {x y:Value} {a b:List Int} {e e' base base':Nat} {ok ok':Nat->Prop} (h1:Kd.R (Kd.int .u32) e W base ok x a) (h2:Kd.R (Kd.int .u32) e' W base' ok' y b):RV W x y a b:=by
 obtain ⟨A,c,rfl⟩:=Kd.R_slice h1
 obtain ⟨A',c',rfl⟩:=Kd.R_slice h2
 exact ⟨⟨A,c,rfl,(Kd.R_reads' h1).2.1,(Kd.R_reads' h1).2.2⟩,A',c',rfl,(Kd.R_reads' h2).2.1,(Kd.R_reads' h2).2.2⟩
theorem check_rv {W:World} {x y:Value} {a b:List Int} {r:Bool} (h:RV W x y a b) (hf:ratio_Check.f a b=some r) :
  Calls Try.prog 62 #[.agg #[x,y]] W fun e w'=>e=.returned (.bool r)/\Below W.heap.size W w':=by
 obtain ⟨⟨A,c,rfl,h1,h2⟩,A',c',rfl,h3,h4⟩:=h
 exact ratio_Check.calls A c a A' c' b r W h2 h1 h4 h3 hf
theorem rcmp_rv {k:Nat} {W:World} {x y u v:Value} {a b c d:List Int} {r:Int} (h:RV W x y a b) (g:RV W u v c d) (hf:r03_Cmp.f k a b c d=some r) :
  Calls Try.prog 19 #[.agg #[x,y],.agg #[u,v]] W fun e w'=>e=.returned (.int .i64 r)/\Below W.heap.size W w':=by
 obtain ⟨⟨A1,c1,rfl,p1,q1⟩,A2,c2,rfl,p2,q2⟩:=h
 obtain ⟨⟨A3,c3,rfl,p3,q3⟩,A4,c4,rfl,p4,q4⟩:=g
 exact r03_Cmp.calls k A1 c1 a A2 c2 b A3 c3 c A4 c4 d r W q1 p1 q2 p2 q3 p3 q4 p4 hf
theorem cmp_rv {k:Nat} {W:World} {x y u v:Value} {a b c d:List Int} {r:Int} (h:RV W x y a b) (g:RV W u v c d) (hf:ratio_Cmp.f k a b c d=some r) :
  Calls Try.prog 106 #[.agg #[x,y],.agg #[u,v]] W fun e w'=>e=.returned (.int .i64 r)/\Below W.heap.size W w':=by
 obtain ⟨⟨A1,c1,rfl,p1,q1⟩,A2,c2,rfl,p2,q2⟩:=h
 obtain ⟨⟨A3,c3,rfl,p3,q3⟩,A4,c4,rfl,p4,q4⟩:=g
 exact ratio_Cmp.calls k A1 c1 a A2 c2 b A3 c3 c A4 c4 d r W q1 p1 q2 p2 q3 p3 q4 p4 hf
theorem add_rv {k:Nat} {W:World} {x y u v:Value} {a b c d r1 r2:List Int} (h:RV W x y a b) (g:RV W u v c d) (hf:ratio_Add.f k a b c d=some (r1,r2)) :
  Calls Try.prog 105 #[.agg #[x,y],.agg #[u,v]] W fun e w'=>∃p q:Value,e=.returned (.agg #[p,q])/\RV w' p q r1 r2/\Below W.heap.size W w':=by
 obtain ⟨⟨A1,c1,rfl,p1,q1⟩,A2,c2,rfl,p2,q2⟩:=h
 obtain ⟨⟨A3,c3,rfl,p3,q3⟩,A4,c4,rfl,p4,q4⟩:=g
 exact (ratio_Add.calls k A1 c1 a A2 c2 b A3 c3 c A4 c4 d r1 r2 W q1 p1 q2 p2 q3 p3 q4 p4 hf).mono fun e w' ⟨p,q,he,h1,h2,hb⟩=>⟨p,q,he,RV.ofV h1 h2,hb⟩
theorem sum_rv {k:Nat} {W:World} {A:Option Addr} {c:Nat} {l:List S34} {r1 r2:List Int} (h:l.length<=c/\Kd.C k34 W A l.length l) (hf:ratio_Sum.f k l=some (r1,r2)) :
  Calls Try.prog 110 #[.slice A l.length c] W fun e w'=>∃p q:Value,e=.returned (.agg #[p,q])/\RV w' p q r1 r2/\Below W.heap.size W w' :=
 (ratio_Sum.calls k A c l r1 r2 W h.2 h.1 hf).mono fun e w' ⟨p,q,he,h1,h2,hb⟩=>⟨p,q,he,RV.ofV h1 h2,hb⟩
theorem F_heap {α:Type} {d:Kd α} (hd:Kd.Heap d) {W:World} {A:Option Addr} {n:Nat} {xs:List α} (h:d.C W A n xs):Kd.F d W (fun _=>True) A n xs:=fun W' hW=>hd.C (fun k hk=>hW k trivial hk) h
theorem least_rv {k:Nat} {W:World} {x y:Value} {a b r1 r2:List Int} (h:RV W x y a b) (hf:ratio_Least.f k a b=some (r1,r2)) :
  Calls Try.prog 63 #[.agg #[x,y]] W fun e w'=>∃p q:Value,e=.returned (.agg #[p,q])/\RV w' p q r1 r2/\Below W.heap.size W w':=by
 obtain ⟨⟨A1,c1,rfl,p1,q1⟩,A2,c2,rfl,p2,q2⟩:=h
 exact (ratio_Least.calls k (fun _=>True) A1 c1 a (fun _=>True) A2 c2 b r1 r2 W (Kd.V_mk p1 (F_heap (Kd.heap_int .u32) q1)) (Kd.V_mk p2 (F_heap (Kd.heap_int .u32) q2)) hf).mono fun e w' ⟨p,q,he,h1,h2,hb⟩=>⟨p,q,he,RV.ofV h1 h2,hb⟩
theorem of_rv {W:World} {e p:Int} {r1 r2:List Int} (hf:ratio_Of.f e p=some (r1,r2)) :
  Calls Try.prog 71 #[.agg #[.int .i64 e,.int .i64 p]] W fun e w'=>∃p q:Value,e=.returned (.agg #[p,q])/\RV w' p q r1 r2/\Below W.heap.size W w' :=
 (ratio_Of.calls e p r1 r2 W hf).mono fun e w' ⟨p,q,he,h1,h2,hb⟩=>⟨p,q,he,RV.ofV h1 h2,hb⟩
theorem whole_rv {W:World} {n:Int} {r1 r2:List Int} (hf:ratio_Whole.f n=some (r1,r2)) :
  Calls Try.prog 64 #[.int .u64 n] W fun e w'=>∃p q:Value,e=.returned (.agg #[p,q])/\RV w' p q r1 r2/\Below W.heap.size W w' :=
 (ratio_Whole.calls n r1 r2 W hf).mono fun e w' ⟨p,q,he,h1,h2,hb⟩=>⟨p,q,he,RV.ofV h1 h2,hb⟩
def NoLimb (W:World) (k:Nat):Prop:=∀p:Addr,p.block=k->∀n:Int,W.cell? p≠some (.int .u32 n)
theorem C_near {W W':World} {A:Option Addr} {n:Nat} {xs:List Int} (h:Kd.C (Kd.int .u32) W A n xs) (hk:∀k,k<W.heap.size->¬ NoLimb W k->W'.heap[k]? = W.heap[k]?):Kd.C (Kd.int .u32) W' A n xs :=
 ⟨h.1,h.2.1,fun hp=>by
  obtain ⟨ad,e,hc⟩:=h.2.2 hp
  refine ⟨ad,e,fun j p hj=>?_⟩
  obtain ⟨c,hl,hK,hcell⟩:=hc j p hj
  refine ⟨c,hl,hK,fun i u hi=>?_⟩
  have h1:=hcell i u hi
  have hu:u=.int .u32 p:=by
   rw [show c = [.int .u32 p] from hK] at hi
   match i,hi with
   | 0,hi=>exact (Option.some.inj hi).symm
   | i+1,hi=>simp at hi
  have hb:=hk _ (World.block_lt_of_cell? W _ h1) (fun hn=>hn _ rfl p (by rw [h1,hu]))
  unfold World.cell? at h1 ⊢
  rw [hb]
  exact h1⟩
theorem RV.near {W W':World} {x y:Value} {a b:List Int} (h:RV W x y a b) (hk:∀k,k<W.heap.size->¬ NoLimb W k->W'.heap[k]? = W.heap[k]?):RV W' x y a b:=by
 obtain ⟨⟨A,c,e1,h1,h2⟩,A',c',e3,h3,h4⟩:=h
 exact ⟨⟨A,c,e1,h1,C_near h2 hk⟩,A',c',e3,h3,C_near h4 hk⟩
end Go.Proofs.Ytfldklimlcnnnaa.XRV
end

section
namespace Go.Proofs.Ytfldklimlcnnnaa.XSub
open Go.RowKit PHq YtfldklimlcnnnaaW.PrintWords YtfldklimlcnnnaaW.PrintLast YtfldklimlcnnnaaW.PrintMore MWords
open MNat QNat QText QEv QRatio XRV
def NV (W:World) (x:Value) (a:List Int):Prop:=∃A c,x=.slice A a.length c/\a.length<=c/\Kd.C (Kd.int .u32) W A a.length a
theorem NV.below {W W':World} {x:Value} {a:List Int} (h:NV W x a) (hb:Below W.heap.size W W'):NV W' x a:=by
 obtain ⟨A,c,e1,h1,h2⟩:=h
 exact ⟨A,c,e1,h1,Kd.C_below h2 hb⟩
theorem NV.ofV {W:World} {x:Value} {a:List Int} {e base:Nat} {ok:Nat->Prop} (h1:Kd.V (Kd.int .u32) e W base ok x a):NV W x a:=by
 obtain ⟨A,c,rfl⟩:=Kd.V_slice h1
 exact ⟨A,c,rfl,(Kd.V_reads' h1).2.1,(Kd.V_reads' h1).2.2⟩
theorem mul_nv {W:World} {x y:Value} {a b r:List Int} (h:NV W x a) (g:NV W y b) (hf:nat_Mul.f a b=some r) :
  Calls Try.prog 108 #[x,y] W fun e w'=>∃v,e=.returned v/\NV w' v r/\Below W.heap.size W w':=by
 obtain ⟨A1,c1,rfl,p1,q1⟩:=h
 obtain ⟨A2,c2,rfl,p2,q2⟩:=g
 exact (nat_Mul.calls A1 c1 a A2 c2 b r W q1 p1 q2 p2 hf).mono fun e w' ⟨v,he,h1,hb⟩=>⟨v,he,NV.ofV h1,hb⟩
theorem nsub_nv {k:Nat} {W:World} {x y:Value} {a b r:List Int} {s:Int} (h:NV W x a) (g:NV W y b) (hf:nat_Sub.f k a b=some (r,s)) :
  Calls Try.prog 107 #[x,y] W fun e w'=>∃v,e=.returned (.tuple #[v,.int .i64 s])/\NV w' v r/\Below W.heap.size W w':=by
 obtain ⟨A1,c1,rfl,p1,q1⟩:=h
 obtain ⟨A2,c2,rfl,p2,q2⟩:=g
 exact (nat_Sub.calls k A1 c1 a A2 c2 b r s W q1 p1 q2 p2 hf).mono fun e w' ⟨v,he,h1,hb⟩=>⟨v,he,NV.ofV h1,hb⟩
theorem noLimb_two {W:World} {k t:Nat} {o1 o2:Option Addr} {n1 n2 m1 m2:Nat} (h:MBlk W k t #[.slice o1 n1 m1,.slice o2 n2 m2]):NoLimb W k:=by
 intro p hp n hc
 unfold World.cell? at hc
 rw [hp,show W.heap[k]? = _ from h] at hc
 simp only at hc
 split at hc
 ·cases hc
 ·match ho:p.off,hc with
  | 0,hc=>simp at hc
  | 1,hc=>simp at hc
  | k+2,hc=>simp at hc
theorem two_put {X w:World} {k N t:Nat} {p p':Value} {r1 r2:List Int} {o1 o2:Option Addr} {n1 n2 m1 m2:Nat} (hG:MBlk X k t #[.slice o1 n1 m1,.slice o2 n2 m2]) (hV:RV X p p' r1 r2) (hB:Below N w X) (hN:N<=k) :
  MBlk ((X.setCell ⟨k,0,none⟩ p).setCell ⟨k,1,none⟩ p') k t #[p,p']/\RV ((X.setCell ⟨k,0,none⟩ p).setCell ⟨k,1,none⟩ p') p p' r1 r2/\Below N w ((X.setCell ⟨k,0,none⟩ p).setCell ⟨k,1,none⟩ p'):=by
 have hn:=noLimb_two hG
 have hs:∀j,j≠k->((X.setCell ⟨k,0,none⟩ p).setCell ⟨k,1,none⟩ p').heap[j]? = X.heap[j]?:=fun j hk=>(Below.heap_setCell _ ⟨k,1,none⟩ _ j hk).trans (Below.heap_setCell _ ⟨k,0,none⟩ _ j hk)
 exact ⟨mblk_set (mblk_set hG 0 _) 1 _,hV.near (fun j _ h=>hs j (fun e=>h (by rw [e];exact hn))),(hB.setCell (p:=⟨k,0,none⟩) hN _).setCell (p:=⟨k,1,none⟩) hN _⟩
theorem RV.fst {W:World} {x y:Value} {a b:List Int} (h:RV W x y a b):NV W x a:=h.1
theorem RV.snd {W:World} {x y:Value} {a b:List Int} (h:RV W x y a b):NV W y b:=h.2
set_option maxRecDepth 100000 in
set_option maxHeartbeats 4000000 in
theorem sub_rv {k:Nat} {W:World} {x y u v:Value} {a b c d r1 r2:List Int} {r3:Int} (h:RV W x y a b) (g:RV W u v c d) (hf:ratio_Sub.f k a b c d=some (r1,r2,r3)) :
  Calls Try.prog 73 #[.agg #[x,y],.agg #[u,v]] W fun e w'=>∃p q:Value,e=.returned (.tuple #[.agg #[p,q],.int .i64 r3])/\RV w' p q r1 r2/\Below W.heap.size W w':=by
 unfold ratio_Sub.f at hf
 obtain ⟨t1,m1,hf⟩:=Option.bind_eq_some_iff.1 hf
 obtain ⟨t2,m2,hf⟩:=Option.bind_eq_some_iff.1 hf
 obtain ⟨⟨t3,e3⟩,m3,hf⟩:=Option.bind_eq_some_iff.1 hf
 obtain ⟨A1,c1,A2,c2,rfl,rfl⟩:=h.shape
 obtain ⟨A3,c3,A4,c4,rfl,rfl⟩:=g.shape
 obtain ⟨W0,hW0⟩:∃W0,W0=((W.alloc (.cells #[.slice A1 a.length c1,.slice A2 b.length c2] 28)).alloc (.cells #[.slice A3 c.length c3,.slice A4 d.length c4] 28)).alloc (.cells #[.slice none 0 0,.slice none 0 0] 28):=⟨_,rfl⟩
 have hb0:Below W.heap.size W W0:=by rw [hW0];exact Zb (Zb (Zb (Below.refl _ _) _) _) _
 have HB0:=Zz.mk hb0
 have HA:=Zz.mk (show MBlk W0 W.heap.size 28 #[.slice A1 a.length c1,.slice A2 b.length c2] by rw [hW0];exact Zp (Zp (Zo _ _ _) _) _)
 have HC:=Zz.mk (show MBlk W0 (W.heap.size+1) 28 #[.slice A3 c.length c3,.slice A4 d.length c4] by
  rw [hW0,show W.heap.size+1=(W.alloc (.cells #[.slice A1 a.length c1,.slice A2 b.length c2] 28)).heap.size by simp]
  exact Zp (Zo _ _ _) _)
 have HR:=Zz.mk (show MBlk W0 (W.heap.size+2) 28 #[.slice none 0 0,.slice none 0 0] by
  rw [hW0,show W.heap.size+2=((W.alloc (.cells #[.slice A1 a.length c1,.slice A2 b.length c2] 28)).alloc (.cells #[.slice A3 c.length c3,.slice A4 d.length c4] 28)).heap.size by simp]
  exact Zo _ _ _)
 have HX:=Zz.mk (h.below hb0)
 have HY:=Zz.mk (g.below hb0)
 have HM1:=Zz.mk m1
 have HM2:=Zz.mk m2
 have HM3:=Zz.mk m3
 have HF:=Zz.mk hf
 have HZ:=Zz.mk (show ∀w':World,Below W0.heap.size W0 w'->w'.cell? ⟨W.heap.size,0,none⟩=some (.slice A1 a.length c1)/\w'.cell? ⟨W.heap.size,1,none⟩=some (.slice A2 b.length c2)/\w'.cell? ⟨W.heap.size+1,0,none⟩=some (.slice A3 c.length c3)/\w'.cell? ⟨W.heap.size+1,1,none⟩=some (.slice A4 d.length c4) from fun w' hb=>⟨(Zg ((hb.block _ (Zn HA.out)).trans HA.out) 0).trans rfl,(Zg ((hb.block _ (Zn HA.out)).trans HA.out) 1).trans rfl,(Zg ((hb.block _ (Zn HC.out)).trans HC.out) 0).trans rfl,(Zg ((hb.block _ (Zn HC.out)).trans HC.out) 1).trans rfl⟩)
 clear h g hb0 m1 m2 m3 hf
 go_enter Try.func73,Try.ntmps73
 go_upto_region 1 with fail
 rw [<-hW0]
 clear hW0
 obtain ⟨s0,s1,s2,s3⟩:=HZ.out W0 (Below.refl _ _)
 go_region_held3 (fun w'=>w'.cell? ⟨W.heap.size,0,none⟩=some (.slice A1 a.length c1)/\w'.cell? ⟨W.heap.size,1,none⟩=some (.slice A2 b.length c2)/\w'.cell? ⟨W.heap.size+1,0,none⟩=some (.slice A3 c.length c3)/\w'.cell? ⟨W.heap.size+1,1,none⟩=some (.slice A4 d.length c4))
  (first|(exact ⟨s0,s1,s2,s3⟩)|go_keep)
  (first
   | (go_at_call 108;refine (mul_nv (x:=.slice A1 a.length c1) (y:=.slice A4 d.length c4) ((RV.fst HX.out).below (Zr (Below.refl _ _))) ((RV.snd HY.out).below (Zr (Below.refl _ _))) HM1.out).mono ?_;rintro e w1 ⟨v1,rfl,h1,hb⟩;have hbb:Below W0.heap.size W0 w1:=Zi (Zr (Below.refl _ _)) hb;have HB1:=Zz.mk hbb;have H1:=Zz.mk h1;have hz:=HZ.out w1 hbb;obtain ⟨s0,s1,s2,s3⟩:=hz;clear h1 hb hbb HM1)
   | (go_at_call 108;refine (mul_nv (x:=.slice A3 c.length c3) (y:=.slice A2 b.length c2) ((RV.fst HY.out).below HB1.out) ((RV.snd HX.out).below HB1.out) HM2.out).mono ?_;rintro e w2 ⟨v2,rfl,h2,hb⟩;have hbb:Below W0.heap.size W0 w2:=Zi HB1.out hb;have HB2:=Zz.mk hbb;have H2:=Zz.mk h2;have H1':=Zz.mk (H1.out.below hb);have hz:=HZ.out w2 hbb;obtain ⟨s0,s1,s2,s3⟩:=hz;clear h2 hb hbb HM2)
   | (go_at_call 107;refine (nsub_nv H1'.out H2.out HM3.out).mono ?_;rintro e w3 ⟨v3,rfl,h3,hb⟩;have hbb:Below W0.heap.size W0 w3:=Zi HB2.out hb;have HB3:=Zz.mk hbb;have H3:=Zz.mk h3;have hz:=HZ.out w3 hbb;obtain ⟨s0,s1,s2,s3⟩:=hz;clear h3 hb hbb))
 all_goals
  obtain ⟨A5,c5,rfl,g1,g2⟩:=H3.out
  have HG3:=Zz.mk (show MBlk w3 (W.heap.size+2) 28 _ from (HB3.out.block _ (Zn HR.out)).trans HR.out)
  clear g1 g2
  have hf:=HF.out
  by_cases he:e3=0
  ·subst he
   rw [if_pos rfl] at hf
   obtain ⟨t4,m4,hf⟩:=Option.bind_eq_some_iff.1 hf
   obtain ⟨⟨t5,t6⟩,m5,hf⟩:=Option.bind_eq_some_iff.1 hf
   cases hf
   have HM4:=Zz.mk (And.intro m4 m5)
   clear m4 m5
   go_wp2_with (first
    | (go_at_call 108;refine (mul_nv (x:=.slice A2 b.length c2) (y:=.slice A4 d.length c4) ((RV.snd HX.out).below HB3.out) ((RV.snd HY.out).below HB3.out) HM4.out.1).mono ?_;rintro e w4 ⟨v4,rfl,h4,hb⟩;obtain ⟨A6,c6,rfl,g1,g2⟩:=h4;have HB4:=Zz.mk (Zi HB3.out hb);have H4:=Zz.mk (show RV w4 (.slice A5 t3.length c5) (.slice A6 t4.length c6) t3 t4 from ⟨H3.out.below hb,⟨A6,c6,rfl,g1,g2⟩⟩);clear g1 g2 hb)
    | (go_at_call 63;refine (least_rv H4.out HM4.out.2).mono ?_;rintro e w5 ⟨p,q,rfl,h5,hb⟩;obtain ⟨P1,p1,P2,p2,rfl,rfl⟩:=h5.shape;have HB5:=Zz.mk (Zi HB4.out hb);have H5:=Zz.mk h5;have HG5:=Zz.mk (show MBlk w5 (W.heap.size+2) 28 _ from (HB5.out.block _ (Zn HR.out)).trans HR.out);have z0:w5.cell? ⟨W.heap.size+2,0,none⟩=some (.slice none 0 0):=(Zg HG5.out 0).trans rfl;have z1:w5.cell? ⟨W.heap.size+2,1,none⟩=some (.slice none 0 0):=(Zg HG5.out 1).trans rfl;have f0:=Zq HG5.out 0;have f1:=Zq HG5.out 1;clear h5 hb))
   obtain ⟨w6,hw6⟩:∃w6,w6=(w5.setCell ⟨W.heap.size+2,0,none⟩ (.slice P1 t5.length p1)).setCell ⟨W.heap.size+2,1,none⟩ (.slice P2 t6.length p2):=⟨_,rfl⟩
   have HQ:=two_put HG5.out H5.out (Zi HB0.out HB5.out) (show W.heap.size<=W.heap.size+2 by omega)
   rw [<-hw6] at HQ
   rw [<-hw6]
   have e0:w6.cell? ⟨W.heap.size+2,0,none⟩=some (.slice P1 t5.length p1):=(Zg HQ.1 0).trans rfl
   have e1:w6.cell? ⟨W.heap.size+2,1,none⟩=some (.slice P2 t6.length p2):=(Zg HQ.1 1).trans rfl
   exact bodyPost_ret (v:=.tuple #[.agg #[.slice P1 t5.length p1,.slice P2 t6.length p2],.int .i64 0]) (by simp [results,Try.results73,go_sem,e0,e1]) rfl ⟨_,_,rfl,HQ.2.1,HQ.2.2⟩
  ·rw [if_neg he] at hf
   cases hf
   have d1:(r3 == 0)=false:=beq_eq_false_iff_ne.2 he
   have d2:(r3 != 0)=true:=by rw [bne,d1];rfl
   have z0:w3.cell? ⟨W.heap.size+2,0,none⟩=some (.slice none 0 0):=(Zg HG3.out 0).trans rfl
   have z1:w3.cell? ⟨W.heap.size+2,1,none⟩=some (.slice none 0 0):=(Zg HG3.out 1).trans rfl
   have f0:=Zq HG3.out 0
   have f1:=Zq HG3.out 1
   clear he
   go_wp2_with fail
   obtain ⟨w6,hw6⟩:∃w6,w6=(w3.setCell ⟨W.heap.size+2,0,none⟩ (.slice none 0 0)).setCell ⟨W.heap.size+2,1,none⟩ (.slice none 0 0):=⟨_,rfl⟩
   have HQ:=two_put HG3.out (show RV w3 (.slice none 0 0) (.slice none 0 0) [] [] from ⟨⟨none,0,rfl,Nat.le_refl _,Kd.C_nil _ _⟩,none,0,rfl,Nat.le_refl _,Kd.C_nil _ _⟩) (Zi HB0.out HB3.out) (show W.heap.size<=W.heap.size+2 by omega)
   rw [<-hw6] at HQ
   rw [<-hw6]
   have e0:w6.cell? ⟨W.heap.size+2,0,none⟩=some (.slice none 0 0):=(Zg HQ.1 0).trans rfl
   have e1:w6.cell? ⟨W.heap.size+2,1,none⟩=some (.slice none 0 0):=(Zg HQ.1 1).trans rfl
   exact bodyPost_ret (v:=.tuple #[.agg #[.slice none 0 0,.slice none 0 0],.int .i64 r3]) (by simp [results,Try.results73,go_sem,e0,e1]) rfl ⟨_,_,rfl,HQ.2.1,HQ.2.2⟩
end Go.Proofs.Ytfldklimlcnnnaa.XSub
end

section
namespace Go.Proofs.Ytfldklimlcnnnaa.XHolds
open Go.RowKit PHq YtfldklimlcnnnaaW.PrintWords YtfldklimlcnnnaaW.PrintLast YtfldklimlcnnnaaW.PrintMore MWords
open MNat QNat QText QEv QRatio XRV XSub
set_option maxRecDepth 100000 in
set_option maxHeartbeats 4000000 in
theorem holds_calls (k:Nat) (e p e2 p2:Int) (q:Bool) (r1 r2:Int) (w:World) (h:hold_holder_holds.f k e p e2 p2 q=some (r1,r2)) :
  Calls Try.prog 76 #[.agg #[.int .i64 e,.int .i64 p,.int .i64 e2,.int .i64 p2,.bool q]] w fun e w'=>e=.returned (.agg #[.int .i64 r1,.int .i64 r2])/\Below w.heap.size w w':=by
 obtain ⟨W0,hW0⟩:∃W0,W0=(w.alloc (.cells #[.int .i64 e,.int .i64 p,.int .i64 e2,.int .i64 p2,.bool q] 102)).alloc (.cells #[.int .i64 0,.int .i64 0] 34):=⟨_,rfl⟩
 have hb0:Below w.heap.size w W0:=by rw [hW0];exact Zb (Zb (Below.refl _ _) _) _
 have HB0:=Zz.mk hb0
 have HA:=Zz.mk (show MBlk W0 w.heap.size 102 #[.int .i64 e,.int .i64 p,.int .i64 e2,.int .i64 p2,.bool q] by rw [hW0];exact Zp (Zo _ _ _) _)
 have HR:=Zz.mk (show MBlk W0 (w.heap.size+1) 34 #[.int .i64 0,.int .i64 0] by
  rw [hW0,show w.heap.size+1=(w.alloc (.cells #[.int .i64 e,.int .i64 p,.int .i64 e2,.int .i64 p2,.bool q] 102)).heap.size by simp]
  exact Zo _ _ _)
 have HEND:Zz (∀ (w2:World) (u v:Int),Below W0.heap.size W0 w2->Below w.heap.size w ((w2.setCell ⟨w.heap.size+1,0,none⟩ (.int .i64 u)).setCell ⟨w.heap.size+1,1,none⟩ (.int .i64 v))/\((w2.setCell ⟨w.heap.size+1,0,none⟩ (.int .i64 u)).setCell ⟨w.heap.size+1,1,none⟩ (.int .i64 v)).cell? ⟨w.heap.size+1,0,none⟩=some (.int .i64 u)/\((w2.setCell ⟨w.heap.size+1,0,none⟩ (.int .i64 u)).setCell ⟨w.heap.size+1,1,none⟩ (.int .i64 v)).cell? ⟨w.heap.size+1,1,none⟩=some (.int .i64 v)):=⟨fun w2 u v hb=>by
  have hm:=mblk_set (mblk_set ((hb.block _ (Zn HR.out)).trans HR.out) 0 (.int .i64 u)) 1 (.int .i64 v)
  exact ⟨((Zi HB0.out hb).setCell (p:=⟨w.heap.size+1,0,none⟩) (Nat.le_succ _) _).setCell (p:=⟨w.heap.size+1,1,none⟩) (Nat.le_succ _) _,(Zg hm 0).trans rfl,(Zg hm 1).trans rfl⟩⟩
 have HF:=Zz.mk h
 have HZ:=Zz.mk (show ∀w':World,Below W0.heap.size W0 w'->w'.cell? ⟨w.heap.size,0,none⟩=some (.int .i64 e)/\w'.cell? ⟨w.heap.size,1,none⟩=some (.int .i64 p)/\w'.cell? ⟨w.heap.size,2,none⟩=some (.int .i64 e2)/\w'.cell? ⟨w.heap.size,3,none⟩=some (.int .i64 p2)/\w'.cell? ⟨w.heap.size,4,none⟩=some (.bool q) from fun w' hb=>by
  have hm:MBlk w' w.heap.size 102 _:=(hb.block _ (Zn HA.out)).trans HA.out
  exact ⟨(Zg hm 0).trans rfl,(Zg hm 1).trans rfl,(Zg hm 2).trans rfl,(Zg hm 3).trans rfl,(Zg hm 4).trans rfl⟩)
 clear h hb0
 go_enter Try.func76,Try.ntmps76
 go_upto_region 1 with fail
 rw [<-hW0]
 clear hW0
 have hf:=HF.out
 unfold hold_holder_holds.f at hf
 cases q with
 | true =>
  rw [if_pos rfl] at hf
  obtain ⟨⟨u1,u2⟩,m1,hf⟩:=Option.bind_eq_some_iff.1 hf
  obtain ⟨⟨u3,u4⟩,m2,hf⟩:=Option.bind_eq_some_iff.1 hf
  obtain ⟨t,m3,hf⟩:=Option.bind_eq_some_iff.1 hf
  have HM1:=Zz.mk m1
  have HM2:=Zz.mk m2
  have HM3:=Zz.mk m3
  have HFF:=Zz.mk hf
  clear m1 m2 m3 hf
  obtain ⟨s0,s1,s2,s3,s4⟩:=HZ.out W0 (Below.refl _ _)
  refine start_ (n:=12) (S:=fun w'=>w'.cell? ⟨w.heap.size,0,none⟩=some (.int .i64 e)/\w'.cell? ⟨w.heap.size,1,none⟩=some (.int .i64 p)/\w'.cell? ⟨w.heap.size,2,none⟩=some (.int .i64 e2)/\w'.cell? ⟨w.heap.size,3,none⟩=some (.int .i64 p2)/\w'.cell? ⟨w.heap.size,4,none⟩=some (.bool true)) (ds:=[]) #[false,false,false,false,false,false,false,false,false,false,false,false] (by kernel_rfl) rfl rfl ⟨s0,s1,s2,s3,s4⟩ (fun hHeld=>?_)
  refine pure_ (i:=0) (N:=some 3) (v:=?_) (a':=?_) #[true,false,false,false,false,false,false,false,false,false,false,false] rfl rfl (by kernel_rfl) (fun _ _ _ h=>h) (Or.inl ⟨by rfl,?_⟩) ?_ ?_
  rotate_left
  ·intro w'
   go_simp
   with_reducible rfl
  rotate_left
  ·simp only [Act.put,List.setIfInBounds_toArray,List.set_cons_zero,List.set_cons_succ,Z6,Z7]
   rfl
  refine take_ (i:=1) (N:=some 4) (v:=?_) (a':=?_) #[true,true,false,false,false,false,false,false,false,false,false,false] rfl rfl (by kernel_rfl) (fun _ _ _ h=>h) (Or.inl ⟨by rfl,?_⟩) hHeld ?_ ?_
  rotate_left
  ·rintro w' ⟨s0,s1,s2,s3,s4⟩
   go_simp
   with_reducible rfl
  rotate_left
  ·simp only [Act.put,List.setIfInBounds_toArray,List.set_cons_zero,List.set_cons_succ,Z6,Z7]
   rfl
  refine pure_ (i:=2) (N:=some 5) (v:=?_) (a':=?_) #[true,true,true,false,false,false,false,false,false,false,false,false] rfl rfl (by kernel_rfl) (fun _ _ _ h=>h) (Or.inl ⟨by rfl,?_⟩) ?_ ?_
  rotate_left
  ·intro w'
   go_simp
   with_reducible rfl
  rotate_left
  ·simp only [Act.put,List.setIfInBounds_toArray,List.set_cons_zero,List.set_cons_succ,Z6,Z7]
   rfl
  refine pure_ (i:=3) (N:=some 6) (v:=?_) (a':=?_) #[true,true,true,true,false,false,false,false,false,false,false,false] rfl rfl (by kernel_rfl) (fun _ _ _ h=>h) (Or.inl ⟨by rfl,?_⟩) ?_ ?_
  rotate_left
  ·intro w'
   go_simp
   with_reducible rfl
  rotate_left
  ·simp only [Act.put,List.setIfInBounds_toArray,List.set_cons_zero,List.set_cons_succ,Z6,Z7]
   rfl
  refine pure_ (i:=6) (N:=some 9) (v:=?_) (a':=?_) #[true,true,true,true,false,false,true,false,false,false,false,false] rfl rfl (by kernel_rfl) (fun _ _ _ h=>h) (Or.inl ⟨by rfl,?_⟩) ?_ ?_
  rotate_left
  ·intro w'
   go_simp
   with_reducible rfl
  rotate_left
  ·simp only [Act.put,List.setIfInBounds_toArray,List.set_cons_zero,List.set_cons_succ,Z6,Z7]
   rfl
  refine take_ (i:=4) (N:=some 7) (v:=?_) (a':=?_) #[true,true,true,true,true,false,true,false,false,false,false,false] rfl rfl (by kernel_rfl) (fun _ _ _ h=>h) (Or.inl ⟨by rfl,?_⟩) hHeld ?_ ?_
  rotate_left
  ·rintro w' ⟨s0,s1,s2,s3,s4⟩
   go_simp
   with_reducible rfl
  rotate_left
  ·simp only [Act.put,List.setIfInBounds_toArray,List.set_cons_zero,List.set_cons_succ,Z6,Z7]
   rfl
  refine take_ (i:=7) (N:=some 10) (v:=?_) (a':=?_) #[true,true,true,true,true,false,true,true,false,false,false,false] rfl rfl (by kernel_rfl) (fun _ _ _ h=>h) (Or.inl ⟨by rfl,?_⟩) hHeld ?_ ?_
  rotate_left
  ·rintro w' ⟨s0,s1,s2,s3,s4⟩
   go_simp
   with_reducible rfl
  rotate_left
  ·simp only [Act.put,List.setIfInBounds_toArray,List.set_cons_zero,List.set_cons_succ,Z6,Z7]
   rfl
  refine one_ (i:=5) (N:=some 8) #[true,true,true,true,true,true,true,true,false,false,false,false] rfl rfl (by kernel_rfl) (by decide) (fun K hK=>?_)
  refine goes_ Try.func71 (by kernel_rfl) rfl #[.agg #[.int .i64 e2,.int .i64 p2]] (by rfl) rfl rfl (by simp only [List.map_toArray,List.map_cons,List.map_nil];rfl) ?_
  with_reducible refine (of_rv HM1.out).mono ?_
  rintro e_ w1 ⟨x1,y1,rfl,h1,hb⟩
  refine ⟨_,rfl,?_⟩
  obtain ⟨X1,c1,X2,c2,rfl,rfl⟩:=h1.shape
  have hb1:Below W0.heap.size W0 w1:=Zi (Zr (Below.refl _ _)) hb
  have HB1:=Zz.mk hb1
  have H1:=Zz.mk h1
  clear h1 hb
  refine hK.out _ _ ⟨(HZ.out _ hb1).1,(HZ.out _ hb1).2.1,(HZ.out _ hb1).2.2.1,(HZ.out _ hb1).2.2.2.1,(HZ.out _ hb1).2.2.2.2⟩ (fun hHeld=>?_)
  clear hK K
  refine norm_ (a':=?_) ?_ ?_
  rotate_left
  ·show Act.put _ (some 8) _=_
   simp only [Act.put,List.setIfInBounds_toArray,List.set_cons_zero,List.set_cons_succ,Z6,Z7]
   rfl
  refine one_ (i:=8) (N:=some 11) #[true,true,true,true,true,true,true,true,true,false,false,false] rfl rfl (by kernel_rfl) (by decide) (fun K hK=>?_)
  refine goes_ Try.func71 (by kernel_rfl) rfl #[.agg #[.int .i64 e,.int .i64 p]] (by rfl) rfl rfl (by simp only [List.map_toArray,List.map_cons,List.map_nil];rfl) ?_
  with_reducible refine (of_rv HM2.out).mono ?_
  rintro e_ w2 ⟨x2,y2,rfl,h2,hb⟩
  refine ⟨_,rfl,?_⟩
  obtain ⟨X3,c3,X4,c4,rfl,rfl⟩:=h2.shape
  have hb2:Below W0.heap.size W0 w2:=Zi HB1.out hb
  have HB2:=Zz.mk hb2
  have H2:=Zz.mk h2
  have H1':=Zz.mk (H1.out.below hb)
  clear h2 hb
  refine hK.out _ _ ⟨(HZ.out _ hb2).1,(HZ.out _ hb2).2.1,(HZ.out _ hb2).2.2.1,(HZ.out _ hb2).2.2.2.1,(HZ.out _ hb2).2.2.2.2⟩ (fun hHeld=>?_)
  clear hK K
  refine norm_ (a':=?_) ?_ ?_
  rotate_left
  ·show Act.put _ (some 11) _=_
   simp only [Act.put,List.setIfInBounds_toArray,List.set_cons_zero,List.set_cons_succ,Z6,Z7]
   rfl
  refine one_ (i:=9) (N:=some 12) #[true,true,true,true,true,true,true,true,true,true,false,false] rfl rfl (by kernel_rfl) (by decide) (fun K hK=>?_)
  refine goes_ Try.func106 (by kernel_rfl) rfl #[.agg #[.slice X1 u1.length c1,.slice X2 u2.length c2],.agg #[.slice X3 u3.length c3,.slice X4 u4.length c4]] (by rfl) rfl rfl (by simp only [List.map_toArray,List.map_cons,List.map_nil];rfl) ?_
  with_reducible refine (cmp_rv H1'.out H2.out HM3.out).mono ?_
  rintro e_ w3 ⟨rfl,hb⟩
  refine ⟨_,rfl,?_⟩
  have hb3:Below W0.heap.size W0 w3:=Zi HB2.out hb
  have HB3:=Zz.mk hb3
  clear hb
  refine hK.out _ _ ⟨(HZ.out _ hb3).1,(HZ.out _ hb3).2.1,(HZ.out _ hb3).2.2.1,(HZ.out _ hb3).2.2.2.1,(HZ.out _ hb3).2.2.2.2⟩ (fun hHeld=>?_)
  clear hK K
  refine norm_ (a':=?_) ?_ ?_
  rotate_left
  ·show Act.put _ (some 12) _=_
   simp only [Act.put,List.setIfInBounds_toArray,List.set_cons_zero,List.set_cons_succ,Z6,Z7]
   rfl
  refine pure_ (i:=10) (N:=some 13) (v:=?_) (a':=?_) #[true,true,true,true,true,true,true,true,true,true,true,false] rfl rfl (by kernel_rfl) (fun _ _ _ h=>h) (Or.inl ⟨by rfl,?_⟩) ?_ ?_
  rotate_left
  ·intro w'
   go_simp
   with_reducible rfl
  rotate_left
  ·simp only [Act.put,List.setIfInBounds_toArray,List.set_cons_zero,List.set_cons_succ,Z6,Z7]
   rfl
  refine pure_ (i:=11) (N:=some 14) (v:=?_) (a':=?_) #[true,true,true,true,true,true,true,true,true,true,true,true] rfl rfl (by kernel_rfl) (fun _ _ _ h=>h) (Or.inl ⟨by rfl,?_⟩) ?_ ?_
  rotate_left
  ·intro w'
   go_simp
   with_reducible rfl
  rotate_left
  ·simp only [Act.put,List.setIfInBounds_toArray,List.set_cons_zero,List.set_cons_succ,Z6,Z7]
   rfl
  refine done_ (by kernel_rfl) ?_
  all_goals
   obtain ⟨s0,s1,s2,s3,s4⟩:=HZ.out w3 HB3.out
   have HG3:=Zz.mk (show MBlk w3 (w.heap.size+1) 34 _ from (HB3.out.block _ (Zn HR.out)).trans HR.out)
   have z0:w3.cell? ⟨w.heap.size+1,0,none⟩=some (.int .i64 0):=(Zg HG3.out 0).trans rfl
   have z1:w3.cell? ⟨w.heap.size+1,1,none⟩=some (.int .i64 0):=(Zg HG3.out 1).trans rfl
   have f0:=Zq HG3.out 0
   have f1:=Zq HG3.out 1
   have hf:=HFF.out
   by_cases ht:t>0
   ·rw [if_pos ht] at hf
    cases hf
    have d1:decide (t>0)=true:=decide_eq_true ht
    have d2:decide (0<t)=true:=decide_eq_true ht
    have d3:0<t:=ht
    clear ht
    go_wp2_with fail
    obtain ⟨hq,e0,e1⟩:=HEND.out w3 e2 p2 HB3.out
    exact bodyPost_ret (v:=.agg #[.int .i64 e2,.int .i64 p2]) (by simp [results,Try.results76,go_sem,e0,e1]) rfl ⟨rfl,hq⟩
   ·rw [if_neg ht] at hf
    cases hf
    have d1:decide (t>0)=false:=decide_eq_false ht
    have d2:decide (0<t)=false:=decide_eq_false ht
    have d3:¬ 0<t:=ht
    clear ht
    go_wp2_with fail
    obtain ⟨hq,e0,e1⟩:=HEND.out w3 e p HB3.out
    exact bodyPost_ret (v:=.agg #[.int .i64 e,.int .i64 p]) (by simp [results,Try.results76,go_sem,e0,e1]) rfl ⟨rfl,hq⟩
 | false =>
  rw [if_neg (by decide)] at hf
  cases hf
  obtain ⟨s0,s1,s2,s3,s4⟩:=HZ.out W0 (Below.refl _ _)
  refine start_ (n:=12) (S:=fun w'=>w'.cell? ⟨w.heap.size,0,none⟩=some (.int .i64 e)/\w'.cell? ⟨w.heap.size,1,none⟩=some (.int .i64 p)/\w'.cell? ⟨w.heap.size,4,none⟩=some (.bool false)) (ds:=[]) #[false,false,false,false,false,false,false,false,false,false,false,false] (by kernel_rfl) rfl rfl ⟨s0,s1,s4⟩ (fun hHeld=>?_)
  refine pure_ (i:=0) (N:=some 3) (v:=?_) (a':=?_) #[true,false,false,false,false,false,false,false,false,false,false,false] rfl rfl (by kernel_rfl) (fun _ _ _ h=>h) (Or.inl ⟨by rfl,?_⟩) ?_ ?_
  rotate_left
  ·intro w'
   go_simp
   with_reducible rfl
  rotate_left
  ·simp only [Act.put,List.setIfInBounds_toArray,List.set_cons_zero,List.set_cons_succ,Z6,Z7]
   rfl
  refine take_ (i:=1) (N:=some 4) (v:=?_) (a':=?_) #[true,true,false,false,false,false,false,false,false,false,false,false] rfl rfl (by kernel_rfl) (fun _ _ _ h=>h) (Or.inl ⟨by rfl,?_⟩) hHeld ?_ ?_
  rotate_left
  ·rintro w' ⟨s0,s1,s2⟩
   go_simp
   with_reducible rfl
  rotate_left
  ·simp only [Act.put,List.setIfInBounds_toArray,List.set_cons_zero,List.set_cons_succ,Z6,Z7]
   rfl
  refine pure_ (i:=2) (N:=some 5) (v:=?_) (a':=?_) #[true,true,true,false,false,false,false,false,false,false,false,false] rfl rfl (by kernel_rfl) (fun _ _ _ h=>h) (Or.inl ⟨by rfl,?_⟩) ?_ ?_
  rotate_left
  ·intro w'
   go_simp
   with_reducible rfl
  rotate_left
  ·simp only [Act.put,List.setIfInBounds_toArray,List.set_cons_zero,List.set_cons_succ,Z6,Z7]
   rfl
  refine pure_ (i:=3) (N:=some 6) (v:=undef) (a':=?_) #[true,true,true,true,false,false,false,false,false,false,false,false] rfl rfl (by kernel_rfl) (fun _ _ _ h=>h) (Or.inr ⟨by rfl,rfl⟩) ?_ ?_
  rotate_left
  ·simp only [Act.put,List.setIfInBounds_toArray,List.set_cons_zero,List.set_cons_succ,Z6,Z7]
   rfl
  refine pure_ (i:=4) (N:=some 7) (v:=undef) (a':=?_) #[true,true,true,true,true,false,false,false,false,false,false,false] rfl rfl (by kernel_rfl) (fun _ _ _ h=>h) (Or.inr ⟨by rfl,rfl⟩) ?_ ?_
  rotate_left
  ·simp only [Act.put,List.setIfInBounds_toArray,List.set_cons_zero,List.set_cons_succ,Z6,Z7]
   rfl
  refine pure_ (i:=5) (N:=some 8) (v:=undef) (a':=?_) #[true,true,true,true,true,true,false,false,false,false,false,false] rfl rfl (by kernel_rfl) (fun _ _ _ h=>h) (Or.inr ⟨by rfl,rfl⟩) ?_ ?_
  rotate_left
  ·simp only [Act.put,List.setIfInBounds_toArray,List.set_cons_zero,List.set_cons_succ,Z6,Z7]
   rfl
  refine pure_ (i:=6) (N:=some 9) (v:=undef) (a':=?_) #[true,true,true,true,true,true,true,false,false,false,false,false] rfl rfl (by kernel_rfl) (fun _ _ _ h=>h) (Or.inr ⟨by rfl,rfl⟩) ?_ ?_
  rotate_left
  ·simp only [Act.put,List.setIfInBounds_toArray,List.set_cons_zero,List.set_cons_succ,Z6,Z7]
   rfl
  refine pure_ (i:=7) (N:=some 10) (v:=undef) (a':=?_) #[true,true,true,true,true,true,true,true,false,false,false,false] rfl rfl (by kernel_rfl) (fun _ _ _ h=>h) (Or.inr ⟨by rfl,rfl⟩) ?_ ?_
  rotate_left
  ·simp only [Act.put,List.setIfInBounds_toArray,List.set_cons_zero,List.set_cons_succ,Z6,Z7]
   rfl
  refine pure_ (i:=8) (N:=some 11) (v:=undef) (a':=?_) #[true,true,true,true,true,true,true,true,true,false,false,false] rfl rfl (by kernel_rfl) (fun _ _ _ h=>h) (Or.inr ⟨by rfl,rfl⟩) ?_ ?_
  rotate_left
  ·simp only [Act.put,List.setIfInBounds_toArray,List.set_cons_zero,List.set_cons_succ,Z6,Z7]
   rfl
  refine pure_ (i:=9) (N:=some 12) (v:=undef) (a':=?_) #[true,true,true,true,true,true,true,true,true,true,false,false] rfl rfl (by kernel_rfl) (fun _ _ _ h=>h) (Or.inr ⟨by rfl,rfl⟩) ?_ ?_
  rotate_left
  ·simp only [Act.put,List.setIfInBounds_toArray,List.set_cons_zero,List.set_cons_succ,Z6,Z7]
   rfl
  refine pure_ (i:=10) (N:=some 13) (v:=undef) (a':=?_) #[true,true,true,true,true,true,true,true,true,true,true,false] rfl rfl (by kernel_rfl) (fun _ _ _ h=>h) (Or.inr ⟨by rfl,rfl⟩) ?_ ?_
  rotate_left
  ·simp only [Act.put,List.setIfInBounds_toArray,List.set_cons_zero,List.set_cons_succ,Z6,Z7]
   rfl
  refine pure_ (i:=11) (N:=some 14) (v:=?_) (a':=?_) #[true,true,true,true,true,true,true,true,true,true,true,true] rfl rfl (by kernel_rfl) (fun _ _ _ h=>h) (Or.inl ⟨by rfl,?_⟩) ?_ ?_
  rotate_left
  ·intro w'
   go_simp
   with_reducible rfl
  rotate_left
  ·simp only [Act.put,List.setIfInBounds_toArray,List.set_cons_zero,List.set_cons_succ,Z6,Z7]
   rfl
  refine done_ (by kernel_rfl) ?_
  all_goals
   have z0:W0.cell? ⟨w.heap.size+1,0,none⟩=some (.int .i64 0):=(Zg HR.out 0).trans rfl
   have z1:W0.cell? ⟨w.heap.size+1,1,none⟩=some (.int .i64 0):=(Zg HR.out 1).trans rfl
   have f0:=Zq HR.out 0
   have f1:=Zq HR.out 1
   go_wp2_with fail
   obtain ⟨hq,e0,e1⟩:=HEND.out W0 e p (Below.refl _ _)
   exact bodyPost_ret (v:=.agg #[.int .i64 e,.int .i64 p]) (by simp [results,Try.results76,go_sem,e0,e1]) rfl ⟨rfl,Zr hq⟩
end Go.Proofs.Ytfldklimlcnnnaa.XHolds
end

section
namespace Go.Proofs.Ytfldklimlcnnnaa.XBy
open Go.RowKit
variable {F:Fence} {n:Nat} {P:Program} {α:Type}
structure Book (D:Nat) (r:Loop) (W:World):Prop where
 defs:W.heap[D]? = some (.deferred (some []))
 loop:W.heap[D+1]? = some (.loop r)
theorem Book.lt {D:Nat} {r:Loop} {W:World} (h:Book D r W):D+1<W.heap.size:=(Array.getElem?_eq_some_iff.1 h.loop).1
theorem Book.grown {D:Nat} {r:Loop} {W W':World} {row:Option Nat} (h:Book D r W) (hg:W.grownBy W' row) (hr:∀k,row=some k->D+1<k):Book D r W' :=
 ⟨(hg.block D (by have:=h.lt;omega) (fun e=>by have:=hr D e.symm;omega)).trans h.defs,(hg.block (D+1) h.lt (fun e=>by have:=hr (D+1) e.symm;omega)).trans h.loop⟩
theorem Book.kept {D:Nat} {r:Loop} {W W':World} (h:Book D r W) (hk:KeepsFrom D W W'):Book D r W' :=
 ⟨hk.same _ _ (Nat.le_refl _) h.defs rfl,hk.same _ _ (by omega) h.loop rfl⟩
theorem Book.below {D:Nat} {r:Loop} {W W':World} (h:Book D r W) (hb:Below W.heap.size W W'):Book D r W' :=
 ⟨(hb.block _ (by have:=h.lt;omega)).trans h.defs,(hb.block _ h.lt).trans h.loop⟩
theorem Book.turned {D:Nat} {r:Loop} {W:World} (h:Book D r W) (r':Loop):Book D r' (W.putObj (D+1) (.loop r')) :=
 ⟨(World.putObj_heap_other (by omega)).trans h.defs,World.putObj_heap_same h.lt⟩
def SeqBy (F:Fence) (n:Nat) (P:Program) (gf:Nat) (lb:Array Value) (encs:α->Array Value) (Kr:World->World->Prop) (S:List α->Prop) (N:Nat) (w:World):Prop :=
 ∀ (l:Nat) (J Jx:List α->World->Prop) (W:World),Below w.heap.size w W →
  AbidesFrom W.heap.size J->(∀s X Y,J s X->Below X.heap.size X Y->J s Y) →
  (∀pre x X,J pre X->pre.length<N->W.heap.size<=X.heap.size->YieldAt F (n-1) P l (encs x) X fun e X' =>
   (e=.returned (.bool true)/\J (pre++[x]) X'/\Kr X X'/\X.heap.size<=X'.heap.size)∨(e=.returned (.bool false)/\Jx (pre++[x]) X')) →
  J [] W →
  CallsIn F n P gf (#[.func (.yield l) #[] #[]]++lb) W fun e W'=>(∃v,e=.returned v)/\((∃xs,S xs/\J xs W') ∨ ∃pre,Jx pre W')
def roundOut (D:Nat) (Kr:World->World->Prop) (I Ix:List α->World->Prop) (xs:List α) (W:World):Exit->Act->World->Prop
 | .normal,_,W'=>KeepsFrom D W W'/\Kr W W'/\I xs W'
 | .ret,_,W'=>KeepsFrom D W W'/\Ix xs W'
 | _,_,_=>False
theorem range_by {g:Operand} {ps:Array Tmp} {assign body:Code} {Q:Exit->Act->World->Prop} {a:Act} {w w0:World} {gf:Nat} {lb:Array Value}
  (hro:F.round=none) (hn:1<=n) (hg:a.eval g=.func (.func gf) #[] lb) (hF:F.fn gf) (heg:∀args w,(callFunc gf args).run P w=.ok (.enter gf args) w)
  {encs:α->Array Value} {Kr:World->World->Prop} {S:List α->Prop} {N:Nat} (hseq:SeqBy F (n-1) P gf lb encs Kr S N w0) (hw0:Below w0.heap.size w0 w) (hps:∀x,(encs x).size=ps.size)
  (hKt:∀ {A B C:World},Kr A B->Kr B C->Kr A C) (hKb:∀ (W:World) (l:Nat) (o o':Obj),W.heap[l]? = some o->o.isCells=false->o.isWalk=false->Kr W (W.putObj l o'))
  (I Ix:List α->World->Prop) (hI:OwnFrom w.heap.size I) (hIx:OwnFrom w.heap.size Ix) (hIB:∀s X Y,I s X->Below X.heap.size X Y->I s Y) (h0:I [] w)
  (Ax:α->Act->World->Prop) (hAx:∀x a',OwnFrom w.heap.size (fun (_:Unit) W=>Ax x a' W))
  (hassign:∀ (l:Nat) (pre:List α) (x:α) (W:World) (K:Act->World->Prop),I pre W->w.heap.size+1<W.heap.size->(∀a' W',KeepsFrom w.heap.size W W'->Kr W W'->I pre W'->Ax x a' W'->K a' W') →
   assign.wpIn (F.inRound l) (n-1-1) P (Exit.then K (fun _ _ _=>False)) { tmps:=(ps.zip (encs x)).foldl (fun t (p,v)=>t.setIfInBounds p v) a.tmps,defers:=[] } W)
  (hbody:∀ (l:Nat) (pre:List α) (x:α) (a':Act) (W:World),I pre W->Ax x a' W->pre.length<N->w.heap.size+1<W.heap.size->body.wpIn (F.inRound l) (n-1-1) P (roundOut w.heap.size Kr I Ix (pre++[x]) W) a' W)
  (hdone:∀ (xs:List α) (W:World),S xs->I xs W->W.heap[w.heap.size]? = some (.deferred (some []))->Q .normal { a with defers:={ target:=.collected w.heap.size,args:=#[] } :: a.defers } W)
  (hstop:∀ (pre:List α) (W:World),Ix pre W->W.heap[w.heap.size]? = some (.deferred (some []))->Code.ret.wpIn F n P Q { a with defers:={ target:=.collected w.heap.size,args:=#[] } :: a.defers } W) :
  (Code.rangeFunc g ps assign body).wpIn F n P Q a w:=by
 refine wpIn_rangeFunc fun fn hfn=>?_
 rw [hro]
 obtain ⟨r,hr⟩:∃r:LoopState->Option Code->Loop,r=fun st pe=>{ state:=st,pending:=pe,fn,tmps:=a.tmps,params:=ps,assign,body,defers:=w.heap.size }:=⟨_,rfl⟩
 obtain ⟨V,hV⟩:∃V,V=(w.alloc (.deferred (some []))).alloc (.loop (r .ready none)):=⟨_,rfl⟩
 have bV:Book w.heap.size (r .ready none) V:=by
  rw [hV]
  refine ⟨(Below.heap_alloc _ _ _ (by simp)).trans (World.alloc_heap_new w _),?_⟩
  have:=World.alloc_heap_new (w.alloc (.deferred (some []))) (.loop (r .ready none))
  rwa [World.size_alloc] at this
 have iV:I [] V:=by rw [hV];exact hI.alloc _ (hI.alloc _ h0)
 have wV:Below w0.heap.size w0 V:=by
  rw [hV]
  exact hw0.trans ((((Below.refl _ w).alloc (Nat.le_refl _) _).alloc (by simp) _).mono hw0.size)
 have hVs:V.heap.size=w.heap.size+2:=by rw [hV];simp
 refine ⟨w.heap.size+1,[{ target:=.collected w.heap.size,args:=#[] }],V, { target:=.fn (.func gf) lb,args:=#[.func (.yield (w.heap.size+1)) #[] #[]] },V,gf,
  #[.func (.yield (w.heap.size+1)) #[] #[]]++lb,V,by rw [hV,hr];exact run_enterLoop_outer _ _ _ _ _,by simp only [resolve,hg];simp [go_sem],fun f' h=>by simp [Target.leads] at h;subst h;exact hF,by simp [invoke,go_sem,heg],fun _=>hn,?_⟩
 refine (hseq (w.heap.size+1) (fun pre W=>I pre W/\Book w.heap.size (r .ready none) W) (fun pre W=>Ix pre W/\Book w.heap.size (r .done (some .ret)) W) V wV ?_ (fun s X Y h hb=>⟨hIB s X Y h.1 hb,h.2.below hb⟩) ?_ ⟨iV,bV⟩).mono ?_
 ·intro s X X' row h hg' hrow
  exact ⟨hI s X X' row h.1 hg' (fun k e=>⟨by have:=(hrow k e).1;omega,(hrow k e).2.imp fun o ho=>⟨ho.1,Obj.not_cells_of_walk ho.2⟩⟩),h.2.grown hg' (fun k e=>by have:=(hrow k e).1;omega)⟩
 ·-- a round
  rintro pre x X ⟨hi,hb⟩ hlen hX
  have hy:=run_yield (P:=P) (args:=encs x) hb.loop (by rw [hr];exact hps x)
  rw [hr] at hy
  refine ⟨fn,_,assign,body,hy,roundIn_of_wpIn hfn (hassign _ pre x X _ hi hb.lt ?_)⟩
  clear hy
  intro a' Xa hka hra hia hax
  have hba:=hb.kept hka
  have hb2:=hba.turned { r .ready none with state:=.busy }
  have hturn:Kr Xa (Xa.putObj (w.heap.size+1) (.loop { r .ready none with state:=.busy })):=hKb _ _ _ _ hba.loop rfl rfl
  refine ⟨_,run_beginRound hba.loop (by rw [hr]),wpIn_mono (hbody _ pre x a' _ (hI.putObj _ hia (by omega) hba.loop rfl) ((hAx x a').putObj (s:=()) _ hax (by omega) hba.loop rfl) hlen (by simp [World.putObj];have:=hba.lt;omega)) ?_⟩
  have hend:∀ (jump:Option Code) (Y:World),KeepsFrom w.heap.size (Xa.putObj (w.heap.size+1) (.loop { r .ready none with state:=.busy })) Y →
    Book w.heap.size { r .ready none with state:=.busy } Y/\(Instr.endRound (w.heap.size+1) jump).run P Y=.ok (.bool jump.isNone) (Y.putObj (w.heap.size+1) (.loop (r (if jump.isNone then .ready else .done) jump))):=fun jump Y hk=>by
   have hbY:=hb2.kept hk
   have:=run_endRound (P:=P) jump hbY.loop
   rw [hr] at this ⊢
   exact ⟨by rw [hr] at hbY;exact hbY,this⟩
  rintro e a3 Y hp
  cases e with
  | normal =>
   obtain ⟨hk,hrY,hiY⟩:=hp
   obtain ⟨hbY,hrun⟩:=hend none Y hk
   refine ⟨_,_,hrun,.inl ⟨rfl,⟨hI.putObj _ hiY (by omega) hbY.loop rfl,hbY.turned _⟩,hKt hra (hKt (hKt hturn hrY) (hKb _ _ _ _ hbY.loop rfl rfl)),?_⟩⟩
   have h1:=hka.size
   have h2:=hk.size
   simp [World.putObj] at h2 ⊢
   omega
  | ret =>
   obtain ⟨hk,hiY⟩:=hp
   obtain ⟨hbY,hrun⟩:=hend (some .ret) Y hk
   exact ⟨_,_,hrun,.inr ⟨rfl,hIx.putObj _ hiY (by omega) hbY.loop rfl,hbY.turned _⟩⟩
  | exit id=>exact hp.elim
  | goto t=>exact hp.elim
  | panic ch=>exact hp.elim
  | outgrown=>exact hp.elim
 ·rintro e Y ⟨⟨v,rfl⟩,(⟨xs,hS,hi,hb⟩|⟨pre,hi,hb⟩)⟩
  ·exact ⟨none,_,by have:=run_endLoop (P:=P) hb.loop (by rw [hr];simp);rw [hr] at this;exact this,hdone xs _ hS (hI.putObj _ hi (by omega) hb.loop rfl) ((World.putObj_heap_other (by omega)).trans hb.defs)⟩
  ·exact ⟨some .ret,_,by have:=run_endLoop (P:=P) hb.loop (by rw [hr];simp);rw [hr] at this;exact this,hstop pre _ (hIx.putObj _ hi (by omega) hb.loop rfl) ((World.putObj_heap_other (by omega)).trans hb.defs)⟩
end Go.Proofs.Ytfldklimlcnnnaa.XBy
end

section
namespace Go.Proofs.Ytfldklimlcnnnaa.XHold
open Go.RowKit PHq YtfldklimlcnnnaaW.PrintWords YtfldklimlcnnnaaW.PrintLast YtfldklimlcnnnaaW.PrintMore MWords
open MNat QNat QText QEv QRatio XRV
open Go.Maps (Keyed int_keyed keyOf_int_mk)
structure Hd where
 e:Int
 p:Int
 e2:Int
 p2:Int
 a:Bool
def hdV (h:Hd):Value:=.agg #[.int .i64 h.e,.int .i64 h.p,.int .i64 h.e2,.int .i64 h.p2,.bool h.a]
def hdD (h:Hd):DataW Unit:=.agg [.lit (.int .i64 h.e),.lit (.int .i64 h.p),.lit (.int .i64 h.e2),.lit (.int .i64 h.p2),.lit (.bool h.a)]
def hdL:List Value->Option (DataW Unit × List MemPlace)
 | [.int .i64 e,.int .i64 p,.int .i64 e2,.int .i64 p2,.bool a]=>some (hdD ⟨e,p,e2,p2,a⟩,[])
 | _=>none
def hdR (v:Value):Option (DataW Unit × List MemPlace):=match v with
 | .agg cs=>hdL cs.toList
 | _=>none
theorem hdR_mk (h:Hd):hdR (hdV h)=some (hdD h,[]):=rfl
theorem hdR_inv {v:Value} {y:DataW Unit × List MemPlace} (h:hdR v=some y):∃x,v=hdV x/\y=(hdD x,[]):=by
 unfold hdR at h
 split at h
 ·rename_i cs
  unfold hdL at h
  split at h
  ·rename_i e p e2 p2 a hc
   refine ⟨⟨e,p,e2,p2,a⟩,?_,(Option.some.inj h).symm⟩
   show Value.agg cs=Value.agg #[.int .i64 e,.int .i64 p,.int .i64 e2,.int .i64 p2,.bool a]
   congr 1
   rw [<-Array.toList_inj,hc]
  ·cases h
 ·cases h
theorem hdD_inj {h k:Hd} (e:hdD h=hdD k):h=k:=by
 cases h;cases k
 simp [hdD] at e
 obtain ⟨rfl,rfl,rfl,rfl,rfl⟩:=e
 rfl
theorem keyed:Keyed Try.prog 3:=int_keyed Try.underlying3
def wfI (x:Int):Prop:=(Lit.int .i64 x).wf=true
theorem wfI_of {x:Int} (h0 : -9223372036854775808<=x) (h1:x<=9223372036854775807):wfI x:=by
 unfold wfI
 simp [Lit.wf,IntKind.min,IntKind.max,IntKind.signed,IntKind.bits]
 omega
theorem key_of {x:Int} (h:wfI x):keyOf Try.prog 3 (.int .i64 x)=some (.int .i64 x):=keyOf_int_mk Try.underlying3 h
theorem key_lit (x:Int):WideAt.IsKeyLit (.int .i64 x:Lit):=trivial
structure View (D:DataW Unit) (l:List (Int × Hd)):Prop where
 has:∀x:Int,Maps.has D (.int .i64 x)=l.any fun y=>decide (y.1=x)
 at_:∀y∈l,∀z,D.atKey (.int .i64 y.1) z=hdD y.2
 nodup:(l.map (·.1)).Nodup
 size:Maps.size D=l.length
 wf:∀y∈l,wfI y.1
def MapIs (W:World) (b:Nat) (l:List (Int × Hd)):Prop:=∃D:DataW Unit,W.ownsMap Try.prog 3 hdR b l.length D/\View D l
theorem MapIs.kept {W W':World} {b:Nat} {l:List (Int × Hd)} (h:MapIs W b l) (hb:W'.heap[b]? = W.heap[b]?):MapIs W' b l:=by
 obtain ⟨D,⟨es,clock,h1,h2⟩,hv⟩:=h
 exact ⟨D,⟨es,clock,hb.trans h1,h2⟩,hv⟩
theorem MapIs.lt {W:World} {b:Nat} {l:List (Int × Hd)} (h:MapIs W b l):b<W.heap.size:=by
 obtain ⟨D,ho,_⟩:=h
 exact ho.lt
theorem MapIs.obj {W:World} {b:Nat} {l:List (Int × Hd)} (h:MapIs W b l):∃es clock,W.heap[b]? = some (.map es clock):=by
 obtain ⟨D,⟨es,clock,h1,_⟩,_⟩:=h
 exact ⟨es,clock,h1⟩
theorem own_size {W:World} {b n:Nat} {D:DataW Unit} (h:W.ownsMap Try.prog 3 hdR b n D):W.ownsMap Try.prog 3 hdR b (Maps.size D) D:=by
 obtain ⟨es,clock,h1,F,hn,hD⟩:=h
 refine ⟨es,clock,h1,F,?_,hD⟩
 rw [hD,Maps.size_eq]
 have:=length_read (P:=Try.prog) (k:=3) (R0:=hdR) es
 omega
def getL (l:List (Int × Hd)) (x:Int):Option Hd:=(l.find? fun y=>decide (y.1=x)).map (·.2)
def hasL (l:List (Int × Hd)) (x:Int):Bool:=l.any fun y=>decide (y.1=x)
def setL (l:List (Int × Hd)) (x:Int) (h:Hd):List (Int × Hd):=if hasL l x=true then l.map (fun y=>if y.1=x then (x,h) else y) else l++[(x,h)]
def delL (l:List (Int × Hd)) (x:Int):List (Int × Hd):=l.filter fun y=>decide (y.1≠x)
def zeroH:Hd:=⟨0,0,0,0,false⟩
theorem getL_mem {l:List (Int × Hd)} {x:Int} {h:Hd} (e:getL l x=some h):(x,h)∈l:=by
 unfold getL at e
 obtain ⟨y,hy,rfl⟩:=Option.map_eq_some_iff.1 e
 have h1:=List.mem_of_find?_eq_some hy
 have h2:=List.find?_some hy
 have h3:y.1=x:=by simpa using h2
 rw [<-h3]
 exact h1
theorem getL_none {l:List (Int × Hd)} {x:Int} (e:getL l x=none):hasL l x=false:=by
 unfold getL at e
 rw [Option.map_eq_none_iff,List.find?_eq_none] at e
 unfold hasL
 rw [List.any_eq_false]
 exact e
theorem getL_has (l:List (Int × Hd)) (x:Int):hasL l x=(getL l x).isSome:=by
 cases h:getL l x with
 | none=>exact getL_none h
 | some y =>
  show (l.any fun y=>decide (y.1=x))=true
  rw [List.any_eq_true]
  exact ⟨_,getL_mem h,by simp⟩
theorem lit_ne {x y:Int} (h:x≠y):(Lit.int .i64 x)≠(Lit.int .i64 y):=fun e=>h (by injection e)
theorem View.nil:View (.map []) []:=⟨fun _=>rfl,by simp,by simp,rfl,by simp⟩
theorem View.get {D:DataW Unit} {l:List (Int × Hd)} (h:View D l) (x:Int):D.atKey (.int .i64 x) (hdD zeroH)=hdD ((getL l x).getD zeroH):=by
 cases e:getL l x with
 | none =>
  refine Maps.atKey_of_not_has ?_ _
  rw [h.has]
  exact getL_none e
 | some y=>exact h.at_ _ (getL_mem e) _
theorem mem_unique {l:List (Int × Hd)} (h:(l.map (·.1)).Nodup) {x:Int} {a b:Hd} (ha:(x,a)∈l) (hb:(x,b)∈l):a=b:=by
 induction l with
 | nil=>simp at ha
 | cons y l ih =>
  rw [List.map_cons,List.nodup_cons] at h
  rcases List.mem_cons.1 ha with e1|ha
  ·rcases List.mem_cons.1 hb with e2|hb
   ·rw [<-e1] at e2
    injection e2 with _ e2
    exact e2.symm
   ·exact absurd (List.mem_map.2 ⟨_,hb,rfl⟩) (by rw [<-e1] at h;exact h.1)
  ·rcases List.mem_cons.1 hb with e2|hb
   ·exact absurd (List.mem_map.2 ⟨_,ha,rfl⟩) (by rw [<-e2] at h;exact h.1)
   ·exact ih h.2 ha hb
theorem set_keys (l:List (Int × Hd)) (x:Int) (h:Hd):(setL l x h).map (·.1)=if hasL l x=true then l.map (·.1) else l.map (·.1)++[x]:=by
 unfold setL
 split
 ·rw [List.map_map]
  refine List.map_congr_left fun y _=>?_
  show (if y.1=x then (x,h) else y).1=y.1
  split
  ·rename_i e;exact e.symm
  ·rfl
 ·rw [List.map_append]
  rfl
theorem set_len (l:List (Int × Hd)) (x:Int) (h:Hd):(setL l x h).length=if hasL l x=true then l.length else l.length+1:=by
 have:=congrArg List.length (set_keys l x h)
 rw [List.length_map] at this
 rw [this]
 split<;>simp
theorem set_mem {l:List (Int × Hd)} {x:Int} {h:Hd} {y:Int × Hd} (hy:y∈setL l x h):y=(x,h)∨(y∈l/\y.1≠x):=by
 unfold setL at hy
 split at hy
 ·obtain ⟨z,hz,e⟩:=List.mem_map.1 hy
  split at e
  ·exact .inl e.symm
  ·rename_i hne
   exact .inr (e ▸ ⟨hz,hne⟩)
 ·rename_i hn
  rcases List.mem_append.1 hy with hy|hy
  ·refine .inr ⟨hy,fun e=>hn ?_⟩
   unfold hasL
   rw [List.any_eq_true]
   exact ⟨y,hy,by simpa using e⟩
  ·exact .inl (List.mem_singleton.1 hy)
theorem set_has (l:List (Int × Hd)) (x y:Int) (h:Hd):hasL (setL l x h) y=(decide (x=y) || hasL l y):=by
 have e:∀l:List (Int × Hd),hasL l y=(l.map (·.1)).any fun z=>decide (z=y):=fun l=>by unfold hasL;rw [List.any_map];rfl
 rw [e,set_keys]
 split
 ·rename_i hx
  rw [<-e]
  by_cases hxy:x=y
  ·subst hxy;rw [hx];simp
  ·simp [hxy]
 ·rw [List.any_append,<-e,Bool.or_comm]
  simp
theorem View.put {D:DataW Unit} {l:List (Int × Hd)} (v:View D l) (ht:Maps.Tidy D) {x:Int} (hx:wfI x) (h:Hd):View (D.put (.int .i64 x) (hdD h)) (setL l x h):=by
 refine ⟨fun y=>?_,fun y hy z=>?_,?_,?_,fun y hy=>?_⟩
 ·show _=hasL (setL l x h) y
  rw [set_has]
  by_cases hxy:x=y
  ·subst hxy
   rw [Maps.has_put_same ht.isMap (key_lit x)]
   simp
  ·rw [Maps.has_put_other (lit_ne (fun e=>hxy e.symm)),v.has y]
   simp [hxy,hasL]
 ·rcases set_mem hy with rfl|⟨hm,hne⟩
  ·exact Maps.atKey_put_same ht.isMap (key_lit x) _ _
  ·rw [Maps.atKey_put_other (lit_ne hne)]
   exact v.at_ y hm z
 ·rw [set_keys]
  split
  ·exact v.nodup
  ·rename_i hn
   rw [List.nodup_append]
   refine ⟨v.nodup,by simp,fun a ha b hb e=>hn ?_⟩
   obtain ⟨y,hy,rfl⟩:=List.mem_map.1 ha
   rw [List.mem_singleton.1 hb] at e
   unfold hasL
   rw [List.any_eq_true]
   exact ⟨y,hy,by simpa using e⟩
 ·rw [Maps.size_put ht,v.has x,v.size,set_len]
  rfl
 ·rcases set_mem hy with rfl|⟨hm,_⟩
  ·exact hx
  ·exact v.wf y hm
theorem View.del {D:DataW Unit} {l:List (Int × Hd)} (v:View D l) (ht:Maps.Tidy D) (x:Int):View (D.del (.int .i64 x)) (delL l x):=by
 have hd:∀y∈delL l x,y∈l/\y.1≠x:=fun y hy=>by
  unfold delL at hy
  rw [List.mem_filter] at hy
  exact ⟨hy.1,by simpa using hy.2⟩
 refine ⟨fun y=>?_,fun y hy z=>?_,?_,?_,fun y hy=>v.wf y (hd y hy).1⟩
 ·show _=hasL (delL l x) y
  by_cases hxy:x=y
  ·subst hxy
   rw [Maps.has_del_same]
   symm
   unfold hasL
   rw [List.any_eq_false]
   intro z hz
   simpa using (hd z hz).2
  ·rw [Maps.has_del_other (lit_ne (fun e=>hxy e.symm)),v.has y]
   unfold delL hasL
   rw [List.any_filter]
   congr 1
   funext z
   by_cases hz:z.1=y
   ·have:z.1≠x:=fun e=>hxy (e.symm.trans hz)
    rw [decide_eq_true hz,decide_eq_true this]
    rfl
   ·simp [hz]
 ·rw [Maps.atKey_del_other (lit_ne (hd y hy).2)]
  exact v.at_ y (hd y hy).1 z
 ·exact (v.nodup).sublist (List.Sublist.map _ List.filter_sublist)
 ·have h1:=Maps.size_del (k:=.int .i64 x) ht
  rw [v.has x,v.size] at h1
  have h2:∀l:List (Int × Hd),(l.map (·.1)).Nodup->(delL l x).length+(if (l.any fun y=>decide (y.1=x))=true then 1 else 0)=l.length:=by
   intro l
   induction l with
   | nil=>intro _;rfl
   | cons y l ih =>
    intro hn
    rw [List.map_cons,List.nodup_cons] at hn
    have ih:=ih hn.2
    unfold delL at ih ⊢
    rw [List.any_cons,List.filter_cons]
    by_cases hy:y.1=x
    ·have hno:(l.any fun y=>decide (y.1=x))=false:=by
      rw [List.any_eq_false]
      intro z hz e
      exact hn.1 (List.mem_map.2 ⟨z,hz,by rw [hy];simpa using e⟩)
     rw [hno] at ih
     rw [if_neg (by simpa using hy),decide_eq_true hy,List.length_cons]
     simp at ih ⊢
     exact ih
    ·rw [if_pos (by simpa using hy),decide_eq_false hy,Bool.false_or]
     simp only [List.length_cons]
     omega
  have:=h2 l v.nodup
  omega
theorem zeroE (w:World):(zeroValue 102).run Try.prog w=.ok (hdV zeroH) w:=by kernel_rfl
end Go.Proofs.Ytfldklimlcnnnaa.XHold
end

section
namespace Go.Proofs.Ytfldklimlcnnnaa.XWts
open Go.RowKit PHq YtfldklimlcnnnaaW.PrintWords YtfldklimlcnnnaaW.PrintLast YtfldklimlcnnnaaW.PrintMore MWords
open MNat QNat QText QEv QRatio XRV XHold XBy
attribute [local go_sem] Oper.semAt_some
def wN (h:Hd):S34:=⟨h.e,h.p⟩
def wX (h:Hd):S34:=⟨h.e2,h.p2⟩
def hv (h:Hd):S34:=if h.a=true/\wt (wN h)<wt (wX h) then wX h else wN h
def okH (h:Hd):Prop:=okW (wN h)/\(h.a=true->okW (wX h))
theorem hv_ok {h:Hd} (k:okH h):okW (hv h):=by
 unfold hv
 split
 ·rename_i c;exact k.2 c.1
 ·exact k.1
theorem hv_t (h:Hd) (k:okH h):Tell (fun f=>hold_holder_holds.f f h.e h.p h.e2 h.p2 h.a) ((hv h).f0,(hv h).f1):=by
 by_cases ha:h.a=true
 ·have k2:=k.2 ha
  have o1:=of_w (wX h) k2
  have o2:=of_w (wN h) k.1
  have c:=rcmp_t 1 1 _ _ _ _ (okW_F k2).1 (okW_F k2).2 (okW_F k.1).1 (okW_F k.1).2 (by omega) (okW_pos k2) (okW_pos k.1)
  have o1':ratio_Of.f h.e2 h.p2=some (limbs (wX h).f0.toNat,limbs (wX h).f1.toNat):=o1
  have o2':ratio_Of.f h.e h.p=some (limbs (wN h).f0.toNat,limbs (wN h).f1.toNat):=o2
  refine Tell.of (g:=fun f=>(ratio_Cmp.f f (limbs (wX h).f0.toNat) (limbs (wX h).f1.toNat) (limbs (wN h).f0.toNat) (limbs (wN h).f1.toNat)).bind fun t=>if t>0 then some (h.e2,h.p2) else some (h.e,h.p)) (fun f=>by
   unfold hold_holder_holds.f
   rw [if_pos ha,o1',Option.bind_some,o2',Option.bind_some]) ?_
  refine Tell.bind c ?_
  unfold hv
  show Tell (fun _=>if cmpR (wt (wX h)) (wt (wN h))>0 then some (h.e2,h.p2) else some (h.e,h.p)) _
  by_cases hlt:wt (wN h)<wt (wX h)
  ·have:cmpR (wt (wX h)) (wt (wN h))>0:=by
    unfold cmpR
    rw [if_neg (fun h2=>(Rat.lt_iff_le_and_not_ge.1 hlt).2 (Rat.lt_iff_le_and_not_ge.1 h2).1),if_neg (fun e=>by rw [e] at hlt;exact Rat.lt_irrefl hlt)]
    decide
   rw [show (if h.a=true/\wt (wN h)<wt (wX h) then wX h else wN h)=wX h from if_pos ⟨ha,hlt⟩]
   exact Tell.of (g:=fun _=>some (h.e2,h.p2)) (fun _=>if_pos this) (Tell.const _)
  ·have:¬ cmpR (wt (wX h)) (wt (wN h))>0:=by
    unfold cmpR
    split
    ·decide
    split
    ·decide
    ·rename_i h1 h2
     exact absurd (Rat.lt_of_le_of_ne (Rat.not_lt.1 h1) (fun e=>h2 e.symm)) hlt
   rw [show (if h.a=true/\wt (wN h)<wt (wX h) then wX h else wN h)=wN h from if_neg (fun c=>hlt c.2)]
   exact Tell.of (g:=fun _=>some (h.e,h.p)) (fun _=>if_neg this) (Tell.const _)
 ·unfold hv
  rw [if_neg (fun c=>ha c.1)]
  exact Tell.of (g:=fun _=>some (h.e,h.p)) (fun f=>by unfold hold_holder_holds.f;rw [if_neg ha]) (Tell.const _)
theorem walks_below {W W':World} (hb:Below W.heap.size W W'):KeepsWalks W W':=⟨hb.size,fun k o hk _=>(hb.block k (Array.getElem?_eq_some_iff.1 hk).1).trans hk⟩
theorem left_step (l:List (Int × Hd)) (hn:(l.map (·.1)).Nodup) (left:Lit->Bool) {x:Int} {c:Hd} (hm:(x,c)∈l) (hl:left (.int .i64 x)=true) :
  ((l.filter fun y=>left (.int .i64 y.1)).map (·.2)).Perm (c::(l.filter fun y=>(left (.int .i64 y.1) && !(Lit.int .i64 y.1).sameKey (.int .i64 x))).map (·.2)):=by
 have hs:∀a b:Int,(Lit.int .i64 a).sameKey (.int .i64 b)=decide (a=b):=fun a b=>by
  by_cases h:a=b
  ·subst h;simp [Lit.sameKey]
  ·rw [decide_eq_false h];exact Maps.sameKey_ne (lit_ne h)
 induction l with
 | nil=>simp at hm
 | cons y l ih =>
  rw [List.map_cons,List.nodup_cons] at hn
  rcases List.mem_cons.1 hm with e|hm'
  ·subst e
   have hrest:(l.filter fun y=>(left (.int .i64 y.1) && !(Lit.int .i64 y.1).sameKey (.int .i64 x)))=l.filter fun y=>left (.int .i64 y.1):=by
    refine List.filter_congr fun z hz=>?_
    have:z.1≠x:=fun e=>hn.1 (List.mem_map.2 ⟨z,hz,e⟩)
    rw [hs,decide_eq_false this]
    simp
   rw [List.filter_cons,List.filter_cons,if_pos hl,hs,decide_eq_true rfl,if_neg (by simp),hrest]
   exact List.Perm.refl _
  ·have hne:y.1≠x:=fun e=>hn.1 (List.mem_map.2 ⟨_,hm',e.symm⟩)
   have ih:=ih hn.2 hm'
   rw [List.filter_cons,List.filter_cons,hs,decide_eq_false hne]
   by_cases hly:left (.int .i64 y.1)=true
   ·rw [if_pos hly,if_pos (by simp [hly]),List.map_cons,List.map_cons]
    exact (ih.cons y.2).trans (List.Perm.swap _ _ _)
   ·rw [if_neg hly,if_neg (by simp [hly])]
    exact ih
set_option maxRecDepth 100000 in
set_option maxHeartbeats 4000000 in
theorem weights_seq (Bs g b:Nat) (x y u v:Value) (l:List (Int × Hd)) (w:World) (hBs:MBlk w Bs 24 #[.pointer (some ⟨g,0,none⟩)]) (hg:MBlk w g 97 #[x,y,.map (some b),u,v]) (hm:MapIs w b l) (hl:l.length<=1000000) (hok:∀z∈l,okH z.2) :
  SeqBy Fence.wide 5 Try.prog 126 #[.pointer (some ⟨Bs,0,none⟩)] (fun s:S34=>#[.agg #[.int .i64 s.f0,.int .i64 s.f1]]) KeepsWalks (fun xs=>xs.Perm (l.map fun z=>hv z.2)) l.length w:=by
 intro lo J Jx W hW hJ hJb hY h0
 obtain ⟨D,hD,hV⟩:=hm
 have HD:=Zz.mk (show W.ownsMap Try.prog 3 hdR b l.length D by
  obtain ⟨es,clock,h1,h2⟩:=hD
  exact ⟨es,clock,(hW.block b (Array.getElem?_eq_some_iff.1 h1).1).trans h1,h2⟩)
 have HV:=Zz.mk hV
 have k0:W.cell? ⟨Bs,0,none⟩=some (.pointer (some ⟨g,0,none⟩)):=(Zg ((hW.block _ (Zn hBs)).trans hBs) 0).trans rfl
 have k1:W.cell? ⟨g,1+1,none⟩=some (.map (some b)):=(Zg ((hW.block _ (Zn hg)).trans hg) 2).trans rfl
 have HJ:=Zz.mk hJ
 have HJB:=Zz.mk hJb
 have HY:=Zz.mk hY
 have HOK:=Zz.mk hok
 clear hJ hJb hY hD hV hok hBs hg hW
 refine callsIn_of_wp Try.func126 rfl trivial ?_ rfl
 simp only [Try.ntmps126,List.size_toArray,List.length_cons,List.length_nil,Nat.reduceAdd,Nat.reduceSub,Array.replicate_succ,Array.replicate_zero,List.push_toArray,List.append_toArray,List.nil_append,List.cons_append]
 gi_wp2_with (gi_at_range;refine wpListIn_range_own _ rfl (.tmp 8) 94 rfl 3 102 keyed Try.underlying94 hdR b l.length D rfl HD.out ?_;intro w0 hrg0 hg0 hs0)
 have hJ0:=HJ.out _ _ _ none h0 hg0 (fun r e=>by cases e)
 have HS0:=Zz.mk hs0
 have hr0:W.heap.size=W.heap.size:=rfl
 gi_loopw [10] (fun _ wr=>∃ (left:Lit->Bool) (cnt:Nat) (pre:List Hd),wr.ranges Try.prog 3 hdR b W.heap.size l.length D left cnt/\Zz (J (pre.map hv) wr)/\Zz ((pre++(l.filter fun z=>left (.int .i64 z.1)).map (·.2)).Perm (l.map (·.2)))/\Zz (W.heap.size<=wr.heap.size)) (fun _ wr=>wr.rangeLeft b W.heap.size)
 case atStart =>
  refine ⟨Maps.has D,Maps.size D,[],hrg0,⟨hJ0⟩,⟨?_⟩,⟨by rw [HS0.out];omega⟩⟩
  rw [List.nil_append,List.filter_eq_self.2]
  ·intro z hz
   rw [HV.out.has z.1,List.any_eq_true]
   exact ⟨z,hz,by simp⟩
 case round =>
  clear hJ0 hrg0 hg0 HS0 hr0 h0
  obtain ⟨left,cnt,pre,hrg,HJp,HP,HW⟩:=hrel
  have HRG:=Zz.mk hrg
  rw [hrg.left_eq]
  clear hrg
  gi_wp2_with (gi_at_next;refine wpListIn_next_ranges _ rfl (.tmp 9) rfl 3 keyed hdR (Value.int .i64) hdV (fun key kl hk=>by obtain ⟨z,e,_⟩:=Maps.keyOf_int_inv Try.underlying3 hk;exact ⟨z,e⟩) (fun z y hz=>by obtain ⟨c,e,_⟩:=hdR_inv hz;exact ⟨c,e⟩) b W.heap.size l.length D left cnt rfl HRG.out ?_ ?_)
  ·intro _ hno
   have HX:=Zz.mk (show (pre.map hv).Perm (l.map fun z=>hv z.2) by
    have h1:=HP.out
    have h2:(l.filter fun z=>left (.int .i64 z.1)) = []:=List.filter_eq_nil_iff.2 fun z _=>by simp [hno]
    rw [h2,List.map_nil,List.append_nil] at h1
    have h3:=h1.map hv
    rwa [List.map_map] at h3)
   gi_wp2
   go_end0
   exact ⟨⟨_,rfl⟩,.inl ⟨_,HX.out,HJp.out⟩⟩
  ·intro z c kl y1 y2 w1 cnt1 hkey hlk hy hat hrg1 hlt hg1 hs1 hen
   have HLT:=Zz.mk hlt
   obtain ⟨z',ez,rfl,hwz⟩:=Maps.keyOf_int_inv Try.underlying3 hkey
   obtain rfl:z=z':=by injection ez
   obtain rfl:y1=hdD c:=by rw [hdR_mk] at hy;exact (congrArg (fun o=>(o.getD (default,[])).1) hy).symm
   have hmem:(z,c)∈l:=by
    have h1:=Maps.has_true_of_atKey hat
    rw [HV.out.has] at h1
    obtain ⟨q,hq,hqz⟩:=List.any_eq_true.1 h1
    have hqz':q.1=z:=by simpa using hqz
    have h2:=HV.out.at_ q hq (hdD zeroH)
    rw [hqz',hat] at h2
    have h3:=hdD_inj h2
    rw [<-hqz',h3]
    exact hq
   have HP2:=Zz.mk (show ((pre++[c])++(l.filter fun q=>(left (.int .i64 q.1) && !(Lit.int .i64 q.1).sameKey (.int .i64 z))).map (·.2)).Perm (l.map (·.2)) by
    refine List.Perm.trans ?_ HP.out
    rw [List.append_assoc]
    exact (left_step l HV.out.nodup left hmem hlk).symm.append_left pre)
   have hpl:pre.length<l.length:=by
    have h1:=HP2.out.length_eq
    simp only [List.length_append,List.length_map,List.length_cons,List.length_nil] at h1
    omega
   have hokc:=HOK.out (z,c) hmem
   have hj1:=HJ.out _ _ _ (some W.heap.size) HJp.out hg1 (fun r e=>by
    cases e
    exact ⟨Nat.le_refl _,HRG.out.iter_walk⟩)
   obtain ⟨f,hf⟩:=(hv_t c hokc).get
   have HF:=Zz.mk hf
   have HJ1:=Zz.mk hj1
   have HR1:=Zz.mk hrg1
   have HW1:=Zz.mk (show W.heap.size<=w1.heap.size by rw [hs1];exact HW.out)
   have HPL:=Zz.mk hpl
   simp only [hdV] at hen ⊢
   clear hkey hlk hy hat hrg1 hg1 hs1 hmem hj1 hf hwz ez hlt hpl hokc HJp HP HRG HW
   have h11:1<=5:=by omega
   gi_wp2
   refine ⟨trivial,(callsIn_wide.2 (XHolds.holds_calls f c.e c.p c.e2 c.p2 c.a _ _ _ HF.out)).mono ?_⟩
   rintro e w2 ⟨rfl,hb⟩
   have hb1:Below w1.heap.size w1 w2:=Zi (Zb (Below.refl _ _) _) hb
   have HJ2:=Zz.mk (HJB.out _ _ _ HJ1.out hb1)
   have HR2:=Zz.mk (World.ranges.of_walks HR1.out (walks_below hb1))
   have HW2:=Zz.mk (Nat.le_trans HW1.out hb1.size)
   obtain ⟨fn,tmps,assign,body,hy,hR⟩:=HY.out (pre.map hv) (hv c) w2 HJ2.out (by rw [List.length_map];exact HPL.out) HW2.out
   clear hb hb1 hen HJ1 HR1 HW1
   gi_wp2
   refine hR.mono ?_
   rintro e W3 (⟨rfl,hJ3,hk3,hs3⟩|⟨rfl,hJx3⟩)
   ·have HJ3:=Zz.mk (show J ((pre++[c]).map hv) W3 by rw [List.map_append];exact hJ3)
    have HR3:=Zz.mk (World.ranges.of_walks HR2.out hk3)
    have HW3:=Zz.mk (Nat.le_trans HW2.out hs3)
    clear hJ3 hk3 hs3 hy hR
    gi_wp2
    go_roundw
    case rel=>exact ⟨_,cnt1,pre++[c],HR3.out,HJ3,HP2,HW3⟩
    case measure=>rw [HR3.out.left_eq];exact HLT.out
   ·have HJx:=Zz.mk hJx3
    clear hJx3 hy hR
    gi_wp2
    refine bodyPost_ret (results_none rfl _ _ _) rfl ?_
    exact ⟨⟨_,rfl⟩,.inr ⟨_,HJx.out⟩⟩
theorem weights_calls (g:Nat) (w:World) :
  Calls Try.prog 109 #[.pointer (some ⟨g,0,none⟩)] w fun e w'=>e=.returned (.func (.func 126) #[] #[.pointer (some ⟨w.heap.size,0,none⟩)])/\w'=w.alloc (.cells #[.pointer (some ⟨g,0,none⟩)] 24):=by
 go_enter Try.func109,Try.ntmps109
 go_wp2_with fail
 go_ret
 exact ⟨rfl,rfl⟩
end Go.Proofs.Ytfldklimlcnnnaa.XWts
end

section
namespace Go.Proofs.Ytfldklimlcnnnaa.XLed
open Go.RowKit Go.Shelf PHq YtfldklimlcnnnaaW.PrintWords YtfldklimlcnnnaaW.PrintLast YtfldklimlcnnnaaW.PrintMore MWords
open MNat QNat QText QEv QRatio XRV XHold XBy XWts
attribute [local go_sem] Oper.semAt_some
structure Led (W:World) (g b:Nat) (all q:Rat) (l:List (Int × Hd)):Prop where
 cells:∃x y u v:Value,MBlk W g 97 #[x,y,.map (some b),u,v]/\RV W x y (L all).1 (L all).2/\RV W u v (L q).1 (L q).2
 map:MapIs W b l
structure Kp (g b:Nat) (W W':World):Prop where
 os:W'.os=W.os
 tape:W'.tape=W.tape
 output:W'.output=W.output
 size:W.heap.size<=W'.heap.size
 same:∀k,k<W.heap.size->k≠g->k≠b->W'.heap[k]? = W.heap[k]?
theorem Kp.trans {g b:Nat} {X Y Z:World} (h:Kp g b X Y) (k:Kp g b Y Z):Kp g b X Z:=⟨k.os.trans h.os,k.tape.trans h.tape,k.output.trans h.output,Nat.le_trans h.size k.size,fun i hi h1 h2=>(k.same i (Nat.lt_of_lt_of_le hi h.size) h1 h2).trans (h.same i hi h1 h2)⟩
theorem Kp.of {g b:Nat} {W W':World} (h:Below W.heap.size W W'):Kp g b W W':=⟨h.os,h.tape,h.output,h.size,fun k hk _ _=>h.block k hk⟩
theorem Led.below {W W':World} {g b:Nat} {all q:Rat} {l:List (Int × Hd)} (h:Led W g b all q l) (hb:Below W.heap.size W W'):Led W' g b all q l:=by
 obtain ⟨x,y,u,v,h1,h2,h3⟩:=h.cells
 exact ⟨⟨x,y,u,v,(hb.block _ (Zn h1)).trans h1,h2.below hb,h3.below hb⟩,h.map.kept (hb.block _ h.map.lt)⟩
theorem noLimb_map {W:World} {b:Nat} {es:Array MapEntry} {c:Nat} (h:W.heap[b]? = some (.map es c)):NoLimb W b:=by
 intro p hp n hc
 unfold World.cell? at hc
 rw [hp,h] at hc
 simp at hc
theorem noLimb_def {W:World} {b:Nat} {d:Option (List Deferred)} (h:W.heap[b]? = some (.deferred d)):NoLimb W b:=by
 intro p hp n hc
 unfold World.cell? at hc
 rw [hp,h] at hc
 simp at hc
theorem noLimb_led {W:World} {g b:Nat} {x y u v:Value} {xa ya ua va:List Int} (h:MBlk W g 97 #[x,y,.map (some b),u,v]) (h2:RV W x y xa ya) (h3:RV W u v ua va):NoLimb W g:=by
 obtain ⟨A,c,A',c',rfl,rfl⟩:=h2.shape
 obtain ⟨B,d,B',d',rfl,rfl⟩:=h3.shape
 intro p hp n hc
 unfold World.cell? at hc
 rw [hp,show W.heap[g]? = _ from h] at hc
 simp only at hc
 split at hc
 ·cases hc
 ·match ho:p.off,hc with
  | 0,hc=>simp at hc
  | 1,hc=>simp at hc
  | 2,hc=>simp at hc
  | 3,hc=>simp at hc
  | 4,hc=>simp at hc
  | k+5,hc=>simp at hc
theorem Led.near {W W':World} {g b:Nat} {all q:Rat} {l:List (Int × Hd)} (h:Led W g b all q l) (hg:W'.heap[g]? = W.heap[g]?) (hb:W'.heap[b]? = W.heap[b]?) (hk:∀k,k<W.heap.size->¬ NoLimb W k->W'.heap[k]? = W.heap[k]?):Led W' g b all q l:=by
 obtain ⟨x,y,u,v,h1,h2,h3⟩:=h.cells
 exact ⟨⟨x,y,u,v,hg.trans h1,h2.near hk,h3.near hk⟩,h.map.kept hb⟩
theorem Led.store {W:World} {g b:Nat} {all q q':Rat} {l:List (Int × Hd)} {p p':Value} (h:Led W g b all q l) (hp:RV W p p' (L q').1 (L q').2):Led ((W.setCell ⟨g,3,none⟩ p).setCell ⟨g,4,none⟩ p') g b all q' l:=by
 obtain ⟨x,y,u,v,h1,h2,h3⟩:=h.cells
 have hn:=noLimb_led h1 h2 h3
 have hs:∀k,k≠g->((W.setCell ⟨g,3,none⟩ p).setCell ⟨g,4,none⟩ p').heap[k]? = W.heap[k]?:=fun k hk=>(Below.heap_setCell _ ⟨g,4,none⟩ _ k hk).trans (Below.heap_setCell _ ⟨g,3,none⟩ _ k hk)
 have hk:∀k,k<W.heap.size->¬ NoLimb W k->((W.setCell ⟨g,3,none⟩ p).setCell ⟨g,4,none⟩ p').heap[k]? = W.heap[k]?:=fun k _ hk=>hs k (fun e=>hk (by rw [e];exact hn))
 have hb:b≠g:=by
  rintro rfl
  obtain ⟨es,c,h4⟩:=h.map.obj
  rw [show W.heap[b]? = _ from h1] at h4
  cases h4
 exact ⟨⟨x,y,p,p',mblk_set (mblk_set h1 3 p) 4 p',h2.near hk,hp.near hk⟩,h.map.kept (hs b hb)⟩
theorem Kp.store (W:World) (g b:Nat) (p p':Value):Kp g b W ((W.setCell ⟨g,3,none⟩ p).setCell ⟨g,4,none⟩ p') :=
 ⟨by simp [World.setCell],by simp [World.setCell],by simp [World.setCell],by simp [World.setCell],fun k _ hk _=>(Below.heap_setCell _ ⟨g,4,none⟩ _ k hk).trans (Below.heap_setCell _ ⟨g,3,none⟩ _ k hk)⟩
theorem Led.ne {W:World} {g b:Nat} {all q:Rat} {l:List (Int × Hd)} (h:Led W g b all q l):g≠b:=by
 rintro rfl
 obtain ⟨x,y,u,v,h1,_⟩:=h.cells
 obtain ⟨es,c,h2⟩:=h.map.obj
 rw [show W.heap[g]? = _ from h1] at h2
 cases h2
theorem perm_sum {a b:List S34} (h:a.Perm b):sumR a=sumR b:=by
 induction h with
 | nil=>rfl
 | cons x _ ih=>show wt x+sumR _=wt x+sumR _;rw [ih]
 | swap x y l=>show wt y+(wt x+sumR l)=wt x+(wt y+sumR l);rw [<-Rat.add_assoc,<-Rat.add_assoc,Rat.add_comm (wt y)]
 | trans _ _ ih1 ih2=>exact ih1.trans ih2
def Zy (l:List (Int × Hd)):Rat:=sumR (l.map fun z=>hv z.2)
structure GoodL (l:List (Int × Hd)):Prop where
 len:l.length<=500
 ok:∀z∈l,okH z.2
structure CInv (B0:Nat) (w:World) (pre:List S34) (W:World):Prop where
 out:∃A c,MBlk W B0 112 #[.slice A pre.length c]/\Kd.R k34 34 W (B0+2) (fun _=>True) (.slice A pre.length c) pre
 keep:Below B0 w W
theorem mblk_walk {W W':World} {row:Option Nat} {g:Nat} {t:TypeId} {cs:Array Value} (h:MBlk W g t cs) (hg:W.grownBy W' row) (hr:∀r,row=some r->∃o:Obj,W.heap[r]? = some o/\o.isCells=false):MBlk W' g t cs :=
 (hg.block g (Zn h) (fun e=>by
  obtain ⟨o,ho,hc⟩:=hr g e.symm
  unfold MBlk at h
  rw [h] at ho
  obtain rfl:=Option.some.inj ho
  simp [Obj.isCells] at hc)).trans h
theorem R_walk {α:Type} {d:Kd α} {e:Nat} {W W':World} {base:Nat} {v:Value} {xs:List α} {row:Option Nat} (h:Kd.R d e W base (fun _=>True) v xs) (hg:W.grownBy W' row) (hr:∀r,row=some r->∃o:Obj,W.heap[r]? = some o/\o.isCells=false):Kd.R d e W' base (fun _=>True) v xs :=
 Kd.R_mono (Kd.R_grown (Kd.R_bound h) hg (fun k hk e=>by
  obtain ⟨_,_,_,q,_,cells,hc⟩:=hk
  obtain ⟨o,ho,hn⟩:=hr k e.symm
  rw [hc] at ho
  obtain rfl:=Option.some.inj ho
  simp [Obj.isCells] at hn)) (fun _ _=>trivial)
theorem keeps_append {α:Type} {d:Kd α} {e base:Nat} {ok:Nat->Prop} {W W':World} {v:Value} {xs:List α} (h:Kd.R d e W base ok v xs) (hg:W.grownBy W' v.ownBlock):KeepsOthers W W' :=
 KeepsOthers.of_grownBy hg fun k o e hk=>by
  obtain ⟨cells,hc⟩:=Kd.R_typed h k e
  rw [hc] at hk
  obtain rfl:=Option.some.inj hk
  rfl
theorem CInv.own (B0 n:Nat) (w:World) (hw:B0<=w.heap.size) (hn:B0<=n):OwnFrom n (CInv B0 w):=fun s X Y row h hg hr=>by
 have hr':∀r,row=some r->∃o:Obj,X.heap[r]? = some o/\o.isCells=false:=fun r e=>(hr r e).2
 obtain ⟨A,c,h1,h2⟩:=h.out
 exact ⟨⟨A,c,mblk_walk h1 hg hr',R_walk h2 hg hr'⟩,h.keep.grown hg (Nat.le_trans hw h.keep.size) (fun k e=>by have:=(hr k e).1;omega)⟩
theorem CInv.below (B0:Nat) (w:World) (hw:B0<=w.heap.size) (s:List S34) (X Y:World) (h:CInv B0 w s X) (hb:Below X.heap.size X Y):CInv B0 w s Y:=by
 obtain ⟨A,c,h1,h2⟩:=h.out
 exact ⟨⟨A,c,(hb.block _ (Zn h1)).trans h1,Kd.R_below h2 hb⟩,h.keep.trans (hb.mono (Nat.le_trans hw h.keep.size))⟩
section
variable {F:Fence} {n:Nat} {P:Program} {ops:Array Oper} {rest:List Oper} {o:Oper} {a:Act} {Q:Exit->Act->World->Prop} {α:Type}
theorem appendIn (d:Kd α) {W:World} (base:Nat) (hgd:o.guard=none) (s x:Operand) (t e:TypeId) (z:Value) (bytes:Nat)
  (ho:o.op=.call { callee:=.builtin .append,args:=#[s,x],argTypes:=#[t,t] }) (ht:P.underlying t=some (.slice e))
  (hinfo:(P.info? e).map (fun i=>(i.zero,i.size,i.bytes))=some (some z,d.sz,bytes)) (hz:z.cells.size=d.sz) (hs0:0<d.sz) (hb0:0<bytes)
  (v:Value) (xs:List α) (p:α) (cs:List Value) (ok okp:Nat->Prop) (hs:a.eval s=v) (hx:a.eval x=.slice (some ⟨W.heap.size,0,none⟩) 1 1) (hp:d.M W base okp p cs) (hokp:∀k,okp k->ok k/\some k≠v.ownBlock) (hfresh:∀k,W.heap.size<=k->ok k)
  (HO:d.R e W base ok v xs) (hbase:base<=W.heap.size) (hl:(xs.length+1)*bytes<=140737488355328)
  (h:∀v1 w1,d.R e w1 base ok v1 (xs++[p])->W.grownBy w1 v.ownBlock->wpListIn F n P ops Q rest (a.put o.dst v1) w1) :
  wpListIn F n P ops Q (o::rest) a (W.alloc (.cells cs.toArray e)):=by
 obtain ⟨h0,inner,hown,hr⟩:=HO
 obtain ⟨i,hi,hi'⟩:=Option.map_eq_some_iff.1 hinfo
 obtain ⟨i1,i2⟩:=Prod.mk.inj hi'
 obtain ⟨i2,i3⟩:=Prod.mk.inj i2
 have hlen:=d.K_len (d.K_of_M hp)
 have hmax:xs.length+1<=140737488355328:=Nat.le_trans (Nat.le_mul_of_pos_right _ hb0) hl
 refine wpListIn_append_own_at (W.alloc (.cells cs.toArray e)) hgd s x t ho base e i z d.sz bytes ht hi i1 i2 i3 hz hs0 v xs.length inner hs (hown.alloc _) ⟨W.heap.size,0,none⟩ 1 1 cs hx (by rw [hlen,Nat.one_mul])
  (by simpa using World.news_of_block (cs:=cs.toArray) (t:=e) (fr:=(0,0)) (heap_alloc_new W (.cells cs.toArray e))) (d.K_one (d.K_of_M hp)) (by simp only [maxLen];omega) hl (by simp;omega) ?_
 intro v1 w1 hown1 hg _ hat
 have hg1:=World.grownBy.trans (World.grownBy_alloc W (.cells cs.toArray e) v.ownBlock) hg
 refine h v1 w1 (Kd.R_appended h0 hr hp hokp hfresh hown1 hg1 ?_) hg1
 rcases hat with hat|hat
 ·exact .inl hat
 ·exact .inr ⟨_,hat,by simp⟩
end
set_option maxRecDepth 100000 in
set_option maxHeartbeats 4000000 in
theorem counts_calls (g b:Nat) (all q:Rat) (l:List (Int × Hd)) (w:World) (hL:Led w g b all q l) (hG:GoodL l) :
  Calls Try.prog 74 #[.pointer (some ⟨g,0,none⟩)] w fun e w'=>(∃v,e=.returned v)/\Led w' g b all (Zy l) l/\Kp g b w w':=by
 have HL:=Zz.mk hL
 have HG:=Zz.mk hG
 obtain ⟨x,y,u,v,hM,hXY,hUV⟩:=hL.cells
 have HM:=Zz.mk hM
 clear hL hG
 refine (callsIn_wide (n:=6)).1 (callsIn_of_wp_marks Try.func74 rfl trivial (wpIn_wide.2 ?_) rfl)
 simp only [Try.ntmps74,List.size_toArray,List.length_cons,List.length_nil,Nat.reduceAdd,Nat.reduceSub,Array.replicate_succ,Array.replicate_zero,List.push_toArray,List.append_toArray,List.nil_append,List.cons_append]
 go_wp2_with fail
 refine (weights_calls g _).mono ?_
 rintro e w1 ⟨rfl,hw1⟩
 have ha:(w.alloc (.cells #[.slice none 0 0] 112)).heap.size=w.heap.size+1:=by simp
 rw [ha]
 have HS1:=Zz.mk (show w1.heap.size=w.heap.size+2 by rw [hw1];simp)
 have HB1:=Zz.mk (show Below w.heap.size w w1 by rw [hw1];exact Zb (Zb (Below.refl _ _) _) _)
 have HO1:=Zz.mk (show MBlk w1 w.heap.size 112 #[.slice none 0 0] by rw [hw1];exact Zp (Zo _ _ _) _)
 have HP1:=Zz.mk (show MBlk w1 (w.heap.size+1) 24 #[.pointer (some ⟨g,0,none⟩)] by rw [hw1,<-ha];exact Zo _ _ _)
 have HM1:=Zz.mk ((HB1.out.block _ (Zn HM.out)).trans HM.out)
 have HMP:=Zz.mk ((HL.out.below HB1.out).map)
 clear hw1 ha
 go_wp2_with fail
 have HN:=Zz.mk HG.out.len
 refine (wpIn_wide (n:=6)).1 ?_
 refine range_by (F:=Fence.wide) (n:=6) rfl (by omega) (gf:=126) (lb:=#[.pointer (some ⟨w.heap.size+1,0,none⟩)]) rfl trivial (enters_of Try.func126 (by kernel_rfl) rfl)
  (w0:=w1) (weights_seq (w.heap.size+1) g b x y u v l w1 HP1.out HM1.out HMP.out (by have:=HN.out;omega) HG.out.ok) (Below.refl _ _) (fun _=>rfl)
  (fun h k=>h.trans k) (fun W k o o' hk ho hw=>⟨by simp [World.putObj],fun j ob hj hob=>by
   by_cases e:j=k
   ·subst e;rw [hk] at hj;cases hj;rw [hw] at hob;cases hob
   ·exact (World.putObj_heap_other e).trans hj⟩)
  (CInv w.heap.size w) (fun _ _=>False) (CInv.own _ _ w (Nat.le_refl _) (by rw [HS1.out];omega)) (fun _ _ _ _ h _ _=>h) (CInv.below _ w (Nat.le_refl _))
  ⟨⟨none,0,HO1.out,Kd.R_nil _ _ _ _ _⟩,HB1.out⟩
  (fun s a' W=>∃Bx,w1.heap.size<=Bx/\MBlk W Bx 34 #[.int .i64 s.f0,.int .i64 s.f1]/\a' = { tmps:=#[.pointer (some ⟨g,0,none⟩),undef,.pointer (some ⟨w.heap.size,0,none⟩),.pointer (some ⟨Bx,0,none⟩),.pointer (some ⟨g,0,none⟩),.func (.func 126) #[] #[.pointer (some ⟨w.heap.size+1,0,none⟩)],.agg #[.int .i64 s.f0,.int .i64 s.f1],undef,undef,undef,undef,undef,undef,undef,undef,undef],defers:=[] })
  (fun s a' _ X Y row hs hg hr=>by obtain ⟨Bx,h1,h2,h3⟩:=hs;exact ⟨Bx,h1,mblk_walk h2 hg (fun r e=>(hr r e).2),h3⟩)
  ?assign ?body ?done ?stop
 case assign =>
  rintro lo pre s W K hI hW hK
  gi_wp2
  obtain ⟨A,c,h1,h2⟩:=hI.out
  exact hK _ _ ((KeepsOthers.alloc _ _).from _) (walks_below (Zb (Below.refl _ _) _)) (CInv.below _ w (Nat.le_refl _) _ _ _ hI (Zb (Below.refl _ _) _)) ⟨W.heap.size,by omega,Zo _ _ _,rfl⟩
 case body =>
  rintro lo pre s a' W hI ⟨Bx,hBx,bX,rfl⟩ hlen hW
  obtain ⟨A,c,hO,hOR⟩:=hI.out
  have hwz:=HS1.out
  have HI:=Zz.mk hI
  have HO:=Zz.mk hO
  have HOR:=Zz.mk hOR
  have hn:=HN.out
  have k2:W.cell? ⟨w.heap.size,0,none⟩=some (.slice A pre.length c):=(Zg hO 0).trans rfl
  have x0:W.cell? ⟨Bx,0,none⟩=some (.int .i64 s.f0):=(Zg bX 0).trans rfl
  have x1:W.cell? ⟨Bx,1,none⟩=some (.int .i64 s.f1):=(Zg bX 1).trans rfl
  have HOB:=Zz.mk (show ∀k,(Value.slice A pre.length c).ownBlock=some k->w.heap.size+2<=k from Kd.R_base hOR)
  have HWS:=Zz.mk (show w.heap.size+2<=W.heap.size by omega)
  have HLEN:=Zz.mk (show pre.length<500 by omega)
  clear hI hO hOR bX
  gi_wp2_with (gi_at_builtin;refine appendIn k34 (w.heap.size+2) rfl (.tmp 7) (.tmp 9) 112 34 (.agg #[.int .i64 0,.int .i64 0]) 16 rfl Try.underlying112 info34 rfl (by decide) (by omega) (.slice A pre.length c) pre s [.int .i64 s.f0,.int .i64 s.f1] (fun _=>True) (fun _=>False) rfl rfl (k34_mkM W _ _ s) (fun _ h=>h.elim) (fun _ _=>trivial) HOR.out HWS.out (by have:=HLEN.out;omega) ?_;intro v1 w2 hR1 hg1;obtain ⟨A2,c2,e2⟩:=Kd.R_slice hR1;subst e2;have HR2:=Zz.mk hR1;have HG2:=Zz.mk hg1;have HO3:=Zz.mk (show MBlk w2 w.heap.size 112 #[.slice A pre.length c] from (hg1.block w.heap.size (Zn HO.out) (fun e=>by have:=HOB.out _ e.symm;omega)).trans HO.out);have k9:w2.cell? ⟨w.heap.size,0,none⟩=some (.slice A pre.length c):=(Zg HO3.out 0).trans rfl;have kf9:w2.frozen? ⟨w.heap.size,0,none⟩=false:=Zq HO3.out 0;clear hR1 hg1)
  have hK:=(keeps_append HOR.out HG2.out).trans (KeepsOthers.setCell w2 ⟨w.heap.size,0,none⟩ (.slice A2 (pre++[s]).length c2))
  have hb2:Below w.heap.size w w2:=HI.out.keep.grown HG2.out (Nat.le_trans (Nat.le_add_right _ _) HWS.out) (fun k e=>by have:=HOB.out k e;omega)
  have hh:CInv w.heap.size w (pre++[s]) (w2.setCell ⟨w.heap.size,0,none⟩ (.slice A2 (pre++[s]).length c2)) :=
   ⟨⟨A2,c2,mblk_set HO3.out 0 _,Kd.R_mono (Kd.R_step (Kd.R_bound HR2.out) (fun k hk _=>Below.heap_setCell w2 ⟨w.heap.size,0,none⟩ _ k (by have:=hk.2.1;show k≠w.heap.size;omega))) (fun _ _=>trivial)⟩,hb2.setCell (p:=⟨w.heap.size,0,none⟩) (Nat.le_refl _) _⟩
  simp only [List.length_append,List.length_cons,List.length_nil,Nat.zero_add] at hh hK
  exact ⟨hK.from _,hK.walks,hh⟩
 case done =>
  rintro xs W hp hI hD
  obtain ⟨A,c,hO,hOR⟩:=hI.out
  have k2:W.cell? ⟨w.heap.size,0,none⟩=some (.slice A xs.length c):=(Zg hO 0).trans rfl
  have hxl:=hp.length_eq
  rw [List.length_map] at hxl
  have hok:∀z∈xs,okW z:=fun z hz=>by
   obtain ⟨y,hy,rfl⟩:=List.mem_map.1 (hp.mem_iff.1 hz)
   exact hv_ok (HG.out.ok y hy)
  obtain ⟨f,hf⟩:=(sum_t xs (by have:=HN.out;omega) hok).1.get
  rw [show sumR xs=Zy l from perm_sum hp] at hf
  have HF:=Zz.mk hf
  have HR:=Zz.mk (Kd.R_reads' hOR)
  have HI:=Zz.mk hI
  have HD:=Zz.mk hD
  clear hf hOR hO hI hD hp hxl hok
  go_wp2_with fail
  refine (sum_rv (A:=A) (c:=c) ⟨HR.out.2.1,HR.out.2.2⟩ HF.out).mono ?_
  rintro e w5 ⟨p,q',rfl,hpq,hb⟩
  obtain ⟨A1,c1,A3,c3,rfl,rfl⟩:=hpq.shape
  have hbw:Below w.heap.size w w5:=Zi HI.out.keep hb
  have HM5:=Zz.mk ((hbw.block _ (Zn HM.out)).trans HM.out)
  have k3:w5.cell? ⟨g,3,none⟩=some u:=(Zg HM5.out 3).trans rfl
  have k4:w5.cell? ⟨g,4,none⟩=some v:=(Zg HM5.out 4).trans rfl
  have f3:w5.frozen? ⟨g,3,none⟩=false:=Zq HM5.out 3
  have f4:w5.frozen? ⟨g,4,none⟩=false:=Zq HM5.out 4
  have HB5:=Zz.mk hbw
  have HD5:=Zz.mk ((hb.block _ (Array.getElem?_eq_some_iff.1 HD.out).1).trans HD.out)
  have HPQ:=Zz.mk hpq
  clear hb hbw hpq
  go_wp2_with fail
  have hL5:Led w5 g b all q l:=HL.out.below HB5.out
  have hL6:=hL5.store HPQ.out
  have hK6:Kp g b w ((w5.setCell ⟨g,3,none⟩ (.slice A1 (L (Zy l)).1.length c1)).setCell ⟨g,4,none⟩ (.slice A3 (L (Zy l)).2.length c3)):=(Kp.of HB5.out).trans (Kp.store _ _ _ _ _)
  have hne:w1.heap.size≠g:=by have:=Zn HM.out;have:=HS1.out;omega
  have hD6:((w5.setCell ⟨g,3,none⟩ (.slice A1 (L (Zy l)).1.length c1)).setCell ⟨g,4,none⟩ (.slice A3 (L (Zy l)).2.length c3)).heap[w1.heap.size]? = some (.deferred (some [])) :=
   ((Below.heap_setCell _ ⟨g,4,none⟩ _ _ hne).trans (Below.heap_setCell _ ⟨g,3,none⟩ _ _ hne)).trans HD5.out
  have hneb:w1.heap.size≠b:=by have:=HL.out.map.lt;have:=HS1.out;omega
  refine ⟨by simp,.inl ⟨_,_,rfl,run_takeDeferred hD6,?_⟩⟩
  have ho:∀k,k≠w1.heap.size->(World.putObj ((w5.setCell ⟨g,3,none⟩ (.slice A1 (L (Zy l)).1.length c1)).setCell ⟨g,4,none⟩ (.slice A3 (L (Zy l)).2.length c3)) w1.heap.size (.deferred none)).heap[k]? = ((w5.setCell ⟨g,3,none⟩ (.slice A1 (L (Zy l)).1.length c1)).setCell ⟨g,4,none⟩ (.slice A3 (L (Zy l)).2.length c3)).heap[k]?:=fun k hk=>World.putObj_heap_other hk
  refine ⟨_,results_none rfl _ _ _,⟨_,rfl⟩,hL6.near (ho _ hne.symm) (ho _ hneb.symm) (fun k _ hk=>ho k (fun e=>hk (by rw [e];exact noLimb_def hD6))),⟨hK6.os,hK6.tape,hK6.output,Nat.le_trans hK6.size (by simp [World.putObj]),fun k hlt h1 h2=>(ho k (by have:=HS1.out;omega)).trans (hK6.same k hlt h1 h2)⟩⟩
 case stop =>
  rintro pre W h _
  exact h.elim
end Go.Proofs.Ytfldklimlcnnnaa.XLed
end

section
namespace Go.Proofs.Ytfldklimlcnnnaa.XAt
open Go.RowKit PHq YtfldklimlcnnnaaW.PrintWords YtfldklimlcnnnaaW.PrintLast YtfldklimlcnnnaaW.PrintMore MWords
open MNat QNat QText QEv QRatio XRV
open XHold (wfI wfI_of key_of key_lit keyed lit_ne)
open Go.Maps (Keyed int_keyed keyOf_int_mk)
def atD (x:Int):DataW Unit:=.lit (.int .i64 x)
def atR (v:Value):Option (DataW Unit × List MemPlace):=match v with
 | .int .i64 x=>some (atD x,[])
 | _=>none
theorem atR_mk (h:Int):atR (.int .i64 h)=some (atD h,[]):=rfl
theorem atR_inv {v:Value} {y:DataW Unit × List MemPlace} (h:atR v=some y):∃x,v=.int .i64 x/\y=(atD x,[]):=by
 unfold atR at h
 split at h
 ·rename_i x
  exact ⟨x,rfl,(Option.some.inj h).symm⟩
 ·cases h
theorem atD_inj {h k:Int} (e:atD h=atD k):h=k:=by
 unfold atD at e
 injection e with e
 injection e
structure View (D:DataW Unit) (l:List (Int × Int)):Prop where
 has:∀x:Int,Maps.has D (.int .i64 x)=l.any fun y=>decide (y.1=x)
 at_:∀y∈l,∀z,D.atKey (.int .i64 y.1) z=atD y.2
 nodup:(l.map (·.1)).Nodup
 size:Maps.size D=l.length
 wf:∀y∈l,wfI y.1
def MapIs (W:World) (b:Nat) (l:List (Int × Int)):Prop:=∃D:DataW Unit,W.ownsMap Try.prog 3 atR b l.length D/\View D l
theorem MapIs.kept {W W':World} {b:Nat} {l:List (Int × Int)} (h:MapIs W b l) (hb:W'.heap[b]? = W.heap[b]?):MapIs W' b l:=by
 obtain ⟨D,⟨es,clock,h1,h2⟩,hv⟩:=h
 exact ⟨D,⟨es,clock,hb.trans h1,h2⟩,hv⟩
theorem MapIs.lt {W:World} {b:Nat} {l:List (Int × Int)} (h:MapIs W b l):b<W.heap.size:=by
 obtain ⟨D,ho,_⟩:=h
 exact ho.lt
theorem MapIs.obj {W:World} {b:Nat} {l:List (Int × Int)} (h:MapIs W b l):∃es clock,W.heap[b]? = some (.map es clock):=by
 obtain ⟨D,⟨es,clock,h1,_⟩,_⟩:=h
 exact ⟨es,clock,h1⟩
theorem own_size {W:World} {b n:Nat} {D:DataW Unit} (h:W.ownsMap Try.prog 3 atR b n D):W.ownsMap Try.prog 3 atR b (Maps.size D) D:=by
 obtain ⟨es,clock,h1,F,hn,hD⟩:=h
 refine ⟨es,clock,h1,F,?_,hD⟩
 rw [hD,Maps.size_eq]
 have:=length_read (P:=Try.prog) (k:=3) (R0:=atR) es
 omega
def getL (l:List (Int × Int)) (x:Int):Option Int:=(l.find? fun y=>decide (y.1=x)).map (·.2)
def hasL (l:List (Int × Int)) (x:Int):Bool:=l.any fun y=>decide (y.1=x)
def setL (l:List (Int × Int)) (x:Int) (h:Int):List (Int × Int):=if hasL l x=true then l.map (fun y=>if y.1=x then (x,h) else y) else l++[(x,h)]
def delL (l:List (Int × Int)) (x:Int):List (Int × Int):=l.filter fun y=>decide (y.1≠x)
theorem getL_mem {l:List (Int × Int)} {x:Int} {h:Int} (e:getL l x=some h):(x,h)∈l:=by
 unfold getL at e
 obtain ⟨y,hy,rfl⟩:=Option.map_eq_some_iff.1 e
 have h1:=List.mem_of_find?_eq_some hy
 have h2:=List.find?_some hy
 have h3:y.1=x:=by simpa using h2
 rw [<-h3]
 exact h1
theorem getL_none {l:List (Int × Int)} {x:Int} (e:getL l x=none):hasL l x=false:=by
 unfold getL at e
 rw [Option.map_eq_none_iff,List.find?_eq_none] at e
 unfold hasL
 rw [List.any_eq_false]
 exact e
theorem View.nil:View (.map []) []:=⟨fun _=>rfl,by simp,by simp,rfl,by simp⟩
theorem View.get {D:DataW Unit} {l:List (Int × Int)} (h:View D l) (x:Int):D.atKey (.int .i64 x) (atD (0:Int))=atD ((getL l x).getD (0:Int)):=by
 cases e:getL l x with
 | none =>
  refine Maps.atKey_of_not_has ?_ _
  rw [h.has]
  exact getL_none e
 | some y=>exact h.at_ _ (getL_mem e) _
theorem set_keys (l:List (Int × Int)) (x:Int) (h:Int):(setL l x h).map (·.1)=if hasL l x=true then l.map (·.1) else l.map (·.1)++[x]:=by
 unfold setL
 split
 ·rw [List.map_map]
  refine List.map_congr_left fun y _=>?_
  show (if y.1=x then (x,h) else y).1=y.1
  split
  ·rename_i e;exact e.symm
  ·rfl
 ·rw [List.map_append]
  rfl
theorem set_len (l:List (Int × Int)) (x:Int) (h:Int):(setL l x h).length=if hasL l x=true then l.length else l.length+1:=by
 have:=congrArg List.length (set_keys l x h)
 rw [List.length_map] at this
 rw [this]
 split<;>simp
theorem set_mem {l:List (Int × Int)} {x:Int} {h:Int} {y:Int × Int} (hy:y∈setL l x h):y=(x,h)∨(y∈l/\y.1≠x):=by
 unfold setL at hy
 split at hy
 ·obtain ⟨z,hz,e⟩:=List.mem_map.1 hy
  split at e
  ·exact .inl e.symm
  ·rename_i hne
   exact .inr (e ▸ ⟨hz,hne⟩)
 ·rename_i hn
  rcases List.mem_append.1 hy with hy|hy
  ·refine .inr ⟨hy,fun e=>hn ?_⟩
   unfold hasL
   rw [List.any_eq_true]
   exact ⟨y,hy,by simpa using e⟩
  ·exact .inl (List.mem_singleton.1 hy)
theorem set_has (l:List (Int × Int)) (x y:Int) (h:Int):hasL (setL l x h) y=(decide (x=y) || hasL l y):=by
 have e:∀l:List (Int × Int),hasL l y=(l.map (·.1)).any fun z=>decide (z=y):=fun l=>by unfold hasL;rw [List.any_map];rfl
 rw [e,set_keys]
 split
 ·rename_i hx
  rw [<-e]
  by_cases hxy:x=y
  ·subst hxy;rw [hx];simp
  ·simp [hxy]
 ·rw [List.any_append,<-e,Bool.or_comm]
  simp
theorem View.put {D:DataW Unit} {l:List (Int × Int)} (v:View D l) (ht:Maps.Tidy D) {x:Int} (hx:wfI x) (h:Int):View (D.put (.int .i64 x) (atD h)) (setL l x h):=by
 refine ⟨fun y=>?_,fun y hy z=>?_,?_,?_,fun y hy=>?_⟩
 ·show _=hasL (setL l x h) y
  rw [set_has]
  by_cases hxy:x=y
  ·subst hxy
   rw [Maps.has_put_same ht.isMap (key_lit x)]
   simp
  ·rw [Maps.has_put_other (lit_ne (fun e=>hxy e.symm)),v.has y]
   simp [hxy,hasL]
 ·rcases set_mem hy with rfl|⟨hm,hne⟩
  ·exact Maps.atKey_put_same ht.isMap (key_lit x) _ _
  ·rw [Maps.atKey_put_other (lit_ne hne)]
   exact v.at_ y hm z
 ·rw [set_keys]
  split
  ·exact v.nodup
  ·rename_i hn
   rw [List.nodup_append]
   refine ⟨v.nodup,by simp,fun a ha b hb e=>hn ?_⟩
   obtain ⟨y,hy,rfl⟩:=List.mem_map.1 ha
   rw [List.mem_singleton.1 hb] at e
   unfold hasL
   rw [List.any_eq_true]
   exact ⟨y,hy,by simpa using e⟩
 ·rw [Maps.size_put ht,v.has x,v.size,set_len]
  rfl
 ·rcases set_mem hy with rfl|⟨hm,_⟩
  ·exact hx
  ·exact v.wf y hm
theorem View.del {D:DataW Unit} {l:List (Int × Int)} (v:View D l) (ht:Maps.Tidy D) (x:Int):View (D.del (.int .i64 x)) (delL l x):=by
 have hd:∀y∈delL l x,y∈l/\y.1≠x:=fun y hy=>by
  unfold delL at hy
  rw [List.mem_filter] at hy
  exact ⟨hy.1,by simpa using hy.2⟩
 refine ⟨fun y=>?_,fun y hy z=>?_,?_,?_,fun y hy=>v.wf y (hd y hy).1⟩
 ·show _=hasL (delL l x) y
  by_cases hxy:x=y
  ·subst hxy
   rw [Maps.has_del_same]
   symm
   unfold hasL
   rw [List.any_eq_false]
   intro z hz
   simpa using (hd z hz).2
  ·rw [Maps.has_del_other (lit_ne (fun e=>hxy e.symm)),v.has y]
   unfold delL hasL
   rw [List.any_filter]
   congr 1
   funext z
   by_cases hz:z.1=y
   ·have:z.1≠x:=fun e=>hxy (e.symm.trans hz)
    rw [decide_eq_true hz,decide_eq_true this]
    rfl
   ·simp [hz]
 ·rw [Maps.atKey_del_other (lit_ne (hd y hy).2)]
  exact v.at_ y (hd y hy).1 z
 ·exact (v.nodup).sublist (List.Sublist.map _ List.filter_sublist)
 ·have h1:=Maps.size_del (k:=.int .i64 x) ht
  rw [v.has x,v.size] at h1
  have h2:∀l:List (Int × Int),(l.map (·.1)).Nodup->(delL l x).length+(if (l.any fun y=>decide (y.1=x))=true then 1 else 0)=l.length:=by
   intro l
   induction l with
   | nil=>intro _;rfl
   | cons y l ih =>
    intro hn
    rw [List.map_cons,List.nodup_cons] at hn
    have ih:=ih hn.2
    unfold delL at ih ⊢
    rw [List.any_cons,List.filter_cons]
    by_cases hy:y.1=x
    ·have hno:(l.any fun y=>decide (y.1=x))=false:=by
      rw [List.any_eq_false]
      intro z hz e
      exact hn.1 (List.mem_map.2 ⟨z,hz,by rw [hy];simpa using e⟩)
     rw [hno] at ih
     rw [if_neg (by simpa using hy),decide_eq_true hy,List.length_cons]
     simp at ih ⊢
     exact ih
    ·rw [if_pos (by simpa using hy),decide_eq_false hy,Bool.false_or]
     simp only [List.length_cons]
     omega
  have:=h2 l v.nodup
  omega
theorem zeroE (w:World):(zeroValue 3).run Try.prog w=.ok ((.int .i64 0)) w:=by kernel_rfl
theorem map_put {W:World} {b:Nat} {l:List (Int × Int)} (h:MapIs W b l) (hl:l.length<=1000000) {x:Int} (hx:wfI x) (k:Int) :
  ∃w',(Instr.mapUpdate 116 (.map (some b)) (.int .i64 x) (.int .i64 k)).run Try.prog W=.ok () w'/\MapIs w' b (setL l x k)/\W.mapTurned w' b:=by
 obtain ⟨D,hD,hV⟩:=h
 obtain ⟨w',hrun,h1,h2⟩:=hD.store keyed Try.underlying116 (by unfold maxLen;omega) (key_of hx) (atR_mk k)
 have hv:=hV.put (hD.tidy keyed) hx k
 have h3:=own_size h1
 rw [hv.size] at h3
 exact ⟨w',hrun,⟨_,h3,hv⟩,h2⟩
theorem map_get {W:World} {b:Nat} {l:List (Int × Int)} (h:MapIs W b l) {z:Int} (hz:wfI z) :
  (Instr.lookup 116 (.map (some b)) (.int .i64 z) true).run Try.prog W=.ok (.tuple #[.int .i64 ((getL l z).getD 0),.bool (hasL l z)]) W:=by
 obtain ⟨D,hD,hV⟩:=h
 obtain ⟨v,ps,hrun,hv⟩:=hD.look_ok keyed Try.underlying116 (zeroE W) (atR_mk 0) (key_of hz)
 rw [hV.get z] at hv
 obtain ⟨c,rfl,hc⟩:=atR_inv hv
 rw [atD_inj (congrArg Prod.fst hc)]
 rw [hrun,show Maps.has D (.int .i64 z)=hasL l z from hV.has z]
theorem map_del {W:World} {b:Nat} {l:List (Int × Int)} (h:MapIs W b l) {x:Int} (hx:wfI x) :
  ∃w',(Builtin.delete_ #[116,3] 0 #[.map (some b),.int .i64 x]).run Try.prog W=.ok (.tuple #[]) w'/\MapIs w' b (delL l x)/\W.mapTurned w' b:=by
 obtain ⟨D,hD,hV⟩:=h
 obtain ⟨w',hrun,h1,h2⟩:=hD.drop keyed Try.underlying116 (key_of hx) 0
 have hv:=hV.del (hD.tidy keyed) x
 have h3:=own_size h1
 rw [hv.size] at h3
 exact ⟨w',hrun,⟨_,h3,hv⟩,h2⟩
end Go.Proofs.Ytfldklimlcnnnaa.XAt
end

section
namespace Go.Proofs.Ytfldklimlcnnnaa.XTree
open Go.RowKit PHq YtfldklimlcnnnaaW.PrintWords YtfldklimlcnnnaaW.PrintLast YtfldklimlcnnnaaW.PrintMore MWords
open MNat QRatio XRV XHold XLed
structure Tm where
 t:Nat
 A:Option Addr
 c:Nat
 Al:Nat
 cl:Nat
 m:Nat
 g:Int->Nat
 b:Int->Nat
def inR (n:Nat) (s:Int):Prop:=-1<=s/\s<n
def Tm.own (M:Tm) (n:Nat) (k:Nat):Prop:=k=M.t∨(0<n/\∃ad,M.A=some ad/\k=ad.block)∨k=M.Al
def Tm.wr (M:Tm) (n:Nat) (k:Nat):Prop:=k=M.m ∨ ∃s,inR n s/\(k=M.g s∨k=M.b s)
def ix (n:Nat) (s:Int):Nat:=if s = -1 then n else s.toNat
def upd {β:Type} (f:Int->β) (s:Int) (x:β):Int->β:=fun y=>if y=s then x else f y
theorem upd_same {β:Type} (f:Int->β) (s:Int) (x:β):upd f s x s=x:=if_pos rfl
theorem upd_other {β:Type} (f:Int->β) {s y:Int} (x:β) (h:y≠s):upd f s x y=f y:=if_neg h
structure Tre (W:World) (M:Tm) (sv:List S71) (at_:List (Int × Int)) (al:Int->Rat) (ls:Int->List (Int × Hd)):Prop where
 cells:MBlk W M.t 119 #[.slice M.A sv.length M.c,.slice (some ⟨M.Al,0,none⟩) (sv.length+1) M.cl,.map (some M.m)]
 cap:sv.length+1<=M.cl
 row:Kd.C k71 W M.A sv.length sv
 rowt:0<sv.length->∀ad,M.A=some ad->∃cs fr,W.heap[ad.block]? = some (.cells cs 71 fr)
 ptr:∃cs fr,W.heap[M.Al]? = some (.cells cs 24 fr)/\∀s,inR sv.length s->cs[ix sv.length s]? = some (.pointer (some ⟨M.g s,0,none⟩))
 map:XAt.MapIs W M.m at_
 led:∀s,inR sv.length s->Led W (M.g s) (M.b s) (al s) (Zy (ls s)) (ls s)
 ne:∀s s',inR sv.length s->inR sv.length s'->s≠s'->M.g s≠M.g s'/\M.b s≠M.b s'
 mb:∀s,inR sv.length s->M.b s≠M.m
 small:sv.length<=1000
structure Kt (M:Tm) (n:Nat) (W W':World):Prop where
 os:W'.os=W.os
 tape:W'.tape=W.tape
 output:W'.output=W.output
 size:W.heap.size<=W'.heap.size
 same:∀k,k<W.heap.size->¬ M.wr n k->W'.heap[k]? = W.heap[k]?
theorem Kt.trans {M:Tm} {n:Nat} {X Y Z:World} (h:Kt M n X Y) (k:Kt M n Y Z):Kt M n X Z:=⟨k.os.trans h.os,k.tape.trans h.tape,k.output.trans h.output,Nat.le_trans h.size k.size,fun i hi h1=>(k.same i (Nat.lt_of_lt_of_le hi h.size) h1).trans (h.same i hi h1)⟩
theorem Kt.of {M:Tm} {n:Nat} {W W':World} (h:Below W.heap.size W W'):Kt M n W W':=⟨h.os,h.tape,h.output,h.size,fun k hk _=>h.block k hk⟩
theorem Kt.kp {M:Tm} {n:Nat} {W W':World} {s:Int} (hs:inR n s) (h:Kp (M.g s) (M.b s) W W'):Kt M n W W':=⟨h.os,h.tape,h.output,h.size,fun k hk hn=>h.same k hk (fun e=>hn (.inr ⟨s,hs,.inl e⟩)) (fun e=>hn (.inr ⟨s,hs,.inr e⟩))⟩
theorem Kt.turn {M:Tm} {n:Nat} {W W':World} (ht:W.mapTurned W' M.m):Kt M n W W':=⟨ht.grown.os,ht.grown.tape,ht.grown.output,ht.grown.size,fun k hk hn=>ht.grown.block k hk (fun e=>hn (.inl (Option.some.inj e)))⟩
theorem Kt.below {M:Tm} {n N:Nat} {W W':World} (h:Kt M n W W') (hN:∀k,M.wr n k->N<=k) (hW:N<=W.heap.size):Below N W W' :=
 ⟨h.os,h.tape,h.output,h.size,fun k hk=>h.same k (Nat.lt_of_lt_of_le hk hW) (fun c=>by have:=hN k c;omega)⟩
theorem cell_blk {W W':World} {a:Addr} (h:W'.heap[a.block]? = W.heap[a.block]?):W'.cell? a=W.cell? a:=by
 unfold World.cell?
 rw [h]
theorem add_blk (a:Addr) (i:Nat):(a.add i).block=a.block:=by
 unfold Addr.add
 split<;>rfl
theorem C_blk {W W':World} {A:Option Addr} {n:Nat} {xs:List S71} (h:Kd.C k71 W A n xs) (hb:0<n->∀ad,A=some ad->W'.heap[ad.block]? = W.heap[ad.block]?):Kd.C k71 W' A n xs :=
 ⟨h.1,h.2.1,fun hn=>by
  obtain ⟨ad,e,hc⟩:=h.2.2 hn
  refine ⟨ad,e,fun j p hj=>?_⟩
  obtain ⟨c,hs,hr,hcell⟩:=hc j p hj
  obtain rfl:=k71_open hr
  exact ⟨_,hs,k71_mk W' p,fun i u hu=>(cell_blk (a:=ad.add (j*k71.sz+i)) (by rw [add_blk];exact hb hn ad e)).trans (hcell i u hu)⟩⟩
section
variable {W W':World} {M:Tm} {sv:List S71} {at_:List (Int × Int)} {al:Int->Rat} {ls:Int->List (Int × Hd)}
theorem Led.blk {W:World} {g b:Nat} {all q:Rat} {l:List (Int × Hd)} (h:Led W g b all q l):(∃cs,W.heap[g]? = some (.cells cs 97 (0,0)))/\∃es c,W.heap[b]? = some (.map es c):=by
 obtain ⟨x,y,u,v,h1,_,_⟩:=h.cells
 exact ⟨⟨_,h1⟩,h.map.obj⟩
theorem Tre.not_wr (h:Tre W M sv at_ al ls) {k:Nat} {cs:Array Value} {T:TypeId} {fr:Nat × Nat} (hk:W.heap[k]? = some (.cells cs T fr)) (hT:T≠97):¬ M.wr sv.length k:=by
 rintro (rfl|⟨s,hs,rfl|rfl⟩)
 ·obtain ⟨es,c,h1⟩:=h.map.obj
  rw [h1] at hk
  cases hk
 ·obtain ⟨⟨cs',h1⟩,_⟩:=Led.blk (h.led s hs)
  rw [h1] at hk
  cases hk
  exact hT rfl
 ·obtain ⟨_,es,c,h1⟩:=Led.blk (h.led s hs)
  rw [h1] at hk
  cases hk
theorem Tre.stay (h:Tre W M sv at_ al ls) (hk:Kt M sv.length W W') {k:Nat} {cs:Array Value} {T:TypeId} {fr:Nat × Nat} (hb:W.heap[k]? = some (.cells cs T fr)) (hT:T≠97):W'.heap[k]? = some (.cells cs T fr) :=
 (hk.same k (Array.getElem?_eq_some_iff.1 hb).1 (h.not_wr hb hT)).trans hb
theorem Tre.wr_noLimb (h:Tre W M sv at_ al ls) {k:Nat} (hk:M.wr sv.length k):NoLimb W k:=by
 rcases hk with rfl|⟨s,hs,rfl|rfl⟩
 ·obtain ⟨es,c,h1⟩:=h.map.obj
  exact noLimb_map h1
 ·obtain ⟨x,y,u,v,h1,h2,h3⟩:=(h.led s hs).cells
  exact noLimb_led h1 h2 h3
 ·obtain ⟨es,c,h1⟩:=(h.led s hs).map.obj
  exact noLimb_map h1
theorem Tre.wr_lt (h:Tre W M sv at_ al ls) {k:Nat} (hk:M.wr sv.length k):k<W.heap.size:=by
 rcases hk with rfl|⟨s,hs,rfl|rfl⟩
 ·exact h.map.lt
 ·obtain ⟨⟨cs,h1⟩,_⟩:=Led.blk (h.led s hs)
  exact (Array.getElem?_eq_some_iff.1 h1).1
 ·exact (h.led s hs).map.lt
theorem Tre.own_lt (h:Tre W M sv at_ al ls) {k:Nat} (hk:M.own sv.length k):k<W.heap.size:=by
 rcases hk with rfl|⟨h0,ad,e,rfl⟩|rfl
 ·exact Zn h.cells
 ·obtain ⟨cs,fr,h1⟩:=h.rowt h0 ad e
  exact (Array.getElem?_eq_some_iff.1 h1).1
 ·obtain ⟨cs,fr,h1,_⟩:=h.ptr
  exact (Array.getElem?_eq_some_iff.1 h1).1
theorem Tre.mk' {at2:List (Int × Int)} {ls2:Int->List (Int × Hd)} (h:Tre W M sv at_ al ls) (ho:∀k,M.own sv.length k->W'.heap[k]? = W.heap[k]?) (hm:XAt.MapIs W' M.m at2)
  (hl:∀s,inR sv.length s->Led W' (M.g s) (M.b s) (al s) (Zy (ls2 s)) (ls2 s)):Tre W' M sv at2 al ls2 where
 cells:=(ho _ (.inl rfl)).trans h.cells
 cap:=h.cap
 row:=C_blk h.row fun h0 ad e=>ho _ (.inr (.inl ⟨h0,ad,e,rfl⟩))
 rowt:=fun h0 ad e=>by
  obtain ⟨cs,fr,h1⟩:=h.rowt h0 ad e
  exact ⟨cs,fr,(ho _ (.inr (.inl ⟨h0,ad,e,rfl⟩))).trans h1⟩
 ptr:=by
  obtain ⟨cs,fr,h1,h2⟩:=h.ptr
  exact ⟨cs,fr,(ho _ (.inr (.inr rfl))).trans h1,h2⟩
 map:=hm
 led:=hl
 ne:=h.ne
 mb:=h.mb
 small:=h.small
theorem Tre.own_cells (h:Tre W M sv at_ al ls) {k:Nat} (hk:M.own sv.length k):∃cs T fr,W.heap[k]? = some (.cells cs T fr)/\T≠97:=by
 rcases hk with rfl|⟨h0,ad,e,rfl⟩|rfl
 ·exact ⟨_,_,_,h.cells,by decide⟩
 ·obtain ⟨cs,fr,h1⟩:=h.rowt h0 ad e
  exact ⟨_,_,_,h1,by decide⟩
 ·obtain ⟨cs,fr,h1,_⟩:=h.ptr
  exact ⟨_,_,_,h1,by decide⟩
theorem Tre.own_same (h:Tre W M sv at_ al ls) (hk:Kt M sv.length W W') {k:Nat} (ho:M.own sv.length k):W'.heap[k]? = W.heap[k]?:=by
 obtain ⟨cs,T,fr,h1,h2⟩:=h.own_cells ho
 rw [h1]
 exact h.stay hk h1 h2
theorem Tre.near (h:Tre W M sv at_ al ls) (ho:∀k,k<W.heap.size->M.own sv.length k∨M.wr sv.length k ∨ ¬ NoLimb W k->W'.heap[k]? = W.heap[k]?):Tre W' M sv at_ al ls :=
 h.mk' (fun k hk=>ho k (h.own_lt hk) (.inl hk)) (h.map.kept (ho _ (h.wr_lt (.inl rfl)) (.inr (.inl (.inl rfl)))))
  (fun s hs=>(h.led s hs).near (ho _ (h.wr_lt (.inr ⟨s,hs,.inl rfl⟩)) (.inr (.inl (.inr ⟨s,hs,.inl rfl⟩)))) (ho _ (h.wr_lt (.inr ⟨s,hs,.inr rfl⟩)) (.inr (.inl (.inr ⟨s,hs,.inr rfl⟩)))) (fun k hk hn=>ho k hk (.inr (.inr hn))))
theorem Tre.below (h:Tre W M sv at_ al ls) (hb:Below W.heap.size W W'):Tre W' M sv at_ al ls:=h.near fun k hk _=>hb.block k hk
theorem Tre.kp (h:Tre W M sv at_ al ls) {s:Int} {l':List (Int × Hd)} (hs:inR sv.length s) (hk:Kp (M.g s) (M.b s) W W') (hl:Led W' (M.g s) (M.b s) (al s) (Zy l') l'):Tre W' M sv at_ al (upd ls s l'):=by
 have gk:=Led.blk (h.led s hs)
 obtain ⟨⟨cg,hg⟩,em,cm,hb⟩:=gk
 refine h.mk' (fun k hk'=>h.own_same (Kt.kp hs hk) hk') (h.map.kept (hk.same _ h.map.lt (fun e=>?_) (fun e=>h.mb s hs e.symm))) (fun y hy=>?_)
 ·obtain ⟨es,c,h1⟩:=h.map.obj
  rw [e,hg] at h1
  cases h1
 ·by_cases e:y=s
  ·subst e
   rw [upd_same]
   exact hl
  ·rw [upd_other _ _ e]
   obtain ⟨⟨cy,hy1⟩,ey,cy',hy2⟩:=Led.blk (h.led y hy)
   have n:=h.ne y s hy hs e
   refine (h.led y hy).near (hk.same _ (Array.getElem?_eq_some_iff.1 hy1).1 n.1 (fun c=>?_)) (hk.same _ (Array.getElem?_eq_some_iff.1 hy2).1 (fun c=>?_) n.2) (fun k hlt hn=>hk.same k hlt (fun c=>hn ?_) (fun c=>hn ?_))
   ·rw [c,hb] at hy1;cases hy1
   ·rw [c,hg] at hy2;cases hy2
   ·rw [c];exact h.wr_noLimb (.inr ⟨s,hs,.inl rfl⟩)
   ·rw [c];exact noLimb_map hb
theorem Tre.turn (h:Tre W M sv at_ al ls) {at2:List (Int × Int)} (ht:W.mapTurned W' M.m) (hm:XAt.MapIs W' M.m at2):Tre W' M sv at2 al ls:=by
 have hs:∀k,k<W.heap.size->k≠M.m->W'.heap[k]? = W.heap[k]?:=fun k hk hne=>ht.grown.block k hk (fun e=>hne (Option.some.inj e))
 obtain ⟨es,c,h1⟩:=h.map.obj
 refine h.mk' (fun k hk=>h.own_same (Kt.turn ht) hk) hm (fun y hy=>?_)
 obtain ⟨⟨cy,hy1⟩,ey,cy',hy2⟩:=Led.blk (h.led y hy)
 refine (h.led y hy).near (hs _ (Array.getElem?_eq_some_iff.1 hy1).1 (fun e=>?_)) (hs _ (Array.getElem?_eq_some_iff.1 hy2).1 (h.mb y hy)) (fun k hlt hn=>hs k hlt (fun e=>hn (by rw [e];exact noLimb_map h1)))
 rw [e,h1] at hy1
 cases hy1
theorem Tre.box (h:Tre W M sv at_ al ls) {k i:Nat} {v:Value} (h1:¬ M.own sv.length k) (h2:¬ M.wr sv.length k) (h3:NoLimb W k):Tre (W.setCell ⟨k,i,none⟩ v) M sv at_ al ls :=
 h.near fun j _ hj=>Below.heap_setCell _ ⟨k,i,none⟩ _ j (fun e=>by
  subst e
  rcases hj with c|c|c
  ·exact h1 c
  ·exact h2 c
  ·exact c h3)
theorem Tre.ptr_at (h:Tre W M sv at_ al ls) {s:Int} (hs:inR sv.length s):W.cell? ⟨M.Al,ix sv.length s,none⟩=some (.pointer (some ⟨M.g s,0,none⟩)):=by
 obtain ⟨cs,fr,h1,h2⟩:=h.ptr
 have:=h2 s hs
 simp [World.cell?,h1,this]
theorem Tre.cell0 (h:Tre W M sv at_ al ls):W.cell? ⟨M.t,0,none⟩=some (.slice M.A sv.length M.c):=(Zg h.cells 0).trans rfl
theorem Tre.cell1 (h:Tre W M sv at_ al ls):W.cell? ⟨M.t,1,none⟩=some (.slice (some ⟨M.Al,0,none⟩) (sv.length+1) M.cl):=(Zg h.cells 1).trans rfl
theorem Tre.cell2 (h:Tre W M sv at_ al ls):W.cell? ⟨M.t,2,none⟩=some (.map (some M.m)):=(Zg h.cells 2).trans rfl
end
end Go.Proofs.Ytfldklimlcnnnaa.XTree
end

section
namespace Go.Proofs.Ytfldklimlcnnnaa.QTree
open Go.RowKit PHq YtfldklimlcnnnaaW.PrintWords YtfldklimlcnnnaaW.PrintLast YtfldklimlcnnnaaW.PrintMore MWords
open XTree
def par (sv:List S71) (s:Int):Int:=(rd_T71 sv s).f0
def GoodSv (sv:List S71):Prop:=∀s:Int,0<=s->s<sv.length->-1<=par sv s/\par sv s<s
def pathF (sv:List S71):Nat->Int->List Int
 | 0,_=>[-1]
 | k+1,s=>if s = -1 then [-1] else s::pathF sv k (par sv s)
def Z0 (sv:List S71) (s:Int):List Int:=pathF sv (s+1).toNat s
theorem path_fuel {sv:List S71} (hG:GoodSv sv):∀ (k k':Nat) (s:Int),inR sv.length s->(s+1).toNat<=k->(s+1).toNat<=k'->pathF sv k s=pathF sv k' s:=by
 intro k
 induction k with
 | zero =>
  intro k' s hs h1 h2
  have:s = -1:=by have:=hs.1;omega
  subst this
  cases k'<;>simp [pathF]
 | succ k ih =>
  intro k' s hs h1 h2
  by_cases e:s = -1
  ·subst e
   cases k'<;>simp [pathF]
  ·have h0:0<=s:=by have:=hs.1;omega
   obtain ⟨k',rfl⟩:∃j,k'=j+1:=⟨k'-1,by omega⟩
   have hp:=hG s h0 hs.2
   simp only [pathF]
   rw [if_neg e,if_neg e,ih k' (par sv s) ⟨hp.1,by have:=hs.2;omega⟩ (by omega) (by omega)]
theorem path_root (sv:List S71):Z0 sv (-1) = [-1]:=rfl
theorem path_step {sv:List S71} (hG:GoodSv sv) {s:Int} (h0:0<=s) (h1:s<sv.length):Z0 sv s=s::Z0 sv (par sv s):=by
 have hp:=hG s h0 h1
 have e:(s+1).toNat=s.toNat+1:=by omega
 unfold Z0
 rw [e]
 simp only [pathF]
 rw [if_neg (by omega),path_fuel hG s.toNat (par sv s+1).toNat (par sv s) ⟨hp.1,by omega⟩ (by omega) (by omega)]
theorem path_ind {sv:List S71} (hG:GoodSv sv) {P:Int->Prop} (h0:P (-1)) (h1:∀s:Int,0<=s->s<sv.length->P (par sv s)->P s):∀s,inR sv.length s->P s:=by
 have:∀ (k:Nat) (s:Int),(s+1).toNat<=k->inR sv.length s->P s:=by
  intro k
  induction k with
  | zero =>
   intro s hk hs
   have:s = -1:=by have:=hs.1;omega
   rw [this];exact h0
  | succ k ih =>
   intro s hk hs
   by_cases e:s = -1
   ·rw [e];exact h0
   ·have hp:=hG s (by have:=hs.1;omega) hs.2
    exact h1 s (by have:=hs.1;omega) hs.2 (ih _ (by omega) ⟨hp.1,by have:=hs.2;omega⟩)
 intro s hs
 exact this _ s (Nat.le_refl _) hs
theorem path_in {sv:List S71} (hG:GoodSv sv) (s:Int) (hs:inR sv.length s):∀x∈Z0 sv s,inR sv.length x/\x<=s:=by
 refine path_ind hG (P:=fun s=>inR sv.length s->∀x∈Z0 sv s,inR sv.length x/\x<=s) ?_ ?_ s hs hs
 ·intro h x hx
  rw [path_root] at hx
  rw [List.mem_singleton.1 hx]
  exact ⟨h,by omega⟩
 ·intro s h0 h1 ih h x hx
  have hp:=hG s h0 h1
  rw [path_step hG h0 h1] at hx
  rcases List.mem_cons.1 hx with rfl|hx
  ·exact ⟨h,by omega⟩
  ·have:=ih ⟨hp.1,by omega⟩ x hx
   exact ⟨this.1,by omega⟩
theorem path_nodup {sv:List S71} (hG:GoodSv sv) (s:Int) (hs:inR sv.length s):(Z0 sv s).Nodup:=by
 refine path_ind hG (P:=fun s=>(Z0 sv s).Nodup) ?_ ?_ s hs
 ·rw [path_root];simp
 ·intro s h0 h1 ih
  have hp:=hG s h0 h1
  rw [path_step hG h0 h1,List.nodup_cons]
  refine ⟨fun hx=>?_,ih⟩
  have:=(path_in hG _ ⟨hp.1,by omega⟩ s hx).2
  omega
theorem path_len {sv:List S71} (hG:GoodSv sv) (s:Int) (hs:inR sv.length s):(Z0 sv s).length<=sv.length+1:=by
 have h:∀s,inR sv.length s->((Z0 sv s).length:Int)<=s+2:=path_ind hG (P:=fun s=>((Z0 sv s).length:Int)<=s+2) (by rw [path_root];simp) (fun s h0 h1 ih=>by
  have hp:=hG s h0 h1
  rw [path_step hG h0 h1,List.length_cons]
  omega)
 have:=h s hs
 have:=hs.2
 omega
theorem path_head {sv:List S71} (hG:GoodSv sv) (s:Int) (hs:inR sv.length s):∃r,Z0 sv s=s::r:=by
 by_cases e:s = -1
 ·subst e;exact ⟨[],path_root sv⟩
 ·exact ⟨_,path_step hG (by have:=hs.1;omega) hs.2⟩
end Go.Proofs.Ytfldklimlcnnnaa.QTree
end

section
namespace Go.Proofs.Ytfldklimlcnnnaa.XGo
open Go.RowKit XBy
variable {F:Fence} {n:Nat} {P:Program} {α:Type}
def SeqG (F:Fence) (n:Nat) (P:Program) (gf:Nat) (lb:Array Value) (encs:α->Array Value) (Kr:World->World->Prop) (G:List α->α->Prop) (S Sp:List α->Prop) (w:World):Prop :=
 ∀ (l:Nat) (J Jx:List α->World->Prop) (W:World),Below w.heap.size w W->AbidesFrom W.heap.size J->AbidesFrom W.heap.size Jx →
  (∀pre x X,J pre X->G pre x->YieldAt F (n-1) P l (encs x) X fun e X' =>
   (e=.returned (.bool true)/\J (pre++[x]) X'/\Kr X X')∨(e=.returned (.bool false)/\Jx (pre++[x]) X')) →
  J [] W →
  CallsIn F n P gf (#[.func (.yield l) #[] #[]]++lb) W fun e W'=>(∃v,e=.returned v)/\((∃xs,S xs/\J xs W') ∨ ∃pre,Sp pre/\Jx pre W')
def roundG (D:Nat) (Kr:World->World->Prop) (I:List α->World->Prop) (Ix:Code->List α->World->Prop) (xs:List α) (W:World):Exit->Act->World->Prop
 | .normal,_,W'=>KeepsFrom D W W'/\Kr W W'/\I xs W'
 | .ret,_,W'=>KeepsFrom D W W'/\Ix .ret xs W'
 | .exit id,_,W'=>KeepsFrom D W W'/\Ix (.exit id) xs W'
 | _,_,_=>False
theorem range_g {g:Operand} {ps:Array Tmp} {assign body:Code} {Q:Exit->Act->World->Prop} {a:Act} {w w0:World} {gf:Nat} {lb:Array Value}
  (hro:F.round=none) (hn:1<=n) (hg:a.eval g=.func (.func gf) #[] lb) (hF:F.fn gf) (heg:∀args w,(callFunc gf args).run P w=.ok (.enter gf args) w)
  {encs:α->Array Value} {Kr:World->World->Prop} {G:List α->α->Prop} {S Sp:List α->Prop} (hseq:SeqG F (n-1) P gf lb encs Kr G S Sp w0) (hw0:Below w0.heap.size w0 w) (hps:∀x,(encs x).size=ps.size)
  (hKt:∀ {A B C:World},Kr A B->Kr B C->Kr A C) (hKb:∀ (W:World) (l:Nat) (o o':Obj),w.heap.size<=l->W.heap[l]? = some o->o.isCells=false->o.isWalk=false->Kr W (W.putObj l o'))
  (I:List α->World->Prop) (Ix:Code->List α->World->Prop) (hI:OwnFrom w.heap.size I) (hIx:∀c,OwnFrom w.heap.size (Ix c)) (h0:I [] w) (a₁:α->Act)
  (hassign:∀ (l:Nat) (x:α) (W:World) (K:Act->World->Prop),K (a₁ x) W →
   assign.wpIn (F.inRound l) (n-1-1) P (Exit.then K (fun _ _ _=>False)) { tmps:=(ps.zip (encs x)).foldl (fun t (p,v)=>t.setIfInBounds p v) a.tmps,defers:=[] } W)
  (hbody:∀ (l:Nat) (pre:List α) (x:α) (W:World),I pre W->G pre x->w.heap.size+1<W.heap.size->body.wpIn (F.inRound l) (n-1-1) P (roundG w.heap.size Kr I Ix (pre++[x]) W) (a₁ x) W)
  (hdone:∀ (xs:List α) (W:World),S xs->I xs W->W.heap[w.heap.size]? = some (.deferred (some []))->Q .normal { a with defers:={ target:=.collected w.heap.size,args:=#[] } :: a.defers } W)
  (hstop:∀ (c:Code) (pre:List α) (W:World),Sp pre->Ix c pre W->W.heap[w.heap.size]? = some (.deferred (some []))->c.wpIn F n P Q { a with defers:={ target:=.collected w.heap.size,args:=#[] } :: a.defers } W) :
  (Code.rangeFunc g ps assign body).wpIn F n P Q a w:=by
 refine wpIn_rangeFunc fun fn hfn=>?_
 rw [hro]
 obtain ⟨r,hr⟩:∃r:LoopState->Option Code->Loop,r=fun st pe=>{ state:=st,pending:=pe,fn,tmps:=a.tmps,params:=ps,assign,body,defers:=w.heap.size }:=⟨_,rfl⟩
 obtain ⟨V,hV⟩:∃V,V=(w.alloc (.deferred (some []))).alloc (.loop (r .ready none)):=⟨_,rfl⟩
 have bV:Book w.heap.size (r .ready none) V:=by
  rw [hV]
  refine ⟨(Below.heap_alloc _ _ _ (by simp)).trans (World.alloc_heap_new w _),?_⟩
  have:=World.alloc_heap_new (w.alloc (.deferred (some []))) (.loop (r .ready none))
  rwa [World.size_alloc] at this
 have iV:I [] V:=by rw [hV];exact hI.alloc _ (hI.alloc _ h0)
 have wV:Below w0.heap.size w0 V:=by
  rw [hV]
  exact hw0.trans ((((Below.refl _ w).alloc (Nat.le_refl _) _).alloc (by simp) _).mono hw0.size)
 have hVs:V.heap.size=w.heap.size+2:=by rw [hV];simp
 refine ⟨w.heap.size+1,[{ target:=.collected w.heap.size,args:=#[] }],V, { target:=.fn (.func gf) lb,args:=#[.func (.yield (w.heap.size+1)) #[] #[]] },V,gf,
  #[.func (.yield (w.heap.size+1)) #[] #[]]++lb,V,by rw [hV,hr];exact run_enterLoop_outer _ _ _ _ _,by simp only [resolve,hg];simp [go_sem],fun f' h=>by simp [Target.leads] at h;subst h;exact hF,by simp [invoke,go_sem,heg],fun _=>hn,?_⟩
 refine (hseq (w.heap.size+1) (fun pre W=>I pre W/\Book w.heap.size (r .ready none) W) (fun pre W=>∃c,Ix c pre W/\Book w.heap.size (r .done (some c)) W) V wV ?_ ?_ ?_ ⟨iV,bV⟩).mono ?_
 ·intro s X X' row h hg' hrow
  exact ⟨hI s X X' row h.1 hg' (fun k e=>⟨by have:=(hrow k e).1;omega,(hrow k e).2.imp fun o ho=>⟨ho.1,Obj.not_cells_of_walk ho.2⟩⟩),h.2.grown hg' (fun k e=>by have:=(hrow k e).1;omega)⟩
 ·rintro s X X' row ⟨c,h1,h2⟩ hg' hrow
  exact ⟨c,hIx c s X X' row h1 hg' (fun k e=>⟨by have:=(hrow k e).1;omega,(hrow k e).2.imp fun o ho=>⟨ho.1,Obj.not_cells_of_walk ho.2⟩⟩),h2.grown hg' (fun k e=>by have:=(hrow k e).1;omega)⟩
 ·-- a round
  rintro pre x X ⟨hi,hb⟩ hG
  have hy:=run_yield (P:=P) (args:=encs x) hb.loop (by rw [hr];exact hps x)
  rw [hr] at hy
  have hb2:=hb.turned { r .ready none with state:=.busy }
  have hturn:Kr X (X.putObj (w.heap.size+1) (.loop { r .ready none with state:=.busy })):=hKb _ _ _ _ (by omega) hb.loop rfl rfl
  refine ⟨fn,_,assign,body,hy,roundIn_of_wpIn hfn (hassign _ x X _ ⟨_,run_beginRound hb.loop (by rw [hr]),?_⟩)⟩
  clear hy
  refine wpIn_mono (hbody _ pre x _ (hI.putObj _ hi (by omega) hb.loop rfl) hG (by simp [World.putObj];have:=hb.lt;omega)) ?_
  have hend:∀ (jump:Option Code) (Y:World),KeepsFrom w.heap.size (X.putObj (w.heap.size+1) (.loop { r .ready none with state:=.busy })) Y →
    Book w.heap.size { r .ready none with state:=.busy } Y/\(Instr.endRound (w.heap.size+1) jump).run P Y=.ok (.bool jump.isNone) (Y.putObj (w.heap.size+1) (.loop (r (if jump.isNone then .ready else .done) jump))):=fun jump Y hk=>by
   have hbY:=hb2.kept hk
   have:=run_endRound (P:=P) jump hbY.loop
   rw [hr] at this ⊢
   exact ⟨by rw [hr] at hbY;exact hbY,this⟩
  rintro e a3 Y hp
  cases e with
  | normal =>
   obtain ⟨hk,hrY,hiY⟩:=hp
   obtain ⟨hbY,hrun⟩:=hend none Y hk
   refine ⟨_,_,hrun,.inl ⟨rfl,⟨hI.putObj _ hiY (by omega) hbY.loop rfl,hbY.turned _⟩,hKt (hKt hturn hrY) (hKb _ _ _ _ (by omega) hbY.loop rfl rfl)⟩⟩
  | ret =>
   obtain ⟨hk,hiY⟩:=hp
   obtain ⟨hbY,hrun⟩:=hend (some .ret) Y hk
   exact ⟨_,_,hrun,.inr ⟨rfl,.ret,(hIx _).putObj _ hiY (by omega) hbY.loop rfl,hbY.turned _⟩⟩
  | exit id =>
   obtain ⟨hk,hiY⟩:=hp
   obtain ⟨hbY,hrun⟩:=hend (some (.exit id)) Y hk
   exact ⟨_,_,hrun,.inr ⟨rfl,.exit id,(hIx _).putObj _ hiY (by omega) hbY.loop rfl,hbY.turned _⟩⟩
  | goto t=>exact hp.elim
  | panic ch=>exact hp.elim
  | outgrown=>exact hp.elim
 ·rintro e Y ⟨⟨v,rfl⟩,(⟨xs,hS,hi,hb⟩|⟨pre,hSp,c,hi,hb⟩)⟩
  ·exact ⟨none,_,by have:=run_endLoop (P:=P) hb.loop (by rw [hr];simp);rw [hr] at this;exact this,hdone xs _ hS (hI.putObj _ hi (by omega) hb.loop rfl) ((World.putObj_heap_other (by omega)).trans hb.defs)⟩
  ·exact ⟨some c,_,by have:=run_endLoop (P:=P) hb.loop (by rw [hr];simp);rw [hr] at this;exact this,hstop c pre _ hSp ((hIx c).putObj _ hi (by omega) hb.loop rfl) ((World.putObj_heap_other (by omega)).trans hb.defs)⟩
end Go.Proofs.Ytfldklimlcnnnaa.XGo
end

section
namespace Go.Proofs.Ytfldklimlcnnnaa.XPath
open Go.RowKit PHq YtfldklimlcnnnaaW.PrintWords YtfldklimlcnnnaaW.PrintLast YtfldklimlcnnnaaW.PrintMore MWords
open XHold XLed XTree QTree XWts XGo
attribute [local go_sem] Oper.semAt_some
def Tm.rd (M:Tm) (n:Nat) (k:Nat):Prop:=k=M.t∨(0<n/\∃ad,M.A=some ad/\k=ad.block)
structure Kq (M:Tm) (n B1:Nat) (X Y:World):Prop where
 size:X.heap.size<=Y.heap.size
 same:∀k,k=B1∨Tm.rd M n k->k<X.heap.size->Y.heap[k]? = X.heap[k]?
theorem Kq.trans {M:Tm} {n B1:Nat} {X Y Z:World} (h:Kq M n B1 X Y) (k:Kq M n B1 Y Z):Kq M n B1 X Z:=⟨Nat.le_trans h.size k.size,fun j hj hl=>(k.same j hj (Nat.lt_of_lt_of_le hl h.size)).trans (h.same j hj hl)⟩
structure Rd (M:Tm) (sv:List S71) (B1:Nat) (W:World):Prop where
 box:MBlk W B1 67 #[.pointer (some ⟨M.t,0,none⟩)]
 cells:MBlk W M.t 119 #[.slice M.A sv.length M.c,.slice (some ⟨M.Al,0,none⟩) (sv.length+1) M.cl,.map (some M.m)]
 row:Kd.C k71 W M.A sv.length sv
 rowt:0<sv.length->∀ad,M.A=some ad->∃cs fr,W.heap[ad.block]? = some (.cells cs 71 fr)
theorem Rd.kept {M:Tm} {sv:List S71} {B1:Nat} {W W':World} (h:Rd M sv B1 W) (hk:Kq M sv.length B1 W W'):Rd M sv B1 W' where
 box:=(hk.same _ (.inl rfl) (Zn h.box)).trans h.box
 cells:=(hk.same _ (.inr (.inl rfl)) (Zn h.cells)).trans h.cells
 row:=C_blk h.row fun h0 ad e=>by
  obtain ⟨cs,fr,h1⟩:=h.rowt h0 ad e
  exact hk.same _ (.inr (.inr ⟨h0,ad,e,rfl⟩)) (Array.getElem?_eq_some_iff.1 h1).1
 rowt:=fun h0 ad e=>by
  obtain ⟨cs,fr,h1⟩:=h.rowt h0 ad e
  exact ⟨cs,fr,(hk.same _ (.inr (.inr ⟨h0,ad,e,rfl⟩)) (Array.getElem?_eq_some_iff.1 h1).1).trans h1⟩
theorem Rd.below {M:Tm} {sv:List S71} {B1:Nat} {W W':World} (h:Rd M sv B1 W) (hb:Below W.heap.size W W'):Rd M sv B1 W':=h.kept ⟨hb.size,fun k _ hk=>hb.block k hk⟩
theorem Rd.of {M:Tm} {sv:List S71} {at_:List (Int × Int)} {al:Int->Rat} {ls:Int->List (Int × Hd)} {B1:Nat} {W:World} (h:Tre W M sv at_ al ls) (hb:MBlk W B1 67 #[.pointer (some ⟨M.t,0,none⟩)]):Rd M sv B1 W:=⟨hb,h.cells,h.row,h.rowt⟩
set_option maxRecDepth 100000 in
set_option maxHeartbeats 4000000 in
theorem path_seq (M:Tm) (sv:List S71) (B1 B2:Nat) (s0:Int) (w:World) (hG:GoodSv sv) (hn:sv.length<=1000) (hs:inR sv.length s0) (hR:Rd M sv B1 w) (h2:MBlk w B2 3 #[.int .i64 s0]) :
  SeqG Fence.wide 5 Try.prog 114 #[.pointer (some ⟨B2,0,none⟩),.pointer (some ⟨B1,0,none⟩)] (fun s:Int=>#[.int .i64 s]) (Kq M sv.length B1) (fun pre x=>∃r,Z0 sv s0=pre++x::r) (fun xs=>xs=Z0 sv s0) (fun pre=>∃r,Z0 sv s0=pre++r) w:=by
 intro lo J Jx W hW hJ hJx hY h0
 have HR:=Zz.mk (hR.below hW)
 have k0:W.cell? ⟨B2,0,none⟩=some (.int .i64 s0):=(Zg ((hW.block _ (Zn h2)).trans h2) 0).trans rfl
 have HY:=Zz.mk hY
 have H0:=Zz.mk h0
 have HG:=Zz.mk hG
 have HS:=Zz.mk hs
 have HN:=Zz.mk hn
 clear hY h0 hG hs hn hR h2 hW hJ hJx
 refine callsIn_of_wp Try.func114 rfl trivial ?_ rfl
 simp only [Try.ntmps114,List.size_toArray,List.length_cons,List.length_nil,Nat.reduceAdd,Nat.reduceSub,Array.replicate_succ,Array.replicate_zero,List.push_toArray,List.append_toArray,List.nil_append,List.cons_append]
 gi_wp2_with fail
 gi_loopw [4] (fun v wr=>∃ (s:Int) (pre:List Int),v=.int .i64 s/\inR sv.length s/\Zz (Z0 sv s0=pre++Z0 sv s)/\Zz (J pre wr)/\Zz (Rd M sv B1 wr)) (fun v _=>(intOf v+1).toNat)
 case atStart=>exact ⟨s0,[],rfl,HS.out,⟨rfl⟩,H0,HR⟩
 case round =>
  obtain ⟨s,pre,rfl,hs,HP,HJ,HRd⟩:=hrel
  have HI:=Zz.mk hs
  clear H0 HR
  have hs1:=hs.1
  have hs2:=hs.2
  by_cases e:s = -1
  ·subst e
   have HP1:=Zz.mk (show Z0 sv s0=pre++[-1] from HP.out)
   clear HP hs hs1 hs2
   obtain ⟨fn,tmps,assign,body,hy,hR⟩:=HY.out pre (-1) _ HJ.out ⟨[],HP1.out⟩
   gi_wp2
   refine hR.mono ?_
   rintro e W3 (⟨rfl,hJ3,hk3⟩|⟨rfl,hJx3⟩)
   ·have HX:=Zz.mk hJ3
    clear hJ3 hk3 hy hR
    gi_wp2
    go_end0
    exact ⟨⟨_,rfl⟩,.inl ⟨_,HP1.out.symm,HX.out⟩⟩
   ·have HX:=Zz.mk hJx3
    clear hJx3 hy hR
    gi_wp2
    go_end0
    exact ⟨⟨_,rfl⟩,.inr ⟨_,⟨[],by rw [HP1.out];simp⟩,HX.out⟩⟩
  ·have h0:0<=s:=by omega
   have HP1:=Zz.mk (show Z0 sv s0=(pre++[s])++Z0 sv (par sv s) by rw [HP.out,path_step HG.out h0 hs2];simp)
   have c1:(s == (-1:Int))=false:=beq_eq_false_iff_ne.mpr e
   have c2:(s != (-1:Int))=true:=bne_iff_ne.mpr e
   have c3:(s=(-1:Int))=False:=eq_false e
   have HS0:=Zz.mk (And.intro h0 hs2)
   clear HP hs hs1 hs2 e h0
   obtain ⟨fn,tmps,assign,body,hy,hR⟩:=HY.out pre s _ HJ.out ⟨Z0 sv (par sv s),by rw [HP1.out];simp⟩
   gi_wp2
   refine hR.mono ?_
   rintro e W3 (⟨rfl,hJ3,hk3⟩|⟨rfl,hJx3⟩)
   ·have HR3:=Zz.mk (HRd.out.kept hk3)
    have HJ3:=Zz.mk hJ3
    clear hJ3 hk3 hy hR
    obtain ⟨ad,hA,hc,_⟩:=at_T71 HR3.out.row s HS0.out.1 HS0.out.2
    have b0:W3.cell? ⟨B1,0,none⟩=some (.pointer (some ⟨M.t,0,none⟩)):=(Zg HR3.out.box 0).trans rfl
    have b1:W3.cell? ⟨M.t,0,none⟩=some (.slice (some ad) sv.length M.c):=by rw [<-hA];exact (Zg HR3.out.cells 0).trans rfl
    have q1:(0<=s)=True:=eq_true HS0.out.1
    have q2:(s<(sv.length:Int))=True:=eq_true HS0.out.2
    have q3:(s.toNat<sv.length)=True:=eq_true (by have:=HS0.out;omega)
    have hpar:=HG.out s HS0.out.1 HS0.out.2
    have hc':W3.cell? (ad.add (s.toNat*3))=some (.int .i64 (par sv s)):=hc
    obtain ⟨p,hp⟩:∃p,par sv s=p:=⟨_,rfl⟩
    rw [hp] at hc' hpar
    have HPP:=Zz.mk (And.intro hp hpar)
    clear hc hA hpar hp
    gi_wp2
    go_roundw
    case rel=>exact ⟨p,pre++[s],rfl,⟨HPP.out.2.1,by have:=HPP.out.2.2;have:=HS0.out.2;omega⟩,⟨by rw [HP1.out,HPP.out.1]⟩,HJ3,HR3⟩
    case measure =>
     have h1:=HPP.out.2
     have h2:=HS0.out
     show (p+1).toNat<(s+1).toNat
     omega
   ·have HX:=Zz.mk hJx3
    clear hJx3 hy hR
    gi_wp2
    refine bodyPost_ret (results_none rfl _ _ _) rfl ?_
    exact ⟨⟨_,rfl⟩,.inr ⟨_,⟨_,HP1.out⟩,HX.out⟩⟩
theorem path_calls (t:Nat) (s:Int) (w:World) :
  Calls Try.prog 85 #[.pointer (some ⟨t,0,none⟩),.int .i64 s] w fun e w'=>e=.returned (.func (.func 114) #[] #[.pointer (some ⟨w.heap.size+1,0,none⟩),.pointer (some ⟨w.heap.size,0,none⟩)])/\w'=(w.alloc (.cells #[.pointer (some ⟨t,0,none⟩)] 67)).alloc (.cells #[.int .i64 s] 3):=by
 go_enter Try.func85,Try.ntmps85
 go_wp2_with fail
 go_ret
 exact ⟨by simp,rfl⟩
end Go.Proofs.Ytfldklimlcnnnaa.XPath
end

section
namespace Go.Proofs.Ytfldklimlcnnnaa.XPuts
open Go.RowKit Go.Shelf PHq YtfldklimlcnnnaaW.PrintWords YtfldklimlcnnnaaW.PrintLast YtfldklimlcnnnaaW.PrintMore MWords
open MNat QNat QText QEv QRatio XRV XHold XWts XLed
theorem map_put {W:World} {b:Nat} {l:List (Int × Hd)} (h:MapIs W b l) (hl:l.length<=1000000) {x:Int} (hx:wfI x) (k:Hd) :
  ∃w',(Instr.mapUpdate 94 (.map (some b)) (.int .i64 x) (hdV k)).run Try.prog W=.ok () w'/\MapIs w' b (setL l x k)/\W.mapTurned w' b:=by
 obtain ⟨D,hD,hV⟩:=h
 obtain ⟨w',hrun,h1,h2⟩:=hD.store keyed Try.underlying94 (by unfold maxLen;omega) (key_of hx) (hdR_mk k)
 have hv:=hV.put (hD.tidy keyed) hx k
 have h3:=own_size h1
 rw [hv.size] at h3
 exact ⟨w',hrun,⟨_,h3,hv⟩,h2⟩
theorem led_turn {W W':World} {g b:Nat} {all q:Rat} {l l':List (Int × Hd)} (h:Led W g b all q l) (hm:MapIs W' b l') (ht:W.mapTurned W' b):Led W' g b all q l':=by
 obtain ⟨x,y,u,v,h1,h2,h3⟩:=h.cells
 obtain ⟨es,c,h4⟩:=h.map.obj
 have hs:∀k,k<W.heap.size->k≠b->W'.heap[k]? = W.heap[k]?:=fun k hk hne=>ht.grown.block k hk (fun e=>hne (by injection e))
 have hk:∀k,k<W.heap.size->¬ NoLimb W k->W'.heap[k]? = W.heap[k]?:=fun k hlt hn=>hs k hlt (fun e=>hn (by rw [e];exact noLimb_map h4))
 exact ⟨⟨x,y,u,v,(hs g (Zn h1) h.ne).trans h1,h2.near hk,h3.near hk⟩,hm⟩
theorem kp_turn {W W':World} {g b:Nat} (ht:W.mapTurned W' b):Kp g b W W':=⟨ht.grown.os,ht.grown.tape,ht.grown.output,ht.grown.size,fun k hk _ h2=>ht.grown.block k hk (fun e=>h2 (by injection e))⟩
set_option maxRecDepth 100000 in
set_option maxHeartbeats 4000000 in
theorem puts_calls (g b:Nat) (all q:Rat) (l:List (Int × Hd)) (z:Int) (h:Hd) (w:World) (hL:Led w g b all q l) (hx:wfI z) (hl:l.length<=1000000) (hG:GoodL (setL l z h)) :
  Calls Try.prog 67 #[.pointer (some ⟨g,0,none⟩),.int .i64 z,hdV h] w fun e w'=>(∃v,e=.returned v)/\Led w' g b all (Zy (setL l z h)) (setL l z h)/\Kp g b w w':=by
 obtain ⟨W0,hW0⟩:∃W0,W0=w.alloc (.cells #[.int .i64 h.e,.int .i64 h.p,.int .i64 h.e2,.int .i64 h.p2,.bool h.a] 102):=⟨_,rfl⟩
 have hb0:Below w.heap.size w W0:=by rw [hW0];exact Zb (Below.refl _ _) _
 have hM0:MBlk W0 w.heap.size 102 #[.int .i64 h.e,.int .i64 h.p,.int .i64 h.e2,.int .i64 h.p2,.bool h.a]:=by rw [hW0];exact Zo _ _ _
 have HL0:=Zz.mk ((hL.below hb0).below (Zr (Below.refl W0.heap.size W0)))
 have HB0:=Zz.mk hb0
 have HG:=Zz.mk hG
 obtain ⟨x,y,u,v,hM,_⟩:=HL0.out.cells
 have k1:W0.cell? ⟨g,2,none⟩=some (.map (some b)):=(Zg (show MBlk W0 g 97 _ from hM) 2).trans rfl
 have x0:W0.cell? ⟨w.heap.size,0,none⟩=some (.int .i64 h.e):=(Zg hM0 0).trans rfl
 have x1:W0.cell? ⟨w.heap.size,1,none⟩=some (.int .i64 h.p):=(Zg hM0 1).trans rfl
 have x2:W0.cell? ⟨w.heap.size,2,none⟩=some (.int .i64 h.e2):=(Zg hM0 2).trans rfl
 have x3:W0.cell? ⟨w.heap.size,3,none⟩=some (.int .i64 h.p2):=(Zg hM0 3).trans rfl
 have x4:W0.cell? ⟨w.heap.size,4,none⟩=some (.bool h.a):=(Zg hM0 4).trans rfl
 obtain ⟨w2,hrun,hm2,ht2⟩:=map_put HL0.out.map hl hx h
 have HM2:=Zz.mk (And.intro hm2 ht2)
 simp only [hdV] at hrun ⊢
 clear hL hb0 hG hM0 hm2 ht2 hM
 go_enter Try.func67,Try.ntmps67
 go_upto_region 1 with fail
 rw [<-hW0]
 clear hW0
 go_region
 have HL2:=Zz.mk (led_turn HL0.out HM2.out.1 HM2.out.2)
 have HK2:=Zz.mk (((Kp.of HB0.out).trans (Kp.of (Zr (Below.refl W0.heap.size W0)))).trans (kp_turn (g:=g) HM2.out.2))
 clear hrun HL0 HB0 HM2 k1 x0 x1 x2 x3 x4
 go_wp2_with fail
 refine (counts_calls g b all q _ _ HL2.out HG.out).mono ?_
 rintro e w3 ⟨⟨v,rfl⟩,hL3,hK3⟩
 have HL3:=Zz.mk (And.intro hL3 (HK2.out.trans hK3))
 clear hL3 hK3
 go_wp2_with fail
 go_end0
 exact ⟨⟨_,rfl⟩,HL3.out⟩
theorem map_get {W:World} {b:Nat} {l:List (Int × Hd)} (h:MapIs W b l) {z:Int} (hz:wfI z) :
  (Instr.lookup 94 (.map (some b)) (.int .i64 z) true).run Try.prog W=.ok (.tuple #[hdV ((getL l z).getD zeroH),.bool (hasL l z)]) W:=by
 obtain ⟨D,hD,hV⟩:=h
 obtain ⟨v,ps,hrun,hv⟩:=hD.look_ok keyed Try.underlying94 (zeroE W) (hdR_mk zeroH) (key_of hz)
 rw [hV.get z] at hv
 obtain ⟨c,rfl,hc⟩:=hdR_inv hv
 rw [hdD_inj (congrArg Prod.fst hc)]
 rw [hrun,show Maps.has D (.int .i64 z)=hasL l z from hV.has z]
set_option maxRecDepth 100000 in
set_option maxHeartbeats 4000000 in
theorem of_calls (g b:Nat) (all q:Rat) (l:List (Int × Hd)) (z:Int) (h:Hd) (w:World) (hL:Led w g b all q l) (hx:wfI z) (hh:h=(getL l z).getD zeroH) :
  Calls Try.prog 27 #[.pointer (some ⟨g,0,none⟩),.int .i64 z] w fun e w'=>e=.returned (.tuple #[.agg #[.int .i64 h.e,.int .i64 h.p],.agg #[.int .i64 h.e2,.int .i64 h.p2],.bool (hasL l z)])/\Below w.heap.size w w':=by
 obtain ⟨W0,hW0⟩:∃W0,W0=(w.alloc (.cells #[.int .i64 0,.int .i64 0] 34)).alloc (.cells #[.int .i64 0,.int .i64 0] 34):=⟨_,rfl⟩
 have ha:(w.alloc (.cells #[.int .i64 0,.int .i64 0] 34)).heap.size=w.heap.size+1:=by simp
 have hb0:Below w.heap.size w W0:=by rw [hW0];exact Zb (Zb (Below.refl _ _) _) _
 have hM0:MBlk W0 w.heap.size 34 #[.int .i64 0,.int .i64 0]:=by rw [hW0];exact Zp (Zo _ _ _) _
 have hM1:MBlk W0 (w.heap.size+1) 34 #[.int .i64 0,.int .i64 0]:=by rw [hW0,<-ha];exact Zo _ _ _
 have HB0:=Zz.mk hb0
 have HL0:=hL.below hb0
 obtain ⟨x,y,u,v,hM,_⟩:=HL0.cells
 have k1:W0.cell? ⟨g,2,none⟩=some (.map (some b)):=(Zg hM 2).trans rfl
 have hrun:=map_get HL0.map hx
 rw [<-hh] at hrun
 simp only [hdV] at hrun
 have HS0:=Zz.mk (show W0.heap.size=w.heap.size+2 by rw [hW0];simp)
 obtain ⟨W1,hW1⟩:∃W1,W1=W0.alloc (.cells #[.int .i64 h.e,.int .i64 h.p,.int .i64 h.e2,.int .i64 h.p2,.bool h.a] 102):=⟨_,rfl⟩
 have HM0:=Zz.mk (show MBlk W1 w.heap.size 34 #[.int .i64 0,.int .i64 0] by rw [hW1];exact Zp hM0 _)
 have HM1:=Zz.mk (show MBlk W1 (w.heap.size+1) 34 #[.int .i64 0,.int .i64 0] by rw [hW1];exact Zp hM1 _)
 have HM2:=Zz.mk (show MBlk W1 (w.heap.size+2) 102 #[.int .i64 h.e,.int .i64 h.p,.int .i64 h.e2,.int .i64 h.p2,.bool h.a] by rw [hW1,<-HS0.out];exact Zo _ _ _)
 have HB1:=Zz.mk (show Below w.heap.size w W1 by rw [hW1];exact Zb hb0 _)
 have HW1:=Zz.mk hW1
 clear hL hb0 hM0 hM1 HL0 hM ha hW1 hh
 go_enter Try.func27,Try.ntmps27
 go_upto_region 3 with fail
 rw [<-hW0]
 clear hW0
 go_upto_region 4 with fail
 rw [<-HW1.out,HS0.out]
 clear HW1 HS0 k1 hrun HB0
 have y0:W1.cell? ⟨w.heap.size,0,none⟩=some (.int .i64 0):=(Zg HM0.out 0).trans rfl
 have y1:W1.cell? ⟨w.heap.size,1,none⟩=some (.int .i64 0):=(Zg HM0.out 1).trans rfl
 have y2:W1.cell? ⟨w.heap.size+1,0,none⟩=some (.int .i64 0):=(Zg HM1.out 0).trans rfl
 have y3:W1.cell? ⟨w.heap.size+1,1,none⟩=some (.int .i64 0):=(Zg HM1.out 1).trans rfl
 have f0:W1.frozen? ⟨w.heap.size,0,none⟩=false:=Zq HM0.out 0
 have f1:W1.frozen? ⟨w.heap.size,1,none⟩=false:=Zq HM0.out 1
 have f2:W1.frozen? ⟨w.heap.size+1,0,none⟩=false:=Zq HM1.out 0
 have f3:W1.frozen? ⟨w.heap.size+1,1,none⟩=false:=Zq HM1.out 1
 have x0:W1.cell? ⟨w.heap.size+2,0,none⟩=some (.int .i64 h.e):=(Zg HM2.out 0).trans rfl
 have x1:W1.cell? ⟨w.heap.size+2,1,none⟩=some (.int .i64 h.p):=(Zg HM2.out 1).trans rfl
 have x2:W1.cell? ⟨w.heap.size+2,2,none⟩=some (.int .i64 h.e2):=(Zg HM2.out 2).trans rfl
 have x3:W1.cell? ⟨w.heap.size+2,3,none⟩=some (.int .i64 h.p2):=(Zg HM2.out 3).trans rfl
 go_region
 go_wp2_with fail
 obtain ⟨Wf,hWf⟩:∃Wf,Wf=(((W1.setCell ⟨w.heap.size,0,none⟩ (.int .i64 h.e)).setCell ⟨w.heap.size,1,none⟩ (.int .i64 h.p)).setCell ⟨w.heap.size+1,0,none⟩ (.int .i64 h.e2)).setCell ⟨w.heap.size+1,1,none⟩ (.int .i64 h.p2):=⟨_,rfl⟩
 have hA:MBlk Wf w.heap.size 34 #[.int .i64 h.e,.int .i64 h.p]:=by
  rw [hWf]
  exact mblk_far (mblk_far (mblk_set (mblk_set HM0.out 0 _) 1 _) (p:=⟨w.heap.size+1,0,none⟩) (by simp) _) (p:=⟨w.heap.size+1,1,none⟩) (by simp) _
 have hB:MBlk Wf (w.heap.size+1) 34 #[.int .i64 h.e2,.int .i64 h.p2]:=by
  rw [hWf]
  exact mblk_set (mblk_set (mblk_far (mblk_far HM1.out (p:=⟨w.heap.size,0,none⟩) (by simp) _) (p:=⟨w.heap.size,1,none⟩) (by simp) _) 0 _) 1 _
 have hbf:Below w.heap.size w Wf:=by
  rw [hWf]
  exact (((HB1.out.setCell (p:=⟨w.heap.size,0,none⟩) (Nat.le_refl _) _).setCell (p:=⟨w.heap.size,1,none⟩) (Nat.le_refl _) _).setCell (p:=⟨w.heap.size+1,0,none⟩) (by simp) _).setCell (p:=⟨w.heap.size+1,1,none⟩) (by simp) _
 rw [<-hWf]
 clear hWf y0 y1 y2 y3 f0 f1 f2 f3 x0 x1 x2 x3
 have e0:Wf.drew.cell? ⟨w.heap.size,0,none⟩=some (.int .i64 h.e):=(Zg hA 0).trans rfl
 have e1:Wf.drew.cell? ⟨w.heap.size,1,none⟩=some (.int .i64 h.p):=(Zg hA 1).trans rfl
 have e2:Wf.drew.cell? ⟨w.heap.size+1,0,none⟩=some (.int .i64 h.e2):=(Zg hB 0).trans rfl
 have e3:Wf.drew.cell? ⟨w.heap.size+1,1,none⟩=some (.int .i64 h.p2):=(Zg hB 1).trans rfl
 refine bodyPost_ret (v:=.tuple #[.agg #[.int .i64 h.e,.int .i64 h.p],.agg #[.int .i64 h.e2,.int .i64 h.p2],.bool (hasL l z)]) (by simp [results,Try.results27,go_sem,e0,e1,e2,e3]) rfl ⟨rfl,Zr hbf⟩
end Go.Proofs.Ytfldklimlcnnnaa.XPuts
end

section
namespace Go.Proofs.Ytfldklimlcnnnaa.XNew
open Go.RowKit Go.Shelf PHq YtfldklimlcnnnaaW.PrintWords YtfldklimlcnnnaaW.PrintLast YtfldklimlcnnnaaW.PrintMore MWords
open MNat QNat QText QEv QRatio XRV XHold XWts XLed XPuts
theorem nil_ne (ad:Addr) (n c:Nat) (w:World):(binOp BinOp.eql 26 (.slice (some ad) n c) (.slice none 0 0)).run Try.prog w=.ok (.bool false) w:=by
 kernel_rfl
theorem nil_eq (n c:Nat) (w:World):(binOp BinOp.eql 26 (.slice none n c) (.slice none 0 0)).run Try.prog w=.ok (.bool true) w:=by
 kernel_rfl
set_option maxRecDepth 100000 in
set_option maxHeartbeats 4000000 in
theorem clone_calls (A:Option Addr) (c:Nat) (xs:List Int) (w:World) (hC:Kd.C (Kd.int .u32) w A xs.length xs) (hc:xs.length<=c) (hl:xs.length<=1000000) :
  Calls Try.prog 70 #[.slice A xs.length c] w fun e w'=>∃A' c',e=.returned (.slice A' xs.length c')/\(xs.length<=c'/\Kd.C (Kd.int .u32) w' A' xs.length xs)/\Below w.heap.size w w':=by
 have HC:=Zz.mk hC
 have HL:=Zz.mk hl
 clear hC
 go_enter Try.func70,Try.ntmps70
 cases A with
 | none =>
  have h0:xs = []:=by
   cases xs with
   | nil=>rfl
   | cons x xs=>obtain ⟨ad,h,_⟩:=HC.out.2.2 (by simp);cases h
  subst h0
  have q0:=nil_eq 0 c
  go_wp2_with fail
  exact bodyPost_ret (results_tmp rfl _ _ _) rfl ⟨none,0,rfl,⟨Nat.le_refl _,Kd.C_nil _ _⟩,Below.refl _ _⟩
 | some ad =>
  have q0:=nil_ne ad xs.length c
  go_wp2_with (first
   | ((with_reducible refine Zt (N:=5) rfl ?_);refine Kd.R_lit (Kd.int .u32) (w0:=w) w.heap.size 89 rfl (N:=5) rfl (xs:=([]:List Int)) (inner:=[]) (ok:=fun _=>True) (okp:=fun _=>True) (by first|(go_simp;done)|(go_simp;rfl)) (Reps.none _ _) (fun _ hk=>hk) trivial (Below.refl _ _) (Nat.le_refl _) (by simp) ?_;intro v1 w1 hR1 hb1 _ _;have HR1:=Zz.mk hR1;have HB1:=Zz.mk hb1;have HS1:=Zz.mk hb1.size;clear hR1 hb1)
   | ((with_reducible refine gate_builtin (b:=.append) (xs:=#[.tmp 5,.tmp 6]) rfl ?_);at_builtin;refine Kd.R_append_rows (Kd.int .u32) (w0:=w) w.heap.size rfl (.tmp 5) (.tmp 6) 26 89 (.int .u32 0) 4 rfl Try.underlying26 info89 rfl (by decide) (by omega) v1 [] xs (some ad) xs.length c (fun _=>True) (fun _=>False) rfl rfl HR1.out (Kd.C_below HC.out HB1.out) (fun _ _ h=>h) (fun _ hk=>hk.elim) (fun _ _=>trivial) HB1.out HS1.out (by have:=HL.out;simp;omega) ?_;intro v2 w2 hR2 hb2 _ _;have HR2:=Zz.mk hR2;have HB2:=Zz.mk hb2;clear hR2 hb2))
  obtain ⟨A2,c2,rfl⟩:=Kd.R_slice HR2.out
  refine bodyPost_ret (results_tmp rfl _ _ _) rfl ⟨A2,c2,rfl,(Kd.R_reads' HR2.out).2,HB2.out⟩
set_option maxRecDepth 100000 in
set_option maxHeartbeats 4000000 in
theorem held_calls (g b:Nat) (all q:Rat) (l:List (Int × Hd)) (w:World) (hL:Led w g b all q l) (hs:Sz 100000 q) :
    Calls Try.prog 20 #[.pointer (some ⟨g,0,none⟩)] w fun e w'=>∃p p':Value,e=.returned (.agg #[p,p'])/\RV w' p p' (L q).1 (L q).2/\Below w.heap.size w w':=by
  have mixed:Try.prog.follows Departure.mixedOrders=true:=by kernel_rfl
  obtain ⟨x,y,u,v,hM,_,hUV⟩:=hL.cells
  obtain ⟨⟨Au,cu,rfl,hu1,hu2⟩,Av,cv,rfl,hv1,hv2⟩:=hUV
  obtain ⟨W0,hW0⟩:∃W0,W0=w.alloc (.cells #[.slice none 0 0,.slice none 0 0] 28):=⟨_,rfl⟩
  have hb0:Below w.heap.size w W0:=by rw [hW0];exact Zb (Below.refl _ _) _
  have HB0:=Zz.mk hb0
  have HR0:=Zz.mk (show MBlk W0 w.heap.size 28 #[.slice none 0 0,.slice none 0 0] by rw [hW0];exact Zo _ _ _)
  have HM0:=Zz.mk ((hb0.block _ (Zn hM)).trans hM)
  have HU:=Zz.mk (And.intro hu1 hu2)
  have HV:=Zz.mk (And.intro hv1 hv2)
  have HSZ:=Zz.mk (show (L q).1.length<=1000000/\(L q).2.length<=1000000 from And.intro (hs.2.1.isN (by omega)).2 (hs.2.2.isN (by omega)).2)
  generalize (L q).1=ua at *
  generalize (L q).2=va at *
  clear hL hb0 hM hu1 hu2 hv1 hv2
  go_enter Try.func20,Try.ntmps20
  go_upto_region 3 with fail
  rw [<-hW0]
  clear hW0
  have k3:W0.cell? ⟨g,3,none⟩=some (.slice Au ua.length cu):=(Zg HM0.out 3).trans rfl
  have k4:W0.cell? ⟨g,4,none⟩=some (.slice Av va.length cv):=(Zg HM0.out 4).trans rfl
  go_region_law
    (first
      | (go_simp;go_at_call 70
         refine (clone_calls Au cu ua _ (Kd.C_below HU.out.2 (Zr HB0.out)) HU.out.1 HSZ.out.1).mono ?_
         rintro e w1 ⟨A1,c1,rfl,h1,hb⟩
         have HB1:=Zz.mk (Zi (Zr HB0.out) hb)
         have HM1:=Zz.mk ((hb.block _ (Zn HM0.out)).trans HM0.out)
         have HR1:=Zz.mk ((hb.block _ (Zn HR0.out)).trans HR0.out)
         have H1:=Zz.mk h1
         have k4:w1.cell? ⟨g,4,none⟩=some (.slice Av va.length cv):=(Zg HM1.out 4).trans rfl
         clear h1 hb)
      | (go_simp;go_at_call 70
         refine (clone_calls Av cv va _ (Kd.C_below HV.out.2 HB1.out) HV.out.1 HSZ.out.2).mono ?_
         rintro e w2 ⟨A2,c2,rfl,h2,hb⟩
         have HB2:=Zz.mk (Zi HB1.out hb)
         have HR2:=Zz.mk ((hb.block _ (Zn HR1.out)).trans HR1.out)
         have H2:=Zz.mk h2
         have H3:=Zz.mk (Kd.C_below H1.out.2 hb)
         have r0:w2.cell? ⟨w.heap.size,0,none⟩=some (.slice none 0 0):=(Zg HR2.out 0).trans rfl
         have r1:w2.cell? ⟨w.heap.size,1,none⟩=some (.slice none 0 0):=(Zg HR2.out 1).trans rfl
         have f0:w2.frozen? ⟨w.heap.size,0,none⟩=false:=Zq HR2.out 0
         have f1:w2.frozen? ⟨w.heap.size,1,none⟩=false:=Zq HR2.out 1
         clear h2 hb))
  all_goals
    have HF:=Zz.mk (show MBlk ((w2.setCell ⟨w.heap.size,0,none⟩ (.slice A1 ua.length c1)).setCell ⟨w.heap.size,1,none⟩ (.slice A2 va.length c2)) w.heap.size 28 #[.slice A1 ua.length c1,.slice A2 va.length c2] from mblk_set (mblk_set HR2.out 0 _) 1 _)
    have HBF:=Zz.mk (show Below w.heap.size w ((w2.setCell ⟨w.heap.size,0,none⟩ (.slice A1 ua.length c1)).setCell ⟨w.heap.size,1,none⟩ (.slice A2 va.length c2)) from (HB2.out.setCell (p:=⟨w.heap.size,0,none⟩) (Nat.le_refl _) _).setCell (p:=⟨w.heap.size,1,none⟩) (Nat.le_refl _) _)
    have HRV:=Zz.mk (show RV ((w2.setCell ⟨w.heap.size,0,none⟩ (.slice A1 ua.length c1)).setCell ⟨w.heap.size,1,none⟩ (.slice A2 va.length c2)) (.slice A1 ua.length c1) (.slice A2 va.length c2) ua va from
      RV.near ⟨⟨A1,c1,rfl,H1.out.1,H3.out⟩,A2,c2,rfl,H2.out.1,H2.out.2⟩ (fun k hk hn=>by
        have hne:k≠w.heap.size:=fun e=>hn (by
          intro p hp n hc
          rw [e] at hp
          unfold World.cell? at hc
          rw [hp,show w2.heap[w.heap.size]? = _ from HR2.out] at hc
          simp only at hc
          split at hc
          · cases hc
          · match ho:p.off,hc with
            | 0,hc=>simp at hc
            | 1,hc=>simp at hc
            | k+2,hc=>simp at hc)
        exact (Below.heap_setCell _ ⟨w.heap.size,1,none⟩ _ k hne).trans (Below.heap_setCell _ ⟨w.heap.size,0,none⟩ _ k hne)))
    clear r0 r1 f0 f1 k4
    go_wp2_with fail
    have e0:=(Zg HF.out 0).trans rfl
    have e1:=(Zg HF.out 1).trans rfl
    exact bodyPost_ret (v:=.agg #[.slice A1 ua.length c1,.slice A2 va.length c2]) (by simp [results,Try.results20,go_sem,e0,e1]) rfl ⟨_,_,rfl,HRV.out,HBF.out⟩
end Go.Proofs.Ytfldklimlcnnnaa.XNew
end

section
namespace Go.Proofs.Ytfldklimlcnnnaa.XOf
open Go.RowKit PHq YtfldklimlcnnnaaW.PrintWords YtfldklimlcnnnaaW.PrintLast YtfldklimlcnnnaaW.PrintMore MWords
open MNat QNat QEv QRatio XRV XHold XLed XNew XTree QTree
section
variable {w:World} {M:Tm} {sv:List S71} {at_:List (Int × Int)} {al:Int->Rat} {ls:Int->List (Int × Hd)}
def thereB (n:Nat) (s:Int):Bool:=decide (-1<=s) && decide (s<n)
theorem there_in {n:Nat} {s:Int} : thereB n s=true↔inR n s:=by
 unfold thereB inR
 simp
set_option maxRecDepth 100000 in
set_option maxHeartbeats 2000000 in
theorem there_calls (hT:Tre w M sv at_ al ls) (s:Int) :
  Calls Try.prog 83 #[.pointer (some ⟨M.t,0,none⟩),.int .i64 s] w fun e w'=>e=.returned (.bool (thereB sv.length s))/\w'=w:=by
 have k0:=hT.cell0
 clear hT
 unfold thereB
 go_enter Try.func83,Try.ntmps83
 by_cases h1 : -1<=s
 ·have d1:decide (-1<=s)=true:=decide_eq_true h1
  rw [d1]
  clear h1
  go_wp2_with fail
  go_ret
  exact ⟨by simp,rfl⟩
 ·have d1:decide (-1<=s)=false:=decide_eq_false h1
  rw [d1]
  clear h1
  go_wp2_with fail
  go_ret
  exact ⟨by simp,rfl⟩
set_option maxRecDepth 100000 in
set_option maxHeartbeats 2000000 in
theorem of_calls (hT:Tre w M sv at_ al ls) {s:Int} (hs:inR sv.length s) :
  Calls Try.prog 89 #[.pointer (some ⟨M.t,0,none⟩),.int .i64 s] w fun e w'=>e=.returned (.pointer (some ⟨M.g s,0,none⟩))/\Below w.heap.size w w':=by
 have mixed:Try.prog.follows Departure.mixedOrders=true:=by kernel_rfl
 have k0:=hT.cell0
 have k1:=hT.cell1
 have k2:=hT.ptr_at hs
 go_enter Try.func89,Try.ntmps89
 by_cases e:s = -1
 ·subst e
  have k3:w.cell? ⟨M.Al,sv.length,none⟩=some (.pointer (some ⟨M.g (-1),0,none⟩)):=k2
  have HT:=Zz.mk hT
  clear k2 hT hs
  go_wp2_with fail
  go_region
  go_wp2_with fail
  go_ret
  exact ⟨rfl,by first|exact Below.refl _ _|exact Zc (Below.refl _ _)|exact Za (Below.refl _ _) _⟩
 ·have c1:(s == (-1:Int))=false:=beq_eq_false_iff_ne.mpr e
  have c3:(s=(-1:Int))=False:=eq_false e
  have h0:0<=s:=by have:=hs.1;omega
  have k3:w.cell? ⟨M.Al,s.toNat,none⟩=some (.pointer (some ⟨M.g s,0,none⟩)):=by rw [<-k2];unfold ix;rw [if_neg e]
  have q1:(0<=s)=True:=eq_true h0
  have q2:(s<((sv.length+1:Nat):Int))=True:=eq_true (by have:=hs.2;omega)
  have q4:(s<(sv.length:Int)+1)=True:=eq_true (by have:=hs.2;omega)
  have q3:(s.toNat<sv.length+1)=True:=eq_true (by have:=hs.2;omega)
  have HT:=Zz.mk hT
  clear k2 hT hs h0 e
  go_wp2_with fail
  go_ret
  exact ⟨rfl,Below.refl _ _⟩
def srvA (at_:List (Int × Int)) (z:Int):Int:=if XAt.hasL at_ z=true then (XAt.getL at_ z).getD 0 else -2
set_option maxRecDepth 100000 in
set_option maxHeartbeats 2000000 in
theorem server_calls (hT:Tre w M sv at_ al ls) {z:Int} (hz:wfI z) :
  Calls Try.prog 58 #[.pointer (some ⟨M.t,0,none⟩),.int .i64 z] w fun e w'=>e=.returned (.int .i64 (srvA at_ z))/\w'=w:=by
 have k0:=hT.cell2
 have hrun:=XAt.map_get hT.map hz
 clear hT
 unfold srvA
 generalize (XAt.getL at_ z).getD 0=y at *
 go_enter Try.func58,Try.ntmps58
 cases hb:XAt.hasL at_ z with
 | true =>
  rw [hb] at hrun
  go_wp2_with fail
  go_ret
  exact ⟨by simp,rfl⟩
 | false =>
  rw [hb] at hrun
  go_wp2_with fail
  go_ret
  exact ⟨by simp,rfl⟩
end
end Go.Proofs.Ytfldklimlcnnnaa.XOf
end

section
namespace Go.Proofs.Ytfldklimlcnnnaa.XCollect
open Go.RowKit PHq YtfldklimlcnnnaaW.PrintWords YtfldklimlcnnnaaW.PrintLast YtfldklimlcnnnaaW.PrintMore MWords
open MNat QEv XHold XLed XTree QTree XPath XOf XGo
attribute [local go_sem] Oper.semAt_some
theorem infoInt:(Try.prog.info? 3).map (fun i=>(i.zero,i.size,i.bytes))=some (some (.int .i64 0),1,8):=by kernel_rfl
theorem cell_put {W:World} {D:Nat} {o o':Obj} (h:W.heap[D]? = some o) (ho:o.isCells=false) {a:Addr} {v:Value} (hc:W.cell? a=some v):(W.putObj D o').cell? a=some v:=by
 have hne:a.block≠D:=fun e=>by
  unfold World.cell? at hc
  rw [e,h] at hc
  cases o<;>simp_all [Obj.isCells]
 rw [<-hc]
 exact cell_blk (World.putObj_heap_other hne)
theorem C_put {W:World} {D:Nat} {o o':Obj} {A:Option Addr} {n:Nat} {xs:List Int} (h:W.heap[D]? = some o) (ho:o.isCells=false) (hC:Kd.C (Kd.int .i64) W A n xs):Kd.C (Kd.int .i64) (W.putObj D o') A n xs :=
 ⟨hC.1,hC.2.1,fun hn=>by
  obtain ⟨ad,e,hc⟩:=hC.2.2 hn
  refine ⟨ad,e,fun j p hj=>?_⟩
  obtain ⟨c,hs,hr,hcell⟩:=hc j p hj
  exact ⟨c,hs,hr,fun i u hu=>cell_put h ho (hcell i u hu)⟩⟩
theorem below_put {N:Nat} {w W:World} {D:Nat} {o':Obj} (h:Below N w W) (hD:N<=D):Below N w (W.putObj D o') :=
 ⟨h.os,h.tape,h.output,by have:=h.size;simp [World.putObj];exact this,fun k hk=>(World.putObj_heap_other (by omega)).trans (h.block k hk)⟩
structure PInv (B0:Nat) (w:World) (pre:List Int) (W:World):Prop where
 out:∃A c,MBlk W B0 22 #[.slice A pre.length c]/\Kd.R (Kd.int .i64) 3 W (B0+1) (fun _=>True) (.slice A pre.length c) pre
 keep:Below B0 w W
theorem PInv.own (B0 n:Nat) (w:World) (hw:B0<=w.heap.size) (hn:B0<=n):OwnFrom n (PInv B0 w):=fun s X Y row h hg hr=>by
 have hr':∀r,row=some r->∃o:Obj,X.heap[r]? = some o/\o.isCells=false:=fun r e=>(hr r e).2
 obtain ⟨A,c,h1,h2⟩:=h.out
 exact ⟨⟨A,c,mblk_walk h1 hg hr',R_walk h2 hg hr'⟩,h.keep.grown hg (Nat.le_trans hw h.keep.size) (fun k e=>by have:=(hr k e).1;omega)⟩
theorem kq_put {M:Tm} {n B1 N:Nat} (hB:B1<N) (hM:∀k,Tm.rd M n k->k<N) (W:World) (l:Nat) (o o':Obj) (hl:N<=l) (h:W.heap[l]? = some o):Kq M n B1 W (W.putObj l o') :=
 ⟨by simp [World.putObj],fun k hk _=>World.putObj_heap_other (fun e=>by
  rcases hk with rfl|hk
  ·omega
  ·have:=hM k hk;omega)⟩
set_option maxRecDepth 100000 in
set_option maxHeartbeats 4000000 in
theorem append_calls (M:Tm) (sv:List S71) (B1 B2:Nat) (s0:Int) (w:World) (hG:GoodSv sv) (hn:sv.length<=1000) (hs:inR sv.length s0) (hR:Rd M sv B1 w) (h2:MBlk w B2 3 #[.int .i64 s0]) :
  Calls Try.prog 113 #[.slice none 0 0,.func (.func 114) #[] #[.pointer (some ⟨B2,0,none⟩),.pointer (some ⟨B1,0,none⟩)]] w fun e w'=>∃A c,e=.returned (.slice A (Z0 sv s0).length c)/\(Z0 sv s0).length<=c/\Kd.C (Kd.int .i64) w' A (Z0 sv s0).length (Z0 sv s0)/\Below w.heap.size w w':=by
 have HPL:=Zz.mk (path_len hG s0 hs)
 have HN:=Zz.mk hn
 obtain ⟨w1,hw1⟩:∃w1,w1=w.alloc (.cells #[.slice none 0 0] 22):=⟨_,rfl⟩
 have hb1:Below w.heap.size w w1:=by rw [hw1];exact Zb (Below.refl _ _) _
 have HB1:=Zz.mk hb1
 have HO1:=Zz.mk (show MBlk w1 w.heap.size 22 #[.slice none 0 0] by rw [hw1];exact Zo _ _ _)
 have HS1:=Zz.mk (show w1.heap.size=w.heap.size+1 by rw [hw1];simp)
 have HSEQ:=Zz.mk (path_seq M sv B1 B2 s0 w1 hG hn hs (hR.below hb1) ((hb1.block _ (Zn h2)).trans h2))
 have HOWN:=Zz.mk (show B1<w1.heap.size/\∀k,Tm.rd M sv.length k->k<w1.heap.size from by
  have:=hb1.size
  refine ⟨Nat.lt_of_lt_of_le (Zn hR.box) this,fun k hk=>Nat.lt_of_lt_of_le ?_ this⟩
  rcases hk with rfl|⟨h0,ad,e,rfl⟩
  ·exact Zn hR.cells
  ·obtain ⟨cs,fr,h1⟩:=hR.rowt h0 ad e
   exact (Array.getElem?_eq_some_iff.1 h1).1)
 have HLOW:=Zz.mk (show ∀k,k=B1∨Tm.rd M sv.length k->k<w.heap.size from fun k hk=>by
  rcases hk with rfl|rfl|⟨h0,ad,e,rfl⟩
  ·exact Zn hR.box
  ·exact Zn hR.cells
  ·obtain ⟨cs,fr,h1⟩:=hR.rowt h0 ad e
   exact (Array.getElem?_eq_some_iff.1 h1).1)
 clear hG hs hR h2 hb1 hn
 obtain ⟨pa,hpa⟩:∃pa,pa=Z0 sv s0:=⟨_,rfl⟩
 rw [<-hpa] at HPL HSEQ ⊢
 clear hpa
 refine (callsIn_wide (n:=6)).1 (callsIn_of_wp_marks Try.func113 rfl trivial (wpIn_wide.2 ?_) rfl)
 simp only [Try.ntmps113,List.size_toArray,List.length_cons,List.length_nil,Nat.reduceAdd,Nat.reduceSub,Array.replicate_succ,Array.replicate_zero,List.push_toArray,List.append_toArray,List.nil_append,List.cons_append]
 go_upto_region 1 with fail
 rw [<-hw1]
 clear hw1
 go_wp2_with fail
 refine (wpIn_wide (n:=6)).1 ?_
 refine range_g (F:=Fence.wide) (n:=6) rfl (by omega) (gf:=114) (lb:=#[.pointer (some ⟨B2,0,none⟩),.pointer (some ⟨B1,0,none⟩)]) rfl trivial (enters_of Try.func114 (by kernel_rfl) rfl)
  (w0:=w1) HSEQ.out (Below.refl _ _) (fun _=>rfl) (fun h k=>h.trans k) (fun W l o o' hl ho _ _=>kq_put HOWN.out.1 HOWN.out.2 W l o o' hl ho)
  (PInv w.heap.size w) (fun _ _ _=>False) (PInv.own _ _ w (Nat.le_refl _) (by rw [HS1.out];omega)) (fun _ _ _ _ _ h _ _=>h) ⟨⟨none,0,HO1.out,Kd.R_nil _ _ _ _ _⟩,HB1.out⟩
  (fun s=>{ tmps:=#[.slice none 0 0,.func (.func 114) #[] #[.pointer (some ⟨B2,0,none⟩),.pointer (some ⟨B1,0,none⟩)],.pointer (some ⟨w.heap.size,0,none⟩),undef,.slice none 0 0,.int .i64 s,.func (.func 114) #[] #[.pointer (some ⟨B2,0,none⟩),.pointer (some ⟨B1,0,none⟩)],.int .i64 s,undef,undef,undef,undef,undef],defers:=[] })
  ?assign ?body ?done ?stop
 case assign =>
  intro lo s W K hK
  gi_wp2
  exact hK
 case body =>
  rintro lo pre s W hI ⟨r,hr⟩ _
  have hlen:pre.length<pa.length:=by rw [hr];simp
  clear hr
  obtain ⟨A,c,hO,hOR⟩:=hI.out
  have HI:=Zz.mk hI
  have HO:=Zz.mk hO
  have HOR:=Zz.mk hOR
  have k2:W.cell? ⟨w.heap.size,0,none⟩=some (.slice A pre.length c):=(Zg hO 0).trans rfl
  have HOB:=Zz.mk (show ∀k,(Value.slice A pre.length c).ownBlock=some k->w.heap.size+1<=k from Kd.R_base hOR)
  have HWS:=Zz.mk (show w.heap.size+1<=W.heap.size from by have:=Zn hO;omega)
  have HLEN:=Zz.mk (show pre.length<1001 by have:=HPL.out;have:=HN.out;omega)
  clear hI hO hOR
  gi_wp2_with (gi_at_builtin;refine appendIn (Kd.int .i64) (w.heap.size+1) rfl (.tmp 8) (.tmp 10) 22 3 (.int .i64 0) 8 rfl Try.underlying22 infoInt rfl (by decide) (by omega) (.slice A pre.length c) pre s [.int .i64 s] (fun _=>True) (fun _=>False) rfl rfl rfl (fun _ h=>h.elim) (fun _ _=>trivial) HOR.out HWS.out (by have:=HLEN.out;omega) ?_;intro v1 w2 hR1 hg1;obtain ⟨A2,c2,e2⟩:=Kd.R_slice hR1;subst e2;have HR2:=Zz.mk hR1;have HG2:=Zz.mk hg1;have HO3:=Zz.mk (show MBlk w2 w.heap.size 22 #[.slice A pre.length c] from (hg1.block w.heap.size (Zn HO.out) (fun e=>by have:=HOB.out _ e.symm;omega)).trans HO.out);have k9:w2.cell? ⟨w.heap.size,0,none⟩=some (.slice A pre.length c):=(Zg HO3.out 0).trans rfl;have kf9:w2.frozen? ⟨w.heap.size,0,none⟩=false:=Zq HO3.out 0;clear hR1 hg1)
  have hK:=(keeps_append HOR.out HG2.out).trans (KeepsOthers.setCell w2 ⟨w.heap.size,0,none⟩ (.slice A2 (pre++[s]).length c2))
  have hb2:Below w.heap.size w w2:=HI.out.keep.grown HG2.out (Nat.le_trans (Nat.le_add_right _ _) HWS.out) (fun k e=>by have:=HOB.out k e;omega)
  have hh:PInv w.heap.size w (pre++[s]) (w2.setCell ⟨w.heap.size,0,none⟩ (.slice A2 (pre++[s]).length c2)) :=
   ⟨⟨A2,c2,mblk_set HO3.out 0 _,Kd.R_mono (Kd.R_step (Kd.R_bound HR2.out) (fun k hk _=>Below.heap_setCell w2 ⟨w.heap.size,0,none⟩ _ k (by have:=hk.2.1;show k≠w.heap.size;omega))) (fun _ _=>trivial)⟩,hb2.setCell (p:=⟨w.heap.size,0,none⟩) (Nat.le_refl _) _⟩
  have hq:Kq M sv.length B1 W (w2.setCell ⟨w.heap.size,0,none⟩ (.slice A2 (pre++[s]).length c2)):=by
   refine ⟨hK.size,fun k hk hkW=>?_⟩
   have hkw:k<w1.heap.size:=by
    rcases hk with rfl|hk
    ·exact HOWN.out.1
    ·exact HOWN.out.2 k hk
   have hkw':k<w.heap.size:=by
    have h1:=HLOW.out k hk
    exact h1
   exact (hh.keep.block k hkw').trans (HI.out.keep.block k hkw').symm
  simp only [List.length_append,List.length_cons,List.length_nil,Nat.zero_add] at hh hK hq
  exact ⟨hK.from _,hq,hh⟩
 case done =>
  rintro xs W he hI hDf
  subst he
  obtain ⟨A,c,hO,hOR⟩:=hI.out
  have k2:W.cell? ⟨w.heap.size,0,none⟩=some (.slice A xs.length c):=(Zg hO 0).trans rfl
  have HI:=Zz.mk hI
  have HOR:=Zz.mk hOR
  have HDF:=Zz.mk hDf
  clear hI hOR hO hDf
  go_wp2_with fail
  refine ⟨by simp,.inl ⟨_,_,rfl,run_takeDeferred HDF.out,?_⟩⟩
  exact ⟨_,results_tmp rfl _ _ _,A,c,rfl,(Kd.R_reads' HOR.out).2.1,C_put HDF.out rfl (Kd.R_reads' HOR.out).2.2,below_put HI.out.keep (by have:=HS1.out;omega)⟩
 case stop =>
  rintro c pre W _ h _
  exact h.elim
set_option maxRecDepth 100000 in
set_option maxHeartbeats 4000000 in
theorem collect_calls (M:Tm) (sv:List S71) (B1 B2:Nat) (s0:Int) (w:World) (hG:GoodSv sv) (hn:sv.length<=1000) (hs:inR sv.length s0) (hR:Rd M sv B1 w) (h2:MBlk w B2 3 #[.int .i64 s0]) :
  Calls Try.prog 84 #[.func (.func 114) #[] #[.pointer (some ⟨B2,0,none⟩),.pointer (some ⟨B1,0,none⟩)]] w fun e w'=>∃A c,e=.returned (.slice A (Z0 sv s0).length c)/\(Z0 sv s0).length<=c/\Kd.C (Kd.int .i64) w' A (Z0 sv s0).length (Z0 sv s0)/\Below w.heap.size w w':=by
 have HC:=Zz.mk (append_calls M sv B1 B2 s0 w hG hn hs hR h2)
 clear hG hn hs hR h2
 obtain ⟨pa,hpa⟩:∃pa,pa=Z0 sv s0:=⟨_,rfl⟩
 rw [<-hpa] at HC ⊢
 clear hpa
 go_enter Try.func84,Try.ntmps84
 go_wp2_with fail
 refine HC.out.mono ?_
 rintro e w1 ⟨A,c,rfl,h1,h2,hb⟩
 have H:=Zz.mk (And.intro h1 (And.intro h2 hb))
 clear h1 h2 hb HC
 go_wp2_with fail
 go_ret
 exact ⟨A,c,rfl,H.out⟩
section
variable {w:World} {M:Tm} {sv:List S71} {at_:List (Int × Int)} {al:Int->Rat} {ls:Int->List (Int × Hd)}
def pathT (sv:List S71) (s:Int):List Int:=if thereB sv.length s=true then Z0 sv s else []
set_option maxRecDepth 100000 in
set_option maxHeartbeats 4000000 in
theorem Path_calls (hT:Tre w M sv at_ al ls) (hG:GoodSv sv) (s:Int) :
  Calls Try.prog 43 #[.pointer (some ⟨M.t,0,none⟩),.int .i64 s] w fun e w'=>∃A c,e=.returned (.slice A (pathT sv s).length c)/\(pathT sv s).length<=c/\Kd.C (Kd.int .i64) w' A (pathT sv s).length (pathT sv s)/\Below w.heap.size w w':=by
 have HT:=Zz.mk hT
 have HG:=Zz.mk hG
 obtain ⟨pa,hpa⟩:∃pa,pa=pathT sv s:=⟨_,rfl⟩
 rw [<-hpa]
 have HP:=Zz.mk hpa
 clear hT hG hpa
 go_enter Try.func43,Try.ntmps43
 go_upto_region 1 with fail
 cases ht:thereB sv.length s with
 | true =>
  have HI:=Zz.mk (there_in.1 ht)
  have HE:=Zz.mk (show Z0 sv s=pa by rw [HP.out];unfold pathT;rw [ht,if_pos rfl])
  go_wp2_with (go_at_call 83;refine (there_calls HT.out s).mono ?_;rw [ht];rintro e w1 ⟨rfl,rfl⟩;clear ht)
  refine (path_calls M.t s _).mono ?_
  rintro e w2 ⟨rfl,hw2⟩
  have HW2:=Zz.mk (show Below w1.heap.size w1 w2/\MBlk w2 w1.heap.size 67 #[.pointer (some ⟨M.t,0,none⟩)]/\MBlk w2 (w1.heap.size+1) 3 #[.int .i64 s] by
   rw [hw2]
   refine ⟨Zb (Zb (Below.refl _ _) _) _,Zp (Zo _ _ _) _,?_⟩
   have:=Zo (w1.alloc (.cells #[.pointer (some ⟨M.t,0,none⟩)] 67)) 3 #[.int .i64 s]
   rwa [World.size_alloc] at this)
  clear hw2
  go_wp2_with fail
  refine (collect_calls M sv w1.heap.size (w1.heap.size+1) s _ HG.out HT.out.small HI.out (Rd.of (HT.out.below HW2.out.1) HW2.out.2.1) HW2.out.2.2).mono ?_
  rw [HE.out]
  rintro e w3 ⟨A,c,rfl,h1,h2,hb⟩
  have H:=Zz.mk (And.intro h1 (And.intro h2 (Zi HW2.out.1 hb)))
  clear h1 h2 hb
  go_wp2_with fail
  go_ret
  exact ⟨A,c,rfl,H.out⟩
 | false =>
  have HE:=Zz.mk (show pa = [] by rw [HP.out];unfold pathT;rw [ht,if_neg (by decide)])
  go_wp2_with (go_at_call 83;refine (there_calls HT.out s).mono ?_;rw [ht];rintro e w1 ⟨rfl,rfl⟩;clear ht)
  go_ret
  exact ⟨none,0,by rw [HE.out];rfl,by rw [HE.out];exact Nat.le_refl _,by rw [HE.out];exact Kd.C_nil _ _,Below.refl _ _⟩
end
end Go.Proofs.Ytfldklimlcnnnaa.XCollect
end

section
namespace Go.Proofs.Ytfldklimlcnnnaa.XRowP
open Go.RowKit PHq YtfldklimlcnnnaaW.PrintWords YtfldklimlcnnnaaW.PrintLast YtfldklimlcnnnaaW.PrintMore MWords
open XRV XLed XTree
def NoU (u:Value):Prop:=∀n,u ≠ .int .u32 n
structure VRow (W:World) (base:Nat) (e:TypeId) (v:Value) (xs:List Value):Prop where
 own:W.ownsRow base e 1 v xs.length xs
 nl:∀k cs,v.ownBlock=some k->W.heap[k]? = some (.cells cs e (0,0))->∀u∈cs.toList,NoU u
theorem VRow.nil (W:World) (base:Nat) (e:TypeId):VRow W base e (.slice none 0 0) []:=⟨World.ownsRow_nil W base e 1,fun k cs h=>by simp [Value.ownBlock] at h⟩
theorem VRow.shape {W:World} {base:Nat} {e:TypeId} {v:Value} {xs:List Value} (h:VRow W base e v xs):∃A c,v=.slice A xs.length c/\xs.length<=c:=by
 rcases h.own.2 with ⟨rfl,h0⟩|⟨g,cap,cur,rfl,_,_,h1,_⟩
 ·exact ⟨none,0,by rw [h0],by omega⟩
 ·exact ⟨_,_,rfl,h1⟩
theorem VRow.typed {W:World} {base:Nat} {e:TypeId} {v:Value} {xs:List Value} (h:VRow W base e v xs):∀k,v.ownBlock=some k->base<=k/\∃cs,W.heap[k]? = some (.cells cs e (0,0)):=by
 intro k hk
 rcases h.own.2 with ⟨rfl,h0⟩|⟨g,cap,cur,rfl,hb,hg,h1,_⟩
 ·simp [Value.ownBlock] at hk
 ·obtain rfl:g=k:=by simpa [Value.ownBlock] using hk
  exact ⟨hb,_,hg⟩
theorem VRow.noLimb {W:World} {base:Nat} {e:TypeId} {v:Value} {xs:List Value} (h:VRow W base e v xs) {k:Nat} (hk:v.ownBlock=some k):NoLimb W k:=by
 obtain ⟨_,cs,hc⟩:=h.typed k hk
 intro p hp n hcell
 unfold World.cell? at hcell
 rw [hp,hc] at hcell
 simp only at hcell
 split at hcell
 ·cases hcell
 ·have:=Array.mem_of_getElem? hcell
  exact h.nl k cs hk hc _ (by simpa using this) n rfl
theorem VRow.same {W W':World} {base:Nat} {e:TypeId} {v:Value} {xs:List Value} (h:VRow W base e v xs) (hs:∀k cs,v.ownBlock=some k->W.heap[k]? = some (.cells cs e (0,0))->W'.heap[k]? = W.heap[k]?):VRow W' base e v xs:=by
 refine ⟨⟨h.own.1,?_⟩,fun k cs hk hc u hu=>?_⟩
 ·rcases h.own.2 with h0|⟨g,cap,cur,rfl,hb,hg,r⟩
  ·exact .inl h0
  ·exact .inr ⟨g,cap,cur,rfl,hb,(hs g cur rfl hg).trans hg,r⟩
 ·obtain ⟨_,cs',hc'⟩:=h.typed k hk
  have:=(hs k cs' hk hc').trans hc'
  rw [hc] at this
  cases this
  exact h.nl k cs hk hc' u hu
theorem VRow.cell {W:World} {base:Nat} {e:TypeId} {v:Value} {xs:List Value} (h:VRow W base e v xs) {A:Option Addr} {n c:Nat} (hv:v=.slice A n c) (i:Nat) (hi:i<xs.length):∃ad,A=some ad/\W.cell? (ad.add i)=some xs[i]:=by
 have hl:=h.own.1
 rcases h.own.2 with ⟨e,h0⟩|⟨g,cap,cur,e,hb,hg,h1,h2,h3,h4⟩
 ·omega
 ·rw [hv] at e
  injection e with e1 e2 e3
  refine ⟨⟨g,0,none⟩,e1,?_⟩
  have hc:cur[i]? = some xs[i]:=by
   have h5:(cur.toList.take (xs.length*1))[i]? = some xs[i]:=by
    have:(cur.toList.take (xs.length*1))[i]? = xs[i]?:=by rw [h4]
    rw [this,List.getElem?_eq_getElem hi]
   rw [List.getElem?_take,if_pos (by omega)] at h5
   simpa using h5
  have e0:(⟨g,0,none⟩:Addr).add i=⟨g,i,none⟩:=by
   unfold Addr.add
   split
   ·rename_i h;simp [h]
   ·simp
  rw [e0]
  simp [World.cell?,hg,hc]
theorem mem_zero {z:Value} (hz:z.cells=#[z]) {n:Nat} {u:Value} (h:u∈(Builtin.zeroCells z.cells n).toList):u=z:=by
 unfold Builtin.zeroCells at h
 rw [hz] at h
 simp at h
 obtain ⟨i,_,rfl⟩:=h
 have:i % 1=0:=Nat.mod_one i
 simp [this]
theorem run_append_v {P:Program} (w:World) (base:Nat) (t ty e:TypeId) (i:TypeInfo) (z:Value) (bytes:Nat) (ht:P.underlying t=some (.slice e)) (hi:P.info? e=some i) (hz:i.zero=some z)
  (hsize:i.size=1) (hby:i.bytes=bytes) (hz1:z.cells=#[z]) (hzn:NoU z) (v:Value) (xs:List Value) (h:VRow w base e v xs) (a:Addr) (c:Nat) (x:Value) (hx:w.cell? a=some x) (hx1:x.oneCell'=true) (hxn:NoU x)
  (hbytes:(xs.length+1)*bytes<=140737488355328) (hlen:xs.length+1<=1000000) (hbase:base<=w.heap.size) :
  ∃v' w',(Builtin.append_ #[t,t] ty #[v,.slice (some a) 1 c]).run P w=.ok v' w'/\VRow w' base e v' (xs++[x])/\w.grownBy w' v.ownBlock:=by
 have hnews:∀j u,[x][j]? = some u->w.cell? (a.add j)=some u:=by
  intro j u hj
  match j,hj with
  | 0,hj =>
   have:u=x:=(Option.some.inj hj).symm
   subst this
   have e0:a.add 0=a:=by unfold Addr.add;simp
   rw [e0];exact hx
  | j+1,hj=>simp at hj
 have h1:∀u ∈ [x],u.oneCell'=true:=fun u hu=>by rw [List.mem_singleton.1 hu];exact hx1
 have hmx:xs.length+1<=maxLen:=by simp only [maxLen];omega
 obtain ⟨v',w',hr,h2,h3,h4⟩:=run_append_own (P:=P) w base t ty e i z 1 bytes ht hi hz hsize hby (by rw [hz1];rfl) (by omega) v xs.length xs h.own a 1 c [x] rfl hnews h1 hmx hbytes hbase
 have h2':w'.ownsRow base e 1 v' (xs++[x]).length (xs++[x]):=by rw [List.length_append];exact h2
 refine ⟨v',w',hr,⟨h2',?_⟩,h3⟩
 rcases h.own.2 with ⟨rfl,h0⟩|⟨g,cap,cur,rfl,hbg,hg,hnc,hcm,hcs,htake⟩
 ·have hr2:=run_append_nil (P:=P) w t ty e i z ht hi hz a 1 c [x] (by rw [hsize];rfl) hnews (by omega) (by omega) (by rw [hby];rw [h0] at hbytes;omega)
  rw [hr] at hr2
  injection hr2 with e1 e2
  subst e1;subst e2
  intro k cs hk hc u hu
  obtain rfl:w.heap.size=k:=by simpa [Value.ownBlock] using hk
  have hn:=heap_alloc_new w.drew (.cells ([x].toArray++Builtin.zeroCells z.cells (grownCap w 1 0 e-1)) e)
  have:cs = [x].toArray++Builtin.zeroCells z.cells (grownCap w 1 0 e-1):=by
   have:=hn.symm.trans hc
   injection this with this
   injection this with this
   exact this.symm
  rw [this,Array.toList_append,List.mem_append] at hu
  rcases hu with hu|hu
  ·have:u=x:=by simpa using hu
   rw [this];exact hxn
  ·rw [mem_zero hz1 hu];exact hzn
 ·by_cases hroom:xs.length+1<=cap
  ·have hr2:=run_append_room (P:=P) w t ty e i ht hi g xs.length cap cur hg a 1 c [x] (by rw [hsize];rfl) hnews h1 hroom (by rw [hsize,hcs];simp;omega)
   rw [hr] at hr2
   injection hr2 with e1 e2
   subst e1;subst e2
   intro k cs hk hc u hu
   obtain rfl:g=k:=by simpa [Value.ownBlock] using hk
   rw [setRow_heap w g cur _ e _ hg] at hc
   have hc':=Option.some.inj hc
   injection hc' with hc'
   rw [<-hc'] at hu
   simp only [List.mem_append] at hu
   rcases hu with (hu|hu)|hu
   ·exact h.nl g cur rfl hg u (List.mem_of_mem_take hu)
   ·rw [List.mem_singleton.1 hu];exact hxn
   ·exact h.nl g cur rfl hg u (List.mem_of_mem_drop hu)
  ·have holds:∀j u,xs[j]? = some u->w.cell? ((⟨g,0,none⟩:Addr).add j)=some u:=h.own.cells (g:=g) rfl
   have hr2:=run_append_grow (P:=P) w t ty e i z ht hi hz ⟨g,0,none⟩ xs.length cap xs (by rw [hsize];omega) holds a 1 c [x] (by rw [hsize];rfl) hnews (by omega) (by omega) (by rw [hby];exact growslice_fits (by omega) hbytes)
   rw [hr] at hr2
   injection hr2 with e1 e2
   subst e1;subst e2
   intro k cs hk hc u hu
   obtain rfl:w.heap.size=k:=by simpa [Value.ownBlock] using hk
   have hn:=heap_alloc_new w.drew (.cells (xs.toArray++[x].toArray++Builtin.zeroCells z.cells (grownCap w (xs.length+1) cap e-(xs.length+1))) e)
   have:cs=xs.toArray++[x].toArray++Builtin.zeroCells z.cells (grownCap w (xs.length+1) cap e-(xs.length+1)):=by
    have:=hn.symm.trans hc
    injection this with this
    injection this with this
    exact this.symm
   rw [this,Array.toList_append,Array.toList_append,List.mem_append,List.mem_append] at hu
   rcases hu with (hu|hu)|hu
   ·have hm:u∈cur.toList:=by
     have h5:u∈xs:=by simpa using hu
     rw [<-htake] at h5
     exact List.mem_of_mem_take h5
    exact h.nl g cur rfl hg u hm
   ·have:u=x:=by simpa using hu
    rw [this];exact hxn
   ·rw [mem_zero hz1 hu];exact hzn
section
variable {F:Fence} {n:Nat} {P:Program} {ops:Array Oper} {rest:List Oper} {o:Oper} {a:Act} {Q:Exit->Act->World->Prop}
theorem appendV {W:World} (base:Nat) (hgd:o.guard=none) (s x:Operand) (t e:TypeId) (z:Value) (bytes:Nat)
  (ho:o.op=.call { callee:=.builtin .append,args:=#[s,x],argTypes:=#[t,t] }) (ht:P.underlying t=some (.slice e))
  (hinfo:(P.info? e).map (fun i=>(i.zero,i.size,i.bytes))=some (some z,1,bytes)) (hz:z.cells=#[z]) (hzn:NoU z)
  (v:Value) (xs:List Value) (p:Value) (hs:a.eval s=v) (hx:a.eval x=.slice (some ⟨W.heap.size,0,none⟩) 1 1) (hp1:p.oneCell'=true) (hpn:NoU p)
  (HO:VRow W base e v xs) (hbase:base<=W.heap.size) (hl:(xs.length+1)*bytes<=140737488355328) (hlen:xs.length+1<=1000000)
  (h:∀v1 w1,VRow w1 base e v1 (xs++[p])->W.grownBy w1 v.ownBlock->wpListIn F n P ops Q rest (a.put o.dst v1) w1) :
  wpListIn F n P ops Q (o::rest) a (W.alloc (.cells #[p] e)):=by
 obtain ⟨i,hi,hi'⟩:=Option.map_eq_some_iff.1 hinfo
 obtain ⟨i1,i2⟩:=Prod.mk.inj hi'
 obtain ⟨i2,i3⟩:=Prod.mk.inj i2
 have hV:VRow (W.alloc (.cells #[p] e)) base e v xs:=HO.same (fun k cs _ hc=>Below.heap_alloc W _ k (Array.getElem?_eq_some_iff.1 hc).1)
 have hc:(W.alloc (.cells #[p] e)).cell? ⟨W.heap.size,0,none⟩=some p:=by
  exact (Zg (Zo W e #[p]) 0).trans rfl
 obtain ⟨v1,w1,hr,h1,h2⟩:=run_append_v (P:=P) (W.alloc (.cells #[p] e)) base t o.type e i z bytes ht hi i1 i2 i3 hz hzn v xs hV ⟨W.heap.size,0,none⟩ 1 p hc hp1 hpn hl hlen (by simp;omega)
 refine wpListIn_plain hgd fun K hK=>?_
 unfold Oper.wpIn
 refine ⟨by simp [Oper.about,ho,resolve,Target.leads,Sem.run_pure],?_⟩
 rw [Oper.semAt_plain F _ _ (by rw [ho];intro c hc';cases hc')]
 simp [execOp,ho,resolve,invoke,builtin,hs,hx,hr,Result.andThen]
 exact hK _ _ (h v1 w1 h1 (World.grownBy.trans (World.grownBy_alloc W (.cells #[p] e) v.ownBlock) h2))
end
section
variable {P:Program} {ops:Array Oper} {o:Oper} {a:Act} {Kc:Act->World->Prop} {Q:Exit->Act->World->Prop}
theorem V_append_step {W:World} (base:Nat) (hw:Region.wanted o (yielded ops a.tmps)=true) (s x:Operand) (t e:TypeId) (z:Value) (bytes:Nat)
  (ho:o.op=.call { callee:=.builtin .append,args:=#[s,x],argTypes:=#[t,t] }) (ht:P.underlying t=some (.slice e))
  (hinfo:(P.info? e).map (fun i=>(i.zero,i.size,i.bytes))=some (some z,1,bytes)) (hz:z.cells=#[z]) (hzn:NoU z)
  (v:Value) (xs:List Value) (p:Value) (hs:a.eval s=v) (hx:a.eval x=.slice (some ⟨W.heap.size,0,none⟩) 1 1) (hp1:p.oneCell'=true) (hpn:NoU p)
  (HO:VRow W base e v xs) (hbase:base<=W.heap.size) (hl:(xs.length+1)*bytes<=140737488355328) (hlen:xs.length+1<=1000000)
  (h:∀v1 w1,VRow w1 base e v1 (xs++[p])->W.grownBy w1 v.ownBlock->Kc (a.put o.dst v1) w1) :
  if Region.wanted o (yielded ops a.tmps)=true then Oper.wp P o a (W.alloc (.cells #[p] e)) Kc Q else Kc (a.put o.dst undef) (W.alloc (.cells #[p] e)):=by
 rw [if_pos hw]
 obtain ⟨i,hi,hi'⟩:=Option.map_eq_some_iff.1 hinfo
 obtain ⟨i1,i2⟩:=Prod.mk.inj hi'
 obtain ⟨i2,i3⟩:=Prod.mk.inj i2
 have hV:VRow (W.alloc (.cells #[p] e)) base e v xs:=HO.same (fun k cs _ hc=>Below.heap_alloc W _ k (Array.getElem?_eq_some_iff.1 hc).1)
 have hc:(W.alloc (.cells #[p] e)).cell? ⟨W.heap.size,0,none⟩=some p:=(Zg (Zo W e #[p]) 0).trans rfl
 obtain ⟨v1,w1,hr,h1,h2⟩:=run_append_v (P:=P) (W.alloc (.cells #[p] e)) base t o.type e i z bytes ht hi i1 i2 i3 hz hzn v xs hV ⟨W.heap.size,0,none⟩ 1 p hc hp1 hpn hl hlen (by simp;omega)
 unfold Oper.wp execOp
 simp only [ho,resolve,invoke,builtin,Sem.run_bind,Sem.run_pure,Result.andThen_ok,List.map_toArray,List.map_cons,List.map_nil,hs,hx,hr]
 exact h v1 w1 h1 (World.grownBy.trans (World.grownBy_alloc W (.cells #[p] e) v.ownBlock) h2)
end
end Go.Proofs.Ytfldklimlcnnnaa.XRowP
end

section
namespace Go.Proofs.Ytfldklimlcnnnaa.XAllW
open Go.RowKit PHq YtfldklimlcnnnaaW.PrintWords YtfldklimlcnnnaaW.PrintLast YtfldklimlcnnnaaW.PrintMore MWords
open MNat XRV XHold XLed XTree QTree XPath XOf XCollect XRowP
def ptrs (g:Int->Nat) (l:List Int):List Value:=l.map fun s=>.pointer (some ⟨g s,0,none⟩)
theorem ptrs_len (g:Int->Nat) (l:List Int):(ptrs g l).length=l.length:=by simp [ptrs]
def stp (A:Rat->List (Int × Hd)->List (Int × Hd)) (al:Int->Rat) (ls:Int->List (Int × Hd)) (pre:List Int):Int->List (Int × Hd):=fun x=>if x∈pre then A (al x) (ls x) else ls x
theorem stp_nil (A:Rat->List (Int × Hd)->List (Int × Hd)) (al:Int->Rat) (ls:Int->List (Int × Hd)):stp A al ls []=ls:=by
 funext x;unfold stp;simp
theorem stp_other {A:Rat->List (Int × Hd)->List (Int × Hd)} {al:Int->Rat} {ls:Int->List (Int × Hd)} {pre:List Int} {x:Int} (h:x ∉ pre):stp A al ls pre x=ls x:=if_neg h
theorem stp_snoc {A:Rat->List (Int × Hd)->List (Int × Hd)} {al:Int->Rat} {ls:Int->List (Int × Hd)} {pre:List Int} {x:Int} (h:x ∉ pre):upd (stp A al ls pre) x (A (al x) (ls x))=stp A al ls (pre++[x]):=by
 funext y
 unfold upd stp
 by_cases e:y=x
 ·subst e
  rw [if_pos rfl,if_pos (by simp)]
 ·rw [if_neg e]
  by_cases hy:y∈pre
  ·rw [if_pos hy,if_pos (by simp [hy])]
  ·rw [if_neg hy,if_neg (by simp [hy,e])]
def OkB (bx:List (Nat × TypeId × Array Value)) (W:World):Prop:=∀x∈bx,MBlk W x.1 x.2.1 x.2.2
def LedCall (f:Nat) (args:Value->Array Value) (bx:List (Nat × TypeId × Array Value)) (E:Rat->List (Int × Hd)->Int) (A:Rat->List (Int × Hd)->List (Int × Hd)) (Pre:Rat->List (Int × Hd)->Prop):Prop :=
 ∀ (g b:Nat) (all:Rat) (l:List (Int × Hd)) (W:World),OkB bx W->Led W g b all (Zy l) l->Pre all l →
  Calls Try.prog f (args (.pointer (some ⟨g,0,none⟩))) W fun e w'=>e=.returned (.int .i64 (E all l))/\Led w' g b all (Zy (A all l)) (A all l)/\Kp g b W w'
section
variable {w W W':World} {M:Tm} {sv:List S71} {at_:List (Int × Int)} {al:Int->Rat} {ls ls2:Int->List (Int × Hd)} {bx:List (Nat × TypeId × Array Value)} {ask:Value} {e:Int} {pre:List Int}
structure AInv (w:World) (M:Tm) (sv:List S71) (at_:List (Int × Int)) (al:Int->Rat) (bx:List (Nat × TypeId × Array Value)) (ask:Value) (ls2:Int->List (Int × Hd)) (e:Int) (pre:List Int) (W:World):Prop where
 tre:Tre W M sv at_ al ls2
 tb:MBlk W w.heap.size 67 #[.pointer (some ⟨M.t,0,none⟩)]
 kb:MBlk W (w.heap.size+1) 126 #[ask]
 row:∃A c,MBlk W (w.heap.size+2) 117 #[.slice A pre.length c]/\VRow W (w.heap.size+6) 24 (.slice A pre.length c) (ptrs M.g pre)
 bad:MBlk W (w.heap.size+3) 31 #[.int .i64 e]
 pb:MBlk W (w.heap.size+4) 67 #[.pointer (some ⟨M.t,0,none⟩)]
 ok:OkB bx W
 kt:Kt M sv.length w W
theorem mblk_stay (h:Tre W M sv at_ al ls) (hk:Kt M sv.length W W') {k:Nat} {cs:Array Value} {T:TypeId} (hb:MBlk W k T cs) (hT:T≠97):MBlk W' k T cs:=h.stay hk hb hT
theorem row_stay (h:Tre W M sv at_ al ls) (hk:Kt M sv.length W W') {base:Nat} {v:Value} {xs:List Value} (hr:VRow W base 24 v xs):VRow W' base 24 v xs :=
 hr.same fun k cs _ hc=>(h.stay hk hc (by decide)).trans hc.symm
theorem row_box {base:Nat} {v u:Value} {xs:List Value} {k i:Nat} {T:TypeId} {cs:Array Value} (hb:MBlk W k T cs) (hT:T≠24) (hr:VRow W base 24 v xs):VRow (W.setCell ⟨k,i,none⟩ u) base 24 v xs :=
 hr.same fun j cs _ hc=>Below.heap_setCell _ ⟨k,i,none⟩ _ j (fun e=>by
  have e':j=k:=e
  subst e'
  rw [show W.heap[j]? = _ from hb] at hc
  cases hc
  exact hT rfl)
theorem noLimb_one {X:World} {k:Nat} {t:TypeId} {v:Value} (hG:MBlk X k t #[v]) (hv:∀n,v ≠ .int .u32 n):NoLimb X k:=by
 intro p hp n hc
 unfold World.cell? at hc
 rw [hp,show X.heap[k]? = _ from hG] at hc
 simp only at hc
 split at hc
 ·cases hc
 ·match ho:p.off,hc with
  | 0,hc=>exact hv n (by simpa using hc)
  | k+1,hc=>simp at hc
theorem AInv.of_kt (h:AInv w M sv at_ al bx ask ls2 e pre W) (hbx:∀x∈bx,x.2.1≠97) (hk:Kt M sv.length W W') {ls3:Int->List (Int × Hd)} (ht:Tre W' M sv at_ al ls3):AInv w M sv at_ al bx ask ls3 e pre W' where
 tre:=ht
 tb:=mblk_stay h.tre hk h.tb (by decide)
 kb:=mblk_stay h.tre hk h.kb (by decide)
 row:=by
  obtain ⟨A,c,h1,h2⟩:=h.row
  exact ⟨A,c,mblk_stay h.tre hk h1 (by decide),row_stay h.tre hk h2⟩
 bad:=mblk_stay h.tre hk h.bad (by decide)
 pb:=mblk_stay h.tre hk h.pb (by decide)
 ok:=fun x hx=>mblk_stay h.tre hk (h.ok x hx) (hbx x hx)
 kt:=h.kt.trans hk
theorem AInv.below (h:AInv w M sv at_ al bx ask ls2 e pre W) (hbx:∀x∈bx,x.2.1≠97) (hb:Below W.heap.size W W'):AInv w M sv at_ al bx ask ls2 e pre W':=h.of_kt hbx (Kt.of hb) (h.tre.below hb)
theorem AInv.kp (h:AInv w M sv at_ al bx ask ls2 e pre W) (hbx:∀x∈bx,x.2.1≠97) {s:Int} {l':List (Int × Hd)} (hs:inR sv.length s) (hk:Kp (M.g s) (M.b s) W W') (hl:Led W' (M.g s) (M.b s) (al s) (Zy l') l'):AInv w M sv at_ al bx ask (upd ls2 s l') e pre W' :=
 h.of_kt hbx (Kt.kp hs hk) (h.tre.kp hs hk hl)
theorem AInv.far (h:AInv w M sv at_ al bx ask ls2 e pre W) (h0:Tre w M sv at_ al ls) {k:Nat} (hk:w.heap.size<=k):¬ M.own sv.length k/\¬ M.wr sv.length k :=
 ⟨fun c=>by have:=h0.own_lt c;omega,fun c=>by have:=h0.wr_lt c;omega⟩
theorem kt_box {n:Nat} {k i:Nat} {v:Value} (h:Kt M n w W) (hk:w.heap.size<=k):Kt M n w (W.setCell ⟨k,i,none⟩ v) :=
 ⟨by simp [World.setCell];exact h.os,by simp [World.setCell];exact h.tape,by simp [World.setCell];exact h.output,by have:=h.size;simp [World.setCell];exact this,fun j hj hn=>(Below.heap_setCell _ ⟨k,i,none⟩ _ j (by show j≠k;omega)).trans (h.same j hj hn)⟩
theorem AInv.bad_ (h:AInv w M sv at_ al bx ask ls2 e pre W) (h0:Tre w M sv at_ al ls) (hbx:∀x∈bx,x.1<w.heap.size) (e':Int):AInv w M sv at_ al bx ask ls2 e' pre (W.setCell ⟨w.heap.size+3,0,none⟩ (.int .i64 e')) where
 tre:=h.tre.box (h.far h0 (by omega)).1 (h.far h0 (by omega)).2 (noLimb_one h.bad (fun n=>by simp))
 tb:=mblk_far h.tb (p:=⟨w.heap.size+3,0,none⟩) (by show w.heap.size≠w.heap.size+3;omega) _
 kb:=mblk_far h.kb (p:=⟨w.heap.size+3,0,none⟩) (by show w.heap.size+1≠w.heap.size+3;omega) _
 row:=by
  obtain ⟨A,c,h1,h2⟩:=h.row
  exact ⟨A,c,mblk_far h1 (p:=⟨w.heap.size+3,0,none⟩) (by show w.heap.size+2≠w.heap.size+3;omega) _,row_box h.bad (by decide) h2⟩
 bad:=mblk_set h.bad 0 _
 pb:=mblk_far h.pb (p:=⟨w.heap.size+3,0,none⟩) (by show w.heap.size+4≠w.heap.size+3;omega) _
 ok:=fun x hx=>mblk_far (h.ok x hx) (p:=⟨w.heap.size+3,0,none⟩) (by have:=hbx x hx;show x.1≠w.heap.size+3;omega) _
 kt:=kt_box h.kt (by omega)
theorem AInv.own (h0:Tre w M sv at_ al ls) (hbx:∀x∈bx,x.2.1≠97) {B:Nat} (hB:w.heap.size<=B) {X Y:World} {row:Option Nat} (h:AInv w M sv at_ al bx ask ls2 e pre X) (hg:X.grownBy Y row) (hr:∀r,row=some r->B<=r/\∃o:Obj,X.heap[r]? = some o/\o.isCells=false):AInv w M sv at_ al bx ask ls2 e pre Y:=by
 have hr':∀r,row=some r->∃o:Obj,X.heap[r]? = some o/\o.isCells=false:=fun r e=>(hr r e).2
 refine ⟨h.tre.near (fun k hk hc=>hg.block k hk (fun e=>?_)),mblk_walk h.tb hg hr',mblk_walk h.kb hg hr',?_,mblk_walk h.bad hg hr',mblk_walk h.pb hg hr',fun x hx=>mblk_walk (h.ok x hx) hg hr',?_⟩
 ·obtain ⟨h1,o,ho,hn⟩:=hr k e.symm
  rcases hc with c|c|c
  ·have:=h0.own_lt c;omega
  ·have:=h0.wr_lt c;omega
  ·refine c fun p hp n hc=>?_
   unfold World.cell? at hc
   rw [hp,ho] at hc
   cases o<;>simp_all [Obj.isCells]
 ·obtain ⟨A,c,h1,h2⟩:=h.row
  exact ⟨A,c,mblk_walk h1 hg hr',h2.same fun k cs _ hc=>hg.block k (Array.getElem?_eq_some_iff.1 hc).1 (fun e=>by
   obtain ⟨o,ho,hn⟩:=hr' k e.symm
   rw [hc] at ho
   cases ho
   cases hn)⟩
 ·exact ⟨hg.os.trans h.kt.os,hg.tape.trans h.kt.tape,hg.output.trans h.kt.output,Nat.le_trans h.kt.size hg.size,fun k hk hn=>(hg.block k (Nat.lt_of_lt_of_le hk h.kt.size) (fun e=>by have:=(hr k e.symm).1;omega)).trans (h.kt.same k hk hn)⟩
theorem AInv.app (h:AInv w M sv at_ al bx ask ls2 e pre W) (h0:Tre w M sv at_ al ls) (hbx:∀x∈bx,x.1<w.heap.size) {A A2:Option Addr} {c c2:Nat} {w2:World} {s:Int} (hm:MBlk W (w.heap.size+2) 117 #[.slice A pre.length c]) (hv:VRow W (w.heap.size+6) 24 (.slice A pre.length c) (ptrs M.g pre))
  (hr:VRow w2 (w.heap.size+6) 24 (.slice A2 (pre++[s]).length c2) (ptrs M.g (pre++[s]))) (hg:W.grownBy w2 (Value.slice A pre.length c).ownBlock) :
  AInv w M sv at_ al bx ask ls2 e (pre++[s]) (w2.setCell ⟨w.heap.size+2,0,none⟩ (.slice A2 (pre++[s]).length c2)):=by
 have hno:∀k,(Value.slice A pre.length c).ownBlock=some k->w.heap.size+6<=k:=fun k hk=>(hv.typed k hk).1
 have hb:∀ {k:Nat} {cs:Array Value} {T:TypeId},k<w.heap.size+6->MBlk W k T cs->MBlk w2 k T cs:=fun hk hm=>(hg.block _ (Zn hm) (fun e=>by have:=hno _ e.symm;omega)).trans hm
 have hm2:=hb (by omega) hm
 have ht:Tre w2 M sv at_ al ls2:=h.tre.near fun k hk hc=>hg.block k hk (fun e=>by
  have h1:=hno k e.symm
  rcases hc with c|c|c
  ·have:=h0.own_lt c;omega
  ·have:=h0.wr_lt c;omega
  ·exact c (hv.noLimb e.symm))
 have hne:∀k,k≠w.heap.size+2->(w2.setCell ⟨w.heap.size+2,0,none⟩ (.slice A2 (pre++[s]).length c2)).heap[k]? = w2.heap[k]?:=fun k hk=>Below.heap_setCell _ ⟨w.heap.size+2,0,none⟩ _ k hk
 refine ⟨ht.near (fun k _ hc=>hne k (fun e=>?_)),(hne _ (by omega)).trans (hb (by omega) h.tb),(hne _ (by omega)).trans (hb (by omega) h.kb),⟨A2,c2,mblk_set hm2 0 _,row_box hm2 (by decide) hr⟩,(hne _ (by omega)).trans (hb (by omega) h.bad),(hne _ (by omega)).trans (hb (by omega) h.pb),fun x hx=>(hne _ (by have:=hbx x hx;omega)).trans (hb (by have:=hbx x hx;omega) (h.ok x hx)),?_⟩
 ·rcases hc with c|c|c
  ·have:=h0.own_lt c;omega
  ·have:=h0.wr_lt c;omega
  ·rw [e] at c
   exact c (noLimb_one hm2 (fun n=>by simp))
 ·refine kt_box ⟨hg.os.trans h.kt.os,hg.tape.trans h.kt.tape,hg.output.trans h.kt.output,Nat.le_trans h.kt.size hg.size,fun k hk hn=>(hg.block k (Nat.lt_of_lt_of_le hk h.kt.size) (fun e=>by have:=hno k e.symm;omega)).trans (h.kt.same k hk hn)⟩ (by omega)
theorem ainv_kq (h0:Tre w M sv at_ al ls) {X Y:World} {l1 l2:Int->List (Int × Hd)} {e1 e2:Int} {p1 p2:List Int} (hX:AInv w M sv at_ al bx ask l1 e1 p1 X) (hY:AInv w M sv at_ al bx ask l2 e2 p2 Y) (hs:X.heap.size<=Y.heap.size):Kq M sv.length (w.heap.size+4) X Y :=
 ⟨hs,fun k hk hlt=>by
  rcases hk with rfl|hk
  ·exact (show Y.heap[w.heap.size+4]? = _ from hY.pb).trans (show X.heap[w.heap.size+4]? = _ from hX.pb).symm
  ·have ho:M.own sv.length k:=by
    rcases hk with c|c
    ·exact .inl c
    ·exact .inr (.inl c)
   have h1:=h0.own_lt ho
   obtain ⟨cs,T,fr,hc,hT⟩:=h0.own_cells ho
   have h2:=h0.not_wr hc hT
   exact (hY.kt.same k h1 h2).trans (hX.kt.same k h1 h2).symm⟩
theorem kf_below {D:Nat} {X Y:World} (h:Below X.heap.size X Y):KeepsFrom D X Y:=⟨h.size,fun k o _ hk _=>(h.block k (Array.getElem?_eq_some_iff.1 hk).1).trans hk⟩
theorem kf_kp (h0:Tre w M sv at_ al ls) {D:Nat} (hD:w.heap.size<=D) {X Y:World} {s:Int} (hs:inR sv.length s) (h:Kp (M.g s) (M.b s) X Y):KeepsFrom D X Y :=
 ⟨h.size,fun k o hk hb _=>(h.same k (Array.getElem?_eq_some_iff.1 hb).1 (fun e=>by have:=h0.wr_lt (k:=M.g s) (.inr ⟨s,hs,.inl rfl⟩);omega) (fun e=>by have:=h0.wr_lt (k:=M.b s) (.inr ⟨s,hs,.inr rfl⟩);omega)).trans hb⟩
theorem kf_set {D:Nat} (X:World) (a:Addr) (v:Value):KeepsFrom D X (X.setCell a v):=(KeepsOthers.setCell X a v).from D
theorem kf_row {D:Nat} {X Y:World} {base:Nat} {v:Value} {xs:List Value} (hv:VRow X base 24 v xs) (hg:X.grownBy Y v.ownBlock):KeepsFrom D X Y :=
 (KeepsOthers.of_grownBy hg fun k o e hk=>by
  obtain ⟨_,cs,hc⟩:=hv.typed k e
  rw [hc] at hk
  obtain rfl:=Option.some.inj hk
  rfl).from D
theorem tre_put (h:Tre W M sv at_ al ls) {D:Nat} {o':Obj} {d:Option (List Deferred)} (hD:W.heap[D]? = some (.deferred d)) (ho:¬ M.own sv.length D) (hw:¬ M.wr sv.length D):Tre (W.putObj D o') M sv at_ al ls :=
 h.near fun k _ hc=>World.putObj_heap_other (fun e=>by
  subst e
  rcases hc with c|c|c
  ·exact ho c
  ·exact hw c
  ·exact c (noLimb_def hD))
theorem kt_put {n D:Nat} {o':Obj} (h:Kt M n w W) (hD:w.heap.size<=D):Kt M n w (W.putObj D o') :=
 ⟨h.os,h.tape,h.output,by have:=h.size;simp [World.putObj];exact this,fun k hk hn=>(World.putObj_heap_other (by omega)).trans (h.same k hk hn)⟩
def und (A U:Rat->List (Int × Hd)->List (Int × Hd)) (al:Int->Rat) (ls:Int->List (Int × Hd)) (pre:List Int) (i:Nat):Int->List (Int × Hd):=fun y=>if y∈pre.take i then U (al y) (A (al y) (ls y)) else stp A al ls pre y
theorem und_zero (A U:Rat->List (Int × Hd)->List (Int × Hd)) (al:Int->Rat) (ls:Int->List (Int × Hd)) (pre:List Int):und A U al ls pre 0=stp A al ls pre:=by
 funext y;unfold und;simp
theorem und_all (A U:Rat->List (Int × Hd)->List (Int × Hd)) (al:Int->Rat) (ls:Int->List (Int × Hd)) (pre:List Int):und A U al ls pre pre.length=stp (fun a l=>U a (A a l)) al ls pre:=by
 funext y;unfold und stp
 rw [List.take_length]
 split<;>rfl
theorem und_at {A U:Rat->List (Int × Hd)->List (Int × Hd)} {al:Int->Rat} {ls:Int->List (Int × Hd)} {pre:List Int} (hn:pre.Nodup) {i:Nat} (hi:i<pre.length):und A U al ls pre i pre[i]=A (al pre[i]) (ls pre[i]):=by
 have h1:pre[i] ∉ pre.take i:=fun h=>by
  have e:=List.take_append_drop i pre
  rw [List.drop_eq_getElem_cons hi] at e
  rw [<-e,List.nodup_append] at hn
  exact hn.2.2 _ h _ List.mem_cons_self rfl
 unfold und stp
 rw [if_neg h1,if_pos (List.getElem_mem hi)]
theorem und_step {A U:Rat->List (Int × Hd)->List (Int × Hd)} {al:Int->Rat} {ls:Int->List (Int × Hd)} {pre:List Int} {i:Nat} (hi:i<pre.length):upd (und A U al ls pre i) pre[i] (U (al pre[i]) (A (al pre[i]) (ls pre[i])))=und A U al ls pre (i+1):=by
 funext y
 unfold upd und
 have ht:∀z,z∈pre.take (i+1)↔z∈pre.take i∨z=pre[i]:=fun z=>by
  have:pre.take (i+1)=pre.take i++[pre[i]]:=by rw [List.take_add_one,List.getElem?_eq_getElem hi];rfl
  rw [this,List.mem_append,List.mem_singleton]
 by_cases e:y=pre[i]
 ·rw [if_pos e,if_pos ((ht y).2 (.inr e)),e]
 ·rw [if_neg e]
  by_cases h:y∈pre.take i
  ·rw [if_pos h,if_pos ((ht y).2 (.inl h))]
  ·rw [if_neg h,if_neg (fun c=>((ht y).1 c).elim h e)]
theorem kp_def {X Y:World} {g b D:Nat} {o:Obj} (h:Kp g b X Y) (hD:X.heap[D]? = some o) (h1:D≠g) (h2:D≠b):Y.heap[D]? = some o:=(h.same D (Array.getElem?_eq_some_iff.1 hD).1 h1 h2).trans hD
end
end Go.Proofs.Ytfldklimlcnnnaa.XAllW
end

section
namespace Go.Proofs.Ytfldklimlcnnnaa.XFits
open Go.RowKit Go.Shelf PHq YtfldklimlcnnnaaW.PrintWords YtfldklimlcnnnaaW.PrintLast YtfldklimlcnnnaaW.PrintMore MWords
open MNat QNat QText QEv QRatio XRV XHold XWts XLed XPuts
theorem sz_sub (i:Nat) (p q:Rat) (hp:Sz i p) (hq:Sz i q) (h:q<=p):Sz (i+i) (p-q):=by
 have e1:=self_mk p hp.1
 have e2:=self_mk q hq.1
 have hd1:=Rat.den_pos p
 have hd2:=Rat.den_pos q
 have hc:q.num.natAbs*p.den<=p.num.natAbs*q.den:=by
  rcases Nat.lt_or_ge (p.num.natAbs*q.den) (q.num.natAbs*p.den) with h1|h1
  ·exact absurd ((lt_cross p q hp.1 hq.1).2 h1) (fun h2=>(Rat.lt_iff_le_and_not_ge.1 h2).2 h)
  ·exact h1
 have h2:=mk_sub p.num.natAbs p.den q.num.natAbs q.den hd1 hd2 hc
 rw [e1,e2] at h2
 rw [h2]
 exact mk_sz (i+i) _ _ ((hp.2.1.mul hq.2.2).le (by omega)) (hp.2.2.mul hq.2.2) (Nat.mul_pos hd1 hd2)
theorem sz_mono {i j:Nat} {p:Rat} (h:Sz i p) (hij:i<=j):Sz j p:=⟨h.1,h.2.1.mono hij,h.2.2.mono hij⟩
set_option maxRecDepth 100000 in
set_option maxHeartbeats 4000000 in
theorem new_calls (x y:Value) (n d j:Nat) (w:World) (hv:RV w x y (limbs n) (limbs d)) (hn:F j n) (hd:F j d) (hj:j+2<=100000) (h0:0<d) :
  Calls Try.prog 16 #[.agg #[x,y]] w fun e w'=>∃g b,e=.returned (.pointer (some ⟨g,0,none⟩))/\Led w' g b (mkRat (n:Int) d) 0 []/\Below w.heap.size w w'/\w.heap.size<=g/\w.heap.size<=b:=by
 have HV:=Zz.mk (hv.below (Zb (Below.refl w.heap.size w) (.cells #[x,y] 28)))
 obtain ⟨A1,c1,A2,c2,rfl,rfl⟩:=hv.shape
 have HB0:=Zz.mk (Zb (Below.refl w.heap.size w) (.cells #[.slice A1 (limbs n).length c1,.slice A2 (limbs d).length c2] 28))
 have HM0:=Zz.mk (Zo w 28 #[.slice A1 (limbs n).length c1,.slice A2 (limbs d).length c2])
 have HC:=Zz.mk (check_n j n d hn hd (by omega) h0)
 obtain ⟨f,hf⟩:=(least_t j n d hn hd (by omega) h0).get
 have HL:=Zz.mk hf
 have HW:=Zz.mk (show ratio_Whole.f 0=some (L ((0:Nat):Rat)) from whole_n 0 (by omega))
 have hmm:=@run_makeMap Try.prog
 clear hv hf hn hd
 go_enter Try.func16,Try.ntmps16
 go_upto_region 1 with fail
 obtain ⟨W0,hW0⟩:∃W0,W0=w.alloc (.cells #[.slice A1 (limbs n).length c1,.slice A2 (limbs d).length c2] 28):=⟨_,rfl⟩
 rw [<-hW0] at HV HB0 HM0 ⊢
 clear hW0
 generalize limbs n=un at *
 generalize limbs d=ud at *
 have k0:W0.cell? ⟨w.heap.size,0,none⟩=some (.slice A1 un.length c1):=(Zg HM0.out 0).trans rfl
 have k1:W0.cell? ⟨w.heap.size,1,none⟩=some (.slice A2 ud.length c2):=(Zg HM0.out 1).trans rfl
 go_wp2_with fail
 refine (check_rv HV.out HC.out).mono ?_
 rintro e w1 ⟨rfl,hb⟩
 have HB1:=Zz.mk (Zi HB0.out hb)
 have HV1:=Zz.mk (HV.out.below hb)
 have HM1:=Zz.mk ((hb.block _ (Zn HM0.out)).trans HM0.out)
 clear hb HB0 HV HM0 k0 k1
 have k0:w1.cell? ⟨w.heap.size,0,none⟩=some (.slice A1 un.length c1):=(Zg HM1.out 0).trans rfl
 have k1:w1.cell? ⟨w.heap.size,1,none⟩=some (.slice A2 ud.length c2):=(Zg HM1.out 1).trans rfl
 go_wp2_with fail
 refine (least_rv HV1.out HL.out).mono ?_
 rintro e w2 ⟨p,p',rfl,hp,hb⟩
 obtain ⟨B1,d1,B2,d2,rfl,rfl⟩:=hp.shape
 have HB2:=Zz.mk (Zi HB1.out hb)
 have HP:=Zz.mk hp
 clear hb hp k0 k1 HM1 HV1 HB1
 go_wp2_with fail
 obtain ⟨b,hbb⟩:∃b,b=w2.heap.size:=⟨_,rfl⟩
 have hm2:MapIs (w2.alloc (.map #[] 0)) b []:=⟨_,by rw [hbb];exact World.ownsMap_made _ _ _ _,View.nil⟩
 have ha2:Below w2.heap.size w2 (w2.alloc (.map #[] 0)):=Zb (Below.refl _ _) _
 rw [<-hbb]
 refine (whole_rv HW.out).mono ?_
 rintro e w3 ⟨r,r',rfl,hr,hb⟩
 obtain ⟨C1,e1,C2,e2,rfl,rfl⟩:=hr.shape
 have hb3:Below w2.heap.size w2 w3:=Zi ha2 hb
 have HB3:=Zz.mk (Zi HB2.out hb3)
 have HM3:=Zz.mk (hm2.kept (hb.block b hm2.lt))
 have HP3:=Zz.mk (HP.out.below hb3)
 have HR3:=Zz.mk hr
 have HBB:=Zz.mk (show w.heap.size<=b by rw [hbb];exact HB2.out.size)
 clear hb hr hb3 ha2 hm2 hbb hmm
 go_wp2_with fail
 have hb4:=Zb (Below.refl w3.heap.size w3) (.cells #[.slice B1 (L (mkRat (n:Int) d)).1.length d1,.slice B2 (L (mkRat (n:Int) d)).2.length d2,.map (some b),.slice C1 (L ((0:Nat):Rat)).1.length e1,.slice C2 (L ((0:Nat):Rat)).2.length e2] 97)
 exact bodyPost_ret (results_tmp rfl _ _ _) rfl ⟨w3.heap.size,b,rfl,⟨⟨_,_,_,_,Zo _ _ _,HP3.out.below hb4,HR3.out.below hb4⟩,HM3.out.kept (hb4.block b HM3.out.lt)⟩,Zi HB3.out hb4,HB3.out.size,HBB.out⟩
theorem box_done {X w:World} {g7 g:Nat} {p p' x y:Value} {r1 r2 xa ya:List Int} {cs:Array Value} (hG:MBlk X g7 28 #[.slice none 0 0,.slice none 0 0]) (hV:RV X p p' r1 r2) (hB:Below w.heap.size w X) (hg:w.heap.size<=g7) (hM:MBlk X g 97 cs) (hA:RV X x y xa ya) :
  MBlk ((X.setCell ⟨g7,0,none⟩ p).setCell ⟨g7,1,none⟩ p') g7 28 #[p,p']/\RV ((X.setCell ⟨g7,0,none⟩ p).setCell ⟨g7,1,none⟩ p') p p' r1 r2/\Below w.heap.size w ((X.setCell ⟨g7,0,none⟩ p).setCell ⟨g7,1,none⟩ p')/\MBlk ((X.setCell ⟨g7,0,none⟩ p).setCell ⟨g7,1,none⟩ p') g 97 cs/\RV ((X.setCell ⟨g7,0,none⟩ p).setCell ⟨g7,1,none⟩ p') x y xa ya:=by
 have hn:NoLimb X g7:=by
  intro p hp n hc
  unfold World.cell? at hc
  rw [hp,show X.heap[g7]? = _ from hG] at hc
  simp only at hc
  split at hc
  ·cases hc
  ·match ho:p.off,hc with
   | 0,hc=>simp at hc
   | 1,hc=>simp at hc
   | k+2,hc=>simp at hc
 have hs:∀k,k≠g7->((X.setCell ⟨g7,0,none⟩ p).setCell ⟨g7,1,none⟩ p').heap[k]? = X.heap[k]?:=fun k hk=>(Below.heap_setCell _ ⟨g7,1,none⟩ _ k hk).trans (Below.heap_setCell _ ⟨g7,0,none⟩ _ k hk)
 have hk:∀k,k<X.heap.size->¬ NoLimb X k->((X.setCell ⟨g7,0,none⟩ p).setCell ⟨g7,1,none⟩ p').heap[k]? = X.heap[k]?:=fun k _ h=>hs k (fun e=>h (by rw [e];exact hn))
 exact ⟨mblk_set (mblk_set hG 0 _) 1 _,hV.near hk,(hB.setCell (p:=⟨g7,0,none⟩) hg _).setCell (p:=⟨g7,1,none⟩) hg _,(hs g (mblk_ne hM hG (by decide))).trans hM,hA.near hk⟩
def fitsQ (all q more less:Rat):Bool:=decide (less<=q+more) && decide (q+more-less<=all)
set_option maxRecDepth 100000 in
set_option maxHeartbeats 4000000 in
theorem fits_calls (g b:Nat) (all q more less:Rat) (l:List (Int × Hd)) (x y u v:Value) (lm ll:List Int × List Int) (f1 f2:Nat) (w:World) (hL:Led w g b all q l) (ha:Sz 3000 all) (hsz:Sz 6001 (q+more)) (hs:Sz 3000 less) (hx:RV w x y lm.1 lm.2) (hu:RV w u v ll.1 ll.2)
    (hf1:ratio_Add.f f1 (L q).1 (L q).2 lm.1 lm.2=some ((L (q+more)).1,(L (q+more)).2)) (hf2:ratio_Sub.f f2 (L (q+more)).1 (L (q+more)).2 ll.1 ll.2=some (if q+more<less then ([],[],16) else ((L (q+more-less)).1,(L (q+more-less)).2,0))) :
    Calls Try.prog 72 #[.pointer (some ⟨g,0,none⟩),.agg #[x,y],.agg #[u,v]] w fun e w'=>e=.returned (.bool (fitsQ all q more less))/\Below w.heap.size w w':=by
  have mixed:Try.prog.follows Departure.mixedOrders=true:=by kernel_rfl
  obtain ⟨X1,a1,X2,a2,rfl,rfl⟩:=hx.shape
  obtain ⟨U1,b1,U2,b2,rfl,rfl⟩:=hu.shape
  obtain ⟨p1,p2,q1,q2,hM,hP,hQ⟩:=hL.cells
  obtain ⟨P1,c1,P2,c2,rfl,rfl⟩:=hP.shape
  obtain ⟨Q1,d1,Q2,d2,rfl,rfl⟩:=hQ.shape
  obtain ⟨W0,hW0⟩:∃W0,W0=(w.alloc (.cells #[.slice X1 lm.1.length a1,.slice X2 lm.2.length a2] 28)).alloc (.cells #[.slice U1 ll.1.length b1,.slice U2 ll.2.length b2] 28):=⟨_,rfl⟩
  have hz:(w.alloc (.cells #[.slice X1 lm.1.length a1,.slice X2 lm.2.length a2] 28)).heap.size=w.heap.size+1:=by simp
  have hb0:Below w.heap.size w W0:=by rw [hW0];exact Zb (Zb (Below.refl _ _) _) _
  have HB0:=Zz.mk hb0
  have HX0:=Zz.mk (show MBlk W0 w.heap.size 28 #[.slice X1 lm.1.length a1,.slice X2 lm.2.length a2] by rw [hW0];exact Zp (Zo _ _ _) _)
  have HU0:=Zz.mk (show MBlk W0 (w.heap.size+1) 28 #[.slice U1 ll.1.length b1,.slice U2 ll.2.length b2] by rw [hW0,<-hz];exact Zo _ _ _)
  have HM0:=Zz.mk (show MBlk W0 g 97 _ from (hb0.block _ (Zn hM)).trans hM)
  have VX:=Zz.mk (hx.below hb0)
  have VU:=Zz.mk (hu.below hb0)
  have VP:=Zz.mk (hP.below hb0)
  have VQ:=Zz.mk (hQ.below hb0)
  have HF1:=Zz.mk hf1
  have HF2:=Zz.mk hf2
  have HSZ:=Zz.mk (And.intro ha (And.intro hsz hs))
  clear hx hu hL hM hP hQ hb0 hz hsz hf1 hf2 ha hs
  go_enter Try.func72,Try.ntmps72
  go_upto_region 1 with fail
  rw [<-hW0]
  clear hW0
  obtain ⟨r1,r2,r3,hr⟩:∃r1 r2 r3,(if q+more<less then (([]:List Int),([]:List Int),(16:Int)) else ((L (q+more-less)).1,(L (q+more-less)).2,0))=(r1,r2,r3):=⟨_,_,_,rfl⟩
  have HR:=Zz.mk hr
  rw [hr] at HF2
  clear hr
  generalize L q=lq at *
  generalize L (q+more)=ls at *
  go_cut [7,8] from 7 to 19 (fun v7 v8 wc=>∃ (g7:Nat) (p p':Value),v7=.pointer (some ⟨g7,0,none⟩)/\v8=.int .i64 r3/\Zz (MBlk wc g7 28 #[p,p'])/\Zz (RV wc p p' r1 r2)/\Zz (Below w.heap.size w wc)/\Zz (MBlk wc g 97 #[.slice P1 (L all).1.length c1,.slice P2 (L all).2.length c2,.map (some b),.slice Q1 lq.1.length d1,.slice Q2 lq.2.length d2])/\Zz (RV wc (.slice P1 (L all).1.length c1) (.slice P2 (L all).2.length c2) (L all).1 (L all).2))
  case first =>
    have k3:W0.cell? ⟨g,3,none⟩=some (.slice Q1 lq.1.length d1):=(Zg HM0.out 3).trans rfl
    have k4:W0.cell? ⟨g,4,none⟩=some (.slice Q2 lq.2.length d2):=(Zg HM0.out 4).trans rfl
    have x0:W0.cell? ⟨w.heap.size,0,none⟩=some (.slice X1 lm.1.length a1):=(Zg HX0.out 0).trans rfl
    have x1:W0.cell? ⟨w.heap.size,1,none⟩=some (.slice X2 lm.2.length a2):=(Zg HX0.out 1).trans rfl
    have u0:W0.cell? ⟨w.heap.size+1,0,none⟩=some (.slice U1 ll.1.length b1):=(Zg HU0.out 0).trans rfl
    have u1:W0.cell? ⟨w.heap.size+1,1,none⟩=some (.slice U2 ll.2.length b2):=(Zg HU0.out 1).trans rfl
    have l0:w.heap.size+1<W0.heap.size:=Zn HU0.out
    have l1:w.heap.size<W0.heap.size:=Zn HX0.out
    have lg:g<W0.heap.size:=Zn HM0.out
    go_region_law
      (first
        | (go_simp;go_at_call 105
           refine (add_rv (VQ.out.below (by first|exact Zr (Below.refl _ _)|exact Zb (Zr (Below.refl _ _)) _)) (VX.out.below (by first|exact Zr (Below.refl _ _)|exact Zb (Zr (Below.refl _ _)) _)) HF1.out).mono ?_
           rintro e w1 ⟨s1,s2,rfl,h1,hb⟩
           have hb1:Below W0.heap.size W0 w1:=by first|exact Zi (Zr (Below.refl _ _)) hb|exact Zi (Zb (Zr (Below.refl _ _)) _) hb
           obtain ⟨S1,e1,S2,e2,rfl,rfl⟩:=h1.shape
           have HB1:=Zz.mk hb1
           have HS1:=Zz.mk h1
           have u0:w1.cell? ⟨w.heap.size+1,0,none⟩=some (.slice U1 ll.1.length b1):=(Zg ((hb1.block _ (Zn HU0.out)).trans HU0.out) 0).trans rfl
           have u1:w1.cell? ⟨w.heap.size+1,1,none⟩=some (.slice U2 ll.2.length b2):=(Zg ((hb1.block _ (Zn HU0.out)).trans HU0.out) 1).trans rfl
           have l2:w.heap.size+1<w1.heap.size:=Nat.lt_of_lt_of_le l0 hb1.size
           try have HGA:=Zz.mk (show MBlk w1 W0.heap.size 28 #[.slice none 0 0,.slice none 0 0] from (hb.block _ (Zn (Zo W0.drew 28 #[.slice none 0 0,.slice none 0 0]))).trans (Zo W0.drew 28 #[.slice none 0 0,.slice none 0 0]))
           clear h1 hb hb1)
        | (go_simp;go_at_call 73
           refine (XSub.sub_rv (HS1.out.below (by first|exact Below.refl _ _|exact Zb (Below.refl _ _) _)) ((VU.out.below HB1.out).below (by first|exact Below.refl _ _|exact Zb (Below.refl _ _) _)) HF2.out).mono ?_
           rintro e w2 ⟨t1,t2,rfl,h2,hb⟩
           have hb2:Below W0.heap.size W0 w2:=by first|exact Zi HB1.out hb|exact Zi (Zb HB1.out _) hb
           obtain ⟨T1,e3,T2,e4,rfl,rfl⟩:=h2.shape
           have HB2:=Zz.mk hb2
           have HT2:=Zz.mk h2
           try have HGB:=Zz.mk (show MBlk w2 w1.heap.size 28 #[.slice none 0 0,.slice none 0 0] from (hb.block _ (Zn (Zo w1 28 #[.slice none 0 0,.slice none 0 0]))).trans (Zo w1 28 #[.slice none 0 0,.slice none 0 0]))
           try have HGB:=Zz.mk (show MBlk w2 W0.heap.size 28 #[.slice none 0 0,.slice none 0 0] from (hb.block _ (Zn HGA.out)).trans HGA.out)
           try have z0:=(Zg HGB.out 0).trans rfl
           try have z1:=(Zg HGB.out 1).trans rfl
           try have rf0:=Zq HGB.out 0
           try have rf1:=Zq HGB.out 1
           clear h2 hb hb2))
    all_goals
      have HBX:=Zz.mk (Zi HB0.out HB2.out)
      have HMX:=Zz.mk ((HB2.out.block _ (Zn HM0.out)).trans HM0.out)
      have HPX:=Zz.mk (VP.out.below HB2.out)
      have HL0:=Zz.mk l0
      have HL2:=Zz.mk (Nat.le_trans l0 HB1.out.size)
      go_wp2_with fail
      go_meet
      case rel =>
        first
          | (obtain ⟨q1,q2,q3,q4,q5⟩:=box_done HGB.out HT2.out HBX.out (by have:=HL0.out;have:=HL2.out;omega) HMX.out HPX.out
             exact ⟨_,_,_,rfl,rfl,⟨q1⟩,⟨q2⟩,⟨q3⟩,⟨q4⟩,⟨q5⟩⟩)
          | exact ⟨w2.heap.size,_,_,rfl,rfl,⟨Zo w2 28 #[.slice T1 r1.length e3,.slice T2 r2.length e4]⟩,⟨HT2.out.below (Zb (Below.refl _ _) _)⟩,⟨Zb HBX.out _⟩,⟨Zp HMX.out _⟩,⟨HPX.out.below (Zb (Below.refl _ _) _)⟩⟩
  case rest =>
    obtain ⟨g7,p,p',rfl,rfl,HG7,HV7,HB7,HM7,HA7⟩:=hcut
    clear HB0 HX0 HU0 HM0 VX VU VP VQ HF1 HF2
    obtain ⟨T1,e3,T2,e4,rfl,rfl⟩:=HV7.out.shape
    have t0:wc.cell? ⟨g7,0,none⟩=some (.slice T1 r1.length e3):=(Zg HG7.out 0).trans rfl
    have t1:wc.cell? ⟨g7,1,none⟩=some (.slice T2 r2.length e4):=(Zg HG7.out 1).trans rfl
    have p0:wc.cell? ⟨g,0,none⟩=some (.slice P1 (L all).1.length c1):=(Zg HM7.out 0).trans rfl
    have p1:wc.cell? ⟨g,1,none⟩=some (.slice P2 (L all).2.length c2):=(Zg HM7.out 1).trans rfl
    by_cases hlt:q+more<less
    · have hR:=HR.out
      rw [if_pos hlt] at hR
      obtain ⟨rfl,hR2⟩:=Prod.mk.inj hR
      obtain ⟨rfl,rfl⟩:=Prod.mk.inj hR2
      have HX:=Zz.mk (show fitsQ all q more less=false by
        unfold fitsQ
        rw [decide_eq_false (fun h=>(Rat.lt_iff_le_and_not_ge.1 hlt).2 h)]
        rfl)
      clear hR hR2 HR hlt
      go_wp2_with fail
      go_region
      go_wp2_with fail
      exact bodyPost_ret (results_tmp rfl _ _ _) rfl ⟨by rw [HX.out];rfl,Zr HB7.out⟩
    · have hR:=HR.out
      rw [if_neg hlt] at hR
      obtain ⟨e1',hR2⟩:=Prod.mk.inj hR
      obtain ⟨e2',rfl⟩:=Prod.mk.inj hR2
      obtain ⟨f3,hf3⟩:=(cmpL 12002 3000 (q+more-less) all (sz_sub 6001 _ _ HSZ.out.2.1 (sz_mono HSZ.out.2.2 (by omega)) (Rat.not_lt.1 hlt)) HSZ.out.1 (by omega)).get
      rw [e1',e2'] at hf3
      have HF3:=Zz.mk hf3
      have HX:=Zz.mk (show fitsQ all q more less=decide (cmpR (q+more-less) all<=0) by
        unfold fitsQ
        rw [decide_eq_true (Rat.not_lt.1 hlt),Bool.true_and]
        congr 1
        unfold cmpR
        by_cases h1:q+more-less<all
        · rw [if_pos h1]
          simp [(Rat.lt_iff_le_and_not_ge.1 h1).1]
        · rw [if_neg h1]
          by_cases h2:q+more-less=all
          · rw [if_pos h2,h2]
            simp [Rat.le_refl]
          · rw [if_neg h2]
            have:¬ q+more-less<=all:=fun h=>h1 (Rat.lt_of_le_of_ne h h2)
            simp [this])
      generalize cmpR (q+more-less) all=cc at *
      clear hR hR2 HR hlt e1' e2' hf3
      generalize L all=la at *
      go_wp2_with fail
      go_region_law
        (first
          | (go_simp;go_at_call 106
             refine (cmp_rv (HV7.out.below (Zr (Below.refl _ _))) (HA7.out.below (Zr (Below.refl _ _))) HF3.out).mono ?_
             rintro e w5 ⟨rfl,hb⟩
             have HB8:=Zz.mk (Zi (Zr HB7.out) hb)
             clear hb))
      all_goals
        go_wp2_with fail
        exact bodyPost_ret (results_tmp rfl _ _ _) rfl ⟨by rw [HX.out];rfl,HB8.out⟩
end Go.Proofs.Ytfldklimlcnnnaa.XFits
end

section
namespace Go.Proofs.Ytfldklimlcnnnaa.XJoin
open Go.RowKit Go.Shelf PHq YtfldklimlcnnnaaW.PrintWords YtfldklimlcnnnaaW.PrintLast YtfldklimlcnnnaaW.PrintMore MWords
open MNat QNat QText QEv QRatio XRV XHold XWts XLed XPuts XFits
def mayW (x:S34):Bool:=decide (1<=x.f0) && decide (x.f0<=x.f1) && decide (x.f1<=1048576)
theorem wcheck_f (x:S34):window_Check.f x.f0 x.f1=some (mayW x):=by
 unfold window_Check.f mayW
 by_cases h1:1<=x.f0
 ·rw [if_pos h1,decide_eq_true h1]
  by_cases h2:x.f0<=x.f1
  ·rw [if_pos h2,decide_eq_true h2];rfl
  ·rw [if_neg h2,decide_eq_false h2];rfl
 ·rw [if_neg h1,decide_eq_false h1];rfl
theorem may_ok {x:S34} (h:mayW x=true):okW x:=by
 unfold mayW at h
 simp only [Bool.and_eq_true,decide_eq_true_eq] at h
 unfold okW
 omega
def fitsW (all q:Rat) (x i:S34):Bool:=mayW x && fitsQ all q (wt x) (if mayW i=true then wt i else 0)
theorem box_put {X w:World} {g7 g b k0:Nat} {all q:Rat} {l:List (Int × Hd)} {p p':Value} {r1 r2:List Int} {cs:Array Value} {o1 o2:Option Addr} {n1 n2 m1 m2:Nat} (hG:MBlk X g7 28 #[.slice o1 n1 m1,.slice o2 n2 m2]) (hV:RV X p p' r1 r2) (hB:Below w.heap.size w X) (hg:w.heap.size<=g7) (hL:Led X g b all q l) (hM:MBlk X k0 34 cs) :
  MBlk ((X.setCell ⟨g7,0,none⟩ p).setCell ⟨g7,1,none⟩ p') g7 28 #[p,p']/\RV ((X.setCell ⟨g7,0,none⟩ p).setCell ⟨g7,1,none⟩ p') p p' r1 r2/\Below w.heap.size w ((X.setCell ⟨g7,0,none⟩ p).setCell ⟨g7,1,none⟩ p')/\MBlk ((X.setCell ⟨g7,0,none⟩ p).setCell ⟨g7,1,none⟩ p') k0 34 cs/\Led ((X.setCell ⟨g7,0,none⟩ p).setCell ⟨g7,1,none⟩ p') g b all q l:=by
 have hn:NoLimb X g7:=by
  intro p hp n hc
  unfold World.cell? at hc
  rw [hp,show X.heap[g7]? = _ from hG] at hc
  simp only at hc
  split at hc
  ·cases hc
  ·match ho:p.off,hc with
   | 0,hc=>simp at hc
   | 1,hc=>simp at hc
   | k+2,hc=>simp at hc
 have hs:∀k,k≠g7->((X.setCell ⟨g7,0,none⟩ p).setCell ⟨g7,1,none⟩ p').heap[k]? = X.heap[k]?:=fun k hk=>(Below.heap_setCell _ ⟨g7,1,none⟩ _ k hk).trans (Below.heap_setCell _ ⟨g7,0,none⟩ _ k hk)
 have hk:∀k,k<X.heap.size->¬ NoLimb X k->((X.setCell ⟨g7,0,none⟩ p).setCell ⟨g7,1,none⟩ p').heap[k]? = X.heap[k]?:=fun k _ h=>hs k (fun e=>h (by rw [e];exact hn))
 obtain ⟨_,_,_,_,h1,_⟩:=hL.cells
 obtain ⟨es,c,h4⟩:=hL.map.obj
 exact ⟨mblk_set (mblk_set hG 0 _) 1 _,hV.near hk,(hB.setCell (p:=⟨g7,0,none⟩) hg _).setCell (p:=⟨g7,1,none⟩) hg _,(hs k0 (mblk_ne hM hG (by decide))).trans hM,hL.near (hs g (mblk_ne h1 hG (by decide))) (hs b (fun e=>by rw [e,show X.heap[g7]? = _ from hG] at h4;cases h4)) hk⟩
set_option maxRecDepth 100000 in
set_option maxHeartbeats 4000000 in

theorem fitsW_calls (g b:Nat) (all q:Rat) (l:List (Int × Hd)) (x y u v:Value) (m1 m2 s1 s2:Nat) (w:World) (hL:Led w g b all q l) (ha:Sz 3000 all) (hq:Sz 2999 q) (h1:F 1 m1) (h2:F 1 m2) (h20:0<m2) (h3:F 1 s1) (h4:F 1 s2) (h40:0<s2)
  (hx:RV w x y (limbs m1) (limbs m2)) (hu:RV w u v (limbs s1) (limbs s2)) :
  Calls Try.prog 72 #[.pointer (some ⟨g,0,none⟩),.agg #[x,y],.agg #[u,v]] w fun e w'=>e=.returned (.bool (fitsQ all q (mkRat (m1:Int) m2) (mkRat (s1:Int) s2)))/\Below w.heap.size w w':=by
 have a1:=radd_t 2999 1 q.num.natAbs q.den m1 m2 hq.2.1 hq.2.2 h1 h2 (by omega) (Rat.den_pos q) h20
 rw [self_mk q hq.1] at a1
 have z1:=sz_add 2999 1 q.num.natAbs q.den m1 m2 hq.2.1 hq.2.2 h1 h2 (Rat.den_pos q) h20
 rw [self_mk q hq.1] at z1
 have a2:=rsub_t 3001 1 (q+mkRat (m1:Int) m2).num.natAbs (q+mkRat (m1:Int) m2).den s1 s2 z1.2.1 z1.2.2 h3 h4 (by omega) (Rat.den_pos _) h40
 rw [self_mk _ z1.1] at a2
 obtain ⟨f1,hf1⟩:=a1.get
 obtain ⟨f2,hf2⟩:=a2.get
 exact fits_calls g b all q (mkRat (m1:Int) m2) (mkRat (s1:Int) s2) l x y u v (limbs m1,limbs m2) (limbs s1,limbs s2) f1 f2 w hL ha (sz_mono z1 (by omega)) (sz_mono (mk_sz 1 _ _ h3 h4 h40) (by omega)) hx hu hf1 hf2
set_option maxRecDepth 100000 in
set_option maxHeartbeats 4000000 in
theorem Fits_calls (g b:Nat) (all q:Rat) (l:List (Int × Hd)) (x i:S34) (w:World) (hL:Led w g b all q l) (ha:Sz 3000 all) (hq:Sz 2999 q) :
    Calls Try.prog 22 #[.pointer (some ⟨g,0,none⟩),.agg #[.int .i64 x.f0,.int .i64 x.f1],.agg #[.int .i64 i.f0,.int .i64 i.f1]] w fun e w'=>e=.returned (.bool (fitsW all q x i))/\Below w.heap.size w w':=by
  have mixed:Try.prog.follows Departure.mixedOrders=true:=by kernel_rfl
  obtain ⟨W0,hW0⟩:∃W0,W0=(w.alloc (.cells #[.int .i64 x.f0,.int .i64 x.f1] 34)).alloc (.cells #[.int .i64 i.f0,.int .i64 i.f1] 34):=⟨_,rfl⟩
  have hz:(w.alloc (.cells #[.int .i64 x.f0,.int .i64 x.f1] 34)).heap.size=w.heap.size+1:=by simp
  have hb0:Below w.heap.size w W0:=by rw [hW0];exact Zb (Zb (Below.refl _ _) _) _
  have HX0:=Zz.mk (show MBlk W0 w.heap.size 34 #[.int .i64 x.f0,.int .i64 x.f1] by rw [hW0];exact Zp (Zo _ _ _) _)
  have HI0:=Zz.mk (show MBlk W0 (w.heap.size+1) 34 #[.int .i64 i.f0,.int .i64 i.f1] by rw [hW0,<-hz];exact Zo _ _ _)
  have HB0:=Zz.mk hb0
  have HL:=Zz.mk (hL.below hb0)
  have HA:=Zz.mk (And.intro ha hq)
  have HC1:=Zz.mk (wcheck_f x)
  have HC2:=Zz.mk (wcheck_f i)
  clear hL hz hb0 ha hq
  go_enter Try.func22,Try.ntmps22
  go_upto_region 1 with fail
  rw [<-hW0]
  clear hW0
  have x0:W0.cell? ⟨w.heap.size,0,none⟩=some (.int .i64 x.f0):=(Zg HX0.out 0).trans rfl
  have x1:W0.cell? ⟨w.heap.size,1,none⟩=some (.int .i64 x.f1):=(Zg HX0.out 1).trans rfl
  by_cases hmx:mayW x=true
  case neg =>
    have HX:=Zz.mk (show fitsW all q x i=false by unfold fitsW;rw [show mayW x=false by simpa using hmx];rfl)
    have hmx':mayW x=false:=by simpa using hmx
    go_wp2_with (go_at_call 66;refine (window_Check.calls x.f0 x.f1 _ _ HC1.out).mono ?_;rw [hmx'];rintro e w1 ⟨rfl,hb⟩;have HB1:=Zz.mk (Zi HB0.out hb);clear hb)
    exact bodyPost_ret (results_tmp rfl _ _ _) rfl ⟨by rw [HX.out];rfl,HB1.out⟩
  have HMX:=Zz.mk hmx
  go_upto_region 3 with (go_at_call 66;refine (window_Check.calls x.f0 x.f1 _ _ HC1.out).mono ?_;rw [hmx];rintro e w1 ⟨rfl,hb⟩;have HB1:=Zz.mk (Zi HB0.out hb);have HX1:=Zz.mk ((hb.block _ (Zn HX0.out)).trans HX0.out);have HI1:=Zz.mk ((hb.block _ (Zn HI0.out)).trans HI0.out);have HL1:=Zz.mk (HL.out.below hb);clear hb)
  clear x0 x1 HX0 HI0 HL HB0 HC1 hmx
  have HW:=Zz.mk (show ratio_Whole.f 0=some (limbs 0,limbs 1) from whole_n 0 (by omega))
  have hlt1:w.heap.size+1<w1.heap.size:=Zn HI1.out
  have i0:w1.cell? ⟨w.heap.size+1,0,none⟩=some (.int .i64 i.f0):=(Zg HI1.out 0).trans rfl
  have i1:w1.cell? ⟨w.heap.size+1,1,none⟩=some (.int .i64 i.f1):=(Zg HI1.out 1).trans rfl
  go_upto_region 4 with (go_at_call 64;refine (whole_rv HW.out).mono ?_;rintro e w2 ⟨r1,r2,rfl,hr,hb⟩;obtain ⟨R1,c1,R2,c2,rfl,rfl⟩:=hr.shape;have HR2:=Zz.mk hr;have HB2:=Zz.mk hb;clear hr hb)
  obtain ⟨g7,hg7⟩:∃g7,g7=w2.heap.size:=⟨_,rfl⟩
  obtain ⟨w3,hw3⟩:∃w3,w3=w2.alloc (.cells #[.slice R1 (limbs 0).length c1,.slice R2 (limbs 1).length c2] 28):=⟨_,rfl⟩
  have hb3:Below w1.heap.size w1 w3:=by rw [hw3];exact Zb HB2.out _
  have HG3:=Zz.mk (show MBlk w3 g7 28 #[.slice R1 (limbs 0).length c1,.slice R2 (limbs 1).length c2] by rw [hw3,hg7];exact Zo _ _ _)
  have HR3:=Zz.mk (show RV w3 (.slice R1 (limbs 0).length c1) (.slice R2 (limbs 1).length c2) (limbs 0) (limbs 1) by rw [hw3];exact HR2.out.below (Zb (Below.refl _ _) _))
  have HB3:=Zz.mk (Zi HB1.out hb3)
  have HX3:=Zz.mk ((hb3.block _ (Zn HX1.out)).trans HX1.out)
  have HI3:=Zz.mk ((hb3.block _ (Zn HI1.out)).trans HI1.out)
  have HL3:=Zz.mk (HL1.out.below hb3)
  have HGE:=Zz.mk (show w.heap.size<=g7 by rw [hg7];exact Nat.le_trans HB1.out.size HB2.out.size)
  rw [<-hw3,<-hg7]
  clear hw3 hg7 HR2 HB2 HB1 HX1 HI1 HL1 i0 i1 hlt1 hb3 HW
  have i0:w3.cell? ⟨w.heap.size+1,0,none⟩=some (.int .i64 i.f0):=(Zg HI3.out 0).trans rfl
  have i1:w3.cell? ⟨w.heap.size+1,1,none⟩=some (.int .i64 i.f1):=(Zg HI3.out 1).trans rfl
  obtain ⟨l0,hl0⟩:∃l0,l0=limbs 0:=⟨_,rfl⟩
  obtain ⟨l1,hl1⟩:∃l1,l1=limbs 1:=⟨_,rfl⟩
  rw [<-hl0,<-hl1] at HG3 HR3 ⊢
  have HLL:=Zz.mk (And.intro hl0 hl1)
  clear hl0 hl1
  go_upto_if 17 with (go_at_call 66;refine (window_Check.calls i.f0 i.f1 _ _ HC2.out).mono ?_;rintro e w4 ⟨rfl,hb⟩;have HB4:=Zz.mk (Zi HB3.out hb);have HX4:=Zz.mk ((hb.block _ (Zn HX3.out)).trans HX3.out);have HI4:=Zz.mk ((hb.block _ (Zn HI3.out)).trans HI3.out);have HL4:=Zz.mk (HL3.out.below hb);have HG4:=Zz.mk ((hb.block _ (Zn HG3.out)).trans HG3.out);have HR4:=Zz.mk (HR3.out.below hb);clear hb)
  have HOX:=Zz.mk (of_w x (may_ok HMX.out))
  go_cut [7] (fun v7 wc=>∃ (u v:Value) (s1 s2:Nat),v7=.pointer (some ⟨g7,0,none⟩)/\Zz (MBlk wc g7 28 #[u,v])/\Zz (RV wc u v (limbs s1) (limbs s2))/\Zz (F 1 s1/\F 1 s2/\0<s2/\mkRat (s1:Int) s2=if mayW i=true then wt i else 0)/\Zz (Below w.heap.size w wc)/\Zz (MBlk wc w.heap.size 34 #[.int .i64 x.f0,.int .i64 x.f1])/\Zz (Led wc g b all q l))
  case first =>
    by_cases hmi:mayW i=true
    · have hoi:=may_ok hmi
      have HOI:=Zz.mk (of_w i hoi)
      have HFI:=Zz.mk (show F 1 i.f0.toNat/\F 1 i.f1.toNat/\0<i.f1.toNat/\mkRat (i.f0.toNat:Int) i.f1.toNat=if mayW i=true then wt i else 0 from ⟨(okW_F hoi).1,(okW_F hoi).2,okW_pos hoi,by rw [if_pos hmi];rfl⟩)
      have j0:w4.cell? ⟨w.heap.size+1,0,none⟩=some (.int .i64 i.f0):=(Zg HI4.out 0).trans rfl
      have j1:w4.cell? ⟨w.heap.size+1,1,none⟩=some (.int .i64 i.f1):=(Zg HI4.out 1).trans rfl
      clear hoi i0 i1
      rw [hmi]
      go_wp2_with fail
      refine (of_rv HOI.out).mono ?_
      rintro e w5 ⟨p,p',rfl,hp,hb⟩
      obtain ⟨S1,e1,S2,e2,rfl,rfl⟩:=hp.shape
      have HG5:=Zz.mk ((hb.block _ (Zn HG4.out)).trans HG4.out)
      have HP5:=Zz.mk hp
      have HB5:=Zz.mk (Zi HB4.out hb)
      have HX5:=Zz.mk ((hb.block _ (Zn HX4.out)).trans HX4.out)
      have HL5:=Zz.mk (HL4.out.below hb)
      have g0:w5.cell? ⟨g7,0,none⟩=some (.slice R1 l0.length c1):=(Zg HG5.out 0).trans rfl
      have g1:w5.cell? ⟨g7,1,none⟩=some (.slice R2 l1.length c2):=(Zg HG5.out 1).trans rfl
      have h0:w5.frozen? ⟨g7,0,none⟩=false:=Zq HG5.out 0
      have h1:w5.frozen? ⟨g7,1,none⟩=false:=Zq HG5.out 1
      clear hp hb j0 j1
      generalize hl2:limbs i.f0.toNat=l2 at *
      generalize hl3:limbs i.f1.toNat=l3 at *
      have HL2:=Zz.mk hl2
      have HL3':=Zz.mk hl3
      clear hl2 hl3
      go_wp2_with fail
      go_meet
      case rel =>
        obtain ⟨q1,q2,q3,q4,q5⟩:=box_put HG5.out HP5.out HB5.out HGE.out HL5.out HX5.out
        exact ⟨_,_,i.f0.toNat,i.f1.toNat,rfl,⟨q1⟩,⟨by rw [HL2.out,HL3'.out];exact q2⟩,HFI,⟨q3⟩,⟨q4⟩,⟨q5⟩⟩
    · have hmi':mayW i=false:=by simpa using hmi
      clear i0 i1
      rw [hmi']
      go_wp2_with fail
      go_meet
      case rel=>exact ⟨_,_,0,1,rfl,HG4,⟨by rw [<-HLL.out.1,<-HLL.out.2];exact HR4.out⟩,⟨⟨F.one (by omega),F.one (by omega),by omega,by rw [if_neg hmi];rfl⟩⟩,HB4,HX4,HL4⟩
  case rest =>
    obtain ⟨u,v,s1,s2,rfl,HG7,HV7,HF7,HB7,HX7,HL7⟩:=hcut
    clear HB3 HX3 HI3 HL3 HG3 HR3 i0 i1 HC2
    obtain ⟨B,hBq⟩:∃B,B=fitsQ all q (mkRat (x.f0.toNat:Int) x.f1.toNat) (mkRat (s1:Int) s2):=⟨_,rfl⟩
    have HBQ:=Zz.mk hBq
    clear hBq
    have HX:=Zz.mk (show fitsW all q x i=B by
      rw [HBQ.out]
      unfold fitsW
      rw [HMX.out,Bool.true_and,HF7.out.2.2.2]
      rfl)
    have HOK:=Zz.mk (may_ok HMX.out)
    obtain ⟨U1,d1,U2,d2,rfl,rfl⟩:=HV7.out.shape
    obtain ⟨ls1,h1⟩:∃ls1,ls1=limbs s1:=⟨_,rfl⟩
    obtain ⟨ls2,h2⟩:∃ls2,ls2=limbs s2:=⟨_,rfl⟩
    obtain ⟨lx1,h3⟩:∃lx1,lx1=limbs x.f0.toNat:=⟨_,rfl⟩
    obtain ⟨lx2,h4⟩:∃lx2,lx2=limbs x.f1.toNat:=⟨_,rfl⟩
    rw [<-h1,<-h2] at HG7 HV7
    rw [<-h3,<-h4] at HOX
    have HEQ:=Zz.mk (And.intro h1 (And.intro h2 (And.intro h3 h4)))
    clear h1 h2 h3 h4
    have x0:wc.cell? ⟨w.heap.size,0,none⟩=some (.int .i64 x.f0):=(Zg HX7.out 0).trans rfl
    have x1:wc.cell? ⟨w.heap.size,1,none⟩=some (.int .i64 x.f1):=(Zg HX7.out 1).trans rfl
    have g0:wc.cell? ⟨g7,0,none⟩=some (.slice U1 ls1.length d1):=(Zg HG7.out 0).trans rfl
    have g1:wc.cell? ⟨g7,1,none⟩=some (.slice U2 ls2.length d2):=(Zg HG7.out 1).trans rfl
    go_wp2_with fail
    go_region_law
      (first
        | (go_simp;go_at_call 71
           refine (of_rv HOX.out).mono ?_
           rintro e w5 ⟨p,p',rfl,hp,hb⟩
           obtain ⟨S1,e1,S2,e2,rfl,rfl⟩:=hp.shape
           have hb5:Below wc.heap.size wc w5:=Zi (Zr (Below.refl _ _)) hb
           have HP5:=Zz.mk hp
           have HB5:=Zz.mk hb5
           have g0:w5.cell? ⟨g7,0,none⟩=some (.slice U1 ls1.length d1):=(Zg ((hb5.block _ (Zn HG7.out)).trans HG7.out) 0).trans rfl
           have g1:w5.cell? ⟨g7,1,none⟩=some (.slice U2 ls2.length d2):=(Zg ((hb5.block _ (Zn HG7.out)).trans HG7.out) 1).trans rfl
           clear hp hb hb5)
        | (go_simp;go_at_call 72
           refine (fitsW_calls g b all q l (.slice S1 lx1.length e1) (.slice S2 lx2.length e2) (.slice U1 ls1.length d1) (.slice U2 ls2.length d2) x.f0.toNat x.f1.toNat s1 s2 w5 (HL7.out.below HB5.out) HA.out.1 HA.out.2 (okW_F HOK.out).1 (okW_F HOK.out).2 (okW_pos HOK.out) HF7.out.1 HF7.out.2.1 HF7.out.2.2.1 (by rw [<-HEQ.out.2.2.1,<-HEQ.out.2.2.2];exact HP5.out) (by rw [<-HEQ.out.1,<-HEQ.out.2.1];exact HV7.out.below HB5.out)).mono ?_
           rintro e w6 ⟨he,hb⟩
           rw [<-HBQ.out] at he
           subst he
           have HB6:=Zz.mk (Zi (Zi HB7.out HB5.out) hb)
           clear hb))
    all_goals
      go_wp2_with fail
      exact bodyPost_ret (results_tmp rfl _ _ _) rfl ⟨by rw [HX.out];rfl,HB6.out⟩
end Go.Proofs.Ytfldklimlcnnnaa.XJoin
end

section
namespace Go.Proofs.Ytfldklimlcnnnaa.XMeth
open Go.RowKit Go.Shelf PHq YtfldklimlcnnnaaW.PrintWords YtfldklimlcnnnaaW.PrintLast YtfldklimlcnnnaaW.PrintMore MWords
open MNat QNat QText QEv QRatio XRV XHold XWts XLed XPuts XFits XJoin
def joinE (all q:Rat) (l:List (Int × Hd)) (z:Int) (x:S34):Int :=
 if mayW x=false then 1 else if hasL l z=true then 14 else if fitsW all q x ⟨0,0⟩=false then 18 else 0
def joinL (all q:Rat) (l:List (Int × Hd)) (z:Int) (x:S34):List (Int × Hd):=if joinE all q l z x=0 then setL l z ⟨x.f0,x.f1,0,0,false⟩ else l
theorem set_good {l:List (Int × Hd)} {z:Int} {h:Hd} (hG:GoodL l) (hl:l.length<500) (hh:okH h):GoodL (setL l z h):=by
 refine ⟨?_,fun y hy=>?_⟩
 ·rw [set_len]
  split<;>omega
 ·rcases set_mem hy with rfl|⟨hm,_⟩
  ·exact hh
  ·exact hG.ok y hm
theorem held_sz {l:List (Int × Hd)} (hG:GoodL l):Sz 1001 (Zy l):=by
 have h:=(sum_t (l.map fun z=>hv z.2) (by rw [List.length_map];have:=hG.len;omega) (fun z hz=>by
  obtain ⟨y,hy,rfl⟩:=List.mem_map.1 hz
  exact hv_ok (hG.ok y hy))).2
 exact sz_mono h (by rw [List.length_map];have:=hG.len;omega)
set_option maxRecDepth 100000 in
set_option maxHeartbeats 4000000 in
theorem join_calls (g b:Nat) (all:Rat) (l:List (Int × Hd)) (z:Int) (x:S34) (w:World) (hL:Led w g b all (Zy l) l) (ha:Sz 3000 all) (hG:GoodL l) (hl:l.length<500) (hz:wfI z) :
  Calls Try.prog 18 #[.pointer (some ⟨g,0,none⟩),.int .i64 z,.agg #[.int .i64 x.f0,.int .i64 x.f1]] w fun e w'=>e=.returned (.int .i64 (joinE all (Zy l) l z x))/\Led w' g b all (Zy (joinL all (Zy l) l z x)) (joinL all (Zy l) l z x)/\Kp g b w w':=by
 obtain ⟨W0,hW0⟩:∃W0,W0=w.alloc (.cells #[.int .i64 x.f0,.int .i64 x.f1] 34):=⟨_,rfl⟩
 have hb0:Below w.heap.size w W0:=by rw [hW0];exact Zb (Below.refl _ _) _
 have HX0:=Zz.mk (show MBlk W0 w.heap.size 34 #[.int .i64 x.f0,.int .i64 x.f1] by rw [hW0];exact Zo _ _ _)
 have HB0:=Zz.mk hb0
 have HL0:=Zz.mk (hL.below hb0)
 have HA:=Zz.mk (And.intro ha (And.intro hG (And.intro hl hz)))
 have HC:=Zz.mk (wcheck_f x)
 obtain ⟨h,hh⟩:∃h,h=(getL l z).getD zeroH:=⟨_,rfl⟩
 have HH:=Zz.mk hh
 clear hL hb0 ha hG hl hz hh
 go_enter Try.func18,Try.ntmps18
 go_upto_region 1 with fail
 rw [<-hW0]
 clear hW0
 go_upto_region 2 with (go_at_call 27;refine (of_calls g b all (Zy l) l z h _ HL0.out HA.out.2.2.2 HH.out).mono ?_;rintro e w1 ⟨rfl,hb⟩;have HB1:=Zz.mk hb;clear hb)
 obtain ⟨w2,hw2⟩:∃w2,w2=(w1.alloc (.cells #[.int .i64 h.e,.int .i64 h.p] 34)).alloc (.cells #[.int .i64 h.e2,.int .i64 h.p2] 34):=⟨_,rfl⟩
 have hb2:Below W0.heap.size W0 w2:=by rw [hw2];exact Zb (Zb HB1.out _) _
 have HX2:=Zz.mk ((hb2.block _ (Zn HX0.out)).trans HX0.out)
 have HL2:=Zz.mk (HL0.out.below hb2)
 have HB2:=Zz.mk (Zi HB0.out hb2)
 rw [<-hw2]
 clear hw2 hb2 HB1 HX0 HL0 HB0 HH
 have x0:w2.cell? ⟨w.heap.size,0,none⟩=some (.int .i64 x.f0):=(Zg HX2.out 0).trans rfl
 have x1:w2.cell? ⟨w.heap.size,1,none⟩=some (.int .i64 x.f1):=(Zg HX2.out 1).trans rfl
 by_cases hm:mayW x=true
 case neg =>
  have hm':mayW x=false:=by simpa using hm
  have HE:=Zz.mk (show joinE all (Zy l) l z x=1 by unfold joinE;rw [if_pos hm'])
  clear hm
  go_wp2_with (go_at_call 66;refine (window_Check.calls x.f0 x.f1 _ _ HC.out).mono ?_;rw [hm'];rintro e w3 ⟨rfl,hb⟩;have HB3:=Zz.mk hb;clear hb)
  refine bodyPost_ret (results_tmp rfl _ _ _) rfl ⟨by rw [HE.out];rfl,?_,(Kp.of HB2.out).trans (Kp.of HB3.out)⟩
  unfold joinL
  rw [HE.out,if_neg (by decide)]
  exact HL2.out.below HB3.out
 have HM:=Zz.mk hm
 by_cases hh:hasL l z=true
 ·have HE:=Zz.mk (show joinE all (Zy l) l z x=14 by unfold joinE;rw [if_neg (by simp [HM.out]),if_pos hh])
  go_wp2_with (go_at_call 66;refine (window_Check.calls x.f0 x.f1 _ _ HC.out).mono ?_;rw [hm];rintro e w3 ⟨rfl,hb⟩;have HB3:=Zz.mk hb;clear hb)
  refine bodyPost_ret (results_tmp rfl _ _ _) rfl ⟨by rw [HE.out];rfl,?_,(Kp.of HB2.out).trans (Kp.of HB3.out)⟩
  unfold joinL
  rw [HE.out,if_neg (by decide)]
  exact HL2.out.below HB3.out
 have hh':hasL l z=false:=by simpa using hh
 have HH:=Zz.mk hh'
 clear hh
 go_upto_if 27 with (first
  | (go_at_call 66;refine (window_Check.calls x.f0 x.f1 _ _ HC.out).mono ?_;rw [hm];rintro e w3 ⟨rfl,hb⟩;have HB3:=Zz.mk (Zi HB2.out hb);have HX3:=Zz.mk ((hb.block _ (Zn HX2.out)).trans HX2.out);have HL3:=Zz.mk (HL2.out.below hb);have x0:w3.cell? ⟨w.heap.size,0,none⟩=some (.int .i64 x.f0):=(Zg HX3.out 0).trans rfl;have x1:w3.cell? ⟨w.heap.size,1,none⟩=some (.int .i64 x.f1):=(Zg HX3.out 1).trans rfl;clear hb HC)
  | (go_at_call 22;refine (Fits_calls g b all (Zy l) l x ⟨0,0⟩ _ HL3.out HA.out.1 (sz_mono (held_sz HA.out.2.1) (by omega))).mono ?_;rintro e w4 ⟨rfl,hb⟩;have HB4:=Zz.mk (Zi HB3.out hb);have HX4:=Zz.mk ((hb.block _ (Zn HX3.out)).trans HX3.out);have HL4:=Zz.mk (HL3.out.below hb);clear hb))
 clear HL2 HX2 HB2 HL3 HX3 HB3 x0 x1
 have x0:w4.cell? ⟨w.heap.size,0,none⟩=some (.int .i64 x.f0):=(Zg HX4.out 0).trans rfl
 have x1:w4.cell? ⟨w.heap.size,1,none⟩=some (.int .i64 x.f1):=(Zg HX4.out 1).trans rfl
 by_cases hf:fitsW all (Zy l) x ⟨0,0⟩=true
 case neg =>
  have hf':fitsW all (Zy l) x ⟨0,0⟩=false:=by simpa using hf
  have HE:=Zz.mk (show joinE all (Zy l) l z x=18 by unfold joinE;rw [if_neg (by simp [HM.out]),if_neg (by simp [HH.out]),if_pos hf'])
  rw [hf']
  clear hf hf' hm hh'
  go_wp2_with fail
  refine bodyPost_ret (results_tmp rfl _ _ _) rfl ⟨by rw [HE.out];rfl,?_,Kp.of HB4.out⟩
  unfold joinL
  rw [HE.out,if_neg (by decide)]
  exact HL4.out
 have HE:=Zz.mk (show joinE all (Zy l) l z x=0 by unfold joinE;rw [if_neg (by simp [HM.out]),if_neg (by simp [HH.out]),if_neg (by simp [hf])])
 have HGS:=Zz.mk (set_good (z:=z) (h:=⟨x.f0,x.f1,0,0,false⟩) HA.out.2.1 HA.out.2.2.1 ⟨may_ok HM.out,fun h=>by cases h⟩)
 rw [hf]
 clear hf hm hh'
 go_wp2_with (go_at_call 67;refine (puts_calls g b all (Zy l) l z ⟨x.f0,x.f1,0,0,false⟩ _ HL4.out HA.out.2.2.2 (by have:=HA.out.2.2.1;omega) HGS.out).mono ?_;rintro e w5 ⟨⟨v5,rfl⟩,hl5,hk5⟩;have HL5:=Zz.mk hl5;have HK5:=Zz.mk ((Kp.of HB4.out).trans hk5);clear hl5 hk5)
 refine bodyPost_ret (results_tmp rfl _ _ _) rfl ⟨by rw [HE.out];rfl,?_,HK5.out⟩
 unfold joinL
 rw [HE.out,if_pos rfl]
 exact HL5.out
end Go.Proofs.Ytfldklimlcnnnaa.XMeth
end

section
namespace Go.Proofs.Ytfldklimlcnnnaa.XAsk
open Go.RowKit Go.Shelf PHq YtfldklimlcnnnaaW.PrintWords YtfldklimlcnnnaaW.PrintLast YtfldklimlcnnnaaW.PrintMore MWords
open MNat QNat QText QEv QRatio XRV XHold XWts XLed XPuts XFits XJoin XMeth
def asks (h:Hd) (x:S34):Hd:=⟨h.e,h.p,x.f0,x.f1,true⟩
def askE (all q:Rat) (l:List (Int × Hd)) (z:Int) (x:S34):Int :=
 if mayW x=false then 1 else match getL l z with
  | none=>12
  | some h=>if h.a=true then 13 else if fitsQ all q (wt (hv (asks h x))) (wt (wN h))=false then 18 else 0
def askL (all q:Rat) (l:List (Int × Hd)) (z:Int) (x:S34):List (Int × Hd):=if askE all q l z x=0 then setL l z (asks ((getL l z).getD zeroH) x) else l
set_option maxRecDepth 100000 in
set_option maxHeartbeats 4000000 in
theorem ask_calls (g b:Nat) (all:Rat) (l:List (Int × Hd)) (z:Int) (x:S34) (w:World) (hL:Led w g b all (Zy l) l) (ha:Sz 3000 all) (hG:GoodL l) (hl:l.length<500) (hz:wfI z) :
    Calls Try.prog 28 #[.pointer (some ⟨g,0,none⟩),.int .i64 z,.agg #[.int .i64 x.f0,.int .i64 x.f1]] w fun e w'=>e=.returned (.int .i64 (askE all (Zy l) l z x))/\Led w' g b all (Zy (askL all (Zy l) l z x)) (askL all (Zy l) l z x)/\Kp g b w w':=by
  have mixed:Try.prog.follows Departure.mixedOrders=true:=by kernel_rfl
  obtain ⟨W0,hW0⟩:∃W0,W0=w.alloc (.cells #[.int .i64 x.f0,.int .i64 x.f1] 34):=⟨_,rfl⟩
  have hb0:Below w.heap.size w W0:=by rw [hW0];exact Zb (Below.refl _ _) _
  have HX0:=Zz.mk (show MBlk W0 w.heap.size 34 #[.int .i64 x.f0,.int .i64 x.f1] by rw [hW0];exact Zo _ _ _)
  have HB0:=Zz.mk hb0
  have HL0:=Zz.mk (hL.below hb0)
  have HA:=Zz.mk (And.intro ha (And.intro hG (And.intro hl hz)))
  have HC:=Zz.mk (wcheck_f x)
  clear hL hb0 ha hG hl hz
  go_enter Try.func28,Try.ntmps28
  go_upto_region 1 with fail
  rw [<-hW0]
  clear hW0
  have x0:W0.cell? ⟨w.heap.size,0,none⟩=some (.int .i64 x.f0):=(Zg HX0.out 0).trans rfl
  have x1:W0.cell? ⟨w.heap.size,1,none⟩=some (.int .i64 x.f1):=(Zg HX0.out 1).trans rfl
  by_cases hm:mayW x=true
  case neg =>
    have hm':mayW x=false:=by simpa using hm
    have HE:=Zz.mk (show askE all (Zy l) l z x=1 by unfold askE;rw [if_pos hm'])
    clear hm
    go_wp2_with (go_at_call 66;refine (window_Check.calls x.f0 x.f1 _ _ HC.out).mono ?_;rw [hm'];rintro e w3 ⟨rfl,hb⟩;have HB3:=Zz.mk hb;clear hb)
    refine bodyPost_ret (results_tmp rfl _ _ _) rfl ⟨by rw [HE.out];rfl,?_,(Kp.of HB0.out).trans (Kp.of HB3.out)⟩
    unfold askL
    rw [HE.out,if_neg (by decide)]
    exact HL0.out.below HB3.out
  have HM:=Zz.mk hm
  go_upto_region 3 with (go_at_call 66;refine (window_Check.calls x.f0 x.f1 _ _ HC.out).mono ?_;rw [hm];rintro e w1 ⟨rfl,hb⟩;have HB1:=Zz.mk (Zi HB0.out hb);have HX1:=Zz.mk ((hb.block _ (Zn HX0.out)).trans HX0.out);have HL1:=Zz.mk (HL0.out.below hb);clear hb)
  clear x0 x1 HX0 HL0 HB0 hm
  obtain ⟨h,hh⟩:∃h,h=(getL l z).getD zeroH:=⟨_,rfl⟩
  have hrun:=map_get HL1.out.map HA.out.2.2.2
  rw [<-hh] at hrun
  simp only [hdV] at hrun
  have HH:=Zz.mk hh
  obtain ⟨_,_,_,_,hM,_⟩:=HL1.out.cells
  have k1:w1.cell? ⟨g,2,none⟩=some (.map (some b)):=(Zg hM 2).trans rfl
  clear hM hh
  obtain ⟨w2,hw2⟩:∃w2,w2=w1.alloc (.cells #[.int .i64 h.e,.int .i64 h.p,.int .i64 h.e2,.int .i64 h.p2,.bool h.a] 102):=⟨_,rfl⟩
  have hb2:Below w1.heap.size w1 w2:=by rw [hw2];exact Zb (Below.refl _ _) _
  have HX2:=Zz.mk ((hb2.block _ (Zn HX1.out)).trans HX1.out)
  have HL2:=Zz.mk (HL1.out.below hb2)
  have HB2:=Zz.mk (Zi HB1.out hb2)
  have HH2:=Zz.mk (show MBlk w2 w1.heap.size 102 #[.int .i64 h.e,.int .i64 h.p,.int .i64 h.e2,.int .i64 h.p2,.bool h.a] by rw [hw2];exact Zo _ _ _)
  have HW2:=Zz.mk hw2
  clear hw2 hb2
  go_upto_region 4 with fail
  rw [<-HW2.out]
  clear HW2 hrun k1 HX1 HL1 HB1
  have hLE:∀v,askE all (Zy l) l z x=v->v≠0->askL all (Zy l) l z x=l:=fun v e hne=>by unfold askL;rw [e,if_neg hne]
  have HLE:=Zz.mk hLE
  clear hLE
  cases hgt:getL l z with
  | none =>
    have hno:=getL_none hgt
    have HE:=Zz.mk (show askE all (Zy l) l z x=12 by unfold askE;rw [if_neg (by simp [HM.out]),hgt])
    rw [hno]
    clear hno hgt
    go_wp2_with fail
    refine bodyPost_ret (results_tmp rfl _ _ _) rfl ⟨by rw [HE.out];rfl,?_,Kp.of HB2.out⟩
    rw [HLE.out 12 HE.out (by decide)]
    exact HL2.out
  | some h' =>
    obtain rfl:h=h':=by have:=HH.out;rw [hgt] at this;exact this
    have hyes:hasL l z=true:=by rw [getL_has,hgt];rfl
    rw [hyes]
    have HGT:=Zz.mk hgt
    have HOK:=Zz.mk (HA.out.2.1.ok _ (getL_mem hgt))
    clear hyes hgt
    have y0:w2.cell? ⟨w1.heap.size,0,none⟩=some (.int .i64 h.e):=(Zg HH2.out 0).trans rfl
    have y1:w2.cell? ⟨w1.heap.size,1,none⟩=some (.int .i64 h.p):=(Zg HH2.out 1).trans rfl
    have y4:w2.cell? ⟨w1.heap.size,4,none⟩=some (.bool h.a):=(Zg HH2.out 4).trans rfl
    have x0:w2.cell? ⟨w.heap.size,0,none⟩=some (.int .i64 x.f0):=(Zg HX2.out 0).trans rfl
    have x1:w2.cell? ⟨w.heap.size,1,none⟩=some (.int .i64 x.f1):=(Zg HX2.out 1).trans rfl
    by_cases ha:h.a=true
    · have HE:=Zz.mk (show askE all (Zy l) l z x=13 by unfold askE;rw [if_neg (by simp [HM.out]),HGT.out];exact if_pos ha)
      rw [ha] at y4
      go_wp2_with fail
      refine bodyPost_ret (results_tmp rfl _ _ _) rfl ⟨by rw [HE.out];rfl,?_,Kp.of HB2.out⟩
      rw [HLE.out 13 HE.out (by decide)]
      exact HL2.out
    have ha':h.a=false:=by simpa using ha
    have HNA:=Zz.mk ha'
    rw [ha'] at y4
    clear ha ha'
    obtain ⟨w3,hw3⟩:∃w3,w3=w2.alloc (.cells #[.int .i64 h.e,.int .i64 h.p,.int .i64 x.f0,.int .i64 x.f1,.bool true] 102):=⟨_,rfl⟩
    have hb3:Below w2.heap.size w2 w3:=by rw [hw3];exact Zb (Below.refl _ _) _
    have HL3:=Zz.mk (HL2.out.below hb3)
    have HB3:=Zz.mk (Zi HB2.out hb3)
    have HH3:=Zz.mk ((hb3.block _ (Zn HH2.out)).trans HH2.out)
    have HA3:=Zz.mk (show MBlk w3 w2.heap.size 102 #[.int .i64 h.e,.int .i64 h.p,.int .i64 x.f0,.int .i64 x.f1,.bool true] by rw [hw3];exact Zo _ _ _)
    have HW3:=Zz.mk hw3
    clear hw3 hb3
    go_upto_region 9 with fail
    rw [<-HW3.out]
    clear HW3 x0 x1 y0 y1 y4 HX2 HL2 HB2 HH2
    have hoka:okH (asks h x):=⟨HOK.out.1,fun _=>may_ok HM.out⟩
    obtain ⟨fv,hfv⟩:=(hv_t (asks h x) hoka).get
    obtain ⟨V,hV⟩:∃V,V=hv (asks h x):=⟨_,rfl⟩
    have hokV:okW V:=by rw [hV];exact hv_ok hoka
    rw [<-hV] at hfv
    have HFV:=Zz.mk (show hold_holder_holds.f fv h.e h.p x.f0 x.f1 true=some (V.f0,V.f1) from hfv)
    have HVV:=Zz.mk (And.intro hV hokV)
    obtain ⟨B,hB⟩:∃B,B=fitsQ all (Zy l) (mkRat (V.f0.toNat:Int) V.f1.toNat) (mkRat ((wN h).f0.toNat:Int) (wN h).f1.toNat):=⟨_,rfl⟩
    have HBQ:=Zz.mk hB
    have HOV:=Zz.mk (of_w V hokV)
    have HON:=Zz.mk (show ratio_Of.f h.e h.p=some (limbs (wN h).f0.toNat,limbs (wN h).f1.toNat) from of_w (wN h) HOK.out.1)
    obtain ⟨a1,e1⟩:∃a1,a1=limbs V.f0.toNat:=⟨_,rfl⟩
    obtain ⟨a2,e2⟩:∃a2,a2=limbs V.f1.toNat:=⟨_,rfl⟩
    obtain ⟨a3,e3⟩:∃a3,a3=limbs (wN h).f0.toNat:=⟨_,rfl⟩
    obtain ⟨a4,e4⟩:∃a4,a4=limbs (wN h).f1.toNat:=⟨_,rfl⟩
    rw [<-e1,<-e2] at HOV
    rw [<-e3,<-e4] at HON
    have HEQ:=Zz.mk (And.intro e1 (And.intro e2 (And.intro e3 e4)))
    clear hoka hfv hV hokV hB e1 e2 e3 e4
    go_cut [44] from 36 to 44 (fun v44 wc=>v44=.bool (!B)/\Zz (Below w.heap.size w wc)/\Zz (Led wc g b all (Zy l) l)/\Zz (MBlk wc w2.heap.size 102 #[.int .i64 h.e,.int .i64 h.p,.int .i64 x.f0,.int .i64 x.f1,.bool true]))
    case first =>
      have z0:w3.cell? ⟨w2.heap.size,0,none⟩=some (.int .i64 h.e):=(Zg HA3.out 0).trans rfl
      have z1:w3.cell? ⟨w2.heap.size,1,none⟩=some (.int .i64 h.p):=(Zg HA3.out 1).trans rfl
      have z2:w3.cell? ⟨w2.heap.size,2,none⟩=some (.int .i64 x.f0):=(Zg HA3.out 2).trans rfl
      have z3:w3.cell? ⟨w2.heap.size,3,none⟩=some (.int .i64 x.f1):=(Zg HA3.out 3).trans rfl
      have z4:w3.cell? ⟨w2.heap.size,4,none⟩=some (.bool true):=(Zg HA3.out 4).trans rfl
      have y0:w3.cell? ⟨w1.heap.size,0,none⟩=some (.int .i64 h.e):=(Zg HH3.out 0).trans rfl
      have y1:w3.cell? ⟨w1.heap.size,1,none⟩=some (.int .i64 h.p):=(Zg HH3.out 1).trans rfl
      go_region_law
        (first
          | (go_simp;go_at_call 76
             refine (XHolds.holds_calls fv h.e h.p x.f0 x.f1 true _ _ _ HFV.out).mono ?_
             rintro e w4 ⟨rfl,hb⟩
             have hb4:Below w3.heap.size w3 w4:=Zi (Zr (Below.refl _ _)) hb
             have HB4:=Zz.mk hb4
             have y0:w4.cell? ⟨w1.heap.size,0,none⟩=some (.int .i64 h.e):=(Zg ((hb4.block _ (Zn HH3.out)).trans HH3.out) 0).trans rfl
             have y1:w4.cell? ⟨w1.heap.size,1,none⟩=some (.int .i64 h.p):=(Zg ((hb4.block _ (Zn HH3.out)).trans HH3.out) 1).trans rfl
             clear hb hb4)
          | (go_simp;go_at_call 71
             refine (of_rv HOV.out).mono ?_
             rintro e w5 ⟨p1,p2,rfl,hp,hb⟩
             obtain ⟨S1,c1,S2,c2,rfl,rfl⟩:=hp.shape
             have hb5:Below w3.heap.size w3 w5:=Zi HB4.out hb
             have HB5:=Zz.mk hb5
             have HP5:=Zz.mk hp
             have y0:w5.cell? ⟨w1.heap.size,0,none⟩=some (.int .i64 h.e):=(Zg ((hb5.block _ (Zn HH3.out)).trans HH3.out) 0).trans rfl
             have y1:w5.cell? ⟨w1.heap.size,1,none⟩=some (.int .i64 h.p):=(Zg ((hb5.block _ (Zn HH3.out)).trans HH3.out) 1).trans rfl
             clear hp hb hb5 HOV)
          | (go_simp;go_at_call 71
             refine (of_rv HON.out).mono ?_
             rintro e w6 ⟨q1,q2,rfl,hq,hb⟩
             obtain ⟨T1,d1,T2,d2,rfl,rfl⟩:=hq.shape
             have HB6:=Zz.mk (Zi HB5.out hb)
             have HP6:=Zz.mk (HP5.out.below hb)
             have HQ6:=Zz.mk hq
             clear hq hb HON)
          | (go_simp;go_at_call 72
             refine (fitsW_calls g b all (Zy l) l (.slice S1 a1.length c1) (.slice S2 a2.length c2) (.slice T1 a3.length d1) (.slice T2 a4.length d2) V.f0.toNat V.f1.toNat (wN h).f0.toNat (wN h).f1.toNat w6 (HL3.out.below HB6.out) HA.out.1 (sz_mono (held_sz HA.out.2.1) (by omega)) (okW_F HVV.out.2).1 (okW_F HVV.out.2).2 (okW_pos HVV.out.2) (okW_F HOK.out.1).1 (okW_F HOK.out.1).2 (okW_pos HOK.out.1) (by rw [<-HEQ.out.1,<-HEQ.out.2.1];exact HP6.out) (by rw [<-HEQ.out.2.2.1,<-HEQ.out.2.2.2];exact HQ6.out)).mono ?_
             rintro e w7 ⟨he,hb⟩
             rw [<-HBQ.out] at he
             subst he
             have HB7:=Zz.mk (Zi HB6.out hb)
             clear hb))
      all_goals
        go_wp2_with fail
        go_meet
        case rel=>exact ⟨rfl,⟨Zi HB3.out HB7.out⟩,⟨HL3.out.below HB7.out⟩,⟨(HB7.out.block _ (Zn HA3.out)).trans HA3.out⟩⟩
    case rest =>
      obtain ⟨rfl,HB8,HL8,HA8⟩:=hcut
      have z0:wc.cell? ⟨w2.heap.size,0,none⟩=some (.int .i64 h.e):=(Zg HA8.out 0).trans rfl
      have z1:wc.cell? ⟨w2.heap.size,1,none⟩=some (.int .i64 h.p):=(Zg HA8.out 1).trans rfl
      have z2:wc.cell? ⟨w2.heap.size,2,none⟩=some (.int .i64 x.f0):=(Zg HA8.out 2).trans rfl
      have z3:wc.cell? ⟨w2.heap.size,3,none⟩=some (.int .i64 x.f1):=(Zg HA8.out 3).trans rfl
      have z4:wc.cell? ⟨w2.heap.size,4,none⟩=some (.bool true):=(Zg HA8.out 4).trans rfl
      have HEE:=Zz.mk (show askE all (Zy l) l z x=if B=false then 18 else 0 by
        unfold askE
        rw [if_neg (by simp [HM.out]),HGT.out,HBQ.out,HVV.out.1]
        exact if_neg (by simp [HNA.out]))
      cases hBB:B with
      | false =>
        have HE:=Zz.mk (show askE all (Zy l) l z x=18 by rw [HEE.out,if_pos hBB])
        clear hBB
        go_wp2_with fail
        refine bodyPost_ret (results_tmp rfl _ _ _) rfl ⟨by rw [HE.out];rfl,?_,Kp.of HB8.out⟩
        rw [HLE.out 18 HE.out (by decide)]
        exact HL8.out
      | true =>
        have HE:=Zz.mk (show askE all (Zy l) l z x=0 by rw [HEE.out,if_neg (by simp [hBB])])
        have HGS:=Zz.mk (set_good (z:=z) (h:=asks h x) HA.out.2.1 HA.out.2.2.1 ⟨HOK.out.1,fun _=>may_ok HM.out⟩)
        clear hBB
        go_wp2_with (go_at_call 67;refine (puts_calls g b all (Zy l) l z (asks h x) _ HL8.out HA.out.2.2.2 (by have:=HA.out.2.2.1;omega) HGS.out).mono ?_;rintro e w9 ⟨⟨v9,rfl⟩,hl9,hk9⟩;have HL9:=Zz.mk hl9;have HK9:=Zz.mk ((Kp.of HB8.out).trans hk9);clear hl9 hk9)
        refine bodyPost_ret (results_tmp rfl _ _ _) rfl ⟨by rw [HE.out];rfl,?_,HK9.out⟩
        unfold askL
        rw [HE.out,if_pos rfl,HGT.out]
        exact HL9.out
end Go.Proofs.Ytfldklimlcnnnaa.XAsk
end

section
namespace Go.Proofs.Ytfldklimlcnnnaa.XEnd
open Go.RowKit Go.Shelf PHq YtfldklimlcnnnaaW.PrintWords YtfldklimlcnnnaaW.PrintLast YtfldklimlcnnnaaW.PrintMore MWords
open MNat QNat QText QEv QRatio XRV XHold XWts XLed XPuts XFits XJoin XMeth XAsk
def settled (h:Hd):Hd:=⟨h.e2,h.p2,0,0,false⟩
def settleE (l:List (Int × Hd)) (z:Int):Int :=
 match getL l z with
 | none=>12
 | some h=>if h.a=true then 0 else 13
def settleL (l:List (Int × Hd)) (z:Int):List (Int × Hd):=if settleE l z=0 then setL l z (settled ((getL l z).getD zeroH)) else l
set_option maxRecDepth 100000 in
set_option maxHeartbeats 4000000 in
theorem settle_calls (g b:Nat) (all:Rat) (l:List (Int × Hd)) (z:Int) (w:World) (hL:Led w g b all (Zy l) l) (hG:GoodL l) (hl:l.length<500) (hz:wfI z) :
  Calls Try.prog 30 #[.pointer (some ⟨g,0,none⟩),.int .i64 z] w fun e w'=>e=.returned (.int .i64 (settleE l z))/\Led w' g b all (Zy (settleL l z)) (settleL l z)/\Kp g b w w':=by
 have HL1:=Zz.mk hL
 have HA:=Zz.mk (And.intro hG (And.intro hl hz))
 obtain ⟨h,hh⟩:∃h,h=(getL l z).getD zeroH:=⟨_,rfl⟩
 have hrun:=map_get hL.map hz
 rw [<-hh] at hrun
 simp only [hdV] at hrun
 have HH:=Zz.mk hh
 obtain ⟨_,_,_,_,hM,_⟩:=hL.cells
 have k1:w.cell? ⟨g,2,none⟩=some (.map (some b)):=(Zg hM 2).trans rfl
 clear hM hh
 obtain ⟨w2,hw2⟩:∃w2,w2=w.alloc (.cells #[.int .i64 h.e,.int .i64 h.p,.int .i64 h.e2,.int .i64 h.p2,.bool h.a] 102):=⟨_,rfl⟩
 have hb2:Below w.heap.size w w2:=by rw [hw2];exact Zb (Below.refl _ _) _
 have HL2:=Zz.mk (hL.below hb2)
 have HB2:=Zz.mk hb2
 have HH2:=Zz.mk (show MBlk w2 w.heap.size 102 #[.int .i64 h.e,.int .i64 h.p,.int .i64 h.e2,.int .i64 h.p2,.bool h.a] by rw [hw2];exact Zo _ _ _)
 have HW2:=Zz.mk hw2
 clear hL hG hl hz hw2 hb2
 go_enter Try.func30,Try.ntmps30
 go_upto_region 4 with fail
 rw [<-HW2.out]
 clear HW2 hrun k1 HL1
 have HLE:=Zz.mk (show ∀v,settleE l z=v->v≠0->settleL l z=l from fun v e hne=>by unfold settleL;rw [e,if_neg hne])
 cases hgt:getL l z with
 | none =>
  have hno:=getL_none hgt
  have HE:=Zz.mk (show settleE l z=12 by unfold settleE;rw [hgt])
  rw [hno]
  clear hno hgt
  go_wp2_with fail
  refine bodyPost_ret (results_tmp rfl _ _ _) rfl ⟨by rw [HE.out];rfl,?_,Kp.of HB2.out⟩
  rw [HLE.out 12 HE.out (by decide)]
  exact HL2.out
 | some h' =>
  obtain rfl:h=h':=by have:=HH.out;rw [hgt] at this;exact this
  have hyes:hasL l z=true:=by rw [getL_has,hgt];rfl
  rw [hyes]
  have HGT:=Zz.mk hgt
  have HOK:=Zz.mk (HA.out.1.ok _ (getL_mem hgt))
  clear hyes hgt
  have y2:w2.cell? ⟨w.heap.size,2,none⟩=some (.int .i64 h.e2):=(Zg HH2.out 2).trans rfl
  have y3:w2.cell? ⟨w.heap.size,3,none⟩=some (.int .i64 h.p2):=(Zg HH2.out 3).trans rfl
  have y4:w2.cell? ⟨w.heap.size,4,none⟩=some (.bool h.a):=(Zg HH2.out 4).trans rfl
  by_cases ha:h.a=true
  case neg =>
   have ha':h.a=false:=by simpa using ha
   have HE:=Zz.mk (show settleE l z=13 by unfold settleE;rw [HGT.out];exact if_neg ha)
   rw [ha'] at y4
   clear ha ha'
   go_wp2_with fail
   refine bodyPost_ret (results_tmp rfl _ _ _) rfl ⟨by rw [HE.out];rfl,?_,Kp.of HB2.out⟩
   rw [HLE.out 13 HE.out (by decide)]
   exact HL2.out
  have HE:=Zz.mk (show settleE l z=0 by unfold settleE;rw [HGT.out];exact if_pos ha)
  have HGS:=Zz.mk (set_good (z:=z) (h:=settled h) HA.out.1 HA.out.2.1 ⟨HOK.out.2 ha,fun h=>by cases h⟩)
  rw [ha] at y4
  clear ha
  go_wp2_with (go_at_call 67;refine (puts_calls g b all (Zy l) l z (settled h) _ HL2.out HA.out.2.2 (by have:=HA.out.2.1;omega) HGS.out).mono ?_;rintro e w9 ⟨⟨v9,rfl⟩,hl9,hk9⟩;have HL9:=Zz.mk hl9;have HK9:=Zz.mk ((Kp.of HB2.out).trans hk9);clear hl9 hk9)
  refine bodyPost_ret (results_tmp rfl _ _ _) rfl ⟨by rw [HE.out];rfl,?_,HK9.out⟩
  unfold settleL
  rw [HE.out,if_pos rfl,HGT.out]
  exact HL9.out
theorem map_del {W:World} {b:Nat} {l:List (Int × Hd)} (h:MapIs W b l) {x:Int} (hx:wfI x) :
  ∃w',(Builtin.delete_ #[94,3] 0 #[.map (some b),.int .i64 x]).run Try.prog W=.ok (.tuple #[]) w'/\MapIs w' b (delL l x)/\W.mapTurned w' b:=by
 obtain ⟨D,hD,hV⟩:=h
 obtain ⟨w',hrun,h1,h2⟩:=hD.drop keyed Try.underlying94 (key_of hx) 0
 have hv:=hV.del (hD.tidy keyed) x
 have h3:=own_size h1
 rw [hv.size] at h3
 exact ⟨w',hrun,⟨_,h3,hv⟩,h2⟩
def freeE (l:List (Int × Hd)) (z:Int):Int:=if hasL l z=true then 0 else 12
def freeL (l:List (Int × Hd)) (z:Int):List (Int × Hd):=if hasL l z=true then delL l z else l
theorem del_good {l:List (Int × Hd)} {z:Int} (hG:GoodL l):GoodL (delL l z) :=
 ⟨Nat.le_trans (List.length_filter_le _ _) hG.len,fun y hy=>hG.ok y (List.mem_filter.1 hy).1⟩
set_option maxRecDepth 100000 in
set_option maxHeartbeats 4000000 in
theorem free_calls (g b:Nat) (all:Rat) (l:List (Int × Hd)) (z:Int) (w:World) (hL:Led w g b all (Zy l) l) (hG:GoodL l) (hz:wfI z) :
  Calls Try.prog 25 #[.pointer (some ⟨g,0,none⟩),.int .i64 z] w fun e w'=>e=.returned (.int .i64 (freeE l z))/\Led w' g b all (Zy (freeL l z)) (freeL l z)/\Kp g b w w':=by
 have HL0:=Zz.mk hL
 have HA:=Zz.mk (And.intro hG hz)
 obtain ⟨h,hh⟩:∃h,h=(getL l z).getD zeroH:=⟨_,rfl⟩
 have HH:=Zz.mk hh
 clear hL hG hz hh
 go_enter Try.func25,Try.ntmps25
 go_upto_region 2 with (go_at_call 27;refine (of_calls g b all (Zy l) l z h _ HL0.out HA.out.2 HH.out).mono ?_;rintro e w1 ⟨rfl,hb⟩;have HB1:=Zz.mk hb;clear hb)
 obtain ⟨w2,hw2⟩:∃w2,w2=(w1.alloc (.cells #[.int .i64 h.e,.int .i64 h.p] 34)).alloc (.cells #[.int .i64 h.e2,.int .i64 h.p2] 34):=⟨_,rfl⟩
 have hb2:Below w.heap.size w w2:=by rw [hw2];exact Zb (Zb HB1.out _) _
 have HL2:=Zz.mk (HL0.out.below hb2)
 have HB2:=Zz.mk hb2
 rw [<-hw2]
 clear hw2 hb2 HB1 HL0 HH
 by_cases hs:hasL l z=true
 case neg =>
  have hs':hasL l z=false:=by simpa using hs
  have HE:=Zz.mk (show freeE l z=12/\freeL l z=l by unfold freeE freeL;exact ⟨if_neg hs,if_neg hs⟩)
  rw [hs']
  clear hs hs'
  go_wp2_with fail
  refine bodyPost_ret (results_tmp rfl _ _ _) rfl ⟨by rw [HE.out.1];rfl,?_,Kp.of HB2.out⟩
  rw [HE.out.2]
  exact HL2.out
 have HE:=Zz.mk (show freeE l z=0/\freeL l z=delL l z by unfold freeE freeL;exact ⟨if_pos hs,if_pos hs⟩)
 rw [hs]
 clear hs
 obtain ⟨_,_,_,_,hM,_⟩:=HL2.out.cells
 have k1:w2.cell? ⟨g,2,none⟩=some (.map (some b)):=(Zg hM 2).trans rfl
 obtain ⟨w3,hrun,hm3,ht3⟩:=map_del HL2.out.map HA.out.2
 have HL3:=Zz.mk (led_turn HL2.out hm3 ht3)
 have HK3:=Zz.mk ((Kp.of HB2.out).trans (kp_turn (g:=g) ht3))
 have HGD:=Zz.mk (del_good (z:=z) HA.out.1)
 clear hM hm3 ht3
 go_upto_region 7 with fail
 go_wp2_with (go_at_call 74;refine (counts_calls g b all (Zy l) _ _ HL3.out HGD.out).mono ?_;rintro e w9 ⟨⟨v9,rfl⟩,hl9,hk9⟩;have HL9:=Zz.mk hl9;have HK9:=Zz.mk (HK3.out.trans hk9);clear hl9 hk9)
 refine bodyPost_ret (results_tmp rfl _ _ _) rfl ⟨by rw [HE.out.1];rfl,?_,HK9.out⟩
 rw [HE.out.2]
 exact HL9.out
end Go.Proofs.Ytfldklimlcnnnaa.XEnd
end

section
namespace Go.Proofs.Ytfldklimlcnnnaa.XTCl
open Go.RowKit PHq YtfldklimlcnnnaaW.PrintWords YtfldklimlcnnnaaW.PrintLast YtfldklimlcnnnaaW.PrintMore MWords
open MNat QRatio XRV XHold XLed XTree XAllW XMeth XAsk XEnd
def bxI (k:Nat) (z:Int):Nat × TypeId × Array Value:=(k,3,#[.int .i64 z])
def bxW (k:Nat) (x:S34):Nat × TypeId × Array Value:=(k,34,#[.int .i64 x.f0,.int .i64 x.f1])
theorem bxI_ty (k:Nat) (z:Int):(bxI k z).2.1≠97:=by show 3≠97;decide
theorem bxW_ty (k:Nat) (x:S34):(bxW k x).2.1≠97:=by show 34≠97;decide
def PaL (all:Rat) (l:List (Int × Hd)):Prop:=Sz 3000 all/\GoodL l/\l.length<500
def PuL (all:Rat) (l:List (Int × Hd)):Prop:=GoodL l
set_option maxRecDepth 100000 in
set_option maxHeartbeats 2000000 in
theorem join1 (k1 k2:Nat) (z:Int) (x:S34) (hz:wfI z):LedCall 87 (fun p=>#[p,.pointer (some ⟨k1,0,none⟩),.pointer (some ⟨k2,0,none⟩)]) [bxI k1 z,bxW k2 x] (fun all l=>joinE all (Zy l) l z x) (fun all l=>joinL all (Zy l) l z x) PaL:=by
 intro g b all l W hok hL hP
 have m1:MBlk W k1 3 #[.int .i64 z]:=hok (bxI k1 z) (by simp)
 have m2:MBlk W k2 34 #[.int .i64 x.f0,.int .i64 x.f1]:=hok (bxW k2 x) (by simp)
 have c1:W.cell? ⟨k1,0,none⟩=some (.int .i64 z):=(Zg m1 0).trans rfl
 have c2:W.cell? ⟨k2,0,none⟩=some (.int .i64 x.f0):=(Zg m2 0).trans rfl
 have c3:W.cell? ⟨k2,1,none⟩=some (.int .i64 x.f1):=(Zg m2 1).trans rfl
 have HC:=Zz.mk (join_calls g b all l z x W hL hP.1 hP.2.1 hP.2.2 hz)
 clear hok hL hP m1 m2 hz
 show Calls _ _ #[_,_,_] _ _
 go_enter Try.func87,Try.ntmps87
 go_wp2_with fail
 refine HC.out.mono ?_
 rintro e w1 ⟨rfl,h⟩
 have H:=Zz.mk h
 clear h HC
 go_wp2_with fail
 go_ret
 exact ⟨rfl,H.out⟩
set_option maxRecDepth 100000 in
set_option maxHeartbeats 2000000 in
theorem join2 (k1:Nat) (z:Int) (bx:List (Nat × TypeId × Array Value)) (hbx:bxI k1 z∈bx) (hz:wfI z):LedCall 88 (fun p=>#[p,.pointer (some ⟨k1,0,none⟩)]) bx (fun _ l=>freeE l z) (fun _ l=>freeL l z) PuL:=by
 intro g b all l W hok hL hP
 have m1:MBlk W k1 3 #[.int .i64 z]:=hok (bxI k1 z) hbx
 have c1:W.cell? ⟨k1,0,none⟩=some (.int .i64 z):=(Zg m1 0).trans rfl
 have HC:=Zz.mk (free_calls g b all l z W hL hP hz)
 clear hok hL hP m1 hz hbx
 show Calls _ _ #[_,_] _ _
 go_enter Try.func88,Try.ntmps88
 go_wp2_with fail
 refine HC.out.mono ?_
 rintro e w1 ⟨rfl,h⟩
 have H:=Zz.mk h
 clear h HC
 go_wp2_with fail
 go_ret
 exact ⟨rfl,H.out⟩
set_option maxRecDepth 100000 in
set_option maxHeartbeats 2000000 in
theorem ask2 (k1 k2:Nat) (z:Int) (x:S34) (bx:List (Nat × TypeId × Array Value)) (hb1:bxI k1 z∈bx) (hb2:bxW k2 x∈bx) (hz:wfI z):LedCall 91 (fun p=>#[p,.pointer (some ⟨k1,0,none⟩),.pointer (some ⟨k2,0,none⟩)]) bx (fun all l=>askE all (Zy l) l z x) (fun all l=>askL all (Zy l) l z x) PaL:=by
 intro g b all l W hok hL hP
 have m1:MBlk W k1 3 #[.int .i64 z]:=hok (bxI k1 z) hb1
 have m2:MBlk W k2 34 #[.int .i64 x.f0,.int .i64 x.f1]:=hok (bxW k2 x) hb2
 have c1:W.cell? ⟨k1,0,none⟩=some (.int .i64 z):=(Zg m1 0).trans rfl
 have c2:W.cell? ⟨k2,0,none⟩=some (.int .i64 x.f0):=(Zg m2 0).trans rfl
 have c3:W.cell? ⟨k2,1,none⟩=some (.int .i64 x.f1):=(Zg m2 1).trans rfl
 have HC:=Zz.mk (ask_calls g b all l z x W hL hP.1 hP.2.1 hP.2.2 hz)
 clear hok hL hP m1 m2 hz hb1 hb2
 show Calls _ _ #[_,_,_] _ _
 go_enter Try.func91,Try.ntmps91
 go_wp2_with fail
 refine HC.out.mono ?_
 rintro e w1 ⟨rfl,h⟩
 have H:=Zz.mk h
 clear h HC
 go_wp2_with fail
 go_ret
 exact ⟨rfl,H.out⟩
def backE (all:Rat) (l:List (Int × Hd)) (z:Int) (x:S34):Int:=joinE all (Zy (freeL l z)) (freeL l z) z x
def backL (all:Rat) (l:List (Int × Hd)) (z:Int) (x:S34):List (Int × Hd):=joinL all (Zy (freeL l z)) (freeL l z) z x
theorem free_good {l:List (Int × Hd)} {z:Int} (hG:GoodL l):GoodL (freeL l z):=by
 unfold freeL
 split
 ·exact del_good hG
 ·exact hG
theorem free_len (l:List (Int × Hd)) (z:Int):(freeL l z).length<=l.length:=by
 unfold freeL delL
 split
 ·exact List.length_filter_le _ _
 ·exact Nat.le_refl _
theorem mblk_kp {W W':World} {g b:Nat} {all q:Rat} {l:List (Int × Hd)} (hL:Led W g b all q l) (hk:Kp g b W W') {k:Nat} {T:TypeId} {cs:Array Value} (hb:MBlk W k T cs) (hT:T≠97):MBlk W' k T cs:=by
 obtain ⟨⟨cg,h1⟩,es,c,h2⟩:=Led.blk hL
 refine (hk.same k (Zn hb) (fun e=>?_) (fun e=>?_)).trans hb
 ·rw [e] at hb
  rw [show W.heap[g]? = _ from hb] at h1
  cases h1
  exact hT rfl
 ·rw [e] at hb
  rw [show W.heap[b]? = _ from hb] at h2
  cases h2
set_option maxRecDepth 100000 in
set_option maxHeartbeats 2000000 in
theorem ask1 (k1 k3:Nat) (z:Int) (x:S34) (bx:List (Nat × TypeId × Array Value)) (hb1:bxI k1 z∈bx) (hb2:bxW k3 x∈bx) (hz:wfI z):LedCall 90 (fun p=>#[p,.pointer (some ⟨k1,0,none⟩),.pointer (some ⟨k3,0,none⟩)]) bx (fun all l=>backE all l z x) (fun all l=>backL all l z x) PaL:=by
 intro g b all l W hok hL hP
 have m1:MBlk W k1 3 #[.int .i64 z]:=hok (bxI k1 z) hb1
 have m2:MBlk W k3 34 #[.int .i64 x.f0,.int .i64 x.f1]:=hok (bxW k3 x) hb2
 have c1:W.cell? ⟨k1,0,none⟩=some (.int .i64 z):=(Zg m1 0).trans rfl
 have HL:=Zz.mk hL
 have HM:=Zz.mk (And.intro m1 m2)
 have HP:=Zz.mk (And.intro hP hz)
 clear hok hL hP m1 m2 hz hb1 hb2
 show Calls _ _ #[_,_,_] _ _
 go_enter Try.func90,Try.ntmps90
 go_wp2_with fail
 refine (free_calls g b all l z W HL.out HP.out.1.2.1 HP.out.2).mono ?_
 rintro e w1 ⟨rfl,hL1,hK1⟩
 have HM1:=Zz.mk (And.intro (mblk_kp HL.out hK1 HM.out.1 (by decide)) (mblk_kp HL.out hK1 HM.out.2 (by decide)))
 have HL1:=Zz.mk (And.intro hL1 hK1)
 have c4:w1.cell? ⟨k1,0,none⟩=some (.int .i64 z):=(Zg HM1.out.1 0).trans rfl
 have c2:w1.cell? ⟨k3,0,none⟩=some (.int .i64 x.f0):=(Zg HM1.out.2 0).trans rfl
 have c3:w1.cell? ⟨k3,1,none⟩=some (.int .i64 x.f1):=(Zg HM1.out.2 1).trans rfl
 clear hL1 hK1
 go_wp2_with fail
 refine (join_calls g b all (freeL l z) z x w1 HL1.out.1 HP.out.1.1 (free_good HP.out.1.2.1) (Nat.lt_of_le_of_lt (free_len l z) HP.out.1.2.2) HP.out.2).mono ?_
 rintro e w2 ⟨rfl,hL2,hK2⟩
 have H:=Zz.mk (And.intro hL2 (HL1.out.2.trans hK2))
 clear hL2 hK2
 go_wp2_with fail
 go_ret
 exact ⟨rfl,H.out⟩
set_option maxRecDepth 100000 in
set_option maxHeartbeats 2000000 in
theorem settle1 (k1:Nat) (z:Int) (hz:wfI z):LedCall 94 (fun p=>#[p,.pointer (some ⟨k1,0,none⟩)]) [bxI k1 z] (fun _ l=>settleE l z) (fun _ l=>settleL l z) PaL:=by
 intro g b all l W hok hL hP
 have m1:MBlk W k1 3 #[.int .i64 z]:=hok (bxI k1 z) (by simp)
 have c1:W.cell? ⟨k1,0,none⟩=some (.int .i64 z):=(Zg m1 0).trans rfl
 have HC:=Zz.mk (settle_calls g b all l z W hL hP.2.1 hP.2.2 hz)
 clear hok hL hP m1 hz
 show Calls _ _ #[_,_] _ _
 go_enter Try.func94,Try.ntmps94
 go_wp2_with fail
 refine HC.out.mono ?_
 rintro e w1 ⟨rfl,h⟩
 have H:=Zz.mk h
 clear h HC
 go_wp2_with fail
 go_ret
 exact ⟨rfl,H.out⟩
set_option maxRecDepth 100000 in
set_option maxHeartbeats 2000000 in
theorem free1 (k1:Nat) (z:Int) (hz:wfI z):LedCall 95 (fun p=>#[p,.pointer (some ⟨k1,0,none⟩)]) [bxI k1 z] (fun _ l=>freeE l z) (fun _ l=>freeL l z) PaL:=by
 intro g b all l W hok hL hP
 have m1:MBlk W k1 3 #[.int .i64 z]:=hok (bxI k1 z) (by simp)
 have c1:W.cell? ⟨k1,0,none⟩=some (.int .i64 z):=(Zg m1 0).trans rfl
 have HC:=Zz.mk (free_calls g b all l z W hL hP.2.1 hz)
 clear hok hL hP m1 hz
 show Calls _ _ #[_,_] _ _
 go_enter Try.func95,Try.ntmps95
 go_wp2_with fail
 refine HC.out.mono ?_
 rintro e w1 ⟨rfl,h⟩
 have H:=Zz.mk h
 clear h HC
 go_wp2_with fail
 go_ret
 exact ⟨rfl,H.out⟩
end Go.Proofs.Ytfldklimlcnnnaa.XTCl
end

section
namespace Go.Proofs.Ytfldklimlcnnnaa.XAwake
open Go.RowKit Go.Shelf PHq YtfldklimlcnnnaaW.PrintWords YtfldklimlcnnnaaW.PrintLast YtfldklimlcnnnaaW.PrintMore MWords
open MNat QNat QText QEv QRatio XRV XHold XWts XLed XPuts XFits XJoin XMeth XAsk XEnd
theorem F_u64 {n:Nat} (h:n<18446744073709551616):F 2 n:=by unfold F;simpa using h
end Go.Proofs.Ytfldklimlcnnnaa.XAwake
end

section
namespace Go.Proofs.Ytfldklimlcnnnaa.QHold
open Go.RowKit Go.Shelf PHq YtfldklimlcnnnaaW.PrintWords YtfldklimlcnnnaaW.PrintLast YtfldklimlcnnnaaW.PrintMore MWords
open MNat QNat QText QEv QRatio XRV XHold XWts XLed XPuts XFits XJoin XMeth XAsk XEnd XAwake
theorem held_app (a b:List (Int × Hd)):Zy (a++b)=Zy a+Zy b:=by
 unfold Zy
 rw [List.map_append,sumR_append]
theorem held_cons (y:Int × Hd) (a:List (Int × Hd)):Zy (y::a)=wt (hv y.2)+Zy a:=rfl
theorem wt_nonneg (x:S34):0<=wt x:=mk_nonneg _ _
theorem held_nonneg:∀l:List (Int × Hd),0<=Zy l
 | []=>Rat.le_refl
 | y::l=>Rat.add_nonneg (wt_nonneg _) (held_nonneg l)
theorem set_new {l:List (Int × Hd)} {z:Int} (h:hasL l z=false) (k:Hd):setL l z k=l++[(z,k)]:=by
 unfold setL
 rw [if_neg (by simp [h])]
def NodK (l:List (Int × Hd)):Prop:=(l.map (·.1)).Nodup
theorem get_split {l:List (Int × Hd)} (hn:NodK l) {z:Int} {h:Hd} (e:getL l z=some h):∃a b,l=a++(z,h)::b/\(∀y∈a,y.1≠z)/\∀y∈b,y.1≠z:=by
 obtain ⟨a,b,rfl⟩:=List.append_of_mem (getL_mem e)
 refine ⟨a,b,rfl,fun y hy hz=>?_,fun y hy hz=>?_⟩
 ·unfold NodK at hn
  rw [List.map_append,List.nodup_append] at hn
  exact hn.2.2 y.1 (List.mem_map.2 ⟨y,hy,rfl⟩) z (by simp) hz
 ·unfold NodK at hn
  rw [List.map_append,List.nodup_append] at hn
  have:=hn.2.1
  rw [List.map_cons,List.nodup_cons] at this
  exact this.1 (List.mem_map.2 ⟨y,hy,hz⟩)
theorem map_far {a:List (Int × Hd)} {z:Int} (h:∀y∈a,y.1≠z) (k:Hd):a.map (fun y=>if y.1=z then (z,k) else y)=a:=by
 induction a with
 | nil=>rfl
 | cons y a ih =>
  rw [List.map_cons,if_neg (h y (by simp)),ih (fun x hx=>h x (by simp [hx]))]
theorem filter_far {a:List (Int × Hd)} {z:Int} (h:∀y∈a,y.1≠z):a.filter (fun y=>decide (y.1≠z))=a:=by
 rw [List.filter_eq_self]
 intro y hy
 simpa using h y hy
theorem set_split {l:List (Int × Hd)} (hn:NodK l) {z:Int} {h:Hd} (e:getL l z=some h) (k:Hd):∃a b,l=a++(z,h)::b/\setL l z k=a++(z,k)::b/\delL l z=a++b:=by
 obtain ⟨a,b,rfl,ha,hb⟩:=get_split hn e
 refine ⟨a,b,rfl,?_,?_⟩
 ·unfold setL
  rw [if_pos (by rw [getL_has,e];rfl),List.map_append,List.map_cons,map_far ha,map_far hb]
  simp
 ·unfold delL
  rw [List.filter_append,List.filter_cons,filter_far ha,filter_far hb]
  simp
theorem held_old {l:List (Int × Hd)} (hn:NodK l) {z:Int} {h:Hd} (e:getL l z=some h) (k:Hd):Zy (setL l z k)+wt (hv h)=Zy l+wt (hv k):=by
 obtain ⟨a,b,h1,h2,_⟩:=set_split hn e k
 rw [h2,h1,held_app,held_app,held_cons,held_cons]
 show Zy a+(wt (hv k)+Zy b)+wt (hv h)=Zy a+(wt (hv h)+Zy b)+wt (hv k)
 generalize Zy a=A
 generalize Zy b=B
 generalize wt (hv h)=X
 generalize wt (hv k)=Y
 grind
theorem held_gone {l:List (Int × Hd)} (hn:NodK l) {z:Int} {h:Hd} (e:getL l z=some h):Zy (delL l z)+wt (hv h)=Zy l:=by
 obtain ⟨a,b,h1,_,h2⟩:=set_split hn e h
 rw [h2,h1,held_app,held_app,held_cons]
 show Zy a+Zy b+wt (hv h)=Zy a+(wt (hv h)+Zy b)
 rw [Rat.add_assoc,Rat.add_comm (Zy b)]
theorem held_szN {l:List (Int × Hd)} (hG:GoodL l):Sz (1+2*l.length) (Zy l):=by
 have h:=(sum_t (l.map fun z=>hv z.2) (by rw [List.length_map];have:=hG.len;omega) (fun z hz=>by
  obtain ⟨y,hy,rfl⟩:=List.mem_map.1 hz
  exact hv_ok (hG.ok y hy))).2
 rwa [List.length_map] at h
theorem fits_new {all q:Rat} {x:S34} (hq:0<=q) (hm:mayW x=true):fitsW all q x ⟨0,0⟩=decide (q+wt x<=all):=by
 unfold fitsW fitsQ
 rw [hm,if_neg (by decide),Bool.true_and,show q+wt x-0=q+wt x by grind,decide_eq_true (Rat.add_nonneg hq (wt_nonneg x)),Bool.true_and]
theorem join_new {all q:Rat} {l:List (Int × Hd)} {z:Int} {x:S34} (hq:0<=q) (hm:mayW x=true) (hz:hasL l z=false) :
  joinE all q l z x=if q+wt x<=all then 0 else 18:=by
 unfold joinE
 rw [if_neg (by simp [hm]),if_neg (by simp [hz]),fits_new hq hm]
 by_cases h:q+wt x<=all
 ·rw [decide_eq_true h,if_neg (by decide),if_pos h]
 ·rw [decide_eq_false h,if_pos rfl,if_neg h]
theorem hv_plain {h:Hd} (ha:h.a=false):hv h=wN h:=by
 unfold hv
 rw [if_neg (by simp [ha])]
theorem hv_next {h:Hd} (ha:h.a=true):wt (wX h)<=wt (hv h):=by
 unfold hv
 by_cases hl:wt (wN h)<wt (wX h)
 ·rw [if_pos ⟨ha,hl⟩]
  exact Rat.le_refl
 ·rw [if_neg (fun c=>hl c.2)]
  exact Rat.not_lt.1 hl
theorem joinL_same {all q:Rat} {l:List (Int × Hd)} {z:Int} {x:S34} (h:joinE all q l z x≠0):joinL all q l z x=l:=by unfold joinL;rw [if_neg h]
theorem askL_same {all q:Rat} {l:List (Int × Hd)} {z:Int} {x:S34} (h:askE all q l z x≠0):askL all q l z x=l:=by unfold askL;rw [if_neg h]
theorem settleL_same {l:List (Int × Hd)} {z:Int} (h:settleE l z≠0):settleL l z=l:=by unfold settleL;rw [if_neg h]
end Go.Proofs.Ytfldklimlcnnnaa.QHold
end

section
namespace Go.Proofs.Ytfldklimlcnnnaa.QTr
open Go.RowKit PHq YtfldklimlcnnnaaW.PrintWords YtfldklimlcnnnaaW.PrintLast YtfldklimlcnnnaaW.PrintMore MWords
open MNat QRatio XRV XHold XWts XLed XFits XJoin XMeth XAsk XEnd QHold XTree QTree XTCl XAllW XOf
section
variable {l m:List (Int × Hd)}
theorem hasL_perm (h:l.Perm m) (z:Int):hasL l z=hasL m z:=by
 unfold hasL
 rw [Bool.eq_iff_iff,List.any_eq_true,List.any_eq_true]
 exact ⟨fun ⟨y,hy,e⟩=>⟨y,h.mem_iff.1 hy,e⟩,fun ⟨y,hy,e⟩=>⟨y,h.mem_iff.2 hy,e⟩⟩
theorem nodk_perm (h:l.Perm m) (hn:NodK m):NodK l:=by
 show (l.map fun y=>y.1).Nodup
 exact (h.map (fun y:Int × Hd=>y.1)).nodup_iff.2 hn
theorem getL_eq {z:Int} {k:Hd} (hn:NodK l) (hm:(z,k)∈l):getL l z=some k:=by
 cases e:getL l z with
 | none =>
  have:=getL_none e
  unfold hasL at this
  rw [List.any_eq_false] at this
  exact absurd (by simp:decide (((z,k):Int × Hd).1=z)=true) (this _ hm)
 | some y=>rw [mem_unique hn (getL_mem e) hm]
theorem getL_perm (h:l.Perm m) (hn:NodK m) (z:Int):getL l z=getL m z:=by
 cases e:getL m z with
 | none =>
  have h1:=getL_none e
  rw [<-hasL_perm h,getL_has] at h1
  exact Option.isSome_eq_false_iff.1 h1 |> Option.isNone_iff_eq_none.1
 | some y=>exact getL_eq (nodk_perm h hn) (h.mem_iff.2 (getL_mem e))
theorem held_perm (h:l.Perm m):Zy l=Zy m:=perm_sum (h.map fun z=>hv z.2)
theorem setL_perm (h:l.Perm m) (z:Int) (k:Hd):(setL l z k).Perm (setL m z k):=by
 unfold setL
 rw [hasL_perm h]
 split
 ·exact h.map _
 ·exact h.append_right _
theorem delL_perm (h:l.Perm m) (z:Int):(delL l z).Perm (delL m z):=h.filter _
theorem joinE_perm (h:l.Perm m) (all:Rat) (z:Int) (x:S34):joinE all (Zy l) l z x=joinE all (Zy m) m z x:=by
 unfold joinE
 rw [held_perm h,hasL_perm h]
theorem good_perm (h:l.Perm m) (hG:GoodL m):GoodL l:=⟨by rw [h.length_eq];exact hG.len,fun z hz=>hG.ok z (h.mem_iff.1 hz)⟩
end
structure Hol where
 id:Int
 srv:Int
 hd:Hd
def onB (sv:List S71) (s:Int) (x:Hol):Bool:=decide (s∈Z0 sv x.srv)
def sub (sv:List S71) (H:List Hol) (s:Int):List (Int × Hd):=(H.filter (onB sv s)).map fun x=>(x.id,x.hd)
def heldH (sv:List S71) (H:List Hol) (s:Int):Rat:=Zy (sub sv H s)
def hasH (H:List Hol) (z:Int):Bool:=H.any fun x=>decide (x.id=z)
def getH (H:List Hol) (z:Int):Option Hol:=H.find? fun x=>decide (x.id=z)
def setH (H:List Hol) (z:Int) (k:Hd):List Hol:=H.map fun x=>if x.id=z then ⟨z,x.srv,k⟩ else x
def delH (H:List Hol) (z:Int):List Hol:=H.filter fun x=>decide (x.id≠z)
structure OkHol (x:Hol):Prop where
 ok:okH x.hd
 cl:x.hd.a=false->x.hd.e2=0/\x.hd.p2=0
 now:mayW (wN x.hd)=true
 nxt:x.hd.a=true->mayW (wX x.hd)=true
 wf:wfI x.id
structure Inv (sv:List S71) (al:Int->Rat) (at_:List (Int × Int)) (ls:Int->List (Int × Hd)) (H:List Hol) (m:Nat):Prop where
 at_:at_.Perm (H.map fun x=>(x.id,x.srv))
 ls:∀s,inR sv.length s->(ls s).Perm (sub sv H s)
 nod:(H.map (·.id)).Nodup
 srv:∀x∈H,inR sv.length x.srv
 ok:∀x∈H,OkHol x
 len:H.length<=m
 le:∀s,inR sv.length s->heldH sv H s<=al s
 sz:∀s,inR sv.length s->Sz 3000 (al s)
section
variable {sv:List S71} {al:Int->Rat} {at_:List (Int × Int)} {ls:Int->List (Int × Hd)} {H:List Hol} {m:Nat}
theorem sub_nod (h:(H.map (·.id)).Nodup) (s:Int):NodK (sub sv H s):=by
 unfold NodK sub
 rw [List.map_map]
 exact (h.sublist (List.Sublist.map _ List.filter_sublist))
theorem sub_len (s:Int):(sub sv H s).length<=H.length:=by
 unfold sub
 rw [List.length_map]
 exact List.length_filter_le _ _
theorem sub_mem {s:Int} {y:Int × Hd} : y∈sub sv H s ↔ ∃x∈H,onB sv s x=true/\y=(x.id,x.hd):=by
 unfold sub
 rw [List.mem_map]
 constructor
 ·rintro ⟨x,hx,rfl⟩
  rw [List.mem_filter] at hx
  exact ⟨x,hx.1,hx.2,rfl⟩
 ·rintro ⟨x,hx,h,rfl⟩
  exact ⟨x,List.mem_filter.2 ⟨hx,h⟩,rfl⟩
theorem sub_has {s z:Int} : hasL (sub sv H s) z=true ↔ ∃x∈H,x.id=z/\onB sv s x=true:=by
 unfold hasL
 rw [List.any_eq_true]
 constructor
 ·rintro ⟨y,hy,e⟩
  obtain ⟨x,hx,h,rfl⟩:=sub_mem.1 hy
  exact ⟨x,hx,by simpa using e,h⟩
 ·rintro ⟨x,hx,e,h⟩
  exact ⟨_,sub_mem.2 ⟨x,hx,h,rfl⟩,by simpa using e⟩
theorem hasH_iff {z:Int} : hasH H z=true ↔ ∃x∈H,x.id=z:=by
 unfold hasH
 rw [List.any_eq_true]
 simp
theorem sub_no {z:Int} (h:hasH H z=false) (s:Int):hasL (sub sv H s) z=false:=by
 cases e:hasL (sub sv H s) z with
 | false=>rfl
 | true =>
  obtain ⟨x,hx,e,_⟩:=sub_has.1 e
  have:=hasH_iff.2 ⟨x,hx,e⟩
  rw [h] at this
  cases this
theorem hol_unique (hn:(H.map (·.id)).Nodup) {x y:Hol} (hx:x∈H) (hy:y∈H) (e:x.id=y.id):x=y:=by
 induction H with
 | nil=>cases hx
 | cons a H ih =>
  rw [List.map_cons,List.nodup_cons] at hn
  rcases List.mem_cons.1 hx with rfl|hx'
  ·rcases List.mem_cons.1 hy with rfl|hy'
   ·rfl
   ·exact absurd (List.mem_map.2 ⟨y,hy',e.symm⟩:x.id∈List.map (fun x=>x.id) H) hn.1
  ·rcases List.mem_cons.1 hy with rfl|hy'
   ·exact absurd (List.mem_map.2 ⟨x,hx',e⟩:y.id∈List.map (fun x=>x.id) H) hn.1
   ·exact ih hn.2 hx' hy'
theorem sub_get (hn:(H.map (·.id)).Nodup) {x:Hol} (hx:x∈H) {s:Int} (h:onB sv s x=true):getL (sub sv H s) x.id=some x.hd:=getL_eq (sub_nod hn s) (sub_mem.2 ⟨x,hx,h,rfl⟩)
theorem sub_app (x:Hol) (s:Int):sub sv (H++[x]) s=if onB sv s x=true then sub sv H s++[(x.id,x.hd)] else sub sv H s:=by
 unfold sub
 rw [List.filter_append,List.map_append]
 by_cases h:onB sv s x=true
 ·rw [if_pos h,List.filter_cons,if_pos h];rfl
 ·rw [if_neg h,List.filter_cons,if_neg h];simp
theorem sub_set (z:Int) (k:Hd) (s:Int):sub sv (setH H z k) s=(sub sv H s).map fun y=>if y.1=z then (z,k) else y:=by
 unfold sub setH
 induction H with
 | nil=>rfl
 | cons a H ih =>
  rw [List.map_cons,List.filter_cons,List.filter_cons]
  have e1:onB sv s (if a.id=z then ⟨z,a.srv,k⟩ else a)=onB sv s a:=by
   split<;>rfl
  rw [e1]
  by_cases h:onB sv s a=true
  ·rw [if_pos h,if_pos h,List.map_cons,List.map_cons,List.map_cons,ih]
   congr 1
   split<;>rfl
  ·rw [if_neg h,if_neg h,ih]
theorem sub_del (z:Int) (s:Int):sub sv (delH H z) s=delL (sub sv H s) z:=by
 unfold sub delH delL
 induction H with
 | nil=>rfl
 | cons a H ih =>
  rw [List.filter_cons,List.filter_cons (p:=onB sv s)]
  by_cases h:onB sv s a=true
  ·rw [if_pos h]
   by_cases hz:a.id=z
   ·rw [if_neg (by simp [hz]),List.map_cons,List.filter_cons,if_neg (by simp [hz]),ih]
   ·rw [if_pos (by simp [hz]),List.filter_cons,if_pos h,List.map_cons,List.map_cons,List.filter_cons,if_pos (by simp [hz]),ih]
  ·rw [if_neg h]
   by_cases hz:a.id=z
   ·rw [if_neg (by simp [hz]),ih]
   ·rw [if_pos (by simp [hz]),List.filter_cons,if_neg h,ih]
theorem setL_sub {s z:Int} (k:Hd) (h:hasL (sub sv H s) z=true):setL (sub sv H s) z k=sub sv (setH H z k) s:=by
 rw [sub_set]
 unfold setL
 rw [if_pos h]
theorem sub_set_far {s z:Int} (k:Hd) (h:hasL (sub sv H s) z=false):sub sv (setH H z k) s=sub sv H s:=by
 rw [sub_set]
 refine map_far (fun y hy e=>?_) k
 unfold hasL at h
 rw [List.any_eq_false] at h
 exact h y hy (by simpa using e)
theorem del_far {l:List (Int × Hd)} {z:Int} (h:hasL l z=false):delL l z=l:=by
 unfold delL
 refine filter_far fun y hy e=>?_
 unfold hasL at h
 rw [List.any_eq_false] at h
 exact h y hy (by simpa using e)
theorem free_eq_del (l:List (Int × Hd)) (z:Int):freeL l z=delL l z:=by
 unfold freeL
 cases h:hasL l z with
 | true=>rw [if_pos rfl]
 | false=>rw [if_neg (by decide),del_far h]
theorem Inv.good (h:Inv sv al at_ ls H m) (hm:m<=500) {s:Int} (hs:inR sv.length s):GoodL (ls s) :=
 good_perm (h.ls s hs) ⟨Nat.le_trans (sub_len s) (Nat.le_trans h.len hm),fun z hz=>by
  obtain ⟨x,hx,_,rfl⟩:=sub_mem.1 hz
  exact (h.ok x hx).ok⟩
theorem Inv.pa (h:Inv sv al at_ ls H m) (hm:m<500) {s:Int} (hs:inR sv.length s):PaL (al s) (ls s) :=
 ⟨h.sz s hs,h.good (by omega) hs,by rw [(h.ls s hs).length_eq];exact Nat.lt_of_le_of_lt (Nat.le_trans (sub_len s) h.len) hm⟩
theorem Inv.held (h:Inv sv al at_ ls H m) {s:Int} (hs:inR sv.length s):Zy (ls s)=heldH sv H s:=held_perm (h.ls s hs)
theorem at_has {z:Int} (h:at_.Perm (H.map fun x=>(x.id,x.srv))):XAt.hasL at_ z=hasH H z:=by
 rw [Bool.eq_iff_iff,hasH_iff]
 unfold XAt.hasL
 rw [List.any_eq_true]
 constructor
 ·rintro ⟨y,hy,e⟩
  obtain ⟨x,hx,rfl⟩:=List.mem_map.1 (h.mem_iff.1 hy)
  exact ⟨x,hx,by simpa using e⟩
 ·rintro ⟨x,hx,e⟩
  exact ⟨_,h.mem_iff.2 (List.mem_map.2 ⟨x,hx,rfl⟩),by simpa using e⟩
theorem at_get (hn:(H.map (·.id)).Nodup) (h:at_.Perm (H.map fun x=>(x.id,x.srv))) {x:Hol} (hx:x∈H):srvA at_ x.id=x.srv:=by
 unfold srvA
 rw [at_has h,hasH_iff.2 ⟨x,hx,rfl⟩,if_pos rfl]
 have hmem:(x.id,x.srv)∈at_:=h.mem_iff.2 (List.mem_map.2 ⟨x,hx,rfl⟩)
 cases e:XAt.getL at_ x.id with
 | none =>
  have:=XAt.getL_none e
  unfold XAt.hasL at this
  rw [List.any_eq_false] at this
  exact absurd (by simp:decide (((x.id,x.srv):Int × Int).1=x.id)=true) (this _ hmem)
 | some y =>
  have h1:=h.mem_iff.1 (XAt.getL_mem e)
  obtain ⟨x',hx',e'⟩:=List.mem_map.1 h1
  have e1:x'.id=x.id:=(Prod.mk.inj e').1
  have e2:=hol_unique hn hx' hx e1
  rw [<-e2]
  exact (Prod.mk.inj e').2.symm
def srvH (H:List Hol) (z:Int):Int:=match getH H z with|none=>-2|some x=>x.srv
theorem getH_mem {z:Int} {x:Hol} (h:getH H z=some x):x∈H/\x.id=z:=⟨List.mem_of_find?_eq_some h,by simpa using List.find?_some h⟩
theorem getH_none {z:Int} (h:getH H z=none):hasH H z=false:=by
 unfold getH at h
 rw [List.find?_eq_none] at h
 unfold hasH
 rw [List.any_eq_false]
 exact h
theorem getH_some {z:Int} (h:hasH H z=true):∃x,getH H z=some x:=by
 cases e:getH H z with
 | none=>rw [getH_none e] at h;cases h
 | some x=>exact ⟨x,rfl⟩
theorem Inv.srvA (h:Inv sv al at_ ls H m) (z:Int):srvA at_ z=srvH H z:=by
 unfold srvH
 cases e:getH H z with
 | none =>
  show XOf.srvA at_ z = -2
  unfold XOf.srvA
  rw [at_has h.at_,getH_none e,if_neg (by decide)]
 | some x =>
  obtain ⟨hx,hz⟩:=getH_mem e
  rw [<-hz]
  exact at_get h.nod h.at_ hx
end
end Go.Proofs.Ytfldklimlcnnnaa.QTr
end

section
namespace Go.Proofs.Ytfldklimlcnnnaa.QTr
open Go.RowKit PHq YtfldklimlcnnnaaW.PrintWords YtfldklimlcnnnaaW.PrintLast YtfldklimlcnnnaaW.PrintMore MWords
open MNat QRatio XRV XHold XWts XLed XFits XJoin XMeth XAsk XEnd QHold XTree QTree XTCl XAllW XOf
theorem may_okW {x:S34} (h:mayW x=true):okW x/\1<=x.f0/\x.f0<=x.f1/\x.f1<=1048576:=by
 unfold mayW at h
 simp at h
 unfold okW
 omega
def newH (x:S34):Hd:=⟨x.f0,x.f1,0,0,false⟩
section
variable {sv:List S71} {al:Int->Rat} {at_:List (Int × Int)} {ls:Int->List (Int × Hd)} {H:List Hol} {m:Nat}
theorem onB_iff {s:Int} {x:Hol} : onB sv s x=true↔s∈Z0 sv x.srv:=by unfold onB;exact decide_eq_true_iff
theorem Inv.joinE (h:Inv sv al at_ ls H m) {z:Int} {x:S34} (hm:mayW x=true) (hz:hasH H z=false) {y:Int} (hy:inR sv.length y) :
  joinE (al y) (Zy (ls y)) (ls y) z x=if heldH sv H y+wt x<=al y then 0 else 18:=by
 rw [joinE_perm (h.ls y hy),join_new (held_nonneg _) hm (sub_no hz y)]
 rfl
theorem Inv.joinL (h:Inv sv al at_ ls H m) {z:Int} {x:S34} (hm:mayW x=true) (hz:hasH H z=false) {y:Int} (hy:inR sv.length y) (hf:heldH sv H y+wt x<=al y) :
  joinL (al y) (Zy (ls y)) (ls y) z x=ls y++[(z,newH x)]:=by
 have h1:=h.joinE hm hz hy
 rw [if_pos hf] at h1
 unfold XMeth.joinL
 rw [if_pos h1,set_new (by rw [hasL_perm (h.ls y hy)];exact sub_no hz y)]
 rfl
theorem Inv.join (h:Inv sv al at_ ls H m) (hG:GoodSv sv) {z s:Int} {x:S34} (hs:inR sv.length s) (hm:mayW x=true) (hz:hasH H z=false) (hw:wfI z) (hf:∀y∈Z0 sv s,heldH sv H y+wt x<=al y) :
  Inv sv al (XAt.setL at_ z s) (stp (fun all l=>XMeth.joinL all (Zy l) l z x) al ls (Z0 sv s)) (H++[⟨z,s,newH x⟩]) (m+1) where
 at_:=by
  unfold XAt.setL
  rw [at_has h.at_,hz,if_neg (by decide),List.map_append]
  exact h.at_.append_right _
 ls:=fun y hy=>by
  rw [sub_app]
  by_cases hp:y∈Z0 sv s
  ·rw [if_pos (onB_iff.2 hp)]
   unfold stp
   rw [if_pos hp]
   show (XMeth.joinL (al y) (Zy (ls y)) (ls y) z x).Perm _
   rw [h.joinL hm hz hy (hf y hp)]
   exact (h.ls y hy).append_right _
  ·rw [if_neg (fun c=>hp (onB_iff.1 c)),stp_other hp]
   exact h.ls y hy
 nod:=by
  rw [List.map_append,List.nodup_append]
  refine ⟨h.nod,by simp,fun a ha b hb e=>?_⟩
  obtain ⟨x',hx',rfl⟩:=List.mem_map.1 ha
  have hb':b=z:=by simpa using hb
  have:=hasH_iff.2 ⟨x',hx',e.trans hb'⟩
  rw [hz] at this
  cases this
 srv:=fun a ha=>by
  rcases List.mem_append.1 ha with ha|ha
  ·exact h.srv a ha
  ·rw [List.mem_singleton.1 ha];exact hs
 ok:=fun a ha=>by
  rcases List.mem_append.1 ha with ha|ha
  ·exact h.ok a ha
  ·rw [List.mem_singleton.1 ha]
   exact ⟨⟨(may_okW hm).1,fun c=>by cases c⟩,fun _=>⟨rfl,rfl⟩,hm,fun c=>(by cases c),hw⟩
 len:=by rw [List.length_append];have:=h.len;simp;omega
 le:=fun y hy=>by
  unfold heldH
  rw [sub_app]
  by_cases hp:y∈Z0 sv s
  ·rw [if_pos (onB_iff.2 hp),held_app]
   have:Zy [(z,newH x)]=wt x:=by
    show wt (hv (newH x))+Zy []=wt x
    rw [hv_plain rfl]
    show wt x+0=wt x
    grind
   rw [this]
   exact hf y hp
  ·rw [if_neg (fun c=>hp (onB_iff.1 c))]
   exact h.le y hy
 sz:=h.sz
theorem Inv.unjoin (h:Inv sv al at_ ls H m) {z:Int} {x:S34} (hm:mayW x=true) (hz:hasH H z=false) {pre:List Int} (hp:∀y∈pre,inR sv.length y) (hE:∀y∈pre,XMeth.joinE (al y) (Zy (ls y)) (ls y) z x=0) :
  stp (fun a l=>freeL ((fun all l=>XMeth.joinL all (Zy l) l z x) a l) z) al ls pre=ls:=by
 funext y
 unfold stp
 split
 ·rename_i hy
  have h1:=hE y hy
  rw [h.joinE hm hz (hp y hy)] at h1
  have hf:heldH sv H y+wt x<=al y:=by
   by_cases c:heldH sv H y+wt x<=al y
   ·exact c
   ·rw [if_neg c] at h1;cases h1
  show freeL (XMeth.joinL (al y) (Zy (ls y)) (ls y) z x) z=ls y
  rw [h.joinL hm hz (hp y hy) hf,free_eq_del]
  have h2:hasL (ls y) z=false:=by rw [hasL_perm (h.ls y (hp y hy))];exact sub_no hz y
  have h3:delL (ls y++[(z,newH x)]) z=delL (ls y) z++delL [(z,newH x)] z:=by unfold delL;rw [List.filter_append]
  rw [h3,del_far h2]
  simp [delL]
 ·rfl
theorem Inv.getL (h:Inv sv al at_ ls H m) {x:Hol} (hx:x∈H) {y:Int} (hy:inR sv.length y) (hp:y∈Z0 sv x.srv):getL (ls y) x.id=some x.hd:=by
 rw [getL_perm (h.ls y hy) (sub_nod h.nod y)]
 exact sub_get h.nod hx (onB_iff.2 hp)
theorem Inv.hasL_no (h:Inv sv al at_ ls H m) {x:Hol} (hx:x∈H) {y:Int} (hy:inR sv.length y) (hp:y ∉ Z0 sv x.srv):hasL (sub sv H y) x.id=false:=by
 cases e:hasL (sub sv H y) x.id with
 | false=>rfl
 | true =>
  obtain ⟨x',hx',e',h'⟩:=sub_has.1 e
  rw [hol_unique h.nod hx' hx e'] at h'
  exact absurd (onB_iff.1 h') hp
theorem setH_map (H:List Hol) (z:Int) (k:Hd):(setH H z k).map (·.id)=H.map (·.id)/\(setH H z k).map (fun x=>(x.id,x.srv))=H.map fun x=>(x.id,x.srv):=by
 unfold setH
 rw [List.map_map,List.map_map]
 constructor
 ·refine List.map_congr_left fun x _=>?_
  show (if x.id=z then ⟨z,x.srv,k⟩ else x:Hol).id=x.id
  split
  ·rename_i e;exact e.symm
  ·rfl
 ·refine List.map_congr_left fun x _=>?_
  show ((if x.id=z then ⟨z,x.srv,k⟩ else x:Hol).id,(if x.id=z then ⟨z,x.srv,k⟩ else x:Hol).srv)=(x.id,x.srv)
  split
  ·rename_i e;rw [e]
  ·rfl
theorem setH_mem {z:Int} {k:Hd} {a:Hol} (h:a∈setH H z k):∃x∈H,a.srv=x.srv/\a.id=x.id/\((x.id=z/\a.hd=k)∨(x.id≠z/\a=x)):=by
 unfold setH at h
 obtain ⟨x,hx,rfl⟩:=List.mem_map.1 h
 refine ⟨x,hx,?_⟩
 by_cases e:x.id=z
 ·rw [if_pos e];exact ⟨rfl,e.symm,.inl ⟨e,rfl⟩⟩
 ·rw [if_neg e];exact ⟨rfl,rfl,.inr ⟨e,rfl⟩⟩
theorem Inv.set (h:Inv sv al at_ ls H m) {x:Hol} (hx:x∈H) {k:Hd} (hk:OkHol ⟨x.id,x.srv,k⟩) {A:Rat->List (Int × Hd)->List (Int × Hd)}
  (hA:∀y∈Z0 sv x.srv,inR sv.length y->A (al y) (ls y)=setL (ls y) x.id k) (hle:∀y∈Z0 sv x.srv,inR sv.length y->Zy (sub sv H y)+wt (hv k)<=al y+wt (hv x.hd)) :
  Inv sv al at_ (stp A al ls (Z0 sv x.srv)) (setH H x.id k) m where
 at_:=by rw [(setH_map H x.id k).2];exact h.at_
 ls:=fun y hy=>by
  by_cases hp:y∈Z0 sv x.srv
  ·unfold stp
   rw [if_pos hp,hA y hp hy,<-setL_sub k (sub_has.2 ⟨x,hx,rfl,onB_iff.2 hp⟩)]
   exact setL_perm (h.ls y hy) _ _
  ·rw [stp_other hp,sub_set_far k (h.hasL_no hx hy hp)]
   exact h.ls y hy
 nod:=by rw [(setH_map H x.id k).1];exact h.nod
 srv:=fun a ha=>by
  obtain ⟨x',hx',e,_⟩:=setH_mem ha
  rw [e];exact h.srv x' hx'
 ok:=fun a ha=>by
  obtain ⟨x',hx',e1,e2,⟨e3,e4⟩|⟨_,rfl⟩⟩:=setH_mem ha
  ·have:a=⟨x.id,x.srv,k⟩:=by
    have e5:=hol_unique h.nod hx' hx e3
    cases a
    simp only at e1 e2 e4
    rw [e1,e2,e4,e5]
   rw [this];exact hk
  ·exact h.ok _ hx'
 len:=by unfold setH;rw [List.length_map];exact h.len
 le:=fun y hy=>by
  unfold heldH
  by_cases hp:y∈Z0 sv x.srv
  ·rw [<-setL_sub k (sub_has.2 ⟨x,hx,rfl,onB_iff.2 hp⟩)]
   have h1:=held_old (sub_nod h.nod y) (sub_get h.nod hx (onB_iff.2 hp)) k
   have h2:=hle y hp hy
   grind
  ·rw [sub_set_far k (h.hasL_no hx hy hp)]
   exact h.le y hy
 sz:=h.sz
theorem Inv.free (h:Inv sv al at_ ls H m) {x:Hol} (hx:x∈H):Inv sv al (XAt.delL at_ x.id) (stp (fun _ l=>freeL l x.id) al ls (Z0 sv x.srv)) (delH H x.id) m where
 at_:=by
  have e:(delH H x.id).map (fun x=>(x.id,x.srv))=XAt.delL (H.map fun x=>(x.id,x.srv)) x.id:=by
   unfold delH XAt.delL
   rw [List.filter_map]
   rfl
  rw [e]
  exact h.at_.filter _
 ls:=fun y hy=>by
  rw [sub_del]
  by_cases hp:y∈Z0 sv x.srv
  ·unfold stp
   rw [if_pos hp]
   show (freeL (ls y) x.id).Perm _
   rw [free_eq_del]
   exact delL_perm (h.ls y hy) _
  ·rw [stp_other hp,del_far (h.hasL_no hx hy hp)]
   exact h.ls y hy
 nod:=h.nod.sublist (List.Sublist.map _ List.filter_sublist)
 srv:=fun a ha=>h.srv a (List.mem_filter.1 ha).1
 ok:=fun a ha=>h.ok a (List.mem_filter.1 ha).1
 len:=Nat.le_trans (List.length_filter_le _ _) h.len
 le:=fun y hy=>by
  unfold heldH
  rw [sub_del]
  by_cases hp:y∈Z0 sv x.srv
  ·have h1:=held_gone (sub_nod h.nod y) (sub_get h.nod hx (onB_iff.2 hp))
   have h2:=h.le y hy
   have h3:=wt_nonneg (hv x.hd)
   unfold heldH at h2
   grind
  ·rw [del_far (h.hasL_no hx hy hp)]
   exact h.le y hy
 sz:=h.sz
end
end Go.Proofs.Ytfldklimlcnnnaa.QTr
end

section
namespace Go.Proofs.Ytfldklimlcnnnaa.XAllJ
open Go.RowKit PHq YtfldklimlcnnnaaW.PrintWords YtfldklimlcnnnaaW.PrintLast YtfldklimlcnnnaaW.PrintMore MWords
open MNat XRV XHold XLed XTree QTree XPath XOf XGo XCollect XRowP XAllW
attribute [local go_sem] Oper.semAt_some
section
variable {w:World} {M:Tm} {sv:List S71} {at_:List (Int × Int)} {al:Int->Rat} {ls:Int->List (Int × Hd)} {bx:List (Nat × TypeId × Array Value)}
set_option maxRecDepth 100000 in
set_option maxHeartbeats 8000000 in
theorem all_calls (hT:Tre w M sv at_ al ls) (hG:GoodSv sv) {s:Int} (hs:inR sv.length s) {k1 k2:Nat} (hb1:∀x∈bx,x.1<w.heap.size) (hb2:∀x∈bx,x.2.1≠97) (hok:OkB bx w)
  {E Eu:Rat->List (Int × Hd)->Int} {A U:Rat->List (Int × Hd)->List (Int × Hd)} {Pa Pu:Rat->List (Int × Hd)->Prop}
  (hca:LedCall 87 (fun p=>#[p,.pointer (some ⟨k1,0,none⟩),.pointer (some ⟨k2,0,none⟩)]) bx E A Pa) (hcu:LedCall 88 (fun p=>#[p,.pointer (some ⟨k1,0,none⟩)]) bx Eu U Pu)
  (hPa:∀x∈Z0 sv s,Pa (al x) (ls x)) (hPu:∀x∈Z0 sv s,E (al x) (ls x)=0->Pu (al x) (A (al x) (ls x))) (hA:∀x∈Z0 sv s,E (al x) (ls x)≠0->A (al x) (ls x)=ls x) :
  Calls Try.prog 86 #[.pointer (some ⟨M.t,0,none⟩),.int .i64 s,.func (.func 87) #[] #[.pointer (some ⟨k1,0,none⟩),.pointer (some ⟨k2,0,none⟩)],.func (.func 88) #[] #[.pointer (some ⟨k1,0,none⟩)]] w fun e w' =>
   ∃ls',Kt M sv.length w w'/\Tre w' M sv at_ al ls' ∧
    ((e=.returned (.int .i64 0)/\(∀x∈Z0 sv s,E (al x) (ls x)=0)/\ls'=stp A al ls (Z0 sv s)) ∨
     ∃pre x r,Z0 sv s=pre++x::r/\(∀y∈pre,E (al y) (ls y)=0)/\E (al x) (ls x)≠0/\e=.returned (.int .i64 (E (al x) (ls x)))/\ls'=stp (fun a l=>U a (A a l)) al ls pre):=by
 have HPN:=Zz.mk (And.intro (path_in hG s hs) (And.intro (path_nodup hG s hs) (path_len hG s hs)))
 have HG:=Zz.mk hG
 have HT:=Zz.mk hT
 have HSM:=Zz.mk hT.small
 have HS:=Zz.mk hs
 have HBX:=Zz.mk (And.intro hb1 (And.intro hb2 hok))
 have HCA:=Zz.mk hca
 have HCU:=Zz.mk hcu
 have HPA:=Zz.mk (And.intro hPa (And.intro hPu hA))
 obtain ⟨pa,hpa⟩:∃pa,pa=Z0 sv s:=⟨_,rfl⟩
 rw [<-hpa] at HPN HPA ⊢
 have HPE:=Zz.mk hpa
 clear hT hG hs hb1 hb2 hok hca hcu hPa hPu hA hpa
 obtain ⟨w1,hw1⟩:∃w1,w1=(((w.alloc (.cells #[.pointer (some ⟨M.t,0,none⟩)] 67)).alloc (.cells #[.func (.func 87) #[] #[.pointer (some ⟨k1,0,none⟩),.pointer (some ⟨k2,0,none⟩)]] 126)).alloc (.cells #[.slice none 0 0] 117)).alloc (.cells #[.int .i64 0] 31):=⟨_,rfl⟩
 have HW1:=Zz.mk (show Below w.heap.size w w1/\w1.heap.size=w.heap.size+4/\MBlk w1 w.heap.size 67 #[.pointer (some ⟨M.t,0,none⟩)]/\MBlk w1 (w.heap.size+1) 126 #[.func (.func 87) #[] #[.pointer (some ⟨k1,0,none⟩),.pointer (some ⟨k2,0,none⟩)]]/\MBlk w1 (w.heap.size+2) 117 #[.slice none 0 0]/\MBlk w1 (w.heap.size+3) 31 #[.int .i64 0] by
  rw [hw1]
  refine ⟨Zb (Zb (Zb (Zb (Below.refl _ _) _) _) _) _,by simp,Zp (Zp (Zp (Zo _ _ _) _) _) _,?_,?_,?_⟩
  ·have:=Zo (w.alloc (.cells #[.pointer (some ⟨M.t,0,none⟩)] 67)) 126 #[.func (.func 87) #[] #[.pointer (some ⟨k1,0,none⟩),.pointer (some ⟨k2,0,none⟩)]]
   rw [World.size_alloc] at this
   exact Zp (Zp this _) _
  ·have:=Zo ((w.alloc (.cells #[.pointer (some ⟨M.t,0,none⟩)] 67)).alloc (.cells #[.func (.func 87) #[] #[.pointer (some ⟨k1,0,none⟩),.pointer (some ⟨k2,0,none⟩)]] 126)) 117 #[.slice none 0 0]
   rw [World.size_alloc,World.size_alloc] at this
   exact Zp this _
  ·have:=Zo (((w.alloc (.cells #[.pointer (some ⟨M.t,0,none⟩)] 67)).alloc (.cells #[.func (.func 87) #[] #[.pointer (some ⟨k1,0,none⟩),.pointer (some ⟨k2,0,none⟩)]] 126)).alloc (.cells #[.slice none 0 0] 117)) 31 #[.int .i64 0]
   rw [World.size_alloc,World.size_alloc,World.size_alloc] at this
   exact this)
 refine (callsIn_wide (n:=6)).1 (callsIn_of_wp_marks Try.func86 rfl trivial (wpIn_wide.2 ?_) rfl)
 simp only [Try.ntmps86,List.size_toArray,List.length_cons,List.length_nil,Nat.reduceAdd,Nat.reduceSub,Array.replicate_succ,Array.replicate_zero,List.push_toArray,List.append_toArray,List.nil_append,List.cons_append]
 have k0:w1.cell? ⟨w.heap.size,0,none⟩=some (.pointer (some ⟨M.t,0,none⟩)):=(Zg HW1.out.2.2.1 0).trans rfl
 rw [hw1] at k0
 have HW:=Zz.mk hw1
 clear hw1
 go_wp2_with fail
 go_step3
 go_wp2_with fail
 go_step3
 go_wp2_with fail
 rw [<-HW.out]
 clear HW k0
 refine (path_calls M.t s _).mono ?_
 rintro e w2 ⟨rfl,hw2⟩
 have HB:=Zz.mk (show Below w.heap.size w w2/\w2.heap.size=w.heap.size+6 by
  rw [hw2]
  exact ⟨Zb (Zb HW1.out.1 _) _,by simp;have:=HW1.out.2.1;omega⟩)
 have HT2:=Zz.mk (HT.out.below HB.out.1)
 have HBX5:=Zz.mk (show MBlk w2 (w.heap.size+5) 3 #[.int .i64 s] by
  have:=Zo (w1.alloc (.cells #[.pointer (some ⟨M.t,0,none⟩)] 67)) 3 #[.int .i64 s]
  rw [World.size_alloc,HW1.out.2.1] at this
  rw [hw2]
  exact this)
 have HI2:=Zz.mk (show AInv w M sv at_ al bx (.func (.func 87) #[] #[.pointer (some ⟨k1,0,none⟩),.pointer (some ⟨k2,0,none⟩)]) ls 0 [] w2 by
  have hb:∀ {k:Nat} {cs:Array Value} {T:TypeId},MBlk w1 k T cs->MBlk w2 k T cs:=fun h=>by rw [hw2];exact Zp (Zp h _) _
  refine ⟨HT2.out,hb HW1.out.2.2.1,hb HW1.out.2.2.2.1,⟨none,0,hb HW1.out.2.2.2.2.1,VRow.nil _ _ _⟩,hb HW1.out.2.2.2.2.2,?_,fun x hx=>(HB.out.1.block _ (HBX.out.1 x hx)).trans (HBX.out.2.2 x hx),Kt.of HB.out.1⟩
  have:=Zo w1 67 #[.pointer (some ⟨M.t,0,none⟩)]
  rw [HW1.out.2.1] at this
  rw [hw2]
  exact Zp this _)
 rw [HW1.out.2.1]
 clear hw2 HW1
 go_wp2_with fail
 have HSEQ:=Zz.mk (path_seq M sv (w.heap.size+4) (w.heap.size+5) s w2 HG.out HSM.out HS.out (Rd.of HT2.out HI2.out.pb) HBX5.out)
 rw [<-HPE.out] at HSEQ
 refine (wpIn_wide (n:=6)).1 ?_
 refine range_g (F:=Fence.wide) (n:=6) rfl (by omega) (gf:=114) (lb:=#[.pointer (some ⟨w.heap.size+5,0,none⟩),.pointer (some ⟨w.heap.size+4,0,none⟩)]) rfl trivial (enters_of Try.func114 (by kernel_rfl) rfl)
  (w0:=w2) HSEQ.out (Below.refl _ _) (fun _=>rfl) (fun h k=>h.trans k)
  (fun W l o o' hl ho _ _=>kq_put (N:=w2.heap.size) (by rw [HB.out.2];omega) (fun k hk=>HT2.out.own_lt (by rcases hk with c|c;exact .inl c;exact .inr (.inl c))) W l o o' hl ho)
  (fun pre W=>AInv w M sv at_ al bx (.func (.func 87) #[] #[.pointer (some ⟨k1,0,none⟩),.pointer (some ⟨k2,0,none⟩)]) (stp A al ls pre) 0 pre W/\∀x∈pre,E (al x) (ls x)=0)
  (fun c pre W=>c=.exit 0/\∃pre' x,pre=pre'++[x]/\(∀y∈pre',E (al y) (ls y)=0)/\E (al x) (ls x)≠0/\AInv w M sv at_ al bx (.func (.func 87) #[] #[.pointer (some ⟨k1,0,none⟩),.pointer (some ⟨k2,0,none⟩)]) (stp A al ls pre') (E (al x) (ls x)) pre' W)
  (fun pre X Y row h hg hr=>⟨AInv.own HT.out HBX.out.2.1 (B:=w2.heap.size) (by rw [HB.out.2];omega) h.1 hg hr,h.2⟩)
  (fun c pre X Y row h hg hr=>by
   obtain ⟨h1,pre',x,h2,h3,h4,h5⟩:=h
   exact ⟨h1,pre',x,h2,h3,h4,AInv.own HT.out HBX.out.2.1 (B:=w2.heap.size) (by rw [HB.out.2];omega) h5 hg hr⟩)
  ⟨by rw [stp_nil];exact HI2.out,fun x hx=>by cases hx⟩
  (fun x=>{ tmps:=#[.pointer (some ⟨M.t,0,none⟩),.int .i64 s,.func (.func 87) #[] #[.pointer (some ⟨k1,0,none⟩),.pointer (some ⟨k2,0,none⟩)],.func (.func 88) #[] #[.pointer (some ⟨k1,0,none⟩)],.pointer (some ⟨w.heap.size,0,none⟩),undef,.pointer (some ⟨w.heap.size+1,0,none⟩),undef,.int .i64 0,.pointer (some ⟨w.heap.size+2,0,none⟩),.pointer (some ⟨w.heap.size+3,0,none⟩),.int .i64 x,undef,undef,undef,.pointer (some ⟨M.t,0,none⟩),.int .i64 s,.func (.func 114) #[] #[.pointer (some ⟨w.heap.size+5,0,none⟩),.pointer (some ⟨w.heap.size+4,0,none⟩)],.int .i64 x,undef,undef,undef,undef,undef,undef,undef,undef,undef,undef,undef,undef,undef,undef,undef,undef,undef,undef,undef,undef,undef,undef,undef,undef,undef],defers:=[] })
  ?assign ?body ?done ?stop
 case assign =>
  intro lo x W K hK
  gi_wp2
  exact hK
 case body =>
  rintro lo pre x W ⟨hI,hz⟩ ⟨r,hr⟩ hlt
  have hxp:x∈pa:=by rw [hr];simp
  have hxi:=(HPN.out.1 x hxp).1
  have hxn:x ∉ pre:=fun hx=>by
   have:=HPN.out.2.1
   rw [hr,List.nodup_append] at this
   exact this.2.2 x hx x (by simp) rfl
  have HI:=Zz.mk hI
  have HZ:=Zz.mk hz
  have HX:=Zz.mk (And.intro hxp (And.intro hxi hxn))
  have HLEN:=Zz.mk (show pre.length<1001 by
   have h1:=HPN.out.2.2
   have h2:=HSM.out
   rw [hr,List.length_append,List.length_cons] at h1
   omega)
  have k0:W.cell? ⟨w.heap.size,0,none⟩=some (.pointer (some ⟨M.t,0,none⟩)):=(Zg hI.tb 0).trans rfl
  have h11:1<=6-1-1:=by omega
  clear hI hz hr hxp hxi hxn
  obtain ⟨q,hq⟩:∃q,q=E (al x) (ls x):=⟨_,rfl⟩
  have HQ:=Zz.mk hq
  clear hq
  gi_wp2
  refine ⟨trivial,(CallsIn.inRound lo (callsIn_wide.2 (of_calls HI.out.tre HX.out.2.1))).mono ?_⟩
  rintro e W1 ⟨rfl,hb⟩
  have HK1:=Zz.mk (kf_below (D:=w2.heap.size) hb)
  have HI1:=Zz.mk (HI.out.below HBX.out.2.1 hb)
  have k1:W1.cell? ⟨w.heap.size+1,0,none⟩=some (.func (.func 87) #[] #[.pointer (some ⟨k1,0,none⟩),.pointer (some ⟨k2,0,none⟩)]):=(Zg HI1.out.kb 0).trans rfl
  clear hb k0
  gi_wp2
  have hc:=HCA.out (M.g x) (M.b x) (al x) (ls x) W1 HI1.out.ok (by have:=HI1.out.tre.led x HX.out.2.1;rw [stp_other HX.out.2.2] at this;exact this) (HPA.out.1 x HX.out.1)
  rw [<-HQ.out] at hc
  refine ⟨trivial,(CallsIn.inRound lo (callsIn_wide.2 hc)).mono ?_⟩
  clear hc
  rintro e W2 ⟨rfl,hL,hK⟩
  have hi:=HI1.out.kp HBX.out.2.1 HX.out.2.1 hK hL
  rw [stp_snoc HX.out.2.2] at hi
  have HI3:=Zz.mk hi
  have HK2:=Zz.mk (HK1.out.trans (kf_kp HT.out (by rw [HB.out.2];omega) HX.out.2.1 hK))
  have k3:W2.cell? ⟨w.heap.size+3,0,none⟩=some (.int .i64 0):=(Zg HI3.out.bad 0).trans rfl
  have f3:W2.frozen? ⟨w.heap.size+3,0,none⟩=false:=Zq HI3.out.bad 0
  clear hL hK hi HI1 HK1 k1
  by_cases hq0:q=0
  ·subst hq0
   have HI4:=Zz.mk (HI3.out.bad_ HT.out HBX.out.1 0)
   have HK3:=Zz.mk (HK2.out.trans (kf_set (D:=w2.heap.size) W2 ⟨w.heap.size+3,0,none⟩ (.int .i64 0)))
   obtain ⟨A1,c1,hm,hv⟩:=HI4.out.row
   have HR:=Zz.mk (And.intro hm hv)
   have k4:(W2.setCell ⟨w.heap.size+3,0,none⟩ (.int .i64 0)).cell? ⟨w.heap.size+2,0,none⟩=some (.slice A1 pre.length c1):=(Zg hm 0).trans rfl
   have HSZ:=Zz.mk (show w.heap.size+6<=(W2.setCell ⟨w.heap.size+3,0,none⟩ (.int .i64 0)).heap.size from by have h1:=HK3.out.size;have h2:=HB.out.2;omega)
   have HNO:=Zz.mk (show ∀k,(Value.slice A1 pre.length c1).ownBlock=some k->w.heap.size+6<=k from fun k hk=>(hv.typed k hk).1)
   clear hm hv
   gi_wp2_with (gi_at_builtin;refine appendV (W:=(W2.setCell ⟨w.heap.size+3,0,none⟩ (.int .i64 0))) (w.heap.size+6) rfl (.tmp 27) (.tmp 29) 117 24 (.pointer none) 8 rfl Try.underlying117 (by kernel_rfl) rfl (fun _ h=>by cases h) (.slice A1 pre.length c1) (ptrs M.g pre) (.pointer (some ⟨M.g x,0,none⟩)) rfl (by first|rfl|(simp [World.setCell,go_sem];done)) rfl (fun _ h=>by cases h) HR.out.2 HSZ.out (by rw [ptrs_len];have:=HLEN.out;omega) (by rw [ptrs_len];have:=HLEN.out;omega) ?_;intro v1 w5 hR5 hg5;rw [show ptrs M.g pre++[.pointer (some ⟨M.g x,0,none⟩)]=ptrs M.g (pre++[x]) by simp [ptrs]] at hR5;obtain ⟨A2,c2,e2,_⟩:=hR5.shape;rw [ptrs_len] at e2;subst e2;have HR5:=Zz.mk hR5;have HG5:=Zz.mk hg5;have HM5:=Zz.mk (show MBlk w5 (w.heap.size+2) 117 #[.slice A1 pre.length c1] from (hg5.block _ (Zn HR.out.1) (fun e=>by have:=HNO.out _ e.symm;omega)).trans HR.out.1);have k9:w5.cell? ⟨w.heap.size+2,0,none⟩=some (.slice A1 pre.length c1):=(Zg HM5.out 0).trans rfl;have kf9:w5.frozen? ⟨w.heap.size+2,0,none⟩=false:=Zq HM5.out 0;clear hR5 hg5)
   have hfin:=HI4.out.app HT.out HBX.out.1 HR.out.1 HR.out.2 HR5.out HG5.out
   have hkf:=(HK3.out.trans (kf_row HR.out.2 HG5.out)).trans (kf_set (D:=w2.heap.size) w5 ⟨w.heap.size+2,0,none⟩ (.slice A2 (pre++[x]).length c2))
   have hz2:∀y∈pre++[x],E (al y) (ls y)=0:=fun y hy=>by
    rcases List.mem_append.1 hy with h|h
    ·exact HZ.out y h
    ·rw [List.mem_singleton.1 h];exact HQ.out.symm
   have hkq:=ainv_kq HT.out HI.out hfin hkf.size
   simp only [List.length_append,List.length_cons,List.length_nil,Nat.zero_add] at hfin hkf hkq
   exact ⟨hkf,hkq,hfin,hz2⟩
  ·have c1:(q == (0:Int))=false:=beq_eq_false_iff_ne.mpr hq0
   have c2:(q != (0:Int))=true:=bne_iff_ne.mpr hq0
   have c3:(q=(0:Int))=False:=eq_false hq0
   have HI4:=Zz.mk (HI3.out.bad_ HT.out HBX.out.1 q)
   have HK3:=Zz.mk (HK2.out.trans (kf_set (D:=w2.heap.size) W2 ⟨w.heap.size+3,0,none⟩ (.int .i64 q)))
   have HQ0:=Zz.mk hq0
   clear hq0
   gi_wp2
   have hn:E (al x) (ls x)≠0:=by rw [<-HQ.out];exact HQ0.out
   have hAx:=HPA.out.2.2 x HX.out.1 hn
   have hst:stp A al ls (pre++[x])=stp A al ls pre:=by
    rw [<-stp_snoc HX.out.2.2,hAx]
    funext y
    unfold upd
    split
    ·rename_i e;rw [e,stp_other HX.out.2.2]
    ·rfl
   have hfin:=HI4.out
   rw [hst,HQ.out] at hfin
   have hkf:=HK3.out
   rw [HQ.out] at hkf
   rw [HQ.out]
   exact ⟨hkf,rfl,pre,x,rfl,HZ.out,hn,hfin⟩
 case done =>
  rintro xs W rfl ⟨hI,hz⟩ hD
  have k3:W.cell? ⟨w.heap.size+3,0,none⟩=some (.int .i64 0):=(Zg hI.bad 0).trans rfl
  have HI:=Zz.mk hI
  have HZ:=Zz.mk hz
  have HD:=Zz.mk hD
  clear hI hz hD
  go_wp2_with fail
  have hfar:=HI.out.far HT.out (k:=w2.heap.size) (by rw [HB.out.2];omega)
  refine ⟨by simp,.inl ⟨_,_,rfl,run_takeDeferred HD.out,?_⟩⟩
  exact ⟨_,results_tmp rfl _ _ _,_,kt_put HI.out.kt (by rw [HB.out.2];omega),tre_put HI.out.tre HD.out hfar.1 hfar.2,.inl ⟨rfl,HZ.out,rfl⟩⟩
 case stop =>
  rintro c pre W ⟨r,hr⟩ ⟨rfl,pre',x,rfl,hz,hne,hI⟩ hD
  obtain ⟨q,hq⟩:∃q,q=E (al x) (ls x):=⟨_,rfl⟩
  rw [<-hq] at hI hne
  have k3:W.cell? ⟨w.heap.size+3,0,none⟩=some (.int .i64 q):=(Zg hI.bad 0).trans rfl
  have c1:(q == (0:Int))=false:=beq_eq_false_iff_ne.mpr hne
  have c2:(q != (0:Int))=true:=bne_iff_ne.mpr hne
  have c3:(q=(0:Int))=False:=eq_false hne
  obtain ⟨A1,c1',hm,hv⟩:=hI.row
  have k4:W.cell? ⟨w.heap.size+2,0,none⟩=some (.slice A1 pre'.length c1'):=(Zg hm 0).trans rfl
  have HV:=Zz.mk hv
  have HI:=Zz.mk (show AInv w M sv at_ al bx (.func (.func 87) #[] #[.pointer (some ⟨k1,0,none⟩),.pointer (some ⟨k2,0,none⟩)]) (und A U al ls pre' 0) q pre' W by rw [und_zero];exact hI)
  have HD:=Zz.mk hD
  have HQ:=Zz.mk (And.intro hq hne)
  have HPRE:=Zz.mk (show pa=pre'++x::r/\(∀y∈pre',E (al y) (ls y)=0) by rw [hr];exact ⟨by simp,hz⟩)
  have HND:=Zz.mk (show pre'.Nodup/\pre'.length<1001/\∀y∈pre',y∈pa from by
   have h1:=HPN.out.2.1
   have h2:=HPN.out.2.2
   have h3:=HSM.out
   rw [HPRE.out.1] at h1 h2
   rw [List.length_append,List.length_cons] at h2
   exact ⟨(List.nodup_append.1 h1).1,by omega,fun y hy=>by rw [HPRE.out.1];simp [hy]⟩)
  clear hz hne hI hD hq hm hv hr
  refine wpIn_wide.2 ?_
  go_wp2_with fail
  go_loopw [35] (fun v wr=>∃i:Nat,v=.int .i64 (i:Int)/\i<=pre'.length/\Zz (AInv w M sv at_ al bx (.func (.func 87) #[] #[.pointer (some ⟨k1,0,none⟩),.pointer (some ⟨k2,0,none⟩)]) (und A U al ls pre' i) q pre' wr)/\Zz (VRow wr (w.heap.size+6) 24 (.slice A1 pre'.length c1') (ptrs M.g pre'))/\Zz (wr.heap[w2.heap.size]? = some (.deferred (some [])))) (fun v _=>pre'.length-(intOf v).toNat)
  case atStart=>exact ⟨0,rfl,by omega,HI,HV,HD⟩
  case round =>
   clear HI HV HD k3 k4
   obtain ⟨i,rfl,hi,HI,HV,HD⟩:=hrel
   by_cases hlt:i<pre'.length
   ·have d1:decide ((i:Int)<(pre'.length:Int))=true:=decide_eq_true (by omega)
    have d2:decide (i<pre'.length)=true:=decide_eq_true hlt
    have q1:(i<pre'.length)=True:=eq_true hlt
    have hc:=HV.out.cell rfl i (by rw [ptrs_len];exact hlt)
    obtain ⟨ad,hA1,hcell⟩:=hc
    have hcell':wr.cell? (ad.add i)=some (.pointer (some ⟨M.g pre'[i],0,none⟩)):=by rw [hcell];simp [ptrs]
    obtain ⟨y,hy⟩:∃y,y=pre'[i]:=⟨_,rfl⟩
    rw [<-hy] at hcell'
    have hyp:y∈pre':=by rw [hy];exact List.getElem_mem hlt
    have HY:=Zz.mk (show y∈pa/\inR sv.length y/\y∈pre' from ⟨HND.out.2.2 y hyp,(HPN.out.1 y (HND.out.2.2 y hyp)).1,hyp⟩)
    have hu1:=und_at (A:=A) (U:=U) (al:=al) (ls:=ls) HND.out.1 hlt
    have hu2:=und_step (A:=A) (U:=U) (al:=al) (ls:=ls) hlt
    rw [<-hy] at hu1 hu2
    have HU:=Zz.mk (And.intro hu1 hu2)
    have HLT:=Zz.mk hlt
    have HLN:=Zz.mk (show i<1001 by have:=HND.out.2.1;omega)
    subst hA1
    clear hcell hu1 hu2 hy hyp hlt hi
    go_wp2_with fail
    have hc:=HCU.out (M.g y) (M.b y) (al y) (A (al y) (ls y)) wr HI.out.ok (by have:=HI.out.tre.led y HY.out.2.1;rw [HU.out.1] at this;exact this) (HPA.out.2.1 y HY.out.1 (HPRE.out.2 y HY.out.2.2))
    refine hc.mono ?_
    clear hc
    rintro e W2 ⟨rfl,hL,hK⟩
    have hi2:=HI.out.kp HBX.out.2.1 HY.out.2.1 hK hL
    rw [HU.out.2] at hi2
    have HI2:=Zz.mk hi2
    have HV2:=Zz.mk (row_stay HI.out.tre (Kt.kp HY.out.2.1 hK) HV.out)
    have HD2:=Zz.mk (kp_def hK HD.out (fun e=>by have:=HT.out.wr_lt (k:=M.g y) (.inr ⟨y,HY.out.2.1,.inl rfl⟩);have:=HB.out.2;omega) (fun e=>by have:=HT.out.wr_lt (k:=M.b y) (.inr ⟨y,HY.out.2.1,.inr rfl⟩);have:=HB.out.2;omega))
    clear hL hK hi2 hcell'
    have hw:wrap64 ((i:Int)+1)=((i+1:Nat):Int):=by have:=HLN.out;rw [QNat.w64 (by omega) (by omega)];omega
    go_wp2_with fail
    go_roundw
    case rel=>exact ⟨i+1,by first|rw [hw]|rfl|(simp;done),by have:=HLT.out;omega,HI2,HV2,HD2⟩
    case measure =>
     rw [hw]
     show pre'.length-(i+1)<pre'.length-i
     have:=HLT.out
     omega
   ·have d1:decide ((i:Int)<(pre'.length:Int))=false:=decide_eq_false (by omega)
    have d2:decide (i<pre'.length)=false:=decide_eq_false hlt
    obtain rfl:i=pre'.length:=by omega
    have k3:wr.cell? ⟨w.heap.size+3,0,none⟩=some (.int .i64 q):=(Zg HI.out.bad 0).trans rfl
    clear hlt hi
    go_wp2_with fail
    have hfar:=HI.out.far HT.out (k:=w2.heap.size) (by rw [HB.out.2];omega)
    refine ⟨by simp,.inl ⟨_,_,rfl,run_takeDeferred HD.out,?_⟩⟩
    have htr:=tre_put (o':=.deferred none) HI.out.tre HD.out hfar.1 hfar.2
    rw [und_all] at htr
    exact ⟨_,results_tmp rfl _ _ _,_,kt_put HI.out.kt (by rw [HB.out.2];omega),htr,.inr ⟨pre',x,r,HPRE.out.1,HPRE.out.2,by rw [<-HQ.out.1];exact HQ.out.2,by rw [<-HQ.out.1];rfl,rfl⟩⟩
end
end Go.Proofs.Ytfldklimlcnnnaa.XAllJ
end

section
namespace Go.Proofs.Ytfldklimlcnnnaa.XTJoin
open Go.RowKit PHq YtfldklimlcnnnaaW.PrintWords YtfldklimlcnnnaaW.PrintLast YtfldklimlcnnnaaW.PrintMore MWords
open MNat QRatio XRV XHold XLed XJoin XMeth QHold XTree QTree XOf XTCl XAllW QTr
def TH (W:World) (M:Tm) (sv:List S71) (al:Int->Rat) (H:List Hol) (m:Nat):Prop:=∃at_ ls,Tre W M sv at_ al ls/\Inv sv al at_ ls H m/\GoodSv sv
section
variable {w W W':World} {M:Tm} {sv:List S71} {al:Int->Rat} {H:List Hol} {m:Nat}
theorem Inv.mono {at_:List (Int × Int)} {ls:Int->List (Int × Hd)} {n:Nat} (h:Inv sv al at_ ls H m) (hn:m<=n):Inv sv al at_ ls H n:=⟨h.at_,h.ls,h.nod,h.srv,h.ok,Nat.le_trans h.len hn,h.le,h.sz⟩
theorem TH.mono {n:Nat} (h:TH W M sv al H m) (hn:m<=n):TH W M sv al H n:=by
 obtain ⟨at_,ls,h1,h2,h3⟩:=h
 exact ⟨at_,ls,h1,Inv.mono h2 hn,h3⟩
theorem TH.below (h:TH W M sv al H m) (hb:Below W.heap.size W W'):TH W' M sv al H m:=by
 obtain ⟨at_,ls,h1,h2,h3⟩:=h
 exact ⟨at_,ls,h1.below hb,h2,h3⟩
def fitsP (sv:List S71) (al:Int->Rat) (H:List Hol) (s:Int) (q:Rat):Bool:=(Z0 sv s).all fun y=>decide (heldH sv H y+q<=al y)
def joinTE (sv:List S71) (al:Int->Rat) (H:List Hol) (z s:Int) (x:S34):Int :=
 if (thereB sv.length s && mayW x)=false then 1 else if hasH H z=true then 14 else if fitsP sv al H s (wt x)=true then 0 else 18
def joinTH (sv:List S71) (al:Int->Rat) (H:List Hol) (z s:Int) (x:S34):List Hol:=if joinTE sv al H z s x=0 then H++[⟨z,s,newH x⟩] else H
theorem srvH_in (hs:∀x∈H,inR sv.length x.srv) {z:Int} (h:hasH H z=true):inR sv.length (srvH H z):=by
 obtain ⟨x,hx⟩:=getH_some h
 unfold srvH
 rw [hx]
 exact hs x (getH_mem hx).1
theorem srvH_no {z:Int} (h:hasH H z=false):srvH H z = -2:=by
 unfold srvH
 cases e:getH H z with
 | none=>rfl
 | some x =>
  have:=hasH_iff.2 ⟨x,getH_mem e⟩
  rw [h] at this
  cases this
theorem at_len {at_:List (Int × Int)} {ls:Int->List (Int × Hd)} (h:Inv sv al at_ ls H m):at_.length<=m:=by
 rw [h.at_.length_eq,List.length_map]
 exact h.len
set_option maxRecDepth 100000 in
set_option maxHeartbeats 8000000 in
theorem tjoin_calls (hT:TH w M sv al H m) (hm:m<400) (z s:Int) (x:S34) (hz:wfI z) :
  Calls Try.prog 45 #[.pointer (some ⟨M.t,0,none⟩),.int .i64 z,.int .i64 s,.agg #[.int .i64 x.f0,.int .i64 x.f1]] w fun e w'=>e=.returned (.int .i64 (joinTE sv al H z s x))/\TH w' M sv al (joinTH sv al H z s x) (m+1)/\Kt M sv.length w w':=by
 have mixed:Try.prog.follows Departure.mixedOrders=true:=by kernel_rfl
 obtain ⟨at_,ls,hT,hI,hG⟩:=hT
 obtain ⟨W0,hW0⟩:∃W0,W0=(w.alloc (.cells #[.int .i64 z] 3)).alloc (.cells #[.int .i64 x.f0,.int .i64 x.f1] 34):=⟨_,rfl⟩
 have hb0:Below w.heap.size w W0:=by rw [hW0];exact Zb (Zb (Below.refl _ _) _) _
 have HB0:=Zz.mk hb0
 have HM0:=Zz.mk (show MBlk W0 w.heap.size 3 #[.int .i64 z]/\MBlk W0 (w.heap.size+1) 34 #[.int .i64 x.f0,.int .i64 x.f1]/\W0.heap.size=w.heap.size+2 by
  rw [hW0]
  refine ⟨Zp (Zo _ _ _) _,?_,by simp⟩
  have:=Zo (w.alloc (.cells #[.int .i64 z] 3)) 34 #[.int .i64 x.f0,.int .i64 x.f1]
  rwa [World.size_alloc] at this)
 have HT0:=Zz.mk (hT.below hb0)
 have HI:=Zz.mk hI
 have HG:=Zz.mk hG
 have HZ:=Zz.mk (And.intro hz hm)
 have HC:=Zz.mk (wcheck_f x)
 obtain ⟨r,hr⟩:∃r,r=joinTE sv al H z s x:=⟨_,rfl⟩
 obtain ⟨H',hH'⟩:∃H',H'=joinTH sv al H z s x:=⟨_,rfl⟩
 rw [<-hr,<-hH']
 have HR:=Zz.mk (And.intro hr hH')
 clear hT hI hG hz hm hb0 hr hH'
 have c0:W0.cell? ⟨w.heap.size,0,none⟩=some (.int .i64 z):=(Zg HM0.out.1 0).trans rfl
 have x0:W0.cell? ⟨w.heap.size+1,0,none⟩=some (.int .i64 x.f0):=(Zg HM0.out.2.1 0).trans rfl
 have x1:W0.cell? ⟨w.heap.size+1,1,none⟩=some (.int .i64 x.f1):=(Zg HM0.out.2.1 1).trans rfl
 go_enter Try.func45,Try.ntmps45
 go_upto_region 1 with fail
 rw [<-hW0]
 clear hW0
 cases ht:thereB sv.length s with
 | false =>
  have hr1:r=1:=by rw [HR.out.1];unfold joinTE;rw [ht];rfl
  have hH:H'=H:=by rw [HR.out.2];unfold joinTH;rw [<-HR.out.1,hr1];rfl
  subst hr1
  go_wp2_with (go_at_call 83;refine (there_calls HT0.out s).mono ?_;rw [ht];rintro e w1 ⟨rfl,rfl⟩;clear ht)
  go_ret
  exact ⟨rfl,by rw [hH];exact ⟨at_,ls,HT0.out,Inv.mono HI.out (by omega),HG.out⟩,Kt.of HB0.out⟩
 | true =>
  have HIN:=Zz.mk (there_in.1 ht)
  cases hmw:mayW x with
  | false =>
   have hr1:r=1:=by rw [HR.out.1];unfold joinTE;rw [ht,hmw];rfl
   have hH:H'=H:=by rw [HR.out.2];unfold joinTH;rw [<-HR.out.1,hr1];rfl
   subst hr1
   go_wp2_with (first
    | (go_at_call 83;refine (there_calls HT0.out s).mono ?_;rw [ht];rintro e w1 ⟨rfl,rfl⟩;clear ht)
    | (go_at_call 66;refine (window_Check.calls x.f0 x.f1 _ _ HC.out).mono ?_;rw [hmw];rintro e w3 ⟨rfl,hb⟩;have HB3:=Zz.mk hb;clear hb))
   go_ret
   exact ⟨rfl,by rw [hH];exact ⟨at_,ls,HT0.out.below HB3.out,Inv.mono HI.out (by omega),HG.out⟩,Kt.of (Zi HB0.out HB3.out)⟩
  | true =>
   have HMW:=Zz.mk hmw
   cases hh:hasH H z with
   | true =>
    have hr1:r=14:=by rw [HR.out.1];unfold joinTE;rw [ht,hmw,hh];rfl
    have hH:H'=H:=by rw [HR.out.2];unfold joinTH;rw [<-HR.out.1,hr1];rfl
    subst hr1
    have hin:=srvH_in HI.out.srv hh
    obtain ⟨y,hy⟩:∃y,y=srvH H z:=⟨_,rfl⟩
    rw [<-hy] at hin
    have d1:(y != (-2:Int))=true:=bne_iff_ne.mpr (by have:=hin.1;omega)
    have d2:(y=(-2:Int))=False:=eq_false (by have:=hin.1;omega)
    have HY:=Zz.mk hy
    clear hin hy
    go_wp2_with (first
     | (go_at_call 83;refine (there_calls HT0.out s).mono ?_;rw [ht];rintro e w1 ⟨rfl,rfl⟩;clear ht)
     | (go_at_call 66;refine (window_Check.calls x.f0 x.f1 _ _ HC.out).mono ?_;rw [hmw];rintro e w3 ⟨rfl,hb⟩;have HB3:=Zz.mk (Zi HB0.out hb);have HM3:=Zz.mk (And.intro ((hb.block _ (Zn HM0.out.1)).trans HM0.out.1) ((hb.block _ (Zn HM0.out.2.1)).trans HM0.out.2.1));have HT3:=Zz.mk (HT0.out.below hb);have c3:w3.cell? ⟨w.heap.size,0,none⟩=some (.int .i64 z):=(Zg HM3.out.1 0).trans rfl;clear hb hmw)
     | (go_at_call 58;refine (server_calls HT3.out HZ.out.1).mono ?_;rw [HI.out.srvA z,<-HY.out];rintro e w4 ⟨rfl,rfl⟩))
    go_ret
    exact ⟨rfl,by rw [hH];exact ⟨at_,ls,HT3.out,Inv.mono HI.out (by omega),HG.out⟩,Kt.of HB3.out⟩
   | false =>
    have HH:=Zz.mk hh
    have HSV:=Zz.mk (srvH_no hh)
    go_wp2_with (first
     | (go_at_call 83;refine (there_calls HT0.out s).mono ?_;rw [ht];rintro e w1 ⟨rfl,rfl⟩;clear ht)
     | (go_at_call 66;refine (window_Check.calls x.f0 x.f1 _ _ HC.out).mono ?_;rw [hmw];rintro e w3 ⟨rfl,hb⟩;have HB3:=Zz.mk (Zi HB0.out hb);have HM3:=Zz.mk (And.intro ((hb.block _ (Zn HM0.out.1)).trans HM0.out.1) ((hb.block _ (Zn HM0.out.2.1)).trans HM0.out.2.1));have HT3:=Zz.mk (HT0.out.below hb);have c3:w3.cell? ⟨w.heap.size,0,none⟩=some (.int .i64 z):=(Zg HM3.out.1 0).trans rfl;clear hb hmw)
     | (go_at_call 58;refine (server_calls HT3.out HZ.out.1).mono ?_;rw [HI.out.srvA z,HSV.out];rintro e w4 ⟨rfl,rfl⟩))
    have hz400:=HZ.out.2
    have hall:=XAllJ.all_calls (bx:=[bxI w.heap.size z,bxW (w.heap.size+1) x]) HT3.out HG.out HIN.out (k1:=w.heap.size) (k2:=w.heap.size+1)
     (fun y hy=>by
      have h1:=Zn HM3.out.1
      have h2:=Zn HM3.out.2
      rcases List.mem_cons.1 hy with rfl|hy
      ·exact h1
      ·rw [List.mem_singleton.1 hy];exact h2)
     (fun y hy=>by
      rcases List.mem_cons.1 hy with rfl|hy
      ·exact bxI_ty _ _
      ·rw [List.mem_singleton.1 hy];exact bxW_ty _ _)
     (fun y hy=>by
      rcases List.mem_cons.1 hy with rfl|hy
      ·exact HM3.out.1
      ·rw [List.mem_singleton.1 hy];exact HM3.out.2)
     (join1 w.heap.size (w.heap.size+1) z x HZ.out.1) (join2 w.heap.size z _ (by simp) HZ.out.1)
     (fun y hy=>HI.out.pa (by omega) (path_in HG.out s HIN.out y hy).1)
     (fun y hy h0=>by
      have hyi:=(path_in HG.out s HIN.out y hy).1
      have h1:=HI.out.joinE HMW.out HH.out hyi
      rw [h0] at h1
      have hf:heldH sv H y+wt x<=al y:=by
       by_cases c:heldH sv H y+wt x<=al y
       ·exact c
       ·rw [if_neg c] at h1;cases h1
      show PuL (al y) (joinL (al y) (Zy (ls y)) (ls y) z x)
      rw [HI.out.joinL HMW.out HH.out hyi hf]
      have hg:=HI.out.good (by omega) hyi
      have hl:=(HI.out.pa (by omega) hyi).2.2
      exact ⟨by simp;omega,fun q hq=>by
       rcases List.mem_append.1 hq with hq|hq
       ·exact hg.ok q hq
       ·rw [List.mem_singleton.1 hq];exact ⟨(may_okW HMW.out).1,fun c=>by cases c⟩⟩)
     (fun y hy h0=>joinL_same h0)
    refine hall.mono ?_
    clear hall
    rintro e w5 ⟨ls',hkt,htr,⟨rfl,hE,rfl⟩|⟨pre,y,rr,hp,hE,hne,rfl,rfl⟩⟩
    ·have hfits:∀y∈Z0 sv s,heldH sv H y+wt x<=al y:=fun y hy=>by
      have h1:=HI.out.joinE (z:=z) HMW.out HH.out (path_in HG.out s HIN.out y hy).1
      rw [hE y hy] at h1
      by_cases c:heldH sv H y+wt x<=al y
      ·exact c
      ·rw [if_neg c] at h1;cases h1
     have hr1:r=0:=by
      rw [HR.out.1]
      unfold joinTE
      have hp:fitsP sv al H s (wt x)=true:=by
       unfold fitsP
       rw [List.all_eq_true]
       exact fun y hy=>decide_eq_true (hfits y hy)
      rw [there_in.2 HIN.out,HMW.out,HH.out,hp]
      rfl
     have hH:H'=H++[⟨z,s,newH x⟩]:=by rw [HR.out.2];unfold joinTH;rw [<-HR.out.1,hr1];rfl
     have hinv:=HI.out.join HG.out HIN.out HMW.out HH.out HZ.out.1 hfits
     have HF:=Zz.mk (And.intro hinv hH)
     have m5:MBlk w5 w.heap.size 3 #[.int .i64 z]:=mblk_stay HT3.out hkt HM3.out.1 (by decide)
     have c5:w5.cell? ⟨w.heap.size,0,none⟩=some (.int .i64 z):=(Zg m5 0).trans rfl
     have k5:=htr.cell2
     have hk5:=HT3.out
     have htd:=htr.below (Zr (Below.refl w5.heap.size w5))
     obtain ⟨w6,hrun,hm6,ht6⟩:=XAt.map_put htd.map (by have:=at_len HI.out;have:=HZ.out.2;omega) HZ.out.1 s
     have H6:=Zz.mk (show Tre w6 M sv (XAt.setL at_ z s) al _/\Kt M sv.length w w6 from ⟨htd.turn ht6 hm6,(Kt.of HB3.out).trans (hkt.trans ((Kt.of (Zr (Below.refl w5.heap.size w5))).trans (Kt.turn ht6)))⟩)
     subst hr1
     clear hfits hinv hH hE m5 hkt htr hk5 htd hm6 ht6 hz400
     go_wp2_with fail
     go_region
     go_wp2_with fail
     go_ret
     exact ⟨rfl,by rw [HF.out.2];exact ⟨_,_,H6.out.1,HF.out.1,HG.out⟩,H6.out.2⟩
    ·have hyp:y∈Z0 sv s:=by rw [hp];simp
     have hyi:=(path_in HG.out s HIN.out y hyp).1
     have hj:=HI.out.joinE (z:=z) HMW.out HH.out hyi
     have hnf:¬ heldH sv H y+wt x<=al y:=fun c=>by
      rw [if_pos c] at hj
      exact hne hj
     rw [if_neg hnf] at hj
     have hr1:r=18:=by
      rw [HR.out.1]
      unfold joinTE
      have hp:fitsP sv al H s (wt x)=false:=by
       unfold fitsP
       rw [List.all_eq_false]
       exact ⟨y,hyp,by simpa using hnf⟩
      rw [there_in.2 HIN.out,HMW.out,HH.out,hp]
      rfl
     have hH:H'=H:=by rw [HR.out.2];unfold joinTH;rw [<-HR.out.1,hr1];rfl
     have hun:=HI.out.unjoin (z:=z) HMW.out HH.out (fun q hq=>(path_in HG.out s HIN.out q (by rw [hp];simp [hq])).1) hE
     have HF:=Zz.mk (show TH w5 M sv al H' (m+1)/\Kt M sv.length w w5 by
      rw [hH]
      refine ⟨⟨at_,ls,?_,Inv.mono HI.out (by omega),HG.out⟩,(Kt.of HB3.out).trans hkt⟩
      have:=htr
      rw [hun] at this
      exact this)
     subst hr1
     rw [hj]
     clear hH hun hE htr hkt hj hnf hne hyi hyp hp hz400
     go_wp2_with fail
     go_ret
     exact ⟨rfl,HF.out⟩
end
end Go.Proofs.Ytfldklimlcnnnaa.XTJoin
end

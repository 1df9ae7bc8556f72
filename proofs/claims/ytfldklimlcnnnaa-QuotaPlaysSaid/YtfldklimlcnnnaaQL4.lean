/- The words and walks that the law QuotaPlays is proved by, part 4: each text in a section of its own. -/
import Derived.Test.YtfldklimlcnnnaaQL3
import Derived.RowKit
import Derived.Laws.BitsAllLaws
import Derived.Laws.BitsLemmas
set_option linter.unusedVariables false
set_option linter.unusedSimpArgs false
section
namespace Go.Proofs.Ytfldklimlcnnnaa.PHq
open Go.RowKit YtfldklimlcnnnaaW.PrintWords YtfldklimlcnnnaaW.PrintLast YtfldklimlcnnnaaW.PrintMore MWords
attribute [local go_sem] max2_int min2_int max_two min_two max_three min_three max_four min_four   -- for this text's walks alone
def r03_Cmp.f (k:Nat) (l0_0:List Int) (l0_1:List Int) (l1_0:List Int) (l1_1:List Int):Option (Int):=(r02_Mul.f k l0_0 l1_1).bind fun t407=>((r02_Mul.f k l1_0 l0_1).bind fun t410=>((r02_Cmp.f k t407 t410).bind fun t413=>(some t413)))
def r03_Cmp.T1:Bool × List (List Nat × List Nat):=(true,[([],[]),([0],[0]),([],[]),([2],[2]),([1,3],[1,3]),([],[]),([5],[5]),([],[]),([7],[7]),([6,8,4],[6,8]),([4,9,9],[4,9]),([10,10,0,1,2,3,4,5,6,7,8,9,10],[10])])
def r03_Cmp.B1:List Nat:=[0,1,0,4,15,0,32,0,128,511,1023,2047]
theorem r03_Cmp.tab1:rtab .any (opsOf Try.f19 1)=r03_Cmp.T1:=by kernel_rfl
theorem r03_Cmp.bits1:waitsOk r03_Cmp.T1.2 r03_Cmp.B1=true:=by kernel_rfl
set_option maxHeartbeats 8000000 in
set_option maxRecDepth 100000 in
theorem r03_Cmp.calls (k:Nat) (A0_0:Option Addr) (c0_0:Nat) (l0_0:List Int) (A0_1:Option Addr) (c0_1:Nat) (l0_1:List Int) (A1_0:Option Addr) (c1_0:Nat) (l1_0:List Int) (A1_1:Option Addr) (c1_1:Nat) (l1_1:List Int) (r:Int) (w:World) (hr0_0:Kd.C (Kd.int .u32) w A0_0 l0_0.length l0_0) (hc0_0:l0_0.length<=c0_0) (hr0_1:Kd.C (Kd.int .u32) w A0_1 l0_1.length l0_1) (hc0_1:l0_1.length<=c0_1) (hr1_0:Kd.C (Kd.int .u32) w A1_0 l1_0.length l1_0) (hc1_0:l1_0.length<=c1_0) (hr1_1:Kd.C (Kd.int .u32) w A1_1 l1_1.length l1_1) (hc1_1:l1_1.length<=c1_1) (h:r03_Cmp.f k l0_0 l0_1 l1_0 l1_1=some r) :
  Calls Try.prog 19 #[.agg #[.slice A0_0 l0_0.length c0_0,.slice A0_1 l0_1.length c0_1],.agg #[.slice A1_0 l1_0.length c1_0,.slice A1_1 l1_1.length c1_1]] w fun e w'=>e=.returned (.int .i64 r)/\Below w.heap.size w w':=by
 have hu28:=Try.underlying28
 have HR0_0:=Zz.mk hr0_0
 have HC0_0:=Zz.mk hc0_0
 clear hr0_0 hc0_0
 have HR0_1:=Zz.mk hr0_1
 have HC0_1:=Zz.mk hc0_1
 clear hr0_1 hc0_1
 have HR1_0:=Zz.mk hr1_0
 have HC1_0:=Zz.mk hc1_0
 clear hr1_0 hc1_0
 have HR1_1:=Zz.mk hr1_1
 have HC1_1:=Zz.mk hc1_1
 clear hr1_1 hc1_1
 have HB:=Zz.mk (Below.refl w.heap.size w)
 have H:((r02_Mul.f k l0_0 l1_1).bind fun t407=>((r02_Mul.f k l1_0 l0_1).bind fun t410=>((r02_Cmp.f k t407 t410).bind fun t413=>(some t413))))=some r:=h
 clear h
 replace H:=Option.bind_eq_some_iff.mp H
 obtain ⟨t407,A30,H⟩:=H
 replace H:((r02_Mul.f k l1_0 l0_1).bind fun t410=>((r02_Cmp.f k t407 t410).bind fun t413=>(some t413)))=some r:=H
 have A3:=Zz.mk A30
 clear A30
 replace H:=Option.bind_eq_some_iff.mp H
 obtain ⟨t410,A40,H⟩:=H
 replace H:((r02_Cmp.f k t407 t410).bind fun t413=>(some t413))=some r:=H
 have A4:=Zz.mk A40
 clear A40
 replace H:=Option.bind_eq_some_iff.mp H
 obtain ⟨t413,A50,H⟩:=H
 replace H:(some t413)=some r:=H
 have A5:=Zz.mk A50
 clear A50
 obtain rfl:=Option.some.inj H
 go_enter Try.func19,Try.ntmps19
 try go_wp2_with (first|((with_reducible refine Zt (N:=2) rfl ?_);refine Zu ?hg (N:=2) ?hd (cs:=#[.slice A0_0 l0_0.length c0_0,.slice A0_1 l0_1.length c0_1]) (t:=28) ?hr ?_;(case hd=>rfl);(case hg=>rfl);(case hr=>first|(go_simp;done)|(go_simp;rfl));intro gb405 hg w6 hbox hb;have n0_:=Zz.mk (Zi (by repeat (first|(with_reducible first|exact HB.out|apply Zb|apply Za|apply Zc)|exact HB.out)) hb);have n1_:=Zz.mk (hbox);have n2_:=Zz.mk ((by rw [hg];exact (Zf (by repeat (first|(with_reducible first|exact HB.out|apply Zb|apply Za|apply Zc)|exact HB.out))):w.heap.size<=gb405));have n3_:=Zz.mk ((by rw [hg];exact (Zf (by repeat (first|(with_reducible first|exact HB.out|apply Zb|apply Za|apply Zc)|exact HB.out))):w.heap.size<=gb405));clear HB;have HB:=n0_;have BK405:=n1_;have GW405:=n2_;have GE405:=n3_;clear n0_ n1_ n2_ n3_;clear hb hbox hg)|((with_reducible refine Zt (N:=3) rfl ?_);refine Zu ?hg (N:=3) ?hd (cs:=#[.slice A1_0 l1_0.length c1_0,.slice A1_1 l1_1.length c1_1]) (t:=28) ?hr ?_;(case hd=>rfl);(case hg=>rfl);(case hr=>first|(go_simp;done)|(go_simp;rfl));intro gb406 hg w7 hbox hb;have n0_:=Zz.mk (Zk (g:=gb405) (o:=.cells #[.slice A0_0 l0_0.length c0_0,.slice A0_1 l0_1.length c0_1] 28 (0,0)) (by (with_reducible repeat (first|refine blk_drewN ?_ _|refine Ze ?_|refine blk_alloc ?_ _));exact BK405.out) hb);have n1_:=Zz.mk (Zi (by repeat (first|(with_reducible first|exact HB.out|apply Zb|apply Za|apply Zc|refine Zd ?_ GE405.out)|exact HB.out)) hb);have n2_:=Zz.mk (hbox);have n3_:=Zz.mk ((by rw [hg];exact (Zf (by repeat (first|(with_reducible first|exact HB.out|apply Zb|apply Za|apply Zc|refine Zd ?_ GE405.out)|exact HB.out))):w.heap.size<=gb406));have n4_:=Zz.mk ((by rw [hg];exact (Zf (by repeat (first|(with_reducible first|exact HB.out|apply Zb|apply Za|apply Zc|refine Zd ?_ GE405.out)|exact HB.out))):w.heap.size<=gb406));have n5_:=Zz.mk ((by rw [hg];exact Nat.ne_of_lt (Z5 (g:=gb405) (o:=.cells #[.slice A0_0 l0_0.length c0_0,.slice A0_1 l0_1.length c0_1] 28 (0,0)) (by (with_reducible repeat (first|refine blk_drewN ?_ _|refine Ze ?_|refine blk_alloc ?_ _));exact BK405.out)):gb405≠gb406));have n6_:=Zz.mk ((by rw [hg];exact Nat.ne_of_gt (Z5 (g:=gb405) (o:=.cells #[.slice A0_0 l0_0.length c0_0,.slice A0_1 l0_1.length c0_1] 28 (0,0)) (by (with_reducible repeat (first|refine blk_drewN ?_ _|refine Ze ?_|refine blk_alloc ?_ _));exact BK405.out)):gb406≠gb405));clear BK405;clear HB;have BK405:=n0_;have HB:=n1_;have BK406:=n2_;have GW406:=n3_;have GE406:=n4_;have NB405_406:=n5_;have NB406_405:=n6_;clear n0_ n1_ n2_ n3_ n4_ n5_ n6_;clear hb hbox hg))
 have n0_:=Zz.mk (Ze BK405.out)
 have n1_:=Zz.mk (Ze BK406.out)
 have n2_:=Zz.mk (Zc HB.out)
 clear BK405
 clear BK406
 clear HB
 have BK405:=n0_
 have BK406:=n1_
 have HB:=n2_
 clear n0_ n1_ n2_
 refine start_ (n:=12) (S:=fun w'=>w'.cell? ⟨gb405,0,none⟩=some (.slice A0_0 l0_0.length c0_0)/\w'.cell? ⟨gb405,1,none⟩=some (.slice A0_1 l0_1.length c0_1)/\w'.cell? ⟨gb406,0,none⟩=some (.slice A1_0 l1_0.length c1_0)/\w'.cell? ⟨gb406,1,none⟩=some (.slice A1_1 l1_1.length c1_1)) (ds:=[]) #[false,false,false,false,false,false,false,false,false,false,false,false] (by kernel_rfl) rfl rfl ⟨(Zh BK405.out 0).trans rfl,(Zh BK405.out 1).trans rfl,(Zh BK406.out 0).trans rfl,(Zh BK406.out 1).trans rfl⟩ (fun hHeld=>?_);refine with_tabW r03_Cmp.tab1 r03_Cmp.bits1 (fun HT_ HW_=>?_)
 generalize w7.drew=w8 at BK405 BK406 HB hHeld ⊢
 refine pure_ (i:=0) (N:=some 5) (v:=?_) (a':=?_) #[true,false,false,false,false,false,false,false,false,false,false,false] rfl rfl (Z3 HT_.out (by kernel_rfl)) (fun _ _ _ h=>h) (Or.inl ⟨by rfl,?_⟩) ?_ ?_
 rotate_left
 ·intro w'
  go_simp
  with_reducible rfl
 rotate_left
 ·simp only [Act.put,List.setIfInBounds_toArray,List.set_cons_zero,List.set_cons_succ,Z6,Z7]
  rfl
 refine pure_ (i:=2) (N:=some 7) (v:=?_) (a':=?_) #[true,false,true,false,false,false,false,false,false,false,false,false] rfl rfl (Z3 HT_.out (by kernel_rfl)) (fun _ _ _ h=>h) (Or.inl ⟨by rfl,?_⟩) ?_ ?_
 rotate_left
 ·intro w'
  go_simp
  with_reducible rfl
 rotate_left
 ·simp only [Act.put,List.setIfInBounds_toArray,List.set_cons_zero,List.set_cons_succ,Z6,Z7]
  rfl
 refine pure_ (i:=5) (N:=some 10) (v:=?_) (a':=?_) #[true,false,true,false,false,true,false,false,false,false,false,false] rfl rfl (Z3 HT_.out (by kernel_rfl)) (fun _ _ _ h=>h) (Or.inl ⟨by rfl,?_⟩) ?_ ?_
 rotate_left
 ·intro w'
  go_simp
  with_reducible rfl
 rotate_left
 ·simp only [Act.put,List.setIfInBounds_toArray,List.set_cons_zero,List.set_cons_succ,Z6,Z7]
  rfl
 refine pure_ (i:=7) (N:=some 12) (v:=?_) (a':=?_) #[true,false,true,false,false,true,false,true,false,false,false,false] rfl rfl (Z3 HT_.out (by kernel_rfl)) (fun _ _ _ h=>h) (Or.inl ⟨by rfl,?_⟩) ?_ ?_
 rotate_left
 ·intro w'
  go_simp
  with_reducible rfl
 rotate_left
 ·simp only [Act.put,List.setIfInBounds_toArray,List.set_cons_zero,List.set_cons_succ,Z6,Z7]
  rfl
 refine take_ (i:=1) (N:=some 6) (v:=?_) (a':=?_) #[true,true,true,false,false,true,false,true,false,false,false,false] rfl rfl (Zw HT_.out HW_.out (by kernel_rfl)) (fun _ _ _ h=>h) (Or.inl ⟨by rfl,?_⟩) hHeld ?_ ?_
 rotate_left
 ·rintro w' ⟨s0,s1,s2,s3⟩
  go_simp
  with_reducible rfl
 rotate_left
 ·simp only [Act.put,List.setIfInBounds_toArray,List.set_cons_zero,List.set_cons_succ,Z6,Z7]
  rfl
 refine take_ (i:=3) (N:=some 8) (v:=?_) (a':=?_) #[true,true,true,true,false,true,false,true,false,false,false,false] rfl rfl (Zw HT_.out HW_.out (by kernel_rfl)) (fun _ _ _ h=>h) (Or.inl ⟨by rfl,?_⟩) hHeld ?_ ?_
 rotate_left
 ·rintro w' ⟨s0,s1,s2,s3⟩
  go_simp
  with_reducible rfl
 rotate_left
 ·simp only [Act.put,List.setIfInBounds_toArray,List.set_cons_zero,List.set_cons_succ,Z6,Z7]
  rfl
 refine take_ (i:=6) (N:=some 11) (v:=?_) (a':=?_) #[true,true,true,true,false,true,true,true,false,false,false,false] rfl rfl (Zw HT_.out HW_.out (by kernel_rfl)) (fun _ _ _ h=>h) (Or.inl ⟨by rfl,?_⟩) hHeld ?_ ?_
 rotate_left
 ·rintro w' ⟨s0,s1,s2,s3⟩
  go_simp
  with_reducible rfl
 rotate_left
 ·simp only [Act.put,List.setIfInBounds_toArray,List.set_cons_zero,List.set_cons_succ,Z6,Z7]
  rfl
 refine take_ (i:=8) (N:=some 13) (v:=?_) (a':=?_) #[true,true,true,true,false,true,true,true,true,false,false,false] rfl rfl (Zw HT_.out HW_.out (by kernel_rfl)) (fun _ _ _ h=>h) (Or.inl ⟨by rfl,?_⟩) hHeld ?_ ?_
 rotate_left
 ·rintro w' ⟨s0,s1,s2,s3⟩
  go_simp
  with_reducible rfl
 rotate_left
 ·simp only [Act.put,List.setIfInBounds_toArray,List.set_cons_zero,List.set_cons_succ,Z6,Z7]
  rfl
 refine one_ (i:=4) (N:=some 9) #[true,true,true,true,true,true,true,true,true,false,false,false] rfl rfl (one_of HT_.out (by kernel_rfl)) (by decide) (fun K hK=>?_)
 refine goes_ Try.func69 (by kernel_rfl) rfl #[.slice A0_0 l0_0.length c0_0,.slice A1_1 l1_1.length c1_1] (by rfl) rfl rfl (by (try simp only [List.map_toArray,List.map_cons,List.map_nil]);first|done|rfl|(simp only [List.length_drop,List.length_take];rfl)) ?_
 with_reducible refine (r02_Mul.calls k _ _ l0_0 _ _ l1_1 t407 _ ?side1 ?side2 ?side3 ?side4 A3.out).mono ?_
 (case side1=>repeat (first|exact (Kd.C_below HR0_0.out HB.out)|(with_reducible refine Kd.C_alloc ?_ _)|(with_reducible refine Kd.C_drewN ?_ _)|(with_reducible refine Kd.C_drew ?_)))
 (case side2=>exact HC0_0.out)
 (case side3=>repeat (first|exact (Kd.C_below HR1_1.out HB.out)|(with_reducible refine Kd.C_alloc ?_ _)|(with_reducible refine Kd.C_drewN ?_ _)|(with_reducible refine Kd.C_drew ?_)))
 (case side4=>exact HC1_1.out)
 rintro e w9 ⟨v408,rfl,ho0,hb⟩
 refine ⟨_,rfl,?_⟩
 have n0_:=Zz.mk (Kd.R_lower ho0 (Zf (by repeat (first|(with_reducible first|exact HB.out|apply Zb|apply Za|apply Zc|refine Zd ?_ GE405.out|refine Zd ?_ GE406.out)|exact HB.out))))
 have n1_:=Zz.mk (Zk (g:=gb405) (o:=.cells #[.slice A0_0 l0_0.length c0_0,.slice A0_1 l0_1.length c0_1] 28 (0,0)) (by (with_reducible repeat (first|refine blk_drewN ?_ _|refine Ze ?_|refine blk_alloc ?_ _));exact BK405.out) hb)
 have n2_:=Zz.mk (Zk (g:=gb406) (o:=.cells #[.slice A1_0 l1_0.length c1_0,.slice A1_1 l1_1.length c1_1] 28 (0,0)) (by (with_reducible repeat (first|refine blk_drewN ?_ _|refine Ze ?_|refine blk_alloc ?_ _));exact BK406.out) hb)
 have n3_:=Zz.mk (Zi (by repeat (first|(with_reducible first|exact HB.out|apply Zb|apply Za|apply Zc|refine Zd ?_ GE405.out|refine Zd ?_ GE406.out)|exact HB.out)) hb)
 clear BK405
 clear BK406
 clear HB
 have HO409:=n0_
 have BK405:=n1_
 have BK406:=n2_
 have HB:=n3_
 clear n0_ n1_ n2_ n3_
 (try clear hb)
 (try clear hb2)
 (try clear hk)
 (try clear hi)
 (try clear ho0)
 refine hK.out _ _ ⟨(Zh BK405.out 0).trans rfl,(Zh BK405.out 1).trans rfl,(Zh BK406.out 0).trans rfl,(Zh BK406.out 1).trans rfl⟩ (fun hHeld=>?_)
 clear hK K
 refine norm_ (a':=?_) ?_ ?_
 rotate_left
 ·show Act.put _ (some 9) _=_
  simp only [Act.put,List.setIfInBounds_toArray,List.set_cons_zero,List.set_cons_succ,Z6,Z7]
  rfl
 refine one_ (i:=9) (N:=some 14) #[true,true,true,true,true,true,true,true,true,true,false,false] rfl rfl (one_of HT_.out (by kernel_rfl)) (by decide) (fun K hK=>?_)
 refine goes_ Try.func69 (by kernel_rfl) rfl #[.slice A1_0 l1_0.length c1_0,.slice A0_1 l0_1.length c0_1] (by rfl) rfl rfl (by (try simp only [List.map_toArray,List.map_cons,List.map_nil]);first|done|rfl|(simp only [List.length_drop,List.length_take];rfl)) ?_
 with_reducible refine (r02_Mul.calls k _ _ l1_0 _ _ l0_1 t410 _ ?side1 ?side2 ?side3 ?side4 A4.out).mono ?_
 (case side1=>repeat (first|exact (Kd.C_below HR1_0.out HB.out)|(with_reducible refine Kd.C_alloc ?_ _)|(with_reducible refine Kd.C_drewN ?_ _)|(with_reducible refine Kd.C_drew ?_)))
 (case side2=>exact HC1_0.out)
 (case side3=>repeat (first|exact (Kd.C_below HR0_1.out HB.out)|(with_reducible refine Kd.C_alloc ?_ _)|(with_reducible refine Kd.C_drewN ?_ _)|(with_reducible refine Kd.C_drew ?_)))
 (case side4=>exact HC0_1.out)
 rintro e w10 ⟨v411,rfl,ho0,hb⟩
 refine ⟨_,rfl,?_⟩
 have n0_:=Zz.mk (Kd.R_elder' (by (with_reducible repeat (first|apply Kd.R_alloc|apply Kd.R_drewN|apply Kd.R_drew));exact HO409.out) (Kd.R_base ho0) hb)
 have n1_:=Zz.mk (Kd.R_lower (Kd.R_new' ho0 (Kd.R_lt (by (with_reducible repeat (first|apply Kd.R_alloc|apply Kd.R_drewN|apply Kd.R_drew));exact HO409.out))) (Zf (by repeat (first|(with_reducible first|exact HB.out|apply Zb|apply Za|apply Zc|refine Zd ?_ GE405.out|refine Zd ?_ GE406.out)|exact HB.out))))
 have n2_:=Zz.mk (Zk (g:=gb405) (o:=.cells #[.slice A0_0 l0_0.length c0_0,.slice A0_1 l0_1.length c0_1] 28 (0,0)) (by (with_reducible repeat (first|refine blk_drewN ?_ _|refine Ze ?_|refine blk_alloc ?_ _));exact BK405.out) hb)
 have n3_:=Zz.mk (Zk (g:=gb406) (o:=.cells #[.slice A1_0 l1_0.length c1_0,.slice A1_1 l1_1.length c1_1] 28 (0,0)) (by (with_reducible repeat (first|refine blk_drewN ?_ _|refine Ze ?_|refine blk_alloc ?_ _));exact BK406.out) hb)
 have n4_:=Zz.mk (Zi (by repeat (first|(with_reducible first|exact HB.out|apply Zb|apply Za|apply Zc|refine Zd ?_ GE405.out|refine Zd ?_ GE406.out)|exact HB.out)) hb)
 clear HO409
 clear BK405
 clear BK406
 clear HB
 have HO409:=n0_
 have HO412:=n1_
 have BK405:=n2_
 have BK406:=n3_
 have HB:=n4_
 clear n0_ n1_ n2_ n3_ n4_
 (try clear hb)
 (try clear hb2)
 (try clear hk)
 (try clear hi)
 (try clear ho0)
 obtain ⟨Ao11,co11,eo11⟩:=Kd.R_slice HO409.out
 (first|subst eo11|(injection eo11 with f1_ f2_ f3_;have f4_:=f1_.symm;have f5_:=f3_.symm;clear f1_ f2_ f3_;subst f4_;subst f5_))
 obtain ⟨Ao12,co12,eo12⟩:=Kd.R_slice HO412.out
 (first|subst eo12|(injection eo12 with f1_ f2_ f3_;have f4_:=f1_.symm;have f5_:=f3_.symm;clear f1_ f2_ f3_;subst f4_;subst f5_))
 refine hK.out _ _ ⟨(Zh BK405.out 0).trans rfl,(Zh BK405.out 1).trans rfl,(Zh BK406.out 0).trans rfl,(Zh BK406.out 1).trans rfl⟩ (fun hHeld=>?_)
 clear hK K
 refine norm_ (a':=?_) ?_ ?_
 rotate_left
 ·show Act.put _ (some 14) _=_
  simp only [Act.put,List.setIfInBounds_toArray,List.set_cons_zero,List.set_cons_succ,Z6,Z7]
  rfl
 refine one_ (i:=10) (N:=some 15) #[true,true,true,true,true,true,true,true,true,true,true,false] rfl rfl (one_of HT_.out (by kernel_rfl)) (by decide) (fun K hK=>?_)
 refine goes_ Try.func68 (by kernel_rfl) rfl #[.slice Ao11 t407.length co11,.slice Ao12 t410.length co12] (by rfl) rfl rfl (by (try simp only [List.map_toArray,List.map_cons,List.map_nil]);first|done|rfl|(simp only [List.length_drop,List.length_take];rfl)) ?_
 with_reducible refine (r02_Cmp.calls k _ _ t407 _ _ t410 t413 _ ?side1 ?side2 ?side3 ?side4 A5.out).mono ?_
 (case side1=>repeat (first|exact (Kd.R_reads' HO409.out).2.2|(with_reducible refine Kd.C_alloc ?_ _)|(with_reducible refine Kd.C_drewN ?_ _)|(with_reducible refine Kd.C_drew ?_)))
 (case side2=>exact (Kd.R_reads' HO409.out).2.1)
 (case side3=>repeat (first|exact (Kd.R_reads' HO412.out).2.2|(with_reducible refine Kd.C_alloc ?_ _)|(with_reducible refine Kd.C_drewN ?_ _)|(with_reducible refine Kd.C_drew ?_)))
 (case side4=>exact (Kd.R_reads' HO412.out).2.1)
 rintro e w13 ⟨rfl,hb⟩
 refine ⟨_,rfl,?_⟩
 have n0_:=Zz.mk (Kd.R_below (by (with_reducible repeat (first|apply Kd.R_alloc|apply Kd.R_drewN|apply Kd.R_drew));exact HO409.out) hb)
 have n1_:=Zz.mk (Kd.R_below (by (with_reducible repeat (first|apply Kd.R_alloc|apply Kd.R_drewN|apply Kd.R_drew));exact HO412.out) hb)
 have n2_:=Zz.mk (Zk (g:=gb405) (o:=.cells #[.slice A0_0 l0_0.length c0_0,.slice A0_1 l0_1.length c0_1] 28 (0,0)) (by (with_reducible repeat (first|refine blk_drewN ?_ _|refine Ze ?_|refine blk_alloc ?_ _));exact BK405.out) hb)
 have n3_:=Zz.mk (Zk (g:=gb406) (o:=.cells #[.slice A1_0 l1_0.length c1_0,.slice A1_1 l1_1.length c1_1] 28 (0,0)) (by (with_reducible repeat (first|refine blk_drewN ?_ _|refine Ze ?_|refine blk_alloc ?_ _));exact BK406.out) hb)
 have n4_:=Zz.mk (Zi (by repeat (first|(with_reducible first|exact HB.out|apply Zb|apply Za|apply Zc|refine Zd ?_ GE405.out|refine Zd ?_ GE406.out)|exact HB.out)) hb)
 clear HO409
 clear HO412
 clear BK405
 clear BK406
 clear HB
 have HO409:=n0_
 have HO412:=n1_
 have BK405:=n2_
 have BK406:=n3_
 have HB:=n4_
 clear n0_ n1_ n2_ n3_ n4_
 (try clear hb)
 (try clear hb2)
 (try clear hk)
 (try clear hi)
 refine hK.out _ _ ⟨(Zh BK405.out 0).trans rfl,(Zh BK405.out 1).trans rfl,(Zh BK406.out 0).trans rfl,(Zh BK406.out 1).trans rfl⟩ (fun hHeld=>?_)
 clear hK K
 refine norm_ (a':=?_) ?_ ?_
 rotate_left
 ·show Act.put _ (some 15) _=_
  simp only [Act.put,List.setIfInBounds_toArray,List.set_cons_zero,List.set_cons_succ,Z6,Z7]
  rfl
 refine pure_ (i:=11) (N:=some 4) (v:=?_) (a':=?_) #[true,true,true,true,true,true,true,true,true,true,true,true] rfl rfl (Z3 HT_.out (by kernel_rfl)) (fun _ _ _ h=>h) (Or.inl ⟨by rfl,?_⟩) ?_ ?_
 rotate_left
 ·intro w'
  go_simp
  with_reducible rfl
 rotate_left
 ·simp only [Act.put,List.setIfInBounds_toArray,List.set_cons_zero,List.set_cons_succ,Z6,Z7]
  rfl
 refine done_ (done_of HT_.out (by kernel_rfl)) ?_
 try go_wp2
 go_ret
 exact ⟨by first|rfl|(simp [Zm,Zl]<;>rfl)|(simp [*,Zm,Zl]<;>rfl),by repeat (first|(with_reducible first|exact HB.out|apply Zb|apply Za|apply Zc|refine Zd ?_ GE405.out|refine Zd ?_ GE406.out)|exact HB.out)⟩
def r03_Of.f (k:Nat) (a0_0:Int) (a0_1:Int):Option (List Int × List Int):=(r02_Of.f k (IntKind.u64.wrap (a0_0))).bind fun t416=>((r02_Of.f k (IntKind.u64.wrap (a0_1))).bind fun t419=>(some (t416,t419)))
def r03_Of.T1:Bool × List (List Nat × List Nat):=(true,[([],[]),([0],[0]),([1],[1]),([2],[2]),([],[]),([4],[4]),([5],[5]),([6,3],[6]),([3,7],[3,7]),([8,7,0,1,2,3,4,5,6,7,8],[8])])
def r03_Of.B1:List Nat:=[0,1,3,7,0,16,48,127,255,511]
theorem r03_Of.tab1:rtab .any (opsOf Try.f23 1)=r03_Of.T1:=by kernel_rfl
theorem r03_Of.bits1:waitsOk r03_Of.T1.2 r03_Of.B1=true:=by kernel_rfl
set_option maxHeartbeats 8000000 in
set_option maxRecDepth 100000 in
theorem r03_Of.calls (k:Nat) (a0_0:Int) (a0_1:Int) (r1:List Int) (r2:List Int) (w:World) (h:r03_Of.f k a0_0 a0_1=some (r1,r2)) :
  Calls Try.prog 23 #[.agg #[.int .i64 a0_0,.int .i64 a0_1]] w fun e w'=>∃v0_ v1_:Value,e=.returned (.agg #[v0_,v1_])/\Kd.R (Kd.int .u32) 89 w' w.heap.size (fun k_=>some k_≠(v1_:Value).ownBlock) v0_ r1/\Kd.R (Kd.int .u32) 89 w' w.heap.size (fun k_=>some k_≠(v0_:Value).ownBlock) v1_ r2/\Below w.heap.size w w':=by
 have hu34:=Try.underlying34
 have hu28:=Try.underlying28
 have HB:=Zz.mk (Below.refl w.heap.size w)
 have H:((r02_Of.f k (IntKind.u64.wrap (a0_0))).bind fun t416=>((r02_Of.f k (IntKind.u64.wrap (a0_1))).bind fun t419=>(some (t416,t419))))=some (r1,r2):=h
 clear h
 replace H:=Option.bind_eq_some_iff.mp H
 obtain ⟨t416,A20,H⟩:=H
 replace H:((r02_Of.f k (IntKind.u64.wrap (a0_1))).bind fun t419=>(some (t416,t419)))=some (r1,r2):=H
 have A2:=Zz.mk A20
 clear A20
 replace H:=Option.bind_eq_some_iff.mp H
 obtain ⟨t419,A30,H⟩:=H
 replace H:(some (t416,t419))=some (r1,r2):=H
 have A3:=Zz.mk A30
 clear A30
 simp only [Option.some.injEq,Prod.mk.injEq] at H
 obtain ⟨rfl,rfl⟩:=H
 go_enter Try.func23,Try.ntmps23
 try go_wp2_with (first|((with_reducible refine Zt (N:=1) rfl ?_);refine Zu ?hg (N:=1) ?hd (cs:=#[.int .i64 a0_0,.int .i64 a0_1]) (t:=34) ?hr ?_;(case hd=>rfl);(case hg=>rfl);(case hr=>first|(go_simp;done)|(go_simp;rfl));intro gb414 hg w4 hbox hb;have n0_:=Zz.mk (Zi (by repeat (first|(with_reducible first|exact HB.out|apply Zb|apply Za|apply Zc)|exact HB.out)) hb);have n1_:=Zz.mk (hbox);have n2_:=Zz.mk ((by rw [hg];exact (Zf (by repeat (first|(with_reducible first|exact HB.out|apply Zb|apply Za|apply Zc)|exact HB.out))):w.heap.size<=gb414));have n3_:=Zz.mk ((by rw [hg];exact (Zf (by repeat (first|(with_reducible first|exact HB.out|apply Zb|apply Za|apply Zc)|exact HB.out))):w.heap.size<=gb414));clear HB;have HB:=n0_;have BK414:=n1_;have GW414:=n2_;have GE414:=n3_;clear n0_ n1_ n2_ n3_;clear hb hbox hg)|((with_reducible refine Zt (N:=2) rfl ?_);refine Zu ?hg (N:=2) ?hd (cs:=#[.slice none 0 0,.slice none 0 0]) (t:=28) ?hr ?_;(case hd=>rfl);(case hg=>rfl);(case hr=>first|(go_simp;done)|(go_simp;rfl));intro gb415 hg w5 hbox hb;have n0_:=Zz.mk (Zk (g:=gb414) (o:=.cells #[.int .i64 a0_0,.int .i64 a0_1] 34 (0,0)) (by (with_reducible repeat (first|refine blk_drewN ?_ _|refine Ze ?_|refine blk_alloc ?_ _));exact BK414.out) hb);have n1_:=Zz.mk (Zi (by repeat (first|(with_reducible first|exact HB.out|apply Zb|apply Za|apply Zc|refine Zd ?_ GE414.out)|exact HB.out)) hb);have n2_:=Zz.mk (hbox);have n3_:=Zz.mk ((by rw [hg];exact (Zf (by repeat (first|(with_reducible first|exact HB.out|apply Zb|apply Za|apply Zc|refine Zd ?_ GE414.out)|exact HB.out))):w.heap.size<=gb415));have n4_:=Zz.mk ((by rw [hg];exact (Zf (by repeat (first|(with_reducible first|exact HB.out|apply Zb|apply Za|apply Zc|refine Zd ?_ GE414.out)|exact HB.out))):w.heap.size<=gb415));have n5_:=Zz.mk ((by rw [hg];exact Nat.ne_of_lt (Z5 (g:=gb414) (o:=.cells #[.int .i64 a0_0,.int .i64 a0_1] 34 (0,0)) (by (with_reducible repeat (first|refine blk_drewN ?_ _|refine Ze ?_|refine blk_alloc ?_ _));exact BK414.out)):gb414≠gb415));have n6_:=Zz.mk ((by rw [hg];exact Nat.ne_of_gt (Z5 (g:=gb414) (o:=.cells #[.int .i64 a0_0,.int .i64 a0_1] 34 (0,0)) (by (with_reducible repeat (first|refine blk_drewN ?_ _|refine Ze ?_|refine blk_alloc ?_ _));exact BK414.out)):gb415≠gb414));clear BK414;clear HB;have BK414:=n0_;have HB:=n1_;have BK415:=n2_;have GW415:=n3_;have GE415:=n4_;have NB414_415:=n5_;have NB415_414:=n6_;clear n0_ n1_ n2_ n3_ n4_ n5_ n6_;clear hb hbox hg))
 have n0_:=Zz.mk (Ze BK414.out)
 have n1_:=Zz.mk (Ze BK415.out)
 have n2_:=Zz.mk (Zc HB.out)
 clear BK414
 clear BK415
 clear HB
 have BK414:=n0_
 have BK415:=n1_
 have HB:=n2_
 clear n0_ n1_ n2_
 refine start_ (n:=10) (S:=fun w'=>w'.cell? ⟨gb414,0,none⟩=some (.int .i64 a0_0)/\w'.cell? ⟨gb414,1,none⟩=some (.int .i64 a0_1)) (ds:=[]) #[false,false,false,false,false,false,false,false,false,false] (by kernel_rfl) rfl rfl ⟨(Zh BK414.out 0).trans rfl,(Zh BK414.out 1).trans rfl⟩ (fun hHeld=>?_);refine with_tabW r03_Of.tab1 r03_Of.bits1 (fun HT_ HW_=>?_)
 generalize w5.drew=w6 at BK414 BK415 HB hHeld ⊢
 refine pure_ (i:=0) (N:=some 3) (v:=?_) (a':=?_) #[true,false,false,false,false,false,false,false,false,false] rfl rfl (Z3 HT_.out (by kernel_rfl)) (fun _ _ _ h=>h) (Or.inl ⟨by rfl,?_⟩) ?_ ?_
 rotate_left
 ·intro w'
  go_simp
  with_reducible rfl
 rotate_left
 ·simp only [Act.put,List.setIfInBounds_toArray,List.set_cons_zero,List.set_cons_succ,Z6,Z7]
  rfl
 refine pure_ (i:=4) (N:=some 7) (v:=?_) (a':=?_) #[true,false,false,false,true,false,false,false,false,false] rfl rfl (Z3 HT_.out (by kernel_rfl)) (fun _ _ _ h=>h) (Or.inl ⟨by rfl,?_⟩) ?_ ?_
 rotate_left
 ·intro w'
  go_simp
  with_reducible rfl
 rotate_left
 ·simp only [Act.put,List.setIfInBounds_toArray,List.set_cons_zero,List.set_cons_succ,Z6,Z7]
  rfl
 refine take_ (i:=1) (N:=some 4) (v:=?_) (a':=?_) #[true,true,false,false,true,false,false,false,false,false] rfl rfl (Zw HT_.out HW_.out (by kernel_rfl)) (fun _ _ _ h=>h) (Or.inl ⟨by rfl,?_⟩) hHeld ?_ ?_
 rotate_left
 ·rintro w' ⟨s0,s1⟩
  go_simp
  with_reducible rfl
 rotate_left
 ·simp only [Act.put,List.setIfInBounds_toArray,List.set_cons_zero,List.set_cons_succ,Z6,Z7]
  rfl
 refine pure_ (i:=2) (N:=some 5) (v:=?_) (a':=?_) #[true,true,true,false,true,false,false,false,false,false] rfl rfl (Z3 HT_.out (by kernel_rfl)) (fun _ _ _ h=>h) (Or.inl ⟨by rfl,?_⟩) ?_ ?_
 rotate_left
 ·intro w'
  go_simp
  with_reducible rfl
 rotate_left
 ·simp only [Act.put,List.setIfInBounds_toArray,List.set_cons_zero,List.set_cons_succ,Z6,Z7]
  rfl
 refine take_ (i:=5) (N:=some 8) (v:=?_) (a':=?_) #[true,true,true,false,true,true,false,false,false,false] rfl rfl (Zw HT_.out HW_.out (by kernel_rfl)) (fun _ _ _ h=>h) (Or.inl ⟨by rfl,?_⟩) hHeld ?_ ?_
 rotate_left
 ·rintro w' ⟨s0,s1⟩
  go_simp
  with_reducible rfl
 rotate_left
 ·simp only [Act.put,List.setIfInBounds_toArray,List.set_cons_zero,List.set_cons_succ,Z6,Z7]
  rfl
 refine pure_ (i:=6) (N:=some 9) (v:=?_) (a':=?_) #[true,true,true,false,true,true,true,false,false,false] rfl rfl (Z3 HT_.out (by kernel_rfl)) (fun _ _ _ h=>h) (Or.inl ⟨by rfl,?_⟩) ?_ ?_
 rotate_left
 ·intro w'
  go_simp
  with_reducible rfl
 rotate_left
 ·simp only [Act.put,List.setIfInBounds_toArray,List.set_cons_zero,List.set_cons_succ,Z6,Z7]
  rfl
 refine one_ (i:=3) (N:=some 6) #[true,true,true,true,true,true,true,false,false,false] rfl rfl (one_of HT_.out (by kernel_rfl)) (by decide) (fun K hK=>?_)
 refine goes_ Try.func65 (by kernel_rfl) rfl #[.int .u64 (IntKind.u64.wrap (a0_0))] (by rfl) rfl rfl (by (try simp only [List.map_toArray,List.map_cons,List.map_nil]);first|done|rfl|(simp only [List.length_drop,List.length_take];rfl)) ?_
 with_reducible refine (r02_Of.calls k (IntKind.u64.wrap (a0_0)) t416 _ A2.out).mono ?_
 rintro e w7 ⟨v417,rfl,ho0,hb⟩
 refine ⟨_,rfl,?_⟩
 have n0_:=Zz.mk (Kd.R_lower ho0 (Zf (by repeat (first|(with_reducible first|exact HB.out|apply Zb|apply Za|apply Zc|refine Zd ?_ GE414.out|refine Zd ?_ GE415.out)|exact HB.out))))
 have n1_:=Zz.mk (Zk (g:=gb414) (o:=.cells #[.int .i64 a0_0,.int .i64 a0_1] 34 (0,0)) (by (with_reducible repeat (first|refine blk_drewN ?_ _|refine Ze ?_|refine blk_alloc ?_ _));exact BK414.out) hb)
 have n2_:=Zz.mk (Zk (g:=gb415) (o:=.cells #[.slice none 0 0,.slice none 0 0] 28 (0,0)) (by (with_reducible repeat (first|refine blk_drewN ?_ _|refine Ze ?_|refine blk_alloc ?_ _));exact BK415.out) hb)
 have n3_:=Zz.mk (Zi (by repeat (first|(with_reducible first|exact HB.out|apply Zb|apply Za|apply Zc|refine Zd ?_ GE414.out|refine Zd ?_ GE415.out)|exact HB.out)) hb)
 clear BK414
 clear BK415
 clear HB
 have HO418:=n0_
 have BK414:=n1_
 have BK415:=n2_
 have HB:=n3_
 clear n0_ n1_ n2_ n3_
 (try clear hb)
 (try clear hb2)
 (try clear hk)
 (try clear hi)
 (try clear ho0)
 refine hK.out _ _ ⟨(Zh BK414.out 0).trans rfl,(Zh BK414.out 1).trans rfl⟩ (fun hHeld=>?_)
 clear hK K
 refine norm_ (a':=?_) ?_ ?_
 rotate_left
 ·show Act.put _ (some 6) _=_
  simp only [Act.put,List.setIfInBounds_toArray,List.set_cons_zero,List.set_cons_succ,Z6,Z7]
  rfl
 refine one_ (i:=7) (N:=some 10) #[true,true,true,true,true,true,true,true,false,false] rfl rfl (one_of HT_.out (by kernel_rfl)) (by decide) (fun K hK=>?_)
 refine goes_ Try.func65 (by kernel_rfl) rfl #[.int .u64 (IntKind.u64.wrap (a0_1))] (by rfl) rfl rfl (by (try simp only [List.map_toArray,List.map_cons,List.map_nil]);first|done|rfl|(simp only [List.length_drop,List.length_take];rfl)) ?_
 with_reducible refine (r02_Of.calls k (IntKind.u64.wrap (a0_1)) t419 _ A3.out).mono ?_
 rintro e w8 ⟨v420,rfl,ho0,hb⟩
 refine ⟨_,rfl,?_⟩
 have n0_:=Zz.mk (Kd.R_elder' (by (with_reducible repeat (first|apply Kd.R_alloc|apply Kd.R_drewN|apply Kd.R_drew));exact HO418.out) (Kd.R_base ho0) hb)
 have n1_:=Zz.mk (Kd.R_lower (Kd.R_new' ho0 (Kd.R_lt (by (with_reducible repeat (first|apply Kd.R_alloc|apply Kd.R_drewN|apply Kd.R_drew));exact HO418.out))) (Zf (by repeat (first|(with_reducible first|exact HB.out|apply Zb|apply Za|apply Zc|refine Zd ?_ GE414.out|refine Zd ?_ GE415.out)|exact HB.out))))
 have n2_:=Zz.mk (Zk (g:=gb414) (o:=.cells #[.int .i64 a0_0,.int .i64 a0_1] 34 (0,0)) (by (with_reducible repeat (first|refine blk_drewN ?_ _|refine Ze ?_|refine blk_alloc ?_ _));exact BK414.out) hb)
 have n3_:=Zz.mk (Zk (g:=gb415) (o:=.cells #[.slice none 0 0,.slice none 0 0] 28 (0,0)) (by (with_reducible repeat (first|refine blk_drewN ?_ _|refine Ze ?_|refine blk_alloc ?_ _));exact BK415.out) hb)
 have n4_:=Zz.mk (Zi (by repeat (first|(with_reducible first|exact HB.out|apply Zb|apply Za|apply Zc|refine Zd ?_ GE414.out|refine Zd ?_ GE415.out)|exact HB.out)) hb)
 clear HO418
 clear BK414
 clear BK415
 clear HB
 have HO418:=n0_
 have HO421:=n1_
 have BK414:=n2_
 have BK415:=n3_
 have HB:=n4_
 clear n0_ n1_ n2_ n3_ n4_
 (try clear hb)
 (try clear hb2)
 (try clear hk)
 (try clear hi)
 (try clear ho0)
 obtain ⟨Ao9,co9,eo9⟩:=Kd.R_slice HO421.out
 (first|subst eo9|(injection eo9 with f1_ f2_ f3_;have f4_:=f1_.symm;have f5_:=f3_.symm;clear f1_ f2_ f3_;subst f4_;subst f5_))
 obtain ⟨Ao10,co10,eo10⟩:=Kd.R_slice HO418.out
 (first|subst eo10|(injection eo10 with f1_ f2_ f3_;have f4_:=f1_.symm;have f5_:=f3_.symm;clear f1_ f2_ f3_;subst f4_;subst f5_))
 refine hK.out _ _ ⟨(Zh BK414.out 0).trans rfl,(Zh BK414.out 1).trans rfl⟩ (fun hHeld=>?_)
 clear hK K
 refine norm_ (a':=?_) ?_ ?_
 rotate_left
 ·show Act.put _ (some 10) _=_
  simp only [Act.put,List.setIfInBounds_toArray,List.set_cons_zero,List.set_cons_succ,Z6,Z7]
  rfl
 refine pure_ (i:=8) (N:=some 11) (v:=?_) (a':=?_) #[true,true,true,true,true,true,true,true,true,false] rfl rfl (Z3 HT_.out (by kernel_rfl)) (fun _ _ _ h=>h) (Or.inl ⟨by rfl,?_⟩) ?_ ?_
 rotate_left
 ·intro w'
  go_simp
  with_reducible rfl
 rotate_left
 ·simp only [Act.put,List.setIfInBounds_toArray,List.set_cons_zero,List.set_cons_succ,Z6,Z7]
  rfl
 refine one_ (i:=9) (N:=none) #[true,true,true,true,true,true,true,true,true,true] rfl rfl (one_of HT_.out (by kernel_rfl)) (by decide) (fun K hK=>?_)
 have hs11:w8.cell? ⟨gb415,0,none⟩=some (.slice none 0 0):=(Zh BK415.out 0).trans rfl
 have hfs11:=Zj BK415.out 0
 have hns11_0:=NB414_415.out
 have hms11_0:=NB415_414.out
 have hs12:w8.cell? ⟨gb415,1,none⟩=some (.slice none 0 0):=(Zh BK415.out 1).trans rfl
 have hfs12:=Zj BK415.out 1
 have hns12_0:=NB414_415.out
 have hms12_0:=NB415_414.out
 refine skip_ (w1:=?_) (by rfl) rfl ?_ ?_
 rotate_left
 ·go_simp
  rfl
 refine hK.out _ _ ⟨((cell_far (p:=⟨gb415,_,none⟩) NB414_415.out _).trans (((cell_far (p:=⟨gb415,_,none⟩) NB414_415.out _).trans (hHeld.1)))),((cell_far (p:=⟨gb415,_,none⟩) NB414_415.out _).trans (((cell_far (p:=⟨gb415,_,none⟩) NB414_415.out _).trans (hHeld.2))))⟩ (fun hHeld=>?_)
 clear hK K
 refine done_ (done_of HT_.out (by kernel_rfl)) ?_
 try go_wp2
 refine bodyPost_ret (results_cell_row rfl _ _ gb415 28 #[.slice Ao10 t416.length co10,.slice Ao9 t419.length co9] (0,0) _ rfl (by (with_reducible repeat (first|refine blk_drewN ?_ _|refine Ze ?_|refine blk_alloc ?_ _));refine Zx (cs:=#[.slice Ao10 t416.length co10,.slice none 0 0]) ?_ 1 _ rfl;(with_reducible repeat (first|refine blk_drewN ?_ _|refine Ze ?_|refine blk_alloc ?_ _));refine Zx (cs:=#[.slice none 0 0,.slice none 0 0]) ?_ 0 _ rfl;(with_reducible repeat (first|refine blk_drewN ?_ _|refine Ze ?_|refine blk_alloc ?_ _));exact BK415.out) Try.underlying28 rfl (by kernel_rfl)) rfl ?_
 exact ⟨_,_,by first|rfl|(simp [Zm,Zl]<;>rfl)|(simp [*,Zm,Zl]<;>rfl),by (with_reducible repeat (first|apply Kd.R_alloc|apply Kd.R_drewN|apply Kd.R_drew));exact Kd.R_mono (Kd.R_far (p:=⟨gb415,1,none⟩) (Kd.R_far (p:=⟨gb415,0,none⟩) (Kd.R_types HO418.out BK415.out (by decide)) (fun _ hk=>hk.2) (.slice Ao10 t416.length co10)) (fun _ hk=>hk.2) (.slice Ao9 t419.length co9)) (fun _ hk=>hk.1.2),by (with_reducible repeat (first|apply Kd.R_alloc|apply Kd.R_drewN|apply Kd.R_drew));exact Kd.R_mono (Kd.R_far (p:=⟨gb415,1,none⟩) (Kd.R_far (p:=⟨gb415,0,none⟩) (Kd.R_types HO421.out BK415.out (by decide)) (fun _ hk=>hk.2) (.slice Ao10 t416.length co10)) (fun _ hk=>hk.2) (.slice Ao9 t419.length co9)) (fun _ hk=>hk.1.2),by repeat (first|(with_reducible first|exact HB.out|apply Zb|apply Za|apply Zc|refine Zd ?_ GE414.out|refine Zd ?_ GE415.out)|exact HB.out)⟩
def r03_Plus.f (k:Nat) (l0_0:List Int) (l0_1:List Int) (l1_0:List Int) (l1_1:List Int):Option (List Int × List Int):=(r02_Mul.f k l0_0 l1_1).bind fun t437=>((r02_Mul.f k l1_0 l0_1).bind fun t440=>((r02_Add.f k t437 t440).bind fun t443=>((r02_Mul.f k l0_1 l1_1).bind fun t446=>(some (t443,t446)))))
def r03_Plus.T1:Bool × List (List Nat × List Nat):=(true,[([],[]),([0],[0]),([],[]),([2],[2]),([1,3],[1,3]),([],[]),([5],[5]),([],[]),([7],[7]),([6,8,4],[6,8]),([4,9,9],[4,9]),([10,10,0,1,2,3,4,5,6,7,8,9,10],[10])])
def r03_Plus.B1:List Nat:=[0,1,0,4,15,0,32,0,128,511,1023,2047]
theorem r03_Plus.tab1:rtab .any (opsOf Try.f26 1)=r03_Plus.T1:=by kernel_rfl
theorem r03_Plus.bits1:waitsOk r03_Plus.T1.2 r03_Plus.B1=true:=by kernel_rfl
set_option maxHeartbeats 8000000 in
set_option maxRecDepth 100000 in
theorem r03_Plus.calls (k:Nat) (A0_0:Option Addr) (c0_0:Nat) (l0_0:List Int) (A0_1:Option Addr) (c0_1:Nat) (l0_1:List Int) (A1_0:Option Addr) (c1_0:Nat) (l1_0:List Int) (A1_1:Option Addr) (c1_1:Nat) (l1_1:List Int) (r1:List Int) (r2:List Int) (w:World) (hr0_0:Kd.C (Kd.int .u32) w A0_0 l0_0.length l0_0) (hc0_0:l0_0.length<=c0_0) (hr0_1:Kd.C (Kd.int .u32) w A0_1 l0_1.length l0_1) (hc0_1:l0_1.length<=c0_1) (hr1_0:Kd.C (Kd.int .u32) w A1_0 l1_0.length l1_0) (hc1_0:l1_0.length<=c1_0) (hr1_1:Kd.C (Kd.int .u32) w A1_1 l1_1.length l1_1) (hc1_1:l1_1.length<=c1_1) (h:r03_Plus.f k l0_0 l0_1 l1_0 l1_1=some (r1,r2)) :
  Calls Try.prog 26 #[.agg #[.slice A0_0 l0_0.length c0_0,.slice A0_1 l0_1.length c0_1],.agg #[.slice A1_0 l1_0.length c1_0,.slice A1_1 l1_1.length c1_1]] w fun e w'=>∃v0_ v1_:Value,e=.returned (.agg #[v0_,v1_])/\Kd.R (Kd.int .u32) 89 w' w.heap.size (fun k_=>some k_≠(v1_:Value).ownBlock) v0_ r1/\Kd.R (Kd.int .u32) 89 w' w.heap.size (fun k_=>some k_≠(v0_:Value).ownBlock) v1_ r2/\Below w.heap.size w w':=by
 have hu28:=Try.underlying28
 have HR0_0:=Zz.mk hr0_0
 have HC0_0:=Zz.mk hc0_0
 clear hr0_0 hc0_0
 have HR0_1:=Zz.mk hr0_1
 have HC0_1:=Zz.mk hc0_1
 clear hr0_1 hc0_1
 have HR1_0:=Zz.mk hr1_0
 have HC1_0:=Zz.mk hc1_0
 clear hr1_0 hc1_0
 have HR1_1:=Zz.mk hr1_1
 have HC1_1:=Zz.mk hc1_1
 clear hr1_1 hc1_1
 have HB:=Zz.mk (Below.refl w.heap.size w)
 have H:((r02_Mul.f k l0_0 l1_1).bind fun t437=>((r02_Mul.f k l1_0 l0_1).bind fun t440=>((r02_Add.f k t437 t440).bind fun t443=>((r02_Mul.f k l0_1 l1_1).bind fun t446=>(some (t443,t446))))))=some (r1,r2):=h
 clear h
 replace H:=Option.bind_eq_some_iff.mp H
 obtain ⟨t437,A30,H⟩:=H
 replace H:((r02_Mul.f k l1_0 l0_1).bind fun t440=>((r02_Add.f k t437 t440).bind fun t443=>((r02_Mul.f k l0_1 l1_1).bind fun t446=>(some (t443,t446)))))=some (r1,r2):=H
 have A3:=Zz.mk A30
 clear A30
 replace H:=Option.bind_eq_some_iff.mp H
 obtain ⟨t440,A40,H⟩:=H
 replace H:((r02_Add.f k t437 t440).bind fun t443=>((r02_Mul.f k l0_1 l1_1).bind fun t446=>(some (t443,t446))))=some (r1,r2):=H
 have A4:=Zz.mk A40
 clear A40
 replace H:=Option.bind_eq_some_iff.mp H
 obtain ⟨t443,A50,H⟩:=H
 replace H:((r02_Mul.f k l0_1 l1_1).bind fun t446=>(some (t443,t446)))=some (r1,r2):=H
 have A5:=Zz.mk A50
 clear A50
 replace H:=Option.bind_eq_some_iff.mp H
 obtain ⟨t446,A60,H⟩:=H
 replace H:(some (t443,t446))=some (r1,r2):=H
 have A6:=Zz.mk A60
 clear A60
 simp only [Option.some.injEq,Prod.mk.injEq] at H
 obtain ⟨rfl,rfl⟩:=H
 go_enter Try.func26,Try.ntmps26
 try go_wp2_with (first|((with_reducible refine Zt (N:=2) rfl ?_);refine Zu ?hg (N:=2) ?hd (cs:=#[.slice A0_0 l0_0.length c0_0,.slice A0_1 l0_1.length c0_1]) (t:=28) ?hr ?_;(case hd=>rfl);(case hg=>rfl);(case hr=>first|(go_simp;done)|(go_simp;rfl));intro gb434 hg w7 hbox hb;have n0_:=Zz.mk (Zi (by repeat (first|(with_reducible first|exact HB.out|apply Zb|apply Za|apply Zc)|exact HB.out)) hb);have n1_:=Zz.mk (hbox);have n2_:=Zz.mk ((by rw [hg];exact (Zf (by repeat (first|(with_reducible first|exact HB.out|apply Zb|apply Za|apply Zc)|exact HB.out))):w.heap.size<=gb434));have n3_:=Zz.mk ((by rw [hg];exact (Zf (by repeat (first|(with_reducible first|exact HB.out|apply Zb|apply Za|apply Zc)|exact HB.out))):w.heap.size<=gb434));clear HB;have HB:=n0_;have BK434:=n1_;have GW434:=n2_;have GE434:=n3_;clear n0_ n1_ n2_ n3_;clear hb hbox hg)|((with_reducible refine Zt (N:=3) rfl ?_);refine Zu ?hg (N:=3) ?hd (cs:=#[.slice A1_0 l1_0.length c1_0,.slice A1_1 l1_1.length c1_1]) (t:=28) ?hr ?_;(case hd=>rfl);(case hg=>rfl);(case hr=>first|(go_simp;done)|(go_simp;rfl));intro gb435 hg w8 hbox hb;have n0_:=Zz.mk (Zk (g:=gb434) (o:=.cells #[.slice A0_0 l0_0.length c0_0,.slice A0_1 l0_1.length c0_1] 28 (0,0)) (by (with_reducible repeat (first|refine blk_drewN ?_ _|refine Ze ?_|refine blk_alloc ?_ _));exact BK434.out) hb);have n1_:=Zz.mk (Zi (by repeat (first|(with_reducible first|exact HB.out|apply Zb|apply Za|apply Zc|refine Zd ?_ GE434.out)|exact HB.out)) hb);have n2_:=Zz.mk (hbox);have n3_:=Zz.mk ((by rw [hg];exact (Zf (by repeat (first|(with_reducible first|exact HB.out|apply Zb|apply Za|apply Zc|refine Zd ?_ GE434.out)|exact HB.out))):w.heap.size<=gb435));have n4_:=Zz.mk ((by rw [hg];exact (Zf (by repeat (first|(with_reducible first|exact HB.out|apply Zb|apply Za|apply Zc|refine Zd ?_ GE434.out)|exact HB.out))):w.heap.size<=gb435));have n5_:=Zz.mk ((by rw [hg];exact Nat.ne_of_lt (Z5 (g:=gb434) (o:=.cells #[.slice A0_0 l0_0.length c0_0,.slice A0_1 l0_1.length c0_1] 28 (0,0)) (by (with_reducible repeat (first|refine blk_drewN ?_ _|refine Ze ?_|refine blk_alloc ?_ _));exact BK434.out)):gb434≠gb435));have n6_:=Zz.mk ((by rw [hg];exact Nat.ne_of_gt (Z5 (g:=gb434) (o:=.cells #[.slice A0_0 l0_0.length c0_0,.slice A0_1 l0_1.length c0_1] 28 (0,0)) (by (with_reducible repeat (first|refine blk_drewN ?_ _|refine Ze ?_|refine blk_alloc ?_ _));exact BK434.out)):gb435≠gb434));clear BK434;clear HB;have BK434:=n0_;have HB:=n1_;have BK435:=n2_;have GW435:=n3_;have GE435:=n4_;have NB434_435:=n5_;have NB435_434:=n6_;clear n0_ n1_ n2_ n3_ n4_ n5_ n6_;clear hb hbox hg)|((with_reducible refine Zt (N:=4) rfl ?_);refine Zu ?hg (N:=4) ?hd (cs:=#[.slice none 0 0,.slice none 0 0]) (t:=28) ?hr ?_;(case hd=>rfl);(case hg=>rfl);(case hr=>first|(go_simp;done)|(go_simp;rfl));intro gb436 hg w9 hbox hb;have n0_:=Zz.mk (Zk (g:=gb434) (o:=.cells #[.slice A0_0 l0_0.length c0_0,.slice A0_1 l0_1.length c0_1] 28 (0,0)) (by (with_reducible repeat (first|refine blk_drewN ?_ _|refine Ze ?_|refine blk_alloc ?_ _));exact BK434.out) hb);have n1_:=Zz.mk (Zk (g:=gb435) (o:=.cells #[.slice A1_0 l1_0.length c1_0,.slice A1_1 l1_1.length c1_1] 28 (0,0)) (by (with_reducible repeat (first|refine blk_drewN ?_ _|refine Ze ?_|refine blk_alloc ?_ _));exact BK435.out) hb);have n2_:=Zz.mk (Zi (by repeat (first|(with_reducible first|exact HB.out|apply Zb|apply Za|apply Zc|refine Zd ?_ GE434.out|refine Zd ?_ GE435.out)|exact HB.out)) hb);have n3_:=Zz.mk (hbox);have n4_:=Zz.mk ((by rw [hg];exact (Zf (by repeat (first|(with_reducible first|exact HB.out|apply Zb|apply Za|apply Zc|refine Zd ?_ GE434.out|refine Zd ?_ GE435.out)|exact HB.out))):w.heap.size<=gb436));have n5_:=Zz.mk ((by rw [hg];exact (Zf (by repeat (first|(with_reducible first|exact HB.out|apply Zb|apply Za|apply Zc|refine Zd ?_ GE434.out|refine Zd ?_ GE435.out)|exact HB.out))):w.heap.size<=gb436));have n6_:=Zz.mk ((by rw [hg];exact Nat.ne_of_lt (Z5 (g:=gb434) (o:=.cells #[.slice A0_0 l0_0.length c0_0,.slice A0_1 l0_1.length c0_1] 28 (0,0)) (by (with_reducible repeat (first|refine blk_drewN ?_ _|refine Ze ?_|refine blk_alloc ?_ _));exact BK434.out)):gb434≠gb436));have n7_:=Zz.mk ((by rw [hg];exact Nat.ne_of_gt (Z5 (g:=gb434) (o:=.cells #[.slice A0_0 l0_0.length c0_0,.slice A0_1 l0_1.length c0_1] 28 (0,0)) (by (with_reducible repeat (first|refine blk_drewN ?_ _|refine Ze ?_|refine blk_alloc ?_ _));exact BK434.out)):gb436≠gb434));have n8_:=Zz.mk ((by rw [hg];exact Nat.ne_of_lt (Z5 (g:=gb435) (o:=.cells #[.slice A1_0 l1_0.length c1_0,.slice A1_1 l1_1.length c1_1] 28 (0,0)) (by (with_reducible repeat (first|refine blk_drewN ?_ _|refine Ze ?_|refine blk_alloc ?_ _));exact BK435.out)):gb435≠gb436));have n9_:=Zz.mk ((by rw [hg];exact Nat.ne_of_gt (Z5 (g:=gb435) (o:=.cells #[.slice A1_0 l1_0.length c1_0,.slice A1_1 l1_1.length c1_1] 28 (0,0)) (by (with_reducible repeat (first|refine blk_drewN ?_ _|refine Ze ?_|refine blk_alloc ?_ _));exact BK435.out)):gb436≠gb435));clear BK434;clear BK435;clear HB;have BK434:=n0_;have BK435:=n1_;have HB:=n2_;have BK436:=n3_;have GW436:=n4_;have GE436:=n5_;have NB434_436:=n6_;have NB436_434:=n7_;have NB435_436:=n8_;have NB436_435:=n9_;clear n0_ n1_ n2_ n3_ n4_ n5_ n6_ n7_ n8_ n9_;clear hb hbox hg))
 have n0_:=Zz.mk (Ze BK434.out)
 have n1_:=Zz.mk (Ze BK435.out)
 have n2_:=Zz.mk (Ze BK436.out)
 have n3_:=Zz.mk (Zc HB.out)
 clear BK434
 clear BK435
 clear BK436
 clear HB
 have BK434:=n0_
 have BK435:=n1_
 have BK436:=n2_
 have HB:=n3_
 clear n0_ n1_ n2_ n3_
 refine start_ (n:=12) (S:=fun w'=>w'.cell? ⟨gb434,0,none⟩=some (.slice A0_0 l0_0.length c0_0)/\w'.cell? ⟨gb434,1,none⟩=some (.slice A0_1 l0_1.length c0_1)/\w'.cell? ⟨gb435,0,none⟩=some (.slice A1_0 l1_0.length c1_0)/\w'.cell? ⟨gb435,1,none⟩=some (.slice A1_1 l1_1.length c1_1)) (ds:=[]) #[false,false,false,false,false,false,false,false,false,false,false,false] (by kernel_rfl) rfl rfl ⟨(Zh BK434.out 0).trans rfl,(Zh BK434.out 1).trans rfl,(Zh BK435.out 0).trans rfl,(Zh BK435.out 1).trans rfl⟩ (fun hHeld=>?_);refine with_tabW r03_Plus.tab1 r03_Plus.bits1 (fun HT_ HW_=>?_)
 generalize w9.drew=w10 at BK434 BK435 BK436 HB hHeld ⊢
 refine pure_ (i:=0) (N:=some 6) (v:=?_) (a':=?_) #[true,false,false,false,false,false,false,false,false,false,false,false] rfl rfl (Z3 HT_.out (by kernel_rfl)) (fun _ _ _ h=>h) (Or.inl ⟨by rfl,?_⟩) ?_ ?_
 rotate_left
 ·intro w'
  go_simp
  with_reducible rfl
 rotate_left
 ·simp only [Act.put,List.setIfInBounds_toArray,List.set_cons_zero,List.set_cons_succ,Z6,Z7]
  rfl
 refine pure_ (i:=2) (N:=some 8) (v:=?_) (a':=?_) #[true,false,true,false,false,false,false,false,false,false,false,false] rfl rfl (Z3 HT_.out (by kernel_rfl)) (fun _ _ _ h=>h) (Or.inl ⟨by rfl,?_⟩) ?_ ?_
 rotate_left
 ·intro w'
  go_simp
  with_reducible rfl
 rotate_left
 ·simp only [Act.put,List.setIfInBounds_toArray,List.set_cons_zero,List.set_cons_succ,Z6,Z7]
  rfl
 refine pure_ (i:=5) (N:=some 11) (v:=?_) (a':=?_) #[true,false,true,false,false,true,false,false,false,false,false,false] rfl rfl (Z3 HT_.out (by kernel_rfl)) (fun _ _ _ h=>h) (Or.inl ⟨by rfl,?_⟩) ?_ ?_
 rotate_left
 ·intro w'
  go_simp
  with_reducible rfl
 rotate_left
 ·simp only [Act.put,List.setIfInBounds_toArray,List.set_cons_zero,List.set_cons_succ,Z6,Z7]
  rfl
 refine pure_ (i:=7) (N:=some 13) (v:=?_) (a':=?_) #[true,false,true,false,false,true,false,true,false,false,false,false] rfl rfl (Z3 HT_.out (by kernel_rfl)) (fun _ _ _ h=>h) (Or.inl ⟨by rfl,?_⟩) ?_ ?_
 rotate_left
 ·intro w'
  go_simp
  with_reducible rfl
 rotate_left
 ·simp only [Act.put,List.setIfInBounds_toArray,List.set_cons_zero,List.set_cons_succ,Z6,Z7]
  rfl
 refine take_ (i:=1) (N:=some 7) (v:=?_) (a':=?_) #[true,true,true,false,false,true,false,true,false,false,false,false] rfl rfl (Zw HT_.out HW_.out (by kernel_rfl)) (fun _ _ _ h=>h) (Or.inl ⟨by rfl,?_⟩) hHeld ?_ ?_
 rotate_left
 ·rintro w' ⟨s0,s1,s2,s3⟩
  go_simp
  with_reducible rfl
 rotate_left
 ·simp only [Act.put,List.setIfInBounds_toArray,List.set_cons_zero,List.set_cons_succ,Z6,Z7]
  rfl
 refine take_ (i:=3) (N:=some 9) (v:=?_) (a':=?_) #[true,true,true,true,false,true,false,true,false,false,false,false] rfl rfl (Zw HT_.out HW_.out (by kernel_rfl)) (fun _ _ _ h=>h) (Or.inl ⟨by rfl,?_⟩) hHeld ?_ ?_
 rotate_left
 ·rintro w' ⟨s0,s1,s2,s3⟩
  go_simp
  with_reducible rfl
 rotate_left
 ·simp only [Act.put,List.setIfInBounds_toArray,List.set_cons_zero,List.set_cons_succ,Z6,Z7]
  rfl
 refine take_ (i:=6) (N:=some 12) (v:=?_) (a':=?_) #[true,true,true,true,false,true,true,true,false,false,false,false] rfl rfl (Zw HT_.out HW_.out (by kernel_rfl)) (fun _ _ _ h=>h) (Or.inl ⟨by rfl,?_⟩) hHeld ?_ ?_
 rotate_left
 ·rintro w' ⟨s0,s1,s2,s3⟩
  go_simp
  with_reducible rfl
 rotate_left
 ·simp only [Act.put,List.setIfInBounds_toArray,List.set_cons_zero,List.set_cons_succ,Z6,Z7]
  rfl
 refine take_ (i:=8) (N:=some 14) (v:=?_) (a':=?_) #[true,true,true,true,false,true,true,true,true,false,false,false] rfl rfl (Zw HT_.out HW_.out (by kernel_rfl)) (fun _ _ _ h=>h) (Or.inl ⟨by rfl,?_⟩) hHeld ?_ ?_
 rotate_left
 ·rintro w' ⟨s0,s1,s2,s3⟩
  go_simp
  with_reducible rfl
 rotate_left
 ·simp only [Act.put,List.setIfInBounds_toArray,List.set_cons_zero,List.set_cons_succ,Z6,Z7]
  rfl
 refine one_ (i:=4) (N:=some 10) #[true,true,true,true,true,true,true,true,true,false,false,false] rfl rfl (one_of HT_.out (by kernel_rfl)) (by decide) (fun K hK=>?_)
 refine goes_ Try.func69 (by kernel_rfl) rfl #[.slice A0_0 l0_0.length c0_0,.slice A1_1 l1_1.length c1_1] (by rfl) rfl rfl (by (try simp only [List.map_toArray,List.map_cons,List.map_nil]);first|done|rfl|(simp only [List.length_drop,List.length_take];rfl)) ?_
 with_reducible refine (r02_Mul.calls k _ _ l0_0 _ _ l1_1 t437 _ ?side1 ?side2 ?side3 ?side4 A3.out).mono ?_
 (case side1=>repeat (first|exact (Kd.C_below HR0_0.out HB.out)|(with_reducible refine Kd.C_alloc ?_ _)|(with_reducible refine Kd.C_drewN ?_ _)|(with_reducible refine Kd.C_drew ?_)))
 (case side2=>exact HC0_0.out)
 (case side3=>repeat (first|exact (Kd.C_below HR1_1.out HB.out)|(with_reducible refine Kd.C_alloc ?_ _)|(with_reducible refine Kd.C_drewN ?_ _)|(with_reducible refine Kd.C_drew ?_)))
 (case side4=>exact HC1_1.out)
 rintro e w11 ⟨v438,rfl,ho0,hb⟩
 refine ⟨_,rfl,?_⟩
 have n0_:=Zz.mk (Kd.R_lower ho0 (Zf (by repeat (first|(with_reducible first|exact HB.out|apply Zb|apply Za|apply Zc|refine Zd ?_ GE434.out|refine Zd ?_ GE435.out|refine Zd ?_ GE436.out)|exact HB.out))))
 have n1_:=Zz.mk (Zk (g:=gb434) (o:=.cells #[.slice A0_0 l0_0.length c0_0,.slice A0_1 l0_1.length c0_1] 28 (0,0)) (by (with_reducible repeat (first|refine blk_drewN ?_ _|refine Ze ?_|refine blk_alloc ?_ _));exact BK434.out) hb)
 have n2_:=Zz.mk (Zk (g:=gb435) (o:=.cells #[.slice A1_0 l1_0.length c1_0,.slice A1_1 l1_1.length c1_1] 28 (0,0)) (by (with_reducible repeat (first|refine blk_drewN ?_ _|refine Ze ?_|refine blk_alloc ?_ _));exact BK435.out) hb)
 have n3_:=Zz.mk (Zk (g:=gb436) (o:=.cells #[.slice none 0 0,.slice none 0 0] 28 (0,0)) (by (with_reducible repeat (first|refine blk_drewN ?_ _|refine Ze ?_|refine blk_alloc ?_ _));exact BK436.out) hb)
 have n4_:=Zz.mk (Zi (by repeat (first|(with_reducible first|exact HB.out|apply Zb|apply Za|apply Zc|refine Zd ?_ GE434.out|refine Zd ?_ GE435.out|refine Zd ?_ GE436.out)|exact HB.out)) hb)
 clear BK434
 clear BK435
 clear BK436
 clear HB
 have HO439:=n0_
 have BK434:=n1_
 have BK435:=n2_
 have BK436:=n3_
 have HB:=n4_
 clear n0_ n1_ n2_ n3_ n4_
 (try clear hb)
 (try clear hb2)
 (try clear hk)
 (try clear hi)
 (try clear ho0)
 refine hK.out _ _ ⟨(Zh BK434.out 0).trans rfl,(Zh BK434.out 1).trans rfl,(Zh BK435.out 0).trans rfl,(Zh BK435.out 1).trans rfl⟩ (fun hHeld=>?_)
 clear hK K
 refine norm_ (a':=?_) ?_ ?_
 rotate_left
 ·show Act.put _ (some 10) _=_
  simp only [Act.put,List.setIfInBounds_toArray,List.set_cons_zero,List.set_cons_succ,Z6,Z7]
  rfl
 refine one_ (i:=9) (N:=some 15) #[true,true,true,true,true,true,true,true,true,true,false,false] rfl rfl (one_of HT_.out (by kernel_rfl)) (by decide) (fun K hK=>?_)
 refine goes_ Try.func69 (by kernel_rfl) rfl #[.slice A1_0 l1_0.length c1_0,.slice A0_1 l0_1.length c0_1] (by rfl) rfl rfl (by (try simp only [List.map_toArray,List.map_cons,List.map_nil]);first|done|rfl|(simp only [List.length_drop,List.length_take];rfl)) ?_
 with_reducible refine (r02_Mul.calls k _ _ l1_0 _ _ l0_1 t440 _ ?side1 ?side2 ?side3 ?side4 A4.out).mono ?_
 (case side1=>repeat (first|exact (Kd.C_below HR1_0.out HB.out)|(with_reducible refine Kd.C_alloc ?_ _)|(with_reducible refine Kd.C_drewN ?_ _)|(with_reducible refine Kd.C_drew ?_)))
 (case side2=>exact HC1_0.out)
 (case side3=>repeat (first|exact (Kd.C_below HR0_1.out HB.out)|(with_reducible refine Kd.C_alloc ?_ _)|(with_reducible refine Kd.C_drewN ?_ _)|(with_reducible refine Kd.C_drew ?_)))
 (case side4=>exact HC0_1.out)
 rintro e w12 ⟨v441,rfl,ho0,hb⟩
 refine ⟨_,rfl,?_⟩
 have n0_:=Zz.mk (Kd.R_elder' (by (with_reducible repeat (first|apply Kd.R_alloc|apply Kd.R_drewN|apply Kd.R_drew));exact HO439.out) (Kd.R_base ho0) hb)
 have n1_:=Zz.mk (Kd.R_lower (Kd.R_new' ho0 (Kd.R_lt (by (with_reducible repeat (first|apply Kd.R_alloc|apply Kd.R_drewN|apply Kd.R_drew));exact HO439.out))) (Zf (by repeat (first|(with_reducible first|exact HB.out|apply Zb|apply Za|apply Zc|refine Zd ?_ GE434.out|refine Zd ?_ GE435.out|refine Zd ?_ GE436.out)|exact HB.out))))
 have n2_:=Zz.mk (Zk (g:=gb434) (o:=.cells #[.slice A0_0 l0_0.length c0_0,.slice A0_1 l0_1.length c0_1] 28 (0,0)) (by (with_reducible repeat (first|refine blk_drewN ?_ _|refine Ze ?_|refine blk_alloc ?_ _));exact BK434.out) hb)
 have n3_:=Zz.mk (Zk (g:=gb435) (o:=.cells #[.slice A1_0 l1_0.length c1_0,.slice A1_1 l1_1.length c1_1] 28 (0,0)) (by (with_reducible repeat (first|refine blk_drewN ?_ _|refine Ze ?_|refine blk_alloc ?_ _));exact BK435.out) hb)
 have n4_:=Zz.mk (Zk (g:=gb436) (o:=.cells #[.slice none 0 0,.slice none 0 0] 28 (0,0)) (by (with_reducible repeat (first|refine blk_drewN ?_ _|refine Ze ?_|refine blk_alloc ?_ _));exact BK436.out) hb)
 have n5_:=Zz.mk (Zi (by repeat (first|(with_reducible first|exact HB.out|apply Zb|apply Za|apply Zc|refine Zd ?_ GE434.out|refine Zd ?_ GE435.out|refine Zd ?_ GE436.out)|exact HB.out)) hb)
 clear HO439
 clear BK434
 clear BK435
 clear BK436
 clear HB
 have HO439:=n0_
 have HO442:=n1_
 have BK434:=n2_
 have BK435:=n3_
 have BK436:=n4_
 have HB:=n5_
 clear n0_ n1_ n2_ n3_ n4_ n5_
 (try clear hb)
 (try clear hb2)
 (try clear hk)
 (try clear hi)
 (try clear ho0)
 obtain ⟨Ao13,co13,eo13⟩:=Kd.R_slice HO439.out
 (first|subst eo13|(injection eo13 with f1_ f2_ f3_;have f4_:=f1_.symm;have f5_:=f3_.symm;clear f1_ f2_ f3_;subst f4_;subst f5_))
 obtain ⟨Ao14,co14,eo14⟩:=Kd.R_slice HO442.out
 (first|subst eo14|(injection eo14 with f1_ f2_ f3_;have f4_:=f1_.symm;have f5_:=f3_.symm;clear f1_ f2_ f3_;subst f4_;subst f5_))
 refine hK.out _ _ ⟨(Zh BK434.out 0).trans rfl,(Zh BK434.out 1).trans rfl,(Zh BK435.out 0).trans rfl,(Zh BK435.out 1).trans rfl⟩ (fun hHeld=>?_)
 clear hK K
 refine norm_ (a':=?_) ?_ ?_
 rotate_left
 ·show Act.put _ (some 15) _=_
  simp only [Act.put,List.setIfInBounds_toArray,List.set_cons_zero,List.set_cons_succ,Z6,Z7]
  rfl
 refine one_ (i:=10) (N:=some 16) #[true,true,true,true,true,true,true,true,true,true,true,false] rfl rfl (one_of HT_.out (by kernel_rfl)) (by decide) (fun K hK=>?_)
 refine goes_ Try.func75 (by kernel_rfl) rfl #[.slice Ao13 t437.length co13,.slice Ao14 t440.length co14] (by rfl) rfl rfl (by (try simp only [List.map_toArray,List.map_cons,List.map_nil]);first|done|rfl|(simp only [List.length_drop,List.length_take];rfl)) ?_
 with_reducible refine (r02_Add.calls k _ _ t437 _ _ t440 t443 _ ?side1 ?side2 ?side3 ?side4 A5.out).mono ?_
 (case side1=>repeat (first|exact (Kd.R_reads' HO439.out).2.2|(with_reducible refine Kd.C_alloc ?_ _)|(with_reducible refine Kd.C_drewN ?_ _)|(with_reducible refine Kd.C_drew ?_)))
 (case side2=>exact (Kd.R_reads' HO439.out).2.1)
 (case side3=>repeat (first|exact (Kd.R_reads' HO442.out).2.2|(with_reducible refine Kd.C_alloc ?_ _)|(with_reducible refine Kd.C_drewN ?_ _)|(with_reducible refine Kd.C_drew ?_)))
 (case side4=>exact (Kd.R_reads' HO442.out).2.1)
 rintro e w15 ⟨v444,rfl,ho0,hb⟩
 refine ⟨_,rfl,?_⟩
 have n0_:=Zz.mk (Kd.R_elder' (by (with_reducible repeat (first|apply Kd.R_alloc|apply Kd.R_drewN|apply Kd.R_drew));exact HO439.out) (Kd.R_base ho0) hb)
 have n1_:=Zz.mk (Kd.R_elder' (by (with_reducible repeat (first|apply Kd.R_alloc|apply Kd.R_drewN|apply Kd.R_drew));exact HO442.out) (Kd.R_base ho0) hb)
 have n2_:=Zz.mk (Kd.R_lower (Kd.R_new' (Kd.R_new' ho0 (Kd.R_lt (by (with_reducible repeat (first|apply Kd.R_alloc|apply Kd.R_drewN|apply Kd.R_drew));exact HO439.out))) (Kd.R_lt (by (with_reducible repeat (first|apply Kd.R_alloc|apply Kd.R_drewN|apply Kd.R_drew));exact HO442.out))) (Zf (by repeat (first|(with_reducible first|exact HB.out|apply Zb|apply Za|apply Zc|refine Zd ?_ GE434.out|refine Zd ?_ GE435.out|refine Zd ?_ GE436.out)|exact HB.out))))
 have n3_:=Zz.mk (Zk (g:=gb434) (o:=.cells #[.slice A0_0 l0_0.length c0_0,.slice A0_1 l0_1.length c0_1] 28 (0,0)) (by (with_reducible repeat (first|refine blk_drewN ?_ _|refine Ze ?_|refine blk_alloc ?_ _));exact BK434.out) hb)
 have n4_:=Zz.mk (Zk (g:=gb435) (o:=.cells #[.slice A1_0 l1_0.length c1_0,.slice A1_1 l1_1.length c1_1] 28 (0,0)) (by (with_reducible repeat (first|refine blk_drewN ?_ _|refine Ze ?_|refine blk_alloc ?_ _));exact BK435.out) hb)
 have n5_:=Zz.mk (Zk (g:=gb436) (o:=.cells #[.slice none 0 0,.slice none 0 0] 28 (0,0)) (by (with_reducible repeat (first|refine blk_drewN ?_ _|refine Ze ?_|refine blk_alloc ?_ _));exact BK436.out) hb)
 have n6_:=Zz.mk (Zi (by repeat (first|(with_reducible first|exact HB.out|apply Zb|apply Za|apply Zc|refine Zd ?_ GE434.out|refine Zd ?_ GE435.out|refine Zd ?_ GE436.out)|exact HB.out)) hb)
 clear HO439
 clear HO442
 clear BK434
 clear BK435
 clear BK436
 clear HB
 have HO439:=n0_
 have HO442:=n1_
 have HO445:=n2_
 have BK434:=n3_
 have BK435:=n4_
 have BK436:=n5_
 have HB:=n6_
 clear n0_ n1_ n2_ n3_ n4_ n5_ n6_
 (try clear hb)
 (try clear hb2)
 (try clear hk)
 (try clear hi)
 (try clear ho0)
 refine hK.out _ _ ⟨(Zh BK434.out 0).trans rfl,(Zh BK434.out 1).trans rfl,(Zh BK435.out 0).trans rfl,(Zh BK435.out 1).trans rfl⟩ (fun hHeld=>?_)
 clear hK K
 refine norm_ (a':=?_) ?_ ?_
 rotate_left
 ·show Act.put _ (some 16) _=_
  simp only [Act.put,List.setIfInBounds_toArray,List.set_cons_zero,List.set_cons_succ,Z6,Z7]
  rfl
 refine pure_ (i:=11) (N:=some 5) (v:=?_) (a':=?_) #[true,true,true,true,true,true,true,true,true,true,true,true] rfl rfl (Z3 HT_.out (by kernel_rfl)) (fun _ _ _ h=>h) (Or.inl ⟨by rfl,?_⟩) ?_ ?_
 rotate_left
 ·intro w'
  go_simp
  with_reducible rfl
 rotate_left
 ·simp only [Act.put,List.setIfInBounds_toArray,List.set_cons_zero,List.set_cons_succ,Z6,Z7]
  rfl
 refine done_ (done_of HT_.out (by kernel_rfl)) ?_
 have hnb16:=NB434_435.out
 have hnc16:=NB435_434.out
 have hnb17:=NB434_436.out
 have hnc17:=NB436_434.out
 have hcz18_0:w15.cell? ⟨gb434,0,none⟩=some (.slice A0_0 l0_0.length c0_0):=(Zh BK434.out 0).trans rfl
 have hcz18_1:w15.cell? ⟨gb434,1,none⟩=some (.slice A0_1 l0_1.length c0_1):=(Zh BK434.out 1).trans rfl
 have hfz18_0:=Zj BK434.out 0
 have hfz18_1:=Zj BK434.out 1
 have hnb19:=NB435_436.out
 have hnc19:=NB436_435.out
 have hcz20_0:w15.cell? ⟨gb435,0,none⟩=some (.slice A1_0 l1_0.length c1_0):=(Zh BK435.out 0).trans rfl
 have hcz20_1:w15.cell? ⟨gb435,1,none⟩=some (.slice A1_1 l1_1.length c1_1):=(Zh BK435.out 1).trans rfl
 have hfz20_0:=Zj BK435.out 0
 have hfz20_1:=Zj BK435.out 1
 try go_wp2_with (first|((with_reducible refine Zs (f:=69) rfl ?_);refine Zv (some 22) rfl rfl Try.func69 (by kernel_rfl) rfl #[.slice A0_1 l0_1.length c0_1,.slice A1_1 l1_1.length c1_1] rfl (by (try simp only [List.map_toArray,List.map_cons,List.map_nil]);first|done|rfl|(simp only [List.length_drop,List.length_take];rfl)) ?_;(with_reducible refine (r02_Mul.calls k _ _ l0_1 _ _ l1_1 t446 _ ?side1 ?side2 ?side3 ?side4 A6.out).mono ?_);(case side1=>repeat (first|exact (Kd.C_below HR0_1.out HB.out)|(with_reducible refine Kd.C_alloc ?_ _)|(with_reducible refine Kd.C_drewN ?_ _)|(with_reducible refine Kd.C_drew ?_)));(case side2=>exact HC0_1.out);(case side3=>repeat (first|exact (Kd.C_below HR1_1.out HB.out)|(with_reducible refine Kd.C_alloc ?_ _)|(with_reducible refine Kd.C_drewN ?_ _)|(with_reducible refine Kd.C_drew ?_)));(case side4=>exact HC1_1.out);rintro e w21 ⟨v447,rfl,ho0,hb⟩;refine ⟨_,rfl,?_⟩;have n0_:=Zz.mk (Kd.R_elder' (by (with_reducible repeat (first|apply Kd.R_alloc|apply Kd.R_drewN|apply Kd.R_drew));exact HO439.out) (Kd.R_base ho0) hb);have n1_:=Zz.mk (Kd.R_elder' (by (with_reducible repeat (first|apply Kd.R_alloc|apply Kd.R_drewN|apply Kd.R_drew));exact HO442.out) (Kd.R_base ho0) hb);have n2_:=Zz.mk (Kd.R_elder' (by (with_reducible repeat (first|apply Kd.R_alloc|apply Kd.R_drewN|apply Kd.R_drew));exact HO445.out) (Kd.R_base ho0) hb);have n3_:=Zz.mk (Kd.R_lower (Kd.R_new' (Kd.R_new' (Kd.R_new' ho0 (Kd.R_lt (by (with_reducible repeat (first|apply Kd.R_alloc|apply Kd.R_drewN|apply Kd.R_drew));exact HO439.out))) (Kd.R_lt (by (with_reducible repeat (first|apply Kd.R_alloc|apply Kd.R_drewN|apply Kd.R_drew));exact HO442.out))) (Kd.R_lt (by (with_reducible repeat (first|apply Kd.R_alloc|apply Kd.R_drewN|apply Kd.R_drew));exact HO445.out))) (Zf (by repeat (first|(with_reducible first|exact HB.out|apply Zb|apply Za|apply Zc|refine Zd ?_ GE434.out|refine Zd ?_ GE435.out|refine Zd ?_ GE436.out)|exact HB.out))));have n4_:=Zz.mk (Zk (g:=gb434) (o:=.cells #[.slice A0_0 l0_0.length c0_0,.slice A0_1 l0_1.length c0_1] 28 (0,0)) (by (with_reducible repeat (first|refine blk_drewN ?_ _|refine Ze ?_|refine blk_alloc ?_ _));exact BK434.out) hb);have n5_:=Zz.mk (Zk (g:=gb435) (o:=.cells #[.slice A1_0 l1_0.length c1_0,.slice A1_1 l1_1.length c1_1] 28 (0,0)) (by (with_reducible repeat (first|refine blk_drewN ?_ _|refine Ze ?_|refine blk_alloc ?_ _));exact BK435.out) hb);have n6_:=Zz.mk (Zk (g:=gb436) (o:=.cells #[.slice none 0 0,.slice none 0 0] 28 (0,0)) (by (with_reducible repeat (first|refine blk_drewN ?_ _|refine Ze ?_|refine blk_alloc ?_ _));exact BK436.out) hb);have n7_:=Zz.mk (Zi (by repeat (first|(with_reducible first|exact HB.out|apply Zb|apply Za|apply Zc|refine Zd ?_ GE434.out|refine Zd ?_ GE435.out|refine Zd ?_ GE436.out)|exact HB.out)) hb);clear HO439;clear HO442;clear HO445;clear BK434;clear BK435;clear BK436;clear HB;have HO439:=n0_;have HO442:=n1_;have HO445:=n2_;have HO448:=n3_;have BK434:=n4_;have BK435:=n5_;have BK436:=n6_;have HB:=n7_;clear n0_ n1_ n2_ n3_ n4_ n5_ n6_ n7_;(try clear hb);(try clear hb2);(try clear hk);(try clear hi);(try clear ho0);obtain ⟨Ao22,co22,eo22⟩:=Kd.R_slice HO448.out;subst eo22;obtain ⟨Ao23,co23,eo23⟩:=Kd.R_slice HO445.out;subst eo23;have hcz24_0:w21.cell? ⟨gb436,0,none⟩=some (.slice none 0 0):=(Zh BK436.out 0).trans rfl;have hcz24_1:w21.cell? ⟨gb436,1,none⟩=some (.slice none 0 0):=(Zh BK436.out 1).trans rfl;have hfz24_0:=Zj BK436.out 0;have hfz24_1:=Zj BK436.out 1))
 refine bodyPost_ret (results_cell_row rfl _ _ gb436 28 #[.slice Ao23 t443.length co23,.slice Ao22 t446.length co22] (0,0) _ rfl (by (with_reducible repeat (first|refine blk_drewN ?_ _|refine Ze ?_|refine blk_alloc ?_ _));refine Zx (cs:=#[.slice Ao23 t443.length co23,.slice none 0 0]) ?_ 1 _ rfl;(with_reducible repeat (first|refine blk_drewN ?_ _|refine Ze ?_|refine blk_alloc ?_ _));refine Zx (cs:=#[.slice none 0 0,.slice none 0 0]) ?_ 0 _ rfl;(with_reducible repeat (first|refine blk_drewN ?_ _|refine Ze ?_|refine blk_alloc ?_ _));exact BK436.out) Try.underlying28 rfl (by kernel_rfl)) rfl ?_
 exact ⟨_,_,by first|rfl|(simp [Zm,Zl]<;>rfl)|(simp [*,Zm,Zl]<;>rfl),by (with_reducible repeat (first|apply Kd.R_alloc|apply Kd.R_drewN|apply Kd.R_drew));exact Kd.R_mono (Kd.R_far (p:=⟨gb436,1,none⟩) (Kd.R_far (p:=⟨gb436,0,none⟩) (Kd.R_types HO445.out BK436.out (by decide)) (fun _ hk=>hk.2) (.slice Ao23 t443.length co23)) (fun _ hk=>hk.2) (.slice Ao22 t446.length co22)) (fun _ hk=>hk.1.2),by (with_reducible repeat (first|apply Kd.R_alloc|apply Kd.R_drewN|apply Kd.R_drew));exact Kd.R_mono (Kd.R_far (p:=⟨gb436,1,none⟩) (Kd.R_far (p:=⟨gb436,0,none⟩) (Kd.R_types HO448.out BK436.out (by decide)) (fun _ hk=>hk.2) (.slice Ao23 t443.length co23)) (fun _ hk=>hk.2) (.slice Ao22 t446.length co22)) (fun _ hk=>hk.1.2),by repeat (first|(with_reducible first|exact HB.out|apply Zb|apply Za|apply Zc|refine Zd ?_ GE434.out|refine Zd ?_ GE435.out|refine Zd ?_ GE436.out)|exact HB.out)⟩
def r03_Sum.l0:Nat->List (S34)->Int->List Int->List Int->Option (List Int × List Int)
 | 0,_,_,_,_=>none
 | k+1,x0,x4,x460000,x460001=>if x4<(x0.length:Int) then (if 0<=x4 then ((r03_Of.f k ((rd_T34 x0 x4).f0) ((rd_T34 x0 x4).f1)).bind fun bt461=>((r03_Plus.f k x460000 x460001 bt461.1 bt461.2).bind fun bt467=>(r03_Sum.l0 k x0 (wrap64 (x4+1)) bt467.1 bt467.2))) else (none)) else (some (x460000,x460001))
def r03_Sum.f (k:Nat) (l0:List (S34)):Option (List Int × List Int):=r03_Sum.l0 k l0 0 ([]:List Int) (([1]:List Int))
def r03_Sum.T5:Bool × List (List Nat × List Nat):=(true,[([],[]),([],[]),([],[]),([1,2],[1,2]),([3],[3]),([4],[4]),([0,5,5],[0,5]),([6,6,0,1,2,3,4,5,6],[6])])
def r03_Sum.B5:List Nat:=[0,0,0,6,14,30,63,127]
theorem r03_Sum.tab5:rtab .any (opsOf Try.f79 5)=r03_Sum.T5:=by kernel_rfl
theorem r03_Sum.bits5:waitsOk r03_Sum.T5.2 r03_Sum.B5=true:=by kernel_rfl
set_option maxHeartbeats 8000000 in
set_option maxRecDepth 100000 in
theorem r03_Sum.calls (k:Nat) (A0:Option Addr) (c0:Nat) (l0:List (S34)) (r1:List Int) (r2:List Int) (w:World) (hr0:Kd.C k34 w A0 l0.length l0) (hc0:l0.length<=c0) (h:r03_Sum.f k l0=some (r1,r2)) :
  Calls Try.prog 79 #[.slice A0 l0.length c0] w fun e w'=>∃v0_ v1_:Value,e=.returned (.agg #[v0_,v1_])/\Kd.R (Kd.int .u32) 89 w' w.heap.size (fun k_=>some k_≠(v1_:Value).ownBlock) v0_ r1/\Kd.R (Kd.int .u32) 89 w' w.heap.size (fun k_=>some k_≠(v0_:Value).ownBlock) v1_ r2/\Below w.heap.size w w':=by
 have hu28:=Try.underlying28
 have hu34:=Try.underlying34
 have HR0:=Zz.mk hr0
 have HC0:=Zz.mk hc0
 clear hr0 hc0
 have HB:=Zz.mk (Below.refl w.heap.size w)
 have H:(r03_Sum.l0 k l0 0 ([]:List Int) (([1]:List Int)))=some (r1,r2):=h
 clear h
 obtain ⟨y456,hy456⟩:∃y_:List Int,y_=(([1]:List Int)):=⟨_,rfl⟩
 replace H:(r03_Sum.l0 k l0 0 ([]:List Int) y456)=some (r1,r2):=by first|(rw [hy456];with_reducible exact H)|(have H2_:=(Option.bind_some _ _).symm.trans H;rw [hy456];with_reducible exact H2_)|(have H2_:=(Option.bind_some _ _).symm.trans H;with_reducible exact H2_)|with_reducible exact H|(rw [hy456];exact H)|exact H
 have Ny456:=Zz.mk hy456
 clear hy456
 have H':=Zz.mk H
 clear H
 go_enter Try.func79,Try.ntmps79
 go_wp2_with (first|((with_reducible refine Zt (N:=2) rfl ?_);refine Zu ?hg (N:=2) ?hd (cs:=#[.slice none 0 0,.slice none 0 0]) (t:=28) ?hr ?_;(case hd=>rfl);(case hg=>rfl);(case hr=>first|(go_simp;done)|(go_simp;rfl));intro gb455 hg w2 hbox hb;have n0_:=Zz.mk (Zi (by repeat (first|(with_reducible first|exact HB.out|apply Zb|apply Za|apply Zc)|exact HB.out)) hb);have n1_:=Zz.mk (hbox);have n2_:=Zz.mk ((by rw [hg];exact (Zf (by repeat (first|(with_reducible first|exact HB.out|apply Zb|apply Za|apply Zc)|exact HB.out))):w.heap.size<=gb455));have n3_:=Zz.mk ((by rw [hg];exact (Zf (by repeat (first|(with_reducible first|exact HB.out|apply Zb|apply Za|apply Zc)|exact HB.out))):w.heap.size<=gb455));clear HB;have HB:=n0_;have BK455:=n1_;have GW455:=n2_;have GE455:=n3_;clear n0_ n1_ n2_ n3_;clear hb hbox hg)|((with_reducible refine Zt (N:=5) rfl ?_);refine Kd.R_lit (Kd.int .u32) _ 89 ?hg (N:=5) ?hd (xs:=([1]:List Int)) (inner:=[.int .u32 1]) (ok:=fun _=>True) (okp:=fun _=>True) ?hr ?hp (fun _ hk=>hk) trivial (Below.refl _ _) (Nat.le_refl _) (by simp) ?_;(case hd=>rfl);(case hg=>rfl);(case hr=>first|(go_simp;done)|(go_simp;rfl));(case hp=>exact (Reps.one (show Kd.M (Kd.int .u32) _ _ _ 1 [.int .u32 1] from rfl) (Reps.none _ _)));intro v457 w3 ho4 hb hg_ hnew_;clear hg_ hnew_;(first|rw [<-Ny456.out] at ho4|(simp only [Int.reduceToNat] at ho4;rw [<-Ny456.out] at ho4));have n0_:=Zz.mk (Kd.R_lower ho4 (Zf (by repeat (first|(with_reducible first|exact HB.out|apply Zb|apply Za|apply Zc|refine Zd ?_ GE455.out)|exact HB.out))));have n1_:=Zz.mk (Zk (g:=gb455) (o:=.cells #[.slice none 0 0,.slice none 0 0] 28 (0,0)) (by (with_reducible repeat (first|refine blk_drewN ?_ _|refine Ze ?_|refine blk_alloc ?_ _));exact BK455.out) hb);have n2_:=Zz.mk (Zi (by repeat (first|(with_reducible first|exact HB.out|apply Zb|apply Za|apply Zc|refine Zd ?_ GE455.out)|exact HB.out)) hb);clear BK455;clear HB;have HO458:=n0_;have BK455:=n1_;have HB:=n2_;clear n0_ n1_ n2_;clear hb ho4;obtain ⟨Ao5,co5,eo5⟩:=Kd.R_slice HO458.out;subst eo5)|((with_reducible refine Zt (N:=3) rfl ?_);refine Zu ?hg (N:=3) ?hd (cs:=#[.slice none 0 0,.slice none 0 0]) (t:=28) ?hr ?_;(case hd=>rfl);(case hg=>rfl);(case hr=>first|(go_simp;done)|(go_simp;rfl));intro gb459 hg w6 hbox hb;have n0_:=Zz.mk (Kd.R_below (by (with_reducible repeat (first|apply Kd.R_alloc|apply Kd.R_drewN|apply Kd.R_drew));exact HO458.out) hb);have n1_:=Zz.mk (Zk (g:=gb455) (o:=.cells #[.slice none 0 0,.slice none 0 0] 28 (0,0)) (by (with_reducible repeat (first|refine blk_drewN ?_ _|refine Ze ?_|refine blk_alloc ?_ _));exact BK455.out) hb);have n2_:=Zz.mk (Zi (by repeat (first|(with_reducible first|exact HB.out|apply Zb|apply Za|apply Zc|refine Zd ?_ GE455.out)|exact HB.out)) hb);have n3_:=Zz.mk (hbox);have n4_:=Zz.mk ((by rw [hg];exact (Zf (by repeat (first|(with_reducible first|exact HB.out|apply Zb|apply Za|apply Zc|refine Zd ?_ GE455.out)|exact HB.out))):w.heap.size<=gb459));have n5_:=Zz.mk ((by rw [hg];exact (Zf (by repeat (first|(with_reducible first|exact HB.out|apply Zb|apply Za|apply Zc|refine Zd ?_ GE455.out)|exact HB.out))):w.heap.size<=gb459));have n6_:=Zz.mk ((by rw [hg];exact Nat.ne_of_lt (Z5 (g:=gb455) (o:=.cells #[.slice none 0 0,.slice none 0 0] 28 (0,0)) (by (with_reducible repeat (first|refine blk_drewN ?_ _|refine Ze ?_|refine blk_alloc ?_ _));exact BK455.out)):gb455≠gb459));have n7_:=Zz.mk ((by rw [hg];exact Nat.ne_of_gt (Z5 (g:=gb455) (o:=.cells #[.slice none 0 0,.slice none 0 0] 28 (0,0)) (by (with_reducible repeat (first|refine blk_drewN ?_ _|refine Ze ?_|refine blk_alloc ?_ _));exact BK455.out)):gb459≠gb455));clear HO458;clear BK455;clear HB;have HO458:=n0_;have BK455:=n1_;have HB:=n2_;have BK459:=n3_;have GW459:=n4_;have GE459:=n5_;have NB455_459:=n6_;have NB459_455:=n7_;clear n0_ n1_ n2_ n3_ n4_ n5_ n6_ n7_;clear hb hbox hg;have hnb7:=NB459_455.out;have hnc7:=NB455_459.out;have hcz8_0:w6.cell? ⟨gb459,0,none⟩=some (.slice none 0 0):=(Zh BK459.out 0).trans rfl;have hcz8_1:w6.cell? ⟨gb459,1,none⟩=some (.slice none 0 0):=(Zh BK459.out 1).trans rfl;have hfz8_0:=Zj BK459.out 0;have hfz8_1:=Zj BK459.out 1))
 go_loopg [4] k (fun kq v4 w'=>∃ (x4_1:Int) (x460000_1:List Int) (x460001_1:List Int) (u460000:Value) (u460001:Value),v4=.int .i64 x4_1/\Zz (r03_Sum.l0 kq l0 x4_1 x460000_1 x460001_1=some (r1,r2))/\Zz (kq<=k)/\Zz (Kd.R (Kd.int .u32) 89 w' w.heap.size (fun k_=>some k_≠(u460001:Value).ownBlock) u460000 x460000_1)/\Zz (Kd.R (Kd.int .u32) 89 w' w.heap.size (fun k_=>some k_≠(u460000:Value).ownBlock) u460001 x460001_1)/\Zz (w'.heap[gb455]? = some (.cells #[(.slice none 0 0),(.slice none 0 0)] 28 (0,0)))/\Zz (w'.heap[gb459]? = some (.cells #[u460000,u460001] 28 (0,0)))/\Zz (Below w.heap.size w w'))
 case atStart=>exact ⟨(0),(([]:List Int)),(y456),(.slice none 0 0),(.slice Ao5 y456.length co5),(by first|rfl|(simp;done)|(simp [*];done)),H',⟨Nat.le_refl _⟩,⟨by first|exact Kd.R_nil _ _ _ _ _|exact Kd.N_nil _ _ _ _ _|exact Kd.V_nil _ _ _ _ _|exact Kd.Q_nil _ _ _ _ _|exact Kd.S_nil _ _ _ _ _⟩,⟨by (with_reducible repeat (first|apply Kd.R_alloc|apply Kd.R_drewN|apply Kd.R_drew));exact Kd.R_mono (Kd.R_far (p:=⟨gb459,1,none⟩) (Kd.R_far (p:=⟨gb459,0,none⟩) (Kd.R_types HO458.out BK459.out (by decide)) (fun _ hk=>hk.2) (.slice none 0 0)) (fun _ hk=>hk.2) (.slice Ao5 y456.length co5)) (fun _ hk=>(by simp [Value.ownBlock]))⟩,⟨by (with_reducible repeat (first|refine blk_drewN ?_ _|refine Ze ?_|refine blk_alloc ?_ _));refine blk_far ?_ NB455_459.out _;(with_reducible repeat (first|refine blk_drewN ?_ _|refine Ze ?_|refine blk_alloc ?_ _));refine blk_far ?_ NB455_459.out _;(with_reducible repeat (first|refine blk_drewN ?_ _|refine Ze ?_|refine blk_alloc ?_ _));exact BK455.out⟩,⟨by (with_reducible repeat (first|refine blk_drewN ?_ _|refine Ze ?_|refine blk_alloc ?_ _));refine Zx (cs:=#[.slice none 0 0,.slice none 0 0]) ?_ 1 _ rfl;(with_reducible repeat (first|refine blk_drewN ?_ _|refine Ze ?_|refine blk_alloc ?_ _));refine Zx (cs:=#[.slice none 0 0,.slice none 0 0]) ?_ 0 _ rfl;(with_reducible repeat (first|refine blk_drewN ?_ _|refine Ze ?_|refine blk_alloc ?_ _));exact BK459.out⟩,⟨by repeat (first|(with_reducible first|exact HB.out|apply Zb|apply Za|apply Zc|refine Zd ?_ GE455.out|refine Zd ?_ GE459.out)|exact HB.out)⟩⟩
 case round =>
  clear H'
  try clear p2
  try clear c7
  try clear hcz8_0
  try clear hcz8_1
  try clear hfz8_0
  try clear hfz8_1
  obtain ⟨x4_1,x460000_1,x460001_1,u460000,u460001,rfl,HA,HK1,HO_460000,HO_460001,BK455,BK459,HB⟩:=hrel
  cases gk with
  | zero=>exact absurd HA.out (by simp [r03_Sum.l0])
  | succ k1 =>
   have H:=HA.out
   clear HA
   simp only [r03_Sum.l0] at H
   by_cases c9:x4_1<(l0.length:Int)
   ·rw [if_pos c9] at H
    have c9b0:decide (x4_1<(l0.length:Int))=true:=decide_eq_true c9
    clear c9
    by_cases c10:0<=x4_1
    ·rw [if_pos c10] at H
     have c10b0:decide (0<=x4_1)=true:=decide_eq_true c10
     clear c10
     replace H:=Option.bind_eq_some_iff.mp H
     obtain ⟨⟨t461,t464⟩,A110,H⟩:=H
     replace H:((r03_Plus.f k1 x460000_1 x460001_1 t461 t464).bind fun bt467=>(r03_Sum.l0 k1 l0 (wrap64 (x4_1+1)) bt467.1 bt467.2))=some (r1,r2):=H
     have A11:=Zz.mk A110
     clear A110
     replace H:=Option.bind_eq_some_iff.mp H
     obtain ⟨⟨t467,t470⟩,A120,H⟩:=H
     replace H:(r03_Sum.l0 k1 l0 (wrap64 (x4_1+1)) t467 t470)=some (r1,r2):=H
     have A12:=Zz.mk A120
     clear A120
     have H':=Zz.mk H
     clear H
     try go_wp2
     have n0_:=Zz.mk (Kd.R_drew HO_460000.out)
     have n1_:=Zz.mk (Kd.R_drew HO_460001.out)
     have n2_:=Zz.mk (Ze BK455.out)
     have n3_:=Zz.mk (Ze BK459.out)
     have n4_:=Zz.mk (Zc HB.out)
     clear HO_460000
     clear HO_460001
     clear BK455
     clear BK459
     clear HB
     have HO_460000:=n0_
     have HO_460001:=n1_
     have BK455:=n2_
     have BK459:=n3_
     have HB:=n4_
     clear n0_ n1_ n2_ n3_ n4_
     have p460:0<=(x4_1:Int):=of_decide_eq_true (by first|(with_reducible assumption)|assumption)
     have q460:x4_1<(l0.length:Int):=of_decide_eq_true (by first|(with_reducible assumption)|assumption)
     obtain ⟨ad460,e460,hx460_0,hx460_1⟩:=at_T34 HR0.out x4_1 p460 q460
     have hw460_1:=hx460_1
     have hw460_0:=hx460_0
     cases e460
     replace hx460_0:=(HB.out.cell (World.block_lt_of_cell? w _ hx460_0)).trans hx460_0
     replace hx460_1:=(HB.out.cell (World.block_lt_of_cell? w _ hx460_1)).trans hx460_1
     replace p460:=eq_true p460
     replace q460:=eq_true q460
     refine start_ (n:=8) (S:=fun w'=>w'.cell? ⟨gb459,0,none⟩=some (u460000)/\w'.cell? ⟨gb459,1,none⟩=some (u460001)/\w'.cell? (ad460.add ((x4_1).toNat*2))=some (.int .i64 ((rd_T34 l0 x4_1).f0))/\w'.cell? ⟨(ad460.add ((x4_1).toNat*2)).block,(ad460.add ((x4_1).toNat*2)).off+1,none⟩=some (.int .i64 ((rd_T34 l0 x4_1).f1))) (ds:=[7]) #[false,false,false,false,false,false,false,false] (by kernel_rfl) rfl rfl ⟨(Zh BK459.out 0).trans rfl,(Zh BK459.out 1).trans rfl,((HB.out.cell (World.block_lt_of_cell? w _ hw460_0)).trans hw460_0),((HB.out.cell (World.block_lt_of_cell? w _ hw460_1)).trans hw460_1)⟩ (fun hHeld=>?_);refine with_tabW r03_Sum.tab5 r03_Sum.bits5 (fun HT_ HW_=>?_)
     generalize wr.drew=w13 at HO_460000 HO_460001 BK455 BK459 HB hx460_0 hx460_1 hHeld ⊢
     refine pure_ (i:=1) (N:=some 14) (v:=?_) (a':=?_) #[false,true,false,false,false,false,false,false] rfl rfl (Z3 HT_.out (by kernel_rfl)) (fun _ _ _ h=>h) (Or.inl ⟨by rfl,?_⟩) ?_ ?_
     rotate_left
     ·intro w'
      go_simp
      with_reducible rfl
     rotate_left
     ·simp only [Act.put,List.setIfInBounds_toArray,List.set_cons_zero,List.set_cons_succ,Z6,Z7]
      rfl
     refine pure_ (i:=2) (N:=some 15) (v:=?_) (a':=?_) #[false,true,true,false,false,false,false,false] rfl rfl (Z3 HT_.out (by kernel_rfl)) (fun _ _ _ h=>h) (Or.inl ⟨by rfl,?_⟩) ?_ ?_
     rotate_left
     ·intro w'
      go_simp
      with_reducible rfl
     rotate_left
     ·simp only [Act.put,List.setIfInBounds_toArray,List.set_cons_zero,List.set_cons_succ,Z6,Z7]
      rfl
     refine pure_ (i:=3) (N:=some 16) (v:=?_) (a':=?_) #[false,true,true,true,false,false,false,false] rfl rfl (Z3 HT_.out (by kernel_rfl)) (fun _ _ _ h=>h) (Or.inl ⟨by rfl,?_⟩) ?_ ?_
     rotate_left
     ·intro w'
      go_simp
      with_reducible rfl
     rotate_left
     ·simp only [Act.put,List.setIfInBounds_toArray,List.set_cons_zero,List.set_cons_succ,Z6,Z7]
      rfl
     refine take_ (i:=0) (N:=some 13) (v:=?_) (a':=?_) #[true,true,true,true,false,false,false,false] rfl rfl (Zw HT_.out HW_.out (by kernel_rfl)) (fun _ _ _ h=>h) (Or.inl ⟨by rfl,?_⟩) hHeld ?_ ?_
     rotate_left
     ·rintro w' ⟨s0,s1,s2,s3⟩
      go_simp
      with_reducible rfl
     rotate_left
     ·simp only [Act.put,List.setIfInBounds_toArray,List.set_cons_zero,List.set_cons_succ,Z6,Z7]
      rfl
     refine take_ (i:=4) (N:=some 17) (v:=?_) (a':=?_) #[true,true,true,true,true,false,false,false] rfl rfl (Zw HT_.out HW_.out (by kernel_rfl)) (fun _ _ _ h=>h) (Or.inl ⟨by rfl,?_⟩) hHeld ?_ ?_
     rotate_left
     ·rintro w' ⟨s0,s1,s2,s3⟩
      go_simp
      with_reducible rfl
     rotate_left
     ·simp only [Act.put,List.setIfInBounds_toArray,List.set_cons_zero,List.set_cons_succ,Z6,Z7]
      rfl
     refine one_ (i:=5) (N:=some 18) #[true,true,true,true,true,true,false,false] rfl rfl (one_of HT_.out (by kernel_rfl)) (by decide) (fun K hK=>?_)
     refine goes_ Try.func23 (by kernel_rfl) rfl #[.agg #[.int .i64 ((rd_T34 l0 x4_1).f0),.int .i64 ((rd_T34 l0 x4_1).f1)]] (by rfl) rfl rfl (by (try simp only [List.map_toArray,List.map_cons,List.map_nil]);first|done|rfl|(simp only [List.length_drop,List.length_take];rfl)) ?_
     with_reducible refine (r03_Of.calls k1 ((rd_T34 l0 x4_1).f0) ((rd_T34 l0 x4_1).f1) t461 t464 _ A11.out).mono ?_
     rintro e w14 ⟨v462,v465,rfl,ho0,ho1,hb⟩
     refine ⟨_,rfl,?_⟩
     have n0_:=Zz.mk (Kd.R_mono (Kd.R_told (Kd.R_told (Kd.R_old (by (with_reducible repeat (first|apply Kd.R_alloc|apply Kd.R_drewN|apply Kd.R_drew));exact HO_460000.out) hb) (Kd.R_base ho0)) (Kd.R_base ho1)) (fun _ h_=>h_.1))
     have n1_:=Zz.mk (Kd.R_mono (Kd.R_told (Kd.R_told (Kd.R_old (by (with_reducible repeat (first|apply Kd.R_alloc|apply Kd.R_drewN|apply Kd.R_drew));exact HO_460001.out) hb) (Kd.R_base ho0)) (Kd.R_base ho1)) (fun _ h_=>h_.1))
     have n2_:=Zz.mk (Kd.R_lower (Kd.R_new' (Kd.R_new' ho0 (Kd.R_lt (by (with_reducible repeat (first|apply Kd.R_alloc|apply Kd.R_drewN|apply Kd.R_drew));exact HO_460000.out))) (Kd.R_lt (by (with_reducible repeat (first|apply Kd.R_alloc|apply Kd.R_drewN|apply Kd.R_drew));exact HO_460001.out))) (Zf (by repeat (first|(with_reducible first|exact HB.out|apply Zb|apply Za|apply Zc|refine Zd ?_ GE455.out|refine Zd ?_ GE459.out)|exact HB.out))))
     have n3_:=Zz.mk (Kd.R_lower (Kd.R_new' (Kd.R_new' ho1 (Kd.R_lt (by (with_reducible repeat (first|apply Kd.R_alloc|apply Kd.R_drewN|apply Kd.R_drew));exact HO_460000.out))) (Kd.R_lt (by (with_reducible repeat (first|apply Kd.R_alloc|apply Kd.R_drewN|apply Kd.R_drew));exact HO_460001.out))) (Zf (by repeat (first|(with_reducible first|exact HB.out|apply Zb|apply Za|apply Zc|refine Zd ?_ GE455.out|refine Zd ?_ GE459.out)|exact HB.out))))
     have n4_:=Zz.mk (Zk (g:=gb455) (o:=.cells #[.slice none 0 0,.slice none 0 0] 28 (0,0)) (by (with_reducible repeat (first|refine blk_drewN ?_ _|refine Ze ?_|refine blk_alloc ?_ _));exact BK455.out) hb)
     have n5_:=Zz.mk (Zk (g:=gb459) (o:=.cells #[u460000,u460001] 28 (0,0)) (by (with_reducible repeat (first|refine blk_drewN ?_ _|refine Ze ?_|refine blk_alloc ?_ _));exact BK459.out) hb)
     have n6_:=Zz.mk (Zi (by repeat (first|(with_reducible first|exact HB.out|apply Zb|apply Za|apply Zc|refine Zd ?_ GE455.out|refine Zd ?_ GE459.out)|exact HB.out)) hb)
     clear HO_460000
     clear HO_460001
     clear BK455
     clear BK459
     clear HB
     have HO_460000:=n0_
     have HO_460001:=n1_
     have HO463:=n2_
     have HO466:=n3_
     have BK455:=n4_
     have BK459:=n5_
     have HB:=n6_
     clear n0_ n1_ n2_ n3_ n4_ n5_ n6_
     (try clear hb)
     (try clear hb2)
     (try clear hk)
     (try clear hi)
     (try clear ho0)
     (try clear ho1)
     obtain ⟨Ao15,co15,eo15⟩:=Kd.R_slice HO_460000.out
     (first|subst eo15|(injection eo15 with f1_ f2_ f3_;have f4_:=f1_.symm;have f5_:=f3_.symm;clear f1_ f2_ f3_;subst f4_;subst f5_))
     obtain ⟨Ao16,co16,eo16⟩:=Kd.R_slice HO_460001.out
     (first|subst eo16|(injection eo16 with f1_ f2_ f3_;have f4_:=f1_.symm;have f5_:=f3_.symm;clear f1_ f2_ f3_;subst f4_;subst f5_))
     obtain ⟨Ao17,co17,eo17⟩:=Kd.R_slice HO463.out
     (first|subst eo17|(injection eo17 with f1_ f2_ f3_;have f4_:=f1_.symm;have f5_:=f3_.symm;clear f1_ f2_ f3_;subst f4_;subst f5_))
     obtain ⟨Ao18,co18,eo18⟩:=Kd.R_slice HO466.out
     (first|subst eo18|(injection eo18 with f1_ f2_ f3_;have f4_:=f1_.symm;have f5_:=f3_.symm;clear f1_ f2_ f3_;subst f4_;subst f5_))
     refine hK.out _ _ ⟨(Zh BK459.out 0).trans rfl,(Zh BK459.out 1).trans rfl,((HB.out.cell (World.block_lt_of_cell? w _ hw460_0)).trans hw460_0),((HB.out.cell (World.block_lt_of_cell? w _ hw460_1)).trans hw460_1)⟩ (fun hHeld=>?_)
     clear hK K
     refine norm_ (a':=?_) ?_ ?_
     rotate_left
     ·show Act.put _ (some 18) _=_
      simp only [Act.put,List.setIfInBounds_toArray,List.set_cons_zero,List.set_cons_succ,Z6,Z7]
      rfl
     refine one_ (i:=6) (N:=some 19) #[true,true,true,true,true,true,true,false] rfl rfl (one_of HT_.out (by kernel_rfl)) (by decide) (fun K hK=>?_)
     refine goes_ Try.func26 (by kernel_rfl) rfl #[.agg #[.slice Ao15 x460000_1.length co15,.slice Ao16 x460001_1.length co16],.agg #[.slice Ao17 t461.length co17,.slice Ao18 t464.length co18]] (by rfl) rfl rfl (by (try simp only [List.map_toArray,List.map_cons,List.map_nil]);first|done|rfl|(simp only [List.length_drop,List.length_take];rfl)) ?_
     with_reducible refine (r03_Plus.calls k1 _ _ x460000_1 _ _ x460001_1 _ _ t461 _ _ t464 t467 t470 _ ?side1 ?side2 ?side3 ?side4 ?side5 ?side6 ?side7 ?side8 A12.out).mono ?_
     (case side1=>repeat (first|exact (Kd.R_reads' HO_460000.out).2.2|(with_reducible refine Kd.C_alloc ?_ _)|(with_reducible refine Kd.C_drewN ?_ _)|(with_reducible refine Kd.C_drew ?_)))
     (case side2=>exact (Kd.R_reads' HO_460000.out).2.1)
     (case side3=>repeat (first|exact (Kd.R_reads' HO_460001.out).2.2|(with_reducible refine Kd.C_alloc ?_ _)|(with_reducible refine Kd.C_drewN ?_ _)|(with_reducible refine Kd.C_drew ?_)))
     (case side4=>exact (Kd.R_reads' HO_460001.out).2.1)
     (case side5=>repeat (first|exact (Kd.R_reads' HO463.out).2.2|(with_reducible refine Kd.C_alloc ?_ _)|(with_reducible refine Kd.C_drewN ?_ _)|(with_reducible refine Kd.C_drew ?_)))
     (case side6=>exact (Kd.R_reads' HO463.out).2.1)
     (case side7=>repeat (first|exact (Kd.R_reads' HO466.out).2.2|(with_reducible refine Kd.C_alloc ?_ _)|(with_reducible refine Kd.C_drewN ?_ _)|(with_reducible refine Kd.C_drew ?_)))
     (case side8=>exact (Kd.R_reads' HO466.out).2.1)
     rintro e w19 ⟨v468,v471,rfl,ho0,ho1,hb⟩
     refine ⟨_,rfl,?_⟩
     have n0_:=Zz.mk (Kd.R_mono (Kd.R_told (Kd.R_told (Kd.R_old (by (with_reducible repeat (first|apply Kd.R_alloc|apply Kd.R_drewN|apply Kd.R_drew));exact HO_460000.out) hb) (Kd.R_base ho0)) (Kd.R_base ho1)) (fun _ h_=>h_.1))
     have n1_:=Zz.mk (Kd.R_mono (Kd.R_told (Kd.R_told (Kd.R_old (by (with_reducible repeat (first|apply Kd.R_alloc|apply Kd.R_drewN|apply Kd.R_drew));exact HO_460001.out) hb) (Kd.R_base ho0)) (Kd.R_base ho1)) (fun _ h_=>h_.1))
     have n2_:=Zz.mk (Kd.R_mono (Kd.R_told (Kd.R_told (Kd.R_old (by (with_reducible repeat (first|apply Kd.R_alloc|apply Kd.R_drewN|apply Kd.R_drew));exact HO463.out) hb) (Kd.R_base ho0)) (Kd.R_base ho1)) (fun _ h_=>h_.1))
     have n3_:=Zz.mk (Kd.R_mono (Kd.R_told (Kd.R_told (Kd.R_old (by (with_reducible repeat (first|apply Kd.R_alloc|apply Kd.R_drewN|apply Kd.R_drew));exact HO466.out) hb) (Kd.R_base ho0)) (Kd.R_base ho1)) (fun _ h_=>h_.1))
     have n4_:=Zz.mk (Kd.R_lower (Kd.R_new' (Kd.R_new' (Kd.R_new' (Kd.R_new' ho0 (Kd.R_lt (by (with_reducible repeat (first|apply Kd.R_alloc|apply Kd.R_drewN|apply Kd.R_drew));exact HO_460000.out))) (Kd.R_lt (by (with_reducible repeat (first|apply Kd.R_alloc|apply Kd.R_drewN|apply Kd.R_drew));exact HO_460001.out))) (Kd.R_lt (by (with_reducible repeat (first|apply Kd.R_alloc|apply Kd.R_drewN|apply Kd.R_drew));exact HO463.out))) (Kd.R_lt (by (with_reducible repeat (first|apply Kd.R_alloc|apply Kd.R_drewN|apply Kd.R_drew));exact HO466.out))) (Zf (by repeat (first|(with_reducible first|exact HB.out|apply Zb|apply Za|apply Zc|refine Zd ?_ GE455.out|refine Zd ?_ GE459.out)|exact HB.out))))
     have n5_:=Zz.mk (Kd.R_lower (Kd.R_new' (Kd.R_new' (Kd.R_new' (Kd.R_new' ho1 (Kd.R_lt (by (with_reducible repeat (first|apply Kd.R_alloc|apply Kd.R_drewN|apply Kd.R_drew));exact HO_460000.out))) (Kd.R_lt (by (with_reducible repeat (first|apply Kd.R_alloc|apply Kd.R_drewN|apply Kd.R_drew));exact HO_460001.out))) (Kd.R_lt (by (with_reducible repeat (first|apply Kd.R_alloc|apply Kd.R_drewN|apply Kd.R_drew));exact HO463.out))) (Kd.R_lt (by (with_reducible repeat (first|apply Kd.R_alloc|apply Kd.R_drewN|apply Kd.R_drew));exact HO466.out))) (Zf (by repeat (first|(with_reducible first|exact HB.out|apply Zb|apply Za|apply Zc|refine Zd ?_ GE455.out|refine Zd ?_ GE459.out)|exact HB.out))))
     have n6_:=Zz.mk (Zk (g:=gb455) (o:=.cells #[.slice none 0 0,.slice none 0 0] 28 (0,0)) (by (with_reducible repeat (first|refine blk_drewN ?_ _|refine Ze ?_|refine blk_alloc ?_ _));exact BK455.out) hb)
     have n7_:=Zz.mk (Zk (g:=gb459) (o:=.cells #[.slice Ao15 x460000_1.length co15,.slice Ao16 x460001_1.length co16] 28 (0,0)) (by (with_reducible repeat (first|refine blk_drewN ?_ _|refine Ze ?_|refine blk_alloc ?_ _));exact BK459.out) hb)
     have n8_:=Zz.mk (Zi (by repeat (first|(with_reducible first|exact HB.out|apply Zb|apply Za|apply Zc|refine Zd ?_ GE455.out|refine Zd ?_ GE459.out)|exact HB.out)) hb)
     clear HO_460000
     clear HO_460001
     clear HO463
     clear HO466
     clear BK455
     clear BK459
     clear HB
     have HO_460000:=n0_
     have HO_460001:=n1_
     have HO463:=n2_
     have HO466:=n3_
     have HO469:=n4_
     have HO472:=n5_
     have BK455:=n6_
     have BK459:=n7_
     have HB:=n8_
     clear n0_ n1_ n2_ n3_ n4_ n5_ n6_ n7_ n8_
     (try clear hb)
     (try clear hb2)
     (try clear hk)
     (try clear hi)
     (try clear ho0)
     (try clear ho1)
     obtain ⟨Ao20,co20,eo20⟩:=Kd.R_slice HO469.out
     (first|subst eo20|(injection eo20 with f1_ f2_ f3_;have f4_:=f1_.symm;have f5_:=f3_.symm;clear f1_ f2_ f3_;subst f4_;subst f5_))
     obtain ⟨Ao22,co22,eo22⟩:=Kd.R_slice HO472.out
     (first|subst eo22|(injection eo22 with f1_ f2_ f3_;have f4_:=f1_.symm;have f5_:=f3_.symm;clear f1_ f2_ f3_;subst f4_;subst f5_))
     refine hK.out _ _ ⟨(Zh BK459.out 0).trans rfl,(Zh BK459.out 1).trans rfl,((HB.out.cell (World.block_lt_of_cell? w _ hw460_0)).trans hw460_0),((HB.out.cell (World.block_lt_of_cell? w _ hw460_1)).trans hw460_1)⟩ (fun hHeld=>?_)
     clear hK K
     refine norm_ (a':=?_) ?_ ?_
     rotate_left
     ·show Act.put _ (some 19) _=_
      simp only [Act.put,List.setIfInBounds_toArray,List.set_cons_zero,List.set_cons_succ,Z6,Z7]
      rfl
     refine last_ (i:=7) (N:=none) #[true,true,true,true,true,true,true,true] rfl rfl (one_of HT_.out (by kernel_rfl)) (by decide) (fun K hK=>?_)
     have hs21:w19.cell? ⟨gb459,0,none⟩=some (.slice Ao15 x460000_1.length co15):=(Zh BK459.out 0).trans rfl
     have hfs21:=Zj BK459.out 0
     have hns21_0:=NB455_459.out
     have hms21_0:=NB459_455.out
     have hs23:w19.cell? ⟨gb459,1,none⟩=some (.slice Ao16 x460001_1.length co16):=(Zh BK459.out 1).trans rfl
     have hfs23:=Zj BK459.out 1
     have hns23_0:=NB455_459.out
     have hms23_0:=NB459_455.out
     refine skip_ (w1:=?_) (by rfl) rfl ?_ ?_
     rotate_left
     ·go_simp
      rfl
     refine hK.out _ _ ?_
     clear hK K
     refine done_ (done_of HT_.out (by kernel_rfl)) ?_
     try go_wp2
     go_roundg k1
     case measure=>have:=HK1.out;omega
     case rel=>exact ⟨(wrap64 (x4_1+1)),(t467),(t470),(.slice Ao20 t467.length co20),(.slice Ao22 t470.length co22),(by first|rfl|(simp;done)|(simp [*];done)),H',⟨by have:=HK1.out;omega⟩,⟨by (with_reducible repeat (first|apply Kd.R_alloc|apply Kd.R_drewN|apply Kd.R_drew));exact Kd.R_mono (Kd.R_far (p:=⟨gb459,1,none⟩) (Kd.R_far (p:=⟨gb459,0,none⟩) (Kd.R_types HO469.out BK459.out (by decide)) (fun _ hk=>hk.2) (.slice Ao20 t467.length co20)) (fun _ hk=>hk.2) (.slice Ao22 t470.length co22)) (fun _ hk=>hk.1.1.1.1.1)⟩,⟨by (with_reducible repeat (first|apply Kd.R_alloc|apply Kd.R_drewN|apply Kd.R_drew));exact Kd.R_mono (Kd.R_far (p:=⟨gb459,1,none⟩) (Kd.R_far (p:=⟨gb459,0,none⟩) (Kd.R_types HO472.out BK459.out (by decide)) (fun _ hk=>hk.2) (.slice Ao20 t467.length co20)) (fun _ hk=>hk.2) (.slice Ao22 t470.length co22)) (fun _ hk=>hk.1.1.1.1.1)⟩,⟨by (with_reducible repeat (first|refine blk_drewN ?_ _|refine Ze ?_|refine blk_alloc ?_ _));refine blk_far ?_ NB455_459.out _;(with_reducible repeat (first|refine blk_drewN ?_ _|refine Ze ?_|refine blk_alloc ?_ _));refine blk_far ?_ NB455_459.out _;(with_reducible repeat (first|refine blk_drewN ?_ _|refine Ze ?_|refine blk_alloc ?_ _));exact BK455.out⟩,⟨by (with_reducible repeat (first|refine blk_drewN ?_ _|refine Ze ?_|refine blk_alloc ?_ _));refine Zx (cs:=#[.slice Ao20 t467.length co20,.slice Ao16 x460001_1.length co16]) ?_ 1 _ rfl;(with_reducible repeat (first|refine blk_drewN ?_ _|refine Ze ?_|refine blk_alloc ?_ _));refine Zx (cs:=#[.slice Ao15 x460000_1.length co15,.slice Ao16 x460001_1.length co16]) ?_ 0 _ rfl;(with_reducible repeat (first|refine blk_drewN ?_ _|refine Ze ?_|refine blk_alloc ?_ _));exact BK459.out⟩,⟨by repeat (first|(with_reducible first|exact HB.out|apply Zb|apply Za|apply Zc|refine Zd ?_ GE455.out|refine Zd ?_ GE459.out)|exact HB.out)⟩⟩
    ·rw [if_neg c10] at H
     exact absurd H (by simp)
   ·rw [if_neg c9] at H
    have c9b0:decide (x4_1<(l0.length:Int))=false:=decide_eq_false c9
    clear c9
    simp only [Option.some.injEq,Prod.mk.injEq] at H
    obtain ⟨rfl,rfl⟩:=H
    have hnb24:=NB459_455.out
    have hnc24:=NB455_459.out
    have hcz25_0:wr.cell? ⟨gb459,0,none⟩=some (u460000):=(Zh BK459.out 0).trans rfl
    have hcz25_1:wr.cell? ⟨gb459,1,none⟩=some (u460001):=(Zh BK459.out 1).trans rfl
    have hfz25_0:=Zj BK459.out 0
    have hfz25_1:=Zj BK459.out 1
    obtain ⟨Ao26,co26,eo26⟩:=Kd.R_slice HO_460000.out
    subst eo26
    have hcz27_0:wr.cell? ⟨gb455,0,none⟩=some (.slice none 0 0):=(Zh BK455.out 0).trans rfl
    have hcz27_1:wr.cell? ⟨gb455,1,none⟩=some (.slice none 0 0):=(Zh BK455.out 1).trans rfl
    have hfz27_0:=Zj BK455.out 0
    have hfz27_1:=Zj BK455.out 1
    obtain ⟨Ao28,co28,eo28⟩:=Kd.R_slice HO_460001.out
    subst eo28
    go_wp2
    refine bodyPost_ret (results_cell_row rfl _ _ gb455 28 #[.slice Ao26 x460000_1.length co26,.slice Ao28 x460001_1.length co28] (0,0) _ rfl (by (with_reducible repeat (first|refine blk_drewN ?_ _|refine Ze ?_|refine blk_alloc ?_ _));refine Zx (cs:=#[.slice Ao26 x460000_1.length co26,.slice none 0 0]) ?_ 1 _ rfl;(with_reducible repeat (first|refine blk_drewN ?_ _|refine Ze ?_|refine blk_alloc ?_ _));refine Zx (cs:=#[.slice none 0 0,.slice none 0 0]) ?_ 0 _ rfl;(with_reducible repeat (first|refine blk_drewN ?_ _|refine Ze ?_|refine blk_alloc ?_ _));exact BK455.out) Try.underlying28 rfl (by kernel_rfl)) rfl ?_
    exact ⟨_,_,by first|rfl|(simp [Zm,Zl]<;>rfl)|(simp [*,Zm,Zl]<;>rfl),by (with_reducible repeat (first|apply Kd.R_alloc|apply Kd.R_drewN|apply Kd.R_drew));exact Kd.R_mono (Kd.R_far (p:=⟨gb455,1,none⟩) (Kd.R_far (p:=⟨gb455,0,none⟩) (Kd.R_types HO_460000.out BK455.out (by decide)) (fun _ hk=>hk.2) (.slice Ao26 x460000_1.length co26)) (fun _ hk=>hk.2) (.slice Ao28 x460001_1.length co28)) (fun _ hk=>hk.1),by (with_reducible repeat (first|apply Kd.R_alloc|apply Kd.R_drewN|apply Kd.R_drew));exact Kd.R_mono (Kd.R_far (p:=⟨gb455,1,none⟩) (Kd.R_far (p:=⟨gb455,0,none⟩) (Kd.R_types HO_460001.out BK455.out (by decide)) (fun _ hk=>hk.2) (.slice Ao26 x460000_1.length co26)) (fun _ hk=>hk.2) (.slice Ao28 x460001_1.length co28)) (fun _ hk=>hk.1),by repeat (first|(with_reducible first|exact HB.out|apply Zb|apply Za|apply Zc|refine Zd ?_ GE455.out|refine Zd ?_ GE459.out)|exact HB.out)⟩
end Go.Proofs.Ytfldklimlcnnnaa.PHq
end

section
namespace Go.Proofs.Ytfldklimlcnnnaa.PHq
open Go.RowKit YtfldklimlcnnnaaW.PrintWords YtfldklimlcnnnaaW.PrintLast YtfldklimlcnnnaaW.PrintMore MWords
attribute [local go_sem] max2_int min2_int max_two min_two max_three min_three max_four min_four   -- for this text's walks alone
def hold_holder_holds.f (k:Nat) (a0_0:Int) (a0_1:Int) (a0_2:Int) (a0_3:Int) (a0_4:Bool):Option (Int × Int):=if a0_4=true then ((ratio_Of.f a0_2 a0_3).bind fun bt282=>((ratio_Of.f a0_0 a0_1).bind fun bt288=>((ratio_Cmp.f k bt282.1 bt282.2 bt288.1 bt288.2).bind fun t294=>(if t294>0 then (some (a0_2,a0_3)) else (some (a0_0,a0_1)))))) else (some (a0_0,a0_1))
def hold_holder_holds.T1:Bool × List (List Nat × List Nat):=(true,[([],[]),([0],[0]),([1],[1]),([2],[2]),([3,2],[2,3]),([4,2,2],[2,4]),([2],[2]),([6,2],[2,6]),([7,5,2],[2,7]),([5,8,8,2],[2,5,8]),([9,2],[2,9]),([2,10],[2,10])])
def hold_holder_holds.B1:List Nat:=[0,1,3,7,15,31,7,71,255,511,1023,2047]
theorem hold_holder_holds.tab1:rtab .any (opsOf Try.f76 1)=hold_holder_holds.T1:=by kernel_rfl
theorem hold_holder_holds.bits1:waitsOk hold_holder_holds.T1.2 hold_holder_holds.B1=true:=by kernel_rfl
end Go.Proofs.Ytfldklimlcnnnaa.PHq
end

section
namespace Go.Proofs.Ytfldklimlcnnnaa.PHq
open Go.RowKit YtfldklimlcnnnaaW.PrintWords YtfldklimlcnnnaaW.PrintLast YtfldklimlcnnnaaW.PrintMore MWords
attribute [local go_sem] max2_int min2_int max_two min_two max_three min_three max_four min_four   -- for this text's walks alone
def window_Check.f (a0_0:Int) (a0_1:Int):Option (Bool):=if a0_0 ≥ 1 then (if a0_0<=a0_1 then (some (decide (a0_1<=1048576))) else (some false)) else (some false)
set_option maxHeartbeats 8000000 in
set_option maxRecDepth 100000 in
theorem window_Check.calls (a0_0:Int) (a0_1:Int) (r:Bool) (w:World) (h:window_Check.f a0_0 a0_1=some r) :
  Calls Try.prog 66 #[.agg #[.int .i64 a0_0,.int .i64 a0_1]] w fun e w'=>e=.returned (.bool r)/\Below w.heap.size w w':=by
 have hu34:=Try.underlying34
 have HB:=Zz.mk (Below.refl w.heap.size w)
 have H:(if a0_0 ≥ 1 then (if a0_0<=a0_1 then (some (decide (a0_1<=1048576))) else (some false)) else (some false))=some r:=h
 clear h
 by_cases c2:a0_0 ≥ 1
 ·rw [if_pos c2] at H
  have c2b0:decide (1<=a0_0)=true:=decide_eq_true c2
  clear c2
  by_cases c3:a0_0<=a0_1
  ·rw [if_pos c3] at H
   have c3b0:decide (a0_0<=a0_1)=true:=decide_eq_true c3
   clear c3
   obtain rfl:=Option.some.inj H
   go_enter Try.func66,Try.ntmps66
   go_wp2_with (first|((with_reducible refine Zt (N:=1) rfl ?_);refine Zu ?hg (N:=1) ?hd (cs:=#[.int .i64 a0_0,.int .i64 a0_1]) (t:=34) ?hr ?_;(case hd=>rfl);(case hg=>rfl);(case hr=>first|(go_simp;done)|(go_simp;rfl));intro gb197 hg w4 hbox hb;have n0_:=Zz.mk (Zi (by repeat (first|(with_reducible first|exact HB.out|apply Zb|apply Za|apply Zc)|exact HB.out)) hb);have n1_:=Zz.mk (hbox);have n2_:=Zz.mk ((by rw [hg];exact (Zf (by repeat (first|(with_reducible first|exact HB.out|apply Zb|apply Za|apply Zc)|exact HB.out))):w.heap.size<=gb197));have n3_:=Zz.mk ((by rw [hg];exact (Zf (by repeat (first|(with_reducible first|exact HB.out|apply Zb|apply Za|apply Zc)|exact HB.out))):w.heap.size<=gb197));clear HB;have HB:=n0_;have BK197:=n1_;have GW197:=n2_;have GE197:=n3_;clear n0_ n1_ n2_ n3_;clear hb hbox hg;have hcz5_0:w4.cell? ⟨gb197,0,none⟩=some (.int .i64 a0_0):=(Zh BK197.out 0).trans rfl;have hcz5_1:w4.cell? ⟨gb197,1,none⟩=some (.int .i64 a0_1):=(Zh BK197.out 1).trans rfl;have hfz5_0:=Zj BK197.out 0;have hfz5_1:=Zj BK197.out 1))
   go_ret
   exact ⟨by first|rfl|(simp [Zm,Zl]<;>rfl)|(simp [*,Zm,Zl]<;>rfl),by repeat (first|(with_reducible first|exact HB.out|apply Zb|apply Za|apply Zc|refine Zd ?_ GE197.out)|exact HB.out)⟩
  ·rw [if_neg c3] at H
   have c3b0:decide (a0_0<=a0_1)=false:=decide_eq_false c3
   clear c3
   obtain rfl:=Option.some.inj H
   go_enter Try.func66,Try.ntmps66
   go_wp2_with (first|((with_reducible refine Zt (N:=1) rfl ?_);refine Zu ?hg (N:=1) ?hd (cs:=#[.int .i64 a0_0,.int .i64 a0_1]) (t:=34) ?hr ?_;(case hd=>rfl);(case hg=>rfl);(case hr=>first|(go_simp;done)|(go_simp;rfl));intro gb197 hg w6 hbox hb;have n0_:=Zz.mk (Zi (by repeat (first|(with_reducible first|exact HB.out|apply Zb|apply Za|apply Zc)|exact HB.out)) hb);have n1_:=Zz.mk (hbox);have n2_:=Zz.mk ((by rw [hg];exact (Zf (by repeat (first|(with_reducible first|exact HB.out|apply Zb|apply Za|apply Zc)|exact HB.out))):w.heap.size<=gb197));have n3_:=Zz.mk ((by rw [hg];exact (Zf (by repeat (first|(with_reducible first|exact HB.out|apply Zb|apply Za|apply Zc)|exact HB.out))):w.heap.size<=gb197));clear HB;have HB:=n0_;have BK197:=n1_;have GW197:=n2_;have GE197:=n3_;clear n0_ n1_ n2_ n3_;clear hb hbox hg;have hcz7_0:w6.cell? ⟨gb197,0,none⟩=some (.int .i64 a0_0):=(Zh BK197.out 0).trans rfl;have hcz7_1:w6.cell? ⟨gb197,1,none⟩=some (.int .i64 a0_1):=(Zh BK197.out 1).trans rfl;have hfz7_0:=Zj BK197.out 0;have hfz7_1:=Zj BK197.out 1))
   go_ret
   exact ⟨by first|rfl|(simp [Zm,Zl]<;>rfl)|(simp [*,Zm,Zl]<;>rfl),by repeat (first|(with_reducible first|exact HB.out|apply Zb|apply Za|apply Zc|refine Zd ?_ GE197.out)|exact HB.out)⟩
 ·rw [if_neg c2] at H
  have c2b0:decide (1<=a0_0)=false:=decide_eq_false c2
  clear c2
  obtain rfl:=Option.some.inj H
  go_enter Try.func66,Try.ntmps66
  go_wp2_with (first|((with_reducible refine Zt (N:=1) rfl ?_);refine Zu ?hg (N:=1) ?hd (cs:=#[.int .i64 a0_0,.int .i64 a0_1]) (t:=34) ?hr ?_;(case hd=>rfl);(case hg=>rfl);(case hr=>first|(go_simp;done)|(go_simp;rfl));intro gb197 hg w8 hbox hb;have n0_:=Zz.mk (Zi (by repeat (first|(with_reducible first|exact HB.out|apply Zb|apply Za|apply Zc)|exact HB.out)) hb);have n1_:=Zz.mk (hbox);have n2_:=Zz.mk ((by rw [hg];exact (Zf (by repeat (first|(with_reducible first|exact HB.out|apply Zb|apply Za|apply Zc)|exact HB.out))):w.heap.size<=gb197));have n3_:=Zz.mk ((by rw [hg];exact (Zf (by repeat (first|(with_reducible first|exact HB.out|apply Zb|apply Za|apply Zc)|exact HB.out))):w.heap.size<=gb197));clear HB;have HB:=n0_;have BK197:=n1_;have GW197:=n2_;have GE197:=n3_;clear n0_ n1_ n2_ n3_;clear hb hbox hg;have hcz9_0:w8.cell? ⟨gb197,0,none⟩=some (.int .i64 a0_0):=(Zh BK197.out 0).trans rfl;have hcz9_1:w8.cell? ⟨gb197,1,none⟩=some (.int .i64 a0_1):=(Zh BK197.out 1).trans rfl;have hfz9_0:=Zj BK197.out 0;have hfz9_1:=Zj BK197.out 1))
  go_ret
  exact ⟨by first|rfl|(simp [Zm,Zl]<;>rfl)|(simp [*,Zm,Zl]<;>rfl),by repeat (first|(with_reducible first|exact HB.out|apply Zb|apply Za|apply Zc|refine Zd ?_ GE197.out)|exact HB.out)⟩
end Go.Proofs.Ytfldklimlcnnnaa.PHq
end

section
namespace Go.Proofs.Ytfldklimlcnnnaa.PHq
open Go.RowKit YtfldklimlcnnnaaW.PrintWords YtfldklimlcnnnaaW.PrintLast YtfldklimlcnnnaaW.PrintMore MWords
attribute [local go_sem] max2_int min2_int max_two min_two max_three min_three max_four min_four   -- for this text's walks alone
end Go.Proofs.Ytfldklimlcnnnaa.PHq
end

section
namespace Go.Proofs.Ytfldklimlcnnnaa.PHq
open Go.RowKit YtfldklimlcnnnaaW.PrintWords YtfldklimlcnnnaaW.PrintLast YtfldklimlcnnnaaW.PrintMore MWords
attribute [local go_sem] max2_int min2_int max_two min_two max_three min_three max_four min_four   -- for this text's walks alone
def quota_Check.l0:Nat->List (S71)->List (S71)->Int->Int->Option (Bool)
 | 0,_,_,_,_=>none
 | k+1,x0,x5,x6,x7=>if x7<x6 then (if 0<=x7 then (if x7<(x5.length:Int) then (if ((rd_T71 x5 x7).f0)<(-1) then (some false) else (if ((rd_T71 x5 x7).f0) ≥ x7 then (some false) else (if ((rd_T71 x5 x7).f1.f0)<0 then (some false) else (if ((rd_T71 x5 x7).f1.f0)>1073741824 then (some false) else (if ((rd_T71 x5 x7).f1.f1)<1 then (some false) else (if ((rd_T71 x5 x7).f1.f1)>1048576 then (some false) else (quota_Check.l0 k x0 x5 x6 (wrap64 (x7+1))))))))) else (none)) else (none)) else (some (decide ((x0.length:Int)<=16)))
def quota_Check.f (k:Nat) (l0:List (S71)):Option (Bool):=quota_Check.l0 k l0 l0 (l0.length:Int) 0
set_option maxHeartbeats 8000000 in
set_option maxRecDepth 100000 in
theorem quota_Check.calls (k:Nat) (A0:Option Addr) (c0:Nat) (l0:List (S71)) (r:Bool) (w:World) (hr0:Kd.C k71 w A0 l0.length l0) (hc0:l0.length<=c0) (h:quota_Check.f k l0=some r) :
  Calls Try.prog 61 #[.slice A0 l0.length c0] w fun e w'=>e=.returned (.bool r)/\Below w.heap.size w w':=by
 have hu71:=Try.underlying71
 have HR0:=Zz.mk hr0
 have HC0:=Zz.mk hc0
 clear hr0 hc0
 have HB:=Zz.mk (Below.refl w.heap.size w)
 have H:(quota_Check.l0 k l0 l0 (l0.length:Int) 0)=some r:=h
 clear h
 have H':=Zz.mk H
 clear H
 go_enter Try.func61,Try.ntmps61
 go_wp2
 go_loopg [7] k (fun kq v7 w'=>∃ (x7_1:Int),v7=.int .i64 x7_1/\Zz (quota_Check.l0 kq l0 l0 (l0.length:Int) x7_1=some r)/\Zz (kq<=k)/\Zz (Below w.heap.size w w'))
 case atStart=>exact ⟨(0),(by first|rfl|(simp;done)|(simp [*];done)),H',⟨Nat.le_refl _⟩,⟨by repeat (first|(with_reducible first|exact HB.out|apply Zb|apply Za|apply Zc)|exact HB.out)⟩⟩
 case round =>
  clear H'
  obtain ⟨x7_1,rfl,HA,HK1,HB⟩:=hrel
  cases gk with
  | zero=>exact absurd HA.out (by simp [quota_Check.l0])
  | succ k1 =>
   have H:=HA.out
   clear HA
   simp only [quota_Check.l0] at H
   by_cases c2:x7_1<(l0.length:Int)
   ·rw [if_pos c2] at H
    have c2b0:decide (x7_1<(l0.length:Int))=true:=decide_eq_true c2
    clear c2
    by_cases c3:0<=x7_1
    ·rw [if_pos c3] at H
     have c3b0:decide (0<=x7_1)=true:=decide_eq_true c3
     clear c3
     by_cases c4:x7_1<(l0.length:Int)
     ·rw [if_pos c4] at H
      have c4b0:decide (x7_1<(l0.length:Int))=true:=decide_eq_true c4
      clear c4
      by_cases c5:((rd_T71 l0 x7_1).f0)<(-1)
      ·rw [if_pos c5] at H
       have c5b0:decide (((rd_T71 l0 x7_1).f0)<(-1))=true:=decide_eq_true c5
       clear c5
       obtain rfl:=Option.some.inj H
       have p524:0<=(x7_1:Int):=of_decide_eq_true (by first|(with_reducible assumption)|assumption)
       have q524:x7_1<(l0.length:Int):=of_decide_eq_true (by first|(with_reducible assumption)|assumption)
       obtain ⟨ad524,e524,hx524_0,hx524_1,hx524_2⟩:=at_T71 HR0.out x7_1 p524 q524
       cases e524
       replace hx524_0:=(HB.out.cell (World.block_lt_of_cell? w _ hx524_0)).trans hx524_0
       replace hx524_1:=(HB.out.cell (World.block_lt_of_cell? w _ hx524_1)).trans hx524_1
       replace hx524_2:=(HB.out.cell (World.block_lt_of_cell? w _ hx524_2)).trans hx524_2
       replace p524:=eq_true p524
       replace q524:=eq_true q524
       go_wp2_with (first|((with_reducible refine Zt (N:=4) rfl ?_);refine Zu ?hg (N:=4) ?hd (cs:=#[.int .i64 0,.int .i64 0,.int .i64 0]) (t:=71) ?hr ?_;(case hd=>rfl);(case hg=>rfl);(case hr=>first|(go_simp;done)|(go_simp;rfl));intro gb525 hg w6 hbox hb;have n0_:=Zz.mk (Zi (by repeat (first|(with_reducible first|exact HB.out|apply Zb|apply Za|apply Zc)|exact HB.out)) hb);have n1_:=Zz.mk (hbox);have n2_:=Zz.mk ((by rw [hg];exact (Zf (by repeat (first|(with_reducible first|exact HB.out|apply Zb|apply Za|apply Zc)|exact HB.out))):w.heap.size<=gb525));have n3_:=Zz.mk ((by rw [hg];exact (Zf (by repeat (first|(with_reducible first|exact HB.out|apply Zb|apply Za|apply Zc)|exact HB.out))):w.heap.size<=gb525));clear HB;have HB:=n0_;have BK525:=n1_;have GW525:=n2_;have GE525:=n3_;clear n0_ n1_ n2_ n3_;clear hb hbox hg;have hcz7_0:w6.cell? ⟨gb525,0,none⟩=some (.int .i64 0):=(Zh BK525.out 0).trans rfl;have hcz7_1:w6.cell? ⟨gb525,1,none⟩=some (.int .i64 0):=(Zh BK525.out 1).trans rfl;have hcz7_2:w6.cell? ⟨gb525,2,none⟩=some (.int .i64 0):=(Zh BK525.out 2).trans rfl;have hfz7_0:=Zj BK525.out 0;have hfz7_1:=Zj BK525.out 1;have hfz7_2:=Zj BK525.out 2))
       go_ret
       exact ⟨by first|rfl|(simp [Zm,Zl]<;>rfl)|(simp [*,Zm,Zl]<;>rfl),by repeat (first|(with_reducible first|exact HB.out|apply Zb|apply Za|apply Zc|refine Zd ?_ GE525.out)|exact HB.out)⟩
      ·rw [if_neg c5] at H
       have c5b0:decide (((rd_T71 l0 x7_1).f0)<(-1))=false:=decide_eq_false c5
       clear c5
       by_cases c8:((rd_T71 l0 x7_1).f0) ≥ x7_1
       ·rw [if_pos c8] at H
        have c8b0:decide (x7_1<=((rd_T71 l0 x7_1).f0))=true:=decide_eq_true c8
        clear c8
        obtain rfl:=Option.some.inj H
        have p524:0<=(x7_1:Int):=of_decide_eq_true (by first|(with_reducible assumption)|assumption)
        have q524:x7_1<(l0.length:Int):=of_decide_eq_true (by first|(with_reducible assumption)|assumption)
        obtain ⟨ad524,e524,hx524_0,hx524_1,hx524_2⟩:=at_T71 HR0.out x7_1 p524 q524
        cases e524
        replace hx524_0:=(HB.out.cell (World.block_lt_of_cell? w _ hx524_0)).trans hx524_0
        replace hx524_1:=(HB.out.cell (World.block_lt_of_cell? w _ hx524_1)).trans hx524_1
        replace hx524_2:=(HB.out.cell (World.block_lt_of_cell? w _ hx524_2)).trans hx524_2
        replace p524:=eq_true p524
        replace q524:=eq_true q524
        go_wp2_with (first|((with_reducible refine Zt (N:=4) rfl ?_);refine Zu ?hg (N:=4) ?hd (cs:=#[.int .i64 0,.int .i64 0,.int .i64 0]) (t:=71) ?hr ?_;(case hd=>rfl);(case hg=>rfl);(case hr=>first|(go_simp;done)|(go_simp;rfl));intro gb525 hg w9 hbox hb;have n0_:=Zz.mk (Zi (by repeat (first|(with_reducible first|exact HB.out|apply Zb|apply Za|apply Zc)|exact HB.out)) hb);have n1_:=Zz.mk (hbox);have n2_:=Zz.mk ((by rw [hg];exact (Zf (by repeat (first|(with_reducible first|exact HB.out|apply Zb|apply Za|apply Zc)|exact HB.out))):w.heap.size<=gb525));have n3_:=Zz.mk ((by rw [hg];exact (Zf (by repeat (first|(with_reducible first|exact HB.out|apply Zb|apply Za|apply Zc)|exact HB.out))):w.heap.size<=gb525));clear HB;have HB:=n0_;have BK525:=n1_;have GW525:=n2_;have GE525:=n3_;clear n0_ n1_ n2_ n3_;clear hb hbox hg;have hcz10_0:w9.cell? ⟨gb525,0,none⟩=some (.int .i64 0):=(Zh BK525.out 0).trans rfl;have hcz10_1:w9.cell? ⟨gb525,1,none⟩=some (.int .i64 0):=(Zh BK525.out 1).trans rfl;have hcz10_2:w9.cell? ⟨gb525,2,none⟩=some (.int .i64 0):=(Zh BK525.out 2).trans rfl;have hfz10_0:=Zj BK525.out 0;have hfz10_1:=Zj BK525.out 1;have hfz10_2:=Zj BK525.out 2))
        go_ret
        exact ⟨by first|rfl|(simp [Zm,Zl]<;>rfl)|(simp [*,Zm,Zl]<;>rfl),by repeat (first|(with_reducible first|exact HB.out|apply Zb|apply Za|apply Zc|refine Zd ?_ GE525.out)|exact HB.out)⟩
       ·rw [if_neg c8] at H
        have c8b0:decide (x7_1<=((rd_T71 l0 x7_1).f0))=false:=decide_eq_false c8
        clear c8
        by_cases c11:((rd_T71 l0 x7_1).f1.f0)<0
        ·rw [if_pos c11] at H
         have c11b0:decide (((rd_T71 l0 x7_1).f1.f0)<0)=true:=decide_eq_true c11
         clear c11
         obtain rfl:=Option.some.inj H
         have p524:0<=(x7_1:Int):=of_decide_eq_true (by first|(with_reducible assumption)|assumption)
         have q524:x7_1<(l0.length:Int):=of_decide_eq_true (by first|(with_reducible assumption)|assumption)
         obtain ⟨ad524,e524,hx524_0,hx524_1,hx524_2⟩:=at_T71 HR0.out x7_1 p524 q524
         cases e524
         replace hx524_0:=(HB.out.cell (World.block_lt_of_cell? w _ hx524_0)).trans hx524_0
         replace hx524_1:=(HB.out.cell (World.block_lt_of_cell? w _ hx524_1)).trans hx524_1
         replace hx524_2:=(HB.out.cell (World.block_lt_of_cell? w _ hx524_2)).trans hx524_2
         replace p524:=eq_true p524
         replace q524:=eq_true q524
         go_wp2_with (first|((with_reducible refine Zt (N:=4) rfl ?_);refine Zu ?hg (N:=4) ?hd (cs:=#[.int .i64 0,.int .i64 0,.int .i64 0]) (t:=71) ?hr ?_;(case hd=>rfl);(case hg=>rfl);(case hr=>first|(go_simp;done)|(go_simp;rfl));intro gb525 hg w12 hbox hb;have n0_:=Zz.mk (Zi (by repeat (first|(with_reducible first|exact HB.out|apply Zb|apply Za|apply Zc)|exact HB.out)) hb);have n1_:=Zz.mk (hbox);have n2_:=Zz.mk ((by rw [hg];exact (Zf (by repeat (first|(with_reducible first|exact HB.out|apply Zb|apply Za|apply Zc)|exact HB.out))):w.heap.size<=gb525));have n3_:=Zz.mk ((by rw [hg];exact (Zf (by repeat (first|(with_reducible first|exact HB.out|apply Zb|apply Za|apply Zc)|exact HB.out))):w.heap.size<=gb525));clear HB;have HB:=n0_;have BK525:=n1_;have GW525:=n2_;have GE525:=n3_;clear n0_ n1_ n2_ n3_;clear hb hbox hg;have hcz13_0:w12.cell? ⟨gb525,0,none⟩=some (.int .i64 0):=(Zh BK525.out 0).trans rfl;have hcz13_1:w12.cell? ⟨gb525,1,none⟩=some (.int .i64 0):=(Zh BK525.out 1).trans rfl;have hcz13_2:w12.cell? ⟨gb525,2,none⟩=some (.int .i64 0):=(Zh BK525.out 2).trans rfl;have hfz13_0:=Zj BK525.out 0;have hfz13_1:=Zj BK525.out 1;have hfz13_2:=Zj BK525.out 2))
         go_ret
         exact ⟨by first|rfl|(simp [Zm,Zl]<;>rfl)|(simp [*,Zm,Zl]<;>rfl),by repeat (first|(with_reducible first|exact HB.out|apply Zb|apply Za|apply Zc|refine Zd ?_ GE525.out)|exact HB.out)⟩
        ·rw [if_neg c11] at H
         have c11b0:decide (((rd_T71 l0 x7_1).f1.f0)<0)=false:=decide_eq_false c11
         clear c11
         by_cases c14:((rd_T71 l0 x7_1).f1.f0)>1073741824
         ·rw [if_pos c14] at H
          have c14b0:decide (1073741824<((rd_T71 l0 x7_1).f1.f0))=true:=decide_eq_true c14
          clear c14
          obtain rfl:=Option.some.inj H
          have p524:0<=(x7_1:Int):=of_decide_eq_true (by first|(with_reducible assumption)|assumption)
          have q524:x7_1<(l0.length:Int):=of_decide_eq_true (by first|(with_reducible assumption)|assumption)
          obtain ⟨ad524,e524,hx524_0,hx524_1,hx524_2⟩:=at_T71 HR0.out x7_1 p524 q524
          cases e524
          replace hx524_0:=(HB.out.cell (World.block_lt_of_cell? w _ hx524_0)).trans hx524_0
          replace hx524_1:=(HB.out.cell (World.block_lt_of_cell? w _ hx524_1)).trans hx524_1
          replace hx524_2:=(HB.out.cell (World.block_lt_of_cell? w _ hx524_2)).trans hx524_2
          replace p524:=eq_true p524
          replace q524:=eq_true q524
          go_wp2_with (first|((with_reducible refine Zt (N:=4) rfl ?_);refine Zu ?hg (N:=4) ?hd (cs:=#[.int .i64 0,.int .i64 0,.int .i64 0]) (t:=71) ?hr ?_;(case hd=>rfl);(case hg=>rfl);(case hr=>first|(go_simp;done)|(go_simp;rfl));intro gb525 hg w15 hbox hb;have n0_:=Zz.mk (Zi (by repeat (first|(with_reducible first|exact HB.out|apply Zb|apply Za|apply Zc)|exact HB.out)) hb);have n1_:=Zz.mk (hbox);have n2_:=Zz.mk ((by rw [hg];exact (Zf (by repeat (first|(with_reducible first|exact HB.out|apply Zb|apply Za|apply Zc)|exact HB.out))):w.heap.size<=gb525));have n3_:=Zz.mk ((by rw [hg];exact (Zf (by repeat (first|(with_reducible first|exact HB.out|apply Zb|apply Za|apply Zc)|exact HB.out))):w.heap.size<=gb525));clear HB;have HB:=n0_;have BK525:=n1_;have GW525:=n2_;have GE525:=n3_;clear n0_ n1_ n2_ n3_;clear hb hbox hg;have hcz16_0:w15.cell? ⟨gb525,0,none⟩=some (.int .i64 0):=(Zh BK525.out 0).trans rfl;have hcz16_1:w15.cell? ⟨gb525,1,none⟩=some (.int .i64 0):=(Zh BK525.out 1).trans rfl;have hcz16_2:w15.cell? ⟨gb525,2,none⟩=some (.int .i64 0):=(Zh BK525.out 2).trans rfl;have hfz16_0:=Zj BK525.out 0;have hfz16_1:=Zj BK525.out 1;have hfz16_2:=Zj BK525.out 2))
          go_ret
          exact ⟨by first|rfl|(simp [Zm,Zl]<;>rfl)|(simp [*,Zm,Zl]<;>rfl),by repeat (first|(with_reducible first|exact HB.out|apply Zb|apply Za|apply Zc|refine Zd ?_ GE525.out)|exact HB.out)⟩
         ·rw [if_neg c14] at H
          have c14b0:decide (1073741824<((rd_T71 l0 x7_1).f1.f0))=false:=decide_eq_false c14
          clear c14
          by_cases c17:((rd_T71 l0 x7_1).f1.f1)<1
          ·rw [if_pos c17] at H
           have c17b0:decide (((rd_T71 l0 x7_1).f1.f1)<1)=true:=decide_eq_true c17
           clear c17
           obtain rfl:=Option.some.inj H
           have p524:0<=(x7_1:Int):=of_decide_eq_true (by first|(with_reducible assumption)|assumption)
           have q524:x7_1<(l0.length:Int):=of_decide_eq_true (by first|(with_reducible assumption)|assumption)
           obtain ⟨ad524,e524,hx524_0,hx524_1,hx524_2⟩:=at_T71 HR0.out x7_1 p524 q524
           cases e524
           replace hx524_0:=(HB.out.cell (World.block_lt_of_cell? w _ hx524_0)).trans hx524_0
           replace hx524_1:=(HB.out.cell (World.block_lt_of_cell? w _ hx524_1)).trans hx524_1
           replace hx524_2:=(HB.out.cell (World.block_lt_of_cell? w _ hx524_2)).trans hx524_2
           replace p524:=eq_true p524
           replace q524:=eq_true q524
           go_wp2_with (first|((with_reducible refine Zt (N:=4) rfl ?_);refine Zu ?hg (N:=4) ?hd (cs:=#[.int .i64 0,.int .i64 0,.int .i64 0]) (t:=71) ?hr ?_;(case hd=>rfl);(case hg=>rfl);(case hr=>first|(go_simp;done)|(go_simp;rfl));intro gb525 hg w18 hbox hb;have n0_:=Zz.mk (Zi (by repeat (first|(with_reducible first|exact HB.out|apply Zb|apply Za|apply Zc)|exact HB.out)) hb);have n1_:=Zz.mk (hbox);have n2_:=Zz.mk ((by rw [hg];exact (Zf (by repeat (first|(with_reducible first|exact HB.out|apply Zb|apply Za|apply Zc)|exact HB.out))):w.heap.size<=gb525));have n3_:=Zz.mk ((by rw [hg];exact (Zf (by repeat (first|(with_reducible first|exact HB.out|apply Zb|apply Za|apply Zc)|exact HB.out))):w.heap.size<=gb525));clear HB;have HB:=n0_;have BK525:=n1_;have GW525:=n2_;have GE525:=n3_;clear n0_ n1_ n2_ n3_;clear hb hbox hg;have hcz19_0:w18.cell? ⟨gb525,0,none⟩=some (.int .i64 0):=(Zh BK525.out 0).trans rfl;have hcz19_1:w18.cell? ⟨gb525,1,none⟩=some (.int .i64 0):=(Zh BK525.out 1).trans rfl;have hcz19_2:w18.cell? ⟨gb525,2,none⟩=some (.int .i64 0):=(Zh BK525.out 2).trans rfl;have hfz19_0:=Zj BK525.out 0;have hfz19_1:=Zj BK525.out 1;have hfz19_2:=Zj BK525.out 2))
           go_ret
           exact ⟨by first|rfl|(simp [Zm,Zl]<;>rfl)|(simp [*,Zm,Zl]<;>rfl),by repeat (first|(with_reducible first|exact HB.out|apply Zb|apply Za|apply Zc|refine Zd ?_ GE525.out)|exact HB.out)⟩
          ·rw [if_neg c17] at H
           have c17b0:decide (((rd_T71 l0 x7_1).f1.f1)<1)=false:=decide_eq_false c17
           clear c17
           by_cases c20:((rd_T71 l0 x7_1).f1.f1)>1048576
           ·rw [if_pos c20] at H
            have c20b0:decide (1048576<((rd_T71 l0 x7_1).f1.f1))=true:=decide_eq_true c20
            clear c20
            obtain rfl:=Option.some.inj H
            have p524:0<=(x7_1:Int):=of_decide_eq_true (by first|(with_reducible assumption)|assumption)
            have q524:x7_1<(l0.length:Int):=of_decide_eq_true (by first|(with_reducible assumption)|assumption)
            obtain ⟨ad524,e524,hx524_0,hx524_1,hx524_2⟩:=at_T71 HR0.out x7_1 p524 q524
            cases e524
            replace hx524_0:=(HB.out.cell (World.block_lt_of_cell? w _ hx524_0)).trans hx524_0
            replace hx524_1:=(HB.out.cell (World.block_lt_of_cell? w _ hx524_1)).trans hx524_1
            replace hx524_2:=(HB.out.cell (World.block_lt_of_cell? w _ hx524_2)).trans hx524_2
            replace p524:=eq_true p524
            replace q524:=eq_true q524
            go_wp2_with (first|((with_reducible refine Zt (N:=4) rfl ?_);refine Zu ?hg (N:=4) ?hd (cs:=#[.int .i64 0,.int .i64 0,.int .i64 0]) (t:=71) ?hr ?_;(case hd=>rfl);(case hg=>rfl);(case hr=>first|(go_simp;done)|(go_simp;rfl));intro gb525 hg w21 hbox hb;have n0_:=Zz.mk (Zi (by repeat (first|(with_reducible first|exact HB.out|apply Zb|apply Za|apply Zc)|exact HB.out)) hb);have n1_:=Zz.mk (hbox);have n2_:=Zz.mk ((by rw [hg];exact (Zf (by repeat (first|(with_reducible first|exact HB.out|apply Zb|apply Za|apply Zc)|exact HB.out))):w.heap.size<=gb525));have n3_:=Zz.mk ((by rw [hg];exact (Zf (by repeat (first|(with_reducible first|exact HB.out|apply Zb|apply Za|apply Zc)|exact HB.out))):w.heap.size<=gb525));clear HB;have HB:=n0_;have BK525:=n1_;have GW525:=n2_;have GE525:=n3_;clear n0_ n1_ n2_ n3_;clear hb hbox hg;have hcz22_0:w21.cell? ⟨gb525,0,none⟩=some (.int .i64 0):=(Zh BK525.out 0).trans rfl;have hcz22_1:w21.cell? ⟨gb525,1,none⟩=some (.int .i64 0):=(Zh BK525.out 1).trans rfl;have hcz22_2:w21.cell? ⟨gb525,2,none⟩=some (.int .i64 0):=(Zh BK525.out 2).trans rfl;have hfz22_0:=Zj BK525.out 0;have hfz22_1:=Zj BK525.out 1;have hfz22_2:=Zj BK525.out 2))
            go_ret
            exact ⟨by first|rfl|(simp [Zm,Zl]<;>rfl)|(simp [*,Zm,Zl]<;>rfl),by repeat (first|(with_reducible first|exact HB.out|apply Zb|apply Za|apply Zc|refine Zd ?_ GE525.out)|exact HB.out)⟩
           ·rw [if_neg c20] at H
            have c20b0:decide (1048576<((rd_T71 l0 x7_1).f1.f1))=false:=decide_eq_false c20
            clear c20
            have H':=Zz.mk H
            clear H
            have p524:0<=(x7_1:Int):=of_decide_eq_true (by first|(with_reducible assumption)|assumption)
            have q524:x7_1<(l0.length:Int):=of_decide_eq_true (by first|(with_reducible assumption)|assumption)
            obtain ⟨ad524,e524,hx524_0,hx524_1,hx524_2⟩:=at_T71 HR0.out x7_1 p524 q524
            cases e524
            replace hx524_0:=(HB.out.cell (World.block_lt_of_cell? w _ hx524_0)).trans hx524_0
            replace hx524_1:=(HB.out.cell (World.block_lt_of_cell? w _ hx524_1)).trans hx524_1
            replace hx524_2:=(HB.out.cell (World.block_lt_of_cell? w _ hx524_2)).trans hx524_2
            replace p524:=eq_true p524
            replace q524:=eq_true q524
            go_wp2_with (first|((with_reducible refine Zt (N:=4) rfl ?_);refine Zu ?hg (N:=4) ?hd (cs:=#[.int .i64 0,.int .i64 0,.int .i64 0]) (t:=71) ?hr ?_;(case hd=>rfl);(case hg=>rfl);(case hr=>first|(go_simp;done)|(go_simp;rfl));intro gb525 hg w23 hbox hb;have n0_:=Zz.mk (Zi (by repeat (first|(with_reducible first|exact HB.out|apply Zb|apply Za|apply Zc)|exact HB.out)) hb);have n1_:=Zz.mk (hbox);have n2_:=Zz.mk ((by rw [hg];exact (Zf (by repeat (first|(with_reducible first|exact HB.out|apply Zb|apply Za|apply Zc)|exact HB.out))):w.heap.size<=gb525));have n3_:=Zz.mk ((by rw [hg];exact (Zf (by repeat (first|(with_reducible first|exact HB.out|apply Zb|apply Za|apply Zc)|exact HB.out))):w.heap.size<=gb525));clear HB;have HB:=n0_;have BK525:=n1_;have GW525:=n2_;have GE525:=n3_;clear n0_ n1_ n2_ n3_;clear hb hbox hg;have hcz24_0:w23.cell? ⟨gb525,0,none⟩=some (.int .i64 0):=(Zh BK525.out 0).trans rfl;have hcz24_1:w23.cell? ⟨gb525,1,none⟩=some (.int .i64 0):=(Zh BK525.out 1).trans rfl;have hcz24_2:w23.cell? ⟨gb525,2,none⟩=some (.int .i64 0):=(Zh BK525.out 2).trans rfl;have hfz24_0:=Zj BK525.out 0;have hfz24_1:=Zj BK525.out 1;have hfz24_2:=Zj BK525.out 2))
            go_roundg k1
            case measure=>have:=HK1.out;omega
            case rel=>exact ⟨(wrap64 (x7_1+1)),(by first|rfl|(simp;done)|(simp [*];done)),H',⟨by have:=HK1.out;omega⟩,⟨by repeat (first|(with_reducible first|exact HB.out|apply Zb|apply Za|apply Zc|refine Zd ?_ GE525.out)|exact HB.out)⟩⟩
     ·rw [if_neg c4] at H
      exact absurd H (by simp)
    ·rw [if_neg c3] at H
     exact absurd H (by simp)
   ·rw [if_neg c2] at H
    have c2b0:decide (x7_1<(l0.length:Int))=false:=decide_eq_false c2
    clear c2
    obtain rfl:=Option.some.inj H
    go_wp2
    go_ret
    exact ⟨by first|rfl|(simp [Zm,Zl]<;>rfl)|(simp [*,Zm,Zl]<;>rfl),by repeat (first|(with_reducible first|exact HB.out|apply Zb|apply Za|apply Zc)|exact HB.out)⟩
end Go.Proofs.Ytfldklimlcnnnaa.PHq
end

section
namespace Go.Proofs.Ytfldklimlcnnnaa.PHq
open Go.RowKit YtfldklimlcnnnaaW.PrintWords YtfldklimlcnnnaaW.PrintLast YtfldklimlcnnnaaW.PrintMore MWords
attribute [local go_sem] max2_int min2_int max_two min_two max_three min_three max_four min_four   -- for this text's walks alone
def l13_one.f (k:Nat) (a0:Int) (a1:Int):Option (List Int × List Int):=(r02_Of.f k a0).bind fun t527=>((r02_Of.f k a1).bind fun t530=>(some (t527,t530)))
set_option maxHeartbeats 8000000 in
set_option maxRecDepth 100000 in
theorem l13_one.calls (k:Nat) (a0:Int) (a1:Int) (r1:List Int) (r2:List Int) (w:World) (h:l13_one.f k a0 a1=some (r1,r2)) :
  Calls Try.prog 44 #[.int .u64 a0,.int .u64 a1] w fun e w'=>∃v0_ v1_:Value,e=.returned (.agg #[v0_,v1_])/\Kd.R (Kd.int .u32) 89 w' w.heap.size (fun k_=>some k_≠(v1_:Value).ownBlock) v0_ r1/\Kd.R (Kd.int .u32) 89 w' w.heap.size (fun k_=>some k_≠(v0_:Value).ownBlock) v1_ r2/\Below w.heap.size w w':=by
 have hu28:=Try.underlying28
 have HB:=Zz.mk (Below.refl w.heap.size w)
 have H:((r02_Of.f k a0).bind fun t527=>((r02_Of.f k a1).bind fun t530=>(some (t527,t530))))=some (r1,r2):=h
 clear h
 replace H:=Option.bind_eq_some_iff.mp H
 obtain ⟨t527,A30,H⟩:=H
 replace H:((r02_Of.f k a1).bind fun t530=>(some (t527,t530)))=some (r1,r2):=H
 have A3:=Zz.mk A30
 clear A30
 replace H:=Option.bind_eq_some_iff.mp H
 obtain ⟨t530,A40,H⟩:=H
 replace H:(some (t527,t530))=some (r1,r2):=H
 have A4:=Zz.mk A40
 clear A40
 simp only [Option.some.injEq,Prod.mk.injEq] at H
 obtain ⟨rfl,rfl⟩:=H
 go_enter Try.func44,Try.ntmps44
 go_wp2_with (first|((with_reducible refine Zt (N:=4) rfl ?_);refine Zu ?hg (N:=4) ?hd (cs:=#[.slice none 0 0,.slice none 0 0]) (t:=28) ?hr ?_;(case hd=>rfl);(case hg=>rfl);(case hr=>first|(go_simp;done)|(go_simp;rfl));intro gb526 hg w5 hbox hb;have n0_:=Zz.mk (Zi (by repeat (first|(with_reducible first|exact HB.out|apply Zb|apply Za|apply Zc)|exact HB.out)) hb);have n1_:=Zz.mk (hbox);have n2_:=Zz.mk ((by rw [hg];exact (Zf (by repeat (first|(with_reducible first|exact HB.out|apply Zb|apply Za|apply Zc)|exact HB.out))):w.heap.size<=gb526));have n3_:=Zz.mk ((by rw [hg];exact (Zf (by repeat (first|(with_reducible first|exact HB.out|apply Zb|apply Za|apply Zc)|exact HB.out))):w.heap.size<=gb526));clear HB;have HB:=n0_;have BK526:=n1_;have GW526:=n2_;have GE526:=n3_;clear n0_ n1_ n2_ n3_;clear hb hbox hg)|((with_reducible refine Zs (f:=65) rfl ?_);refine Zv (some 6) rfl rfl Try.func65 (by kernel_rfl) rfl #[.int .u64 a0] rfl (by (try simp only [List.map_toArray,List.map_cons,List.map_nil]);first|done|rfl|(simp only [List.length_drop,List.length_take];rfl)) ?_;(with_reducible refine (r02_Of.calls k a0 t527 _ A3.out).mono ?_);rintro e w6 ⟨v528,rfl,ho0,hb⟩;refine ⟨_,rfl,?_⟩;have n0_:=Zz.mk (Kd.R_lower ho0 (Zf (by repeat (first|(with_reducible first|exact HB.out|apply Zb|apply Za|apply Zc|refine Zd ?_ GE526.out)|exact HB.out))));have n1_:=Zz.mk (Zk (g:=gb526) (o:=.cells #[.slice none 0 0,.slice none 0 0] 28 (0,0)) (by (with_reducible repeat (first|refine blk_drewN ?_ _|refine Ze ?_|refine blk_alloc ?_ _));exact BK526.out) hb);have n2_:=Zz.mk (Zi (by repeat (first|(with_reducible first|exact HB.out|apply Zb|apply Za|apply Zc|refine Zd ?_ GE526.out)|exact HB.out)) hb);clear BK526;clear HB;have HO529:=n0_;have BK526:=n1_;have HB:=n2_;clear n0_ n1_ n2_;(try clear hb);(try clear hb2);(try clear hk);(try clear hi);(try clear ho0);(try clear A3))|((with_reducible refine Zs (f:=65) rfl ?_);refine Zv (some 8) rfl rfl Try.func65 (by kernel_rfl) rfl #[.int .u64 a1] rfl (by (try simp only [List.map_toArray,List.map_cons,List.map_nil]);first|done|rfl|(simp only [List.length_drop,List.length_take];rfl)) ?_;(with_reducible refine (r02_Of.calls k a1 t530 _ A4.out).mono ?_);rintro e w7 ⟨v531,rfl,ho0,hb⟩;refine ⟨_,rfl,?_⟩;have n0_:=Zz.mk (Kd.R_elder' (by (with_reducible repeat (first|apply Kd.R_alloc|apply Kd.R_drewN|apply Kd.R_drew));exact HO529.out) (Kd.R_base ho0) hb);have n1_:=Zz.mk (Kd.R_lower (Kd.R_new' ho0 (Kd.R_lt (by (with_reducible repeat (first|apply Kd.R_alloc|apply Kd.R_drewN|apply Kd.R_drew));exact HO529.out))) (Zf (by repeat (first|(with_reducible first|exact HB.out|apply Zb|apply Za|apply Zc|refine Zd ?_ GE526.out)|exact HB.out))));have n2_:=Zz.mk (Zk (g:=gb526) (o:=.cells #[.slice none 0 0,.slice none 0 0] 28 (0,0)) (by (with_reducible repeat (first|refine blk_drewN ?_ _|refine Ze ?_|refine blk_alloc ?_ _));exact BK526.out) hb);have n3_:=Zz.mk (Zi (by repeat (first|(with_reducible first|exact HB.out|apply Zb|apply Za|apply Zc|refine Zd ?_ GE526.out)|exact HB.out)) hb);clear HO529;clear BK526;clear HB;have HO529:=n0_;have HO532:=n1_;have BK526:=n2_;have HB:=n3_;clear n0_ n1_ n2_ n3_;(try clear hb);(try clear hb2);(try clear hk);(try clear hi);(try clear ho0);obtain ⟨Ao8,co8,eo8⟩:=Kd.R_slice HO532.out;subst eo8;obtain ⟨Ao9,co9,eo9⟩:=Kd.R_slice HO529.out;subst eo9;have hcz10_0:w7.cell? ⟨gb526,0,none⟩=some (.slice none 0 0):=(Zh BK526.out 0).trans rfl;have hcz10_1:w7.cell? ⟨gb526,1,none⟩=some (.slice none 0 0):=(Zh BK526.out 1).trans rfl;have hfz10_0:=Zj BK526.out 0;have hfz10_1:=Zj BK526.out 1;(try clear A4)))
 refine bodyPost_ret (results_cell_row rfl _ _ gb526 28 #[.slice Ao9 t527.length co9,.slice Ao8 t530.length co8] (0,0) _ rfl (by (with_reducible repeat (first|refine blk_drewN ?_ _|refine Ze ?_|refine blk_alloc ?_ _));refine Zx (cs:=#[.slice Ao9 t527.length co9,.slice none 0 0]) ?_ 1 _ rfl;(with_reducible repeat (first|refine blk_drewN ?_ _|refine Ze ?_|refine blk_alloc ?_ _));refine Zx (cs:=#[.slice none 0 0,.slice none 0 0]) ?_ 0 _ rfl;(with_reducible repeat (first|refine blk_drewN ?_ _|refine Ze ?_|refine blk_alloc ?_ _));exact BK526.out) Try.underlying28 rfl (by kernel_rfl)) rfl ?_
 exact ⟨_,_,by first|rfl|(simp [Zm,Zl]<;>rfl)|(simp [*,Zm,Zl]<;>rfl),by (with_reducible repeat (first|apply Kd.R_alloc|apply Kd.R_drewN|apply Kd.R_drew));exact Kd.R_mono (Kd.R_far (p:=⟨gb526,1,none⟩) (Kd.R_far (p:=⟨gb526,0,none⟩) (Kd.R_types HO529.out BK526.out (by decide)) (fun _ hk=>hk.2) (.slice Ao9 t527.length co9)) (fun _ hk=>hk.2) (.slice Ao8 t530.length co8)) (fun _ hk=>hk.1.2),by (with_reducible repeat (first|apply Kd.R_alloc|apply Kd.R_drewN|apply Kd.R_drew));exact Kd.R_mono (Kd.R_far (p:=⟨gb526,1,none⟩) (Kd.R_far (p:=⟨gb526,0,none⟩) (Kd.R_types HO532.out BK526.out (by decide)) (fun _ hk=>hk.2) (.slice Ao9 t527.length co9)) (fun _ hk=>hk.2) (.slice Ao8 t530.length co8)) (fun _ hk=>hk.1.2),by repeat (first|(with_reducible first|exact HB.out|apply Zb|apply Za|apply Zc|refine Zd ?_ GE526.out)|exact HB.out)⟩
end Go.Proofs.Ytfldklimlcnnnaa.PHq
end

section
namespace Go.Proofs.Ytfldklimlcnnnaa.PHq
open Go.RowKit YtfldklimlcnnnaaW.PrintWords YtfldklimlcnnnaaW.PrintLast YtfldklimlcnnnaaW.PrintMore MWords
attribute [local go_sem] max2_int min2_int max_two min_two max_three min_three max_four min_four   -- for this text's walks alone
mutual
def l13_Spec_servers.l0:Nat->List (S71)->Int->List Int->List (S39)->Int->Int->Option ((List (S71)))
 | 0,_,_,_,_,_,_=>none
 | k+1,x3,x4,x545000,x545001,x545002,x545003=>if x4<(x545000.length:Int) then (l13_Spec_servers.j1 k x3 x4 (decide (x4<8)) x545000 x545001 x545002 x545003) else (l13_Spec_servers.j1 k x3 x4 false x545000 x545001 x545002 x545003)
def l13_Spec_servers.j1:Nat->List (S71)->Int->Bool->List Int->List (S39)->Int->Int->Option ((List (S71)))
 | 0,_,_,_,_,_,_,_=>none
 | k+1,x3,x4,x14,x545000,x545001,x545002,x545003=>if x14=true then (if 0<=x4 then (if x4<(x545000.length:Int) then (if (wrap64 (x4+1))=0 then (none) else (if x4<(x545001.length:Int) then (if x3.length<5864062014805 then (l13_Spec_servers.l0 k (x3++[(⟨wrap64 ((Int.tmod (wrap64 ((wrap64 ((Int.tmod (rd x545000 x4) (wrap64 (x4+1)))+x4))+1)) (wrap64 (x4+1)))-1),(⟨Go.bits .and .i64 ((rd_T39 x545001 x4).f0) 31,wrap64 (1+(Go.bits .and .i64 ((rd_T39 x545001 x4).f1) 15))⟩:S34)⟩:S71)]) (wrap64 (x4+1)) x545000 x545001 x545002 x545003) else (none)) else (if x3.length<5864062014805 then (l13_Spec_servers.l0 k (x3++[(⟨wrap64 ((Int.tmod (wrap64 ((wrap64 ((Int.tmod (rd x545000 x4) (wrap64 (x4+1)))+x4))+1)) (wrap64 (x4+1)))-1),(⟨16,16⟩:S34)⟩:S71)]) (wrap64 (x4+1)) x545000 x545001 x545002 x545003) else (none)))) else (none)) else (none)) else (some x3)
end
def l13_Spec_servers.f (k:Nat) (l0_0:List Int) (l0_1:List (S39)) (a0_2:Int) (a0_3:Int):Option ((List (S71))):=l13_Spec_servers.l0 k ([]:List (S71)) 0 l0_0 l0_1 a0_2 a0_3
def l13_Spec_servers.T7:Bool × List (List Nat × List Nat):=(true,[([],[]),([0],[0]),([],[]),([1,2],[1,2]),([3],[3]),([4],[4]),([5],[5]),([],[]),([7],[7]),([],[]),([8,9],[8,9]),([10],[10]),([11],[11]),([12],[12]),([13],[13]),([6,14],[6,14]),([0,1,2,3,4,5,6,7,8,9,10,11,12,13,14,15],[]),([16,15,0,1,2,3,4,5,6,7,8,9,10,11,12,13,14,15],[15,16])])
def l13_Spec_servers.B7:List Nat:=[0,1,0,7,15,31,63,0,128,0,896,1920,3968,8064,16256,32767,65535,131071]
theorem l13_Spec_servers.tab7:rtab .any (opsOf Try.f40 7)=l13_Spec_servers.T7:=by kernel_rfl
theorem l13_Spec_servers.bits7:waitsOk l13_Spec_servers.T7.2 l13_Spec_servers.B7=true:=by kernel_rfl
set_option maxHeartbeats 8000000 in
set_option maxRecDepth 100000 in
theorem l13_Spec_servers.calls (k:Nat) (A0_0:Option Addr) (c0_0:Nat) (l0_0:List Int) (A0_1:Option Addr) (c0_1:Nat) (l0_1:List (S39)) (a0_2:Int) (a0_3:Int) (r:List (S71)) (w:World) (hr0_0:Kd.C (Kd.int .i64) w A0_0 l0_0.length l0_0) (hc0_0:l0_0.length<=c0_0) (hr0_1:Kd.C k39 w A0_1 l0_1.length l0_1) (hc0_1:l0_1.length<=c0_1) (h:l13_Spec_servers.f k l0_0 l0_1 a0_2 a0_3=some r) :
  Calls Try.prog 40 #[.agg #[.slice A0_0 l0_0.length c0_0,.slice A0_1 l0_1.length c0_1,.int .i64 a0_2,.int .i64 a0_3]] w fun e w'=>∃v0_:Value,e=.returned (v0_)/\Kd.R k71 71 w' w.heap.size (fun _=>True) v0_ r/\Below w.heap.size w w':=by
 have hu64:=Try.underlying64
 have hu34:=Try.underlying34
 have hu71:=Try.underlying71
 have HR0_0:=Zz.mk hr0_0
 have HC0_0:=Zz.mk hc0_0
 clear hr0_0 hc0_0
 have HR0_1:=Zz.mk hr0_1
 have HC0_1:=Zz.mk hc0_1
 clear hr0_1 hc0_1
 have HB:=Zz.mk (Below.refl w.heap.size w)
 have H:(l13_Spec_servers.l0 k ([]:List (S71)) 0 l0_0 l0_1 a0_2 a0_3)=some r:=h
 clear h
 have H':=Zz.mk H
 clear H
 go_enter Try.func40,Try.ntmps40
 go_wp2_with (first|((with_reducible refine Zt (N:=1) rfl ?_);refine Zu ?hg (N:=1) ?hd (cs:=#[.slice A0_0 l0_0.length c0_0,.slice A0_1 l0_1.length c0_1,.int .i64 a0_2,.int .i64 a0_3]) (t:=64) ?hr ?_;(case hd=>rfl);(case hg=>rfl);(case hr=>first|(go_simp;done)|(go_simp;rfl));intro gb544 hg w2 hbox hb;have n0_:=Zz.mk (Zi (by repeat (first|(with_reducible first|exact HB.out|apply Zb|apply Za|apply Zc)|exact HB.out)) hb);have n1_:=Zz.mk (hbox);have n2_:=Zz.mk ((by rw [hg];exact (Zf (by repeat (first|(with_reducible first|exact HB.out|apply Zb|apply Za|apply Zc)|exact HB.out))):w.heap.size<=gb544));have n3_:=Zz.mk ((by rw [hg];exact (Zf (by repeat (first|(with_reducible first|exact HB.out|apply Zb|apply Za|apply Zc)|exact HB.out))):w.heap.size<=gb544));clear HB;have HB:=n0_;have BK544:=n1_;have GW544:=n2_;have GE544:=n3_;clear n0_ n1_ n2_ n3_;clear hb hbox hg))
 go_loopg [3,4] k (fun kq v3 v4 w'=>∃ (x3_1:List (S71)) (x4_1:Int),v4=.int .i64 x4_1/\Zz (l13_Spec_servers.l0 kq x3_1 x4_1 l0_0 l0_1 a0_2 a0_3=some r)/\Zz (kq<=k)/\Zz (Kd.R k71 71 w' w.heap.size (fun _=>True) v3 x3_1)/\Zz (w'.heap[gb544]? = some (.cells #[(.slice A0_0 l0_0.length c0_0),(.slice A0_1 l0_1.length c0_1),.int .i64 a0_2,.int .i64 a0_3] 64 (0,0)))/\Zz (Below w.heap.size w w'))
 case atStart=>exact ⟨(([]:List (S71))),(0),(by first|rfl|(simp;done)|(simp [*];done)),H',⟨Nat.le_refl _⟩,⟨by first|exact Kd.R_nil _ _ _ _ _|exact Kd.N_nil _ _ _ _ _|exact Kd.V_nil _ _ _ _ _|exact Kd.Q_nil _ _ _ _ _|exact Kd.S_nil _ _ _ _ _⟩,⟨by (with_reducible repeat (first|refine blk_drewN ?_ _|refine Ze ?_|refine blk_alloc ?_ _));exact BK544.out⟩,⟨by repeat (first|(with_reducible first|exact HB.out|apply Zb|apply Za|apply Zc|refine Zd ?_ GE544.out)|exact HB.out)⟩⟩
 case round =>
  clear H'
  try clear p2
  obtain ⟨x3_1,x4_1,rfl,HA,HK1,HO_3,BK544,HB⟩:=hrel
  cases gk with
  | zero=>exact absurd HA.out (by simp [l13_Spec_servers.l0])
  | succ k1 =>
   have H:=HA.out
   clear HA
   simp only [l13_Spec_servers.l0] at H
   have HC3:=Zz.mk H
   clear H
   go_upto_region 3 with (fail)
   go_cut [14] (fun v14 wc=>∃ (kq:Nat) (x14_2:Bool),v14=.bool x14_2/\Zz (l13_Spec_servers.j1 kq x3_1 x4_1 x14_2 l0_0 l0_1 a0_2 a0_3=some r)/\Zz (kq<=k1)/\Zz (Kd.R k71 71 wc w.heap.size (fun _=>True) u3 x3_1)/\Zz (wc.heap[gb544]? = some (.cells #[(.slice A0_0 l0_0.length c0_0),(.slice A0_1 l0_1.length c0_1),.int .i64 a0_2,.int .i64 a0_3] 64 (0,0)))/\Zz (Below w.heap.size w wc))
   case first =>
    have H:=HC3.out
    clear HC3
    by_cases c4:x4_1<(l0_0.length:Int)
    ·rw [if_pos c4] at H
     have c4b0:decide (x4_1<(l0_0.length:Int))=true:=decide_eq_true c4
     clear c4
     (first|rw [c4b0]|rw [c4b1]|(simp only [Z6,Z7];rw [c4b0])|skip)
     have H':=Zz.mk H
     clear H
     have hcz5_0:wr.cell? ⟨gb544,0,none⟩=some (.slice A0_0 l0_0.length c0_0):=(Zh BK544.out 0).trans rfl
     have hcz5_1:wr.cell? ⟨gb544,1,none⟩=some (.slice A0_1 l0_1.length c0_1):=(Zh BK544.out 1).trans rfl
     have hcz5_2:wr.cell? ⟨gb544,2,none⟩=some (.int .i64 a0_2):=(Zh BK544.out 2).trans rfl
     have hcz5_3:wr.cell? ⟨gb544,3,none⟩=some (.int .i64 a0_3):=(Zh BK544.out 3).trans rfl
     have hfz5_0:=Zj BK544.out 0
     have hfz5_1:=Zj BK544.out 1
     have hfz5_2:=Zj BK544.out 2
     have hfz5_3:=Zj BK544.out 3
     go_wp2
     go_meet
     case rel=>exact ⟨_,(decide (x4_1<8)),(by first|rfl|(simp;done)|(simp [*];done)),H',⟨by have:=HK1.out;first|omega|exact Nat.le_refl _⟩,⟨by (with_reducible repeat (first|apply Kd.R_alloc|apply Kd.R_drewN|apply Kd.R_drew));exact HO_3.out⟩,⟨by (with_reducible repeat (first|refine blk_drewN ?_ _|refine Ze ?_|refine blk_alloc ?_ _));exact BK544.out⟩,⟨by repeat (first|(with_reducible first|exact HB.out|apply Zb|apply Za|apply Zc|refine Zd ?_ GE544.out)|exact HB.out)⟩⟩
    ·rw [if_neg c4] at H
     have c4b0:decide (x4_1<(l0_0.length:Int))=false:=decide_eq_false c4
     clear c4
     (first|rw [c4b0]|rw [c4b1]|(simp only [Z6,Z7];rw [c4b0])|skip)
     have H':=Zz.mk H
     clear H
     have hcz6_0:wr.cell? ⟨gb544,0,none⟩=some (.slice A0_0 l0_0.length c0_0):=(Zh BK544.out 0).trans rfl
     have hcz6_1:wr.cell? ⟨gb544,1,none⟩=some (.slice A0_1 l0_1.length c0_1):=(Zh BK544.out 1).trans rfl
     have hcz6_2:wr.cell? ⟨gb544,2,none⟩=some (.int .i64 a0_2):=(Zh BK544.out 2).trans rfl
     have hcz6_3:wr.cell? ⟨gb544,3,none⟩=some (.int .i64 a0_3):=(Zh BK544.out 3).trans rfl
     have hfz6_0:=Zj BK544.out 0
     have hfz6_1:=Zj BK544.out 1
     have hfz6_2:=Zj BK544.out 2
     have hfz6_3:=Zj BK544.out 3
     go_wp2
     go_meet
     case rel=>exact ⟨_,(false),(by first|rfl|(simp;done)|(simp [*];done)),H',⟨by have:=HK1.out;first|omega|exact Nat.le_refl _⟩,⟨by (with_reducible repeat (first|apply Kd.R_alloc|apply Kd.R_drewN|apply Kd.R_drew));exact HO_3.out⟩,⟨by (with_reducible repeat (first|refine blk_drewN ?_ _|refine Ze ?_|refine blk_alloc ?_ _));exact BK544.out⟩,⟨by repeat (first|(with_reducible first|exact HB.out|apply Zb|apply Za|apply Zc|refine Zd ?_ GE544.out)|exact HB.out)⟩⟩
   case rest =>
    clear HC3
    try clear p2
    try clear c4
    try clear c4b0
    try clear hcz5_0
    try clear hcz5_1
    try clear hcz5_2
    try clear hcz5_3
    try clear hcz6_0
    try clear hcz6_1
    try clear hcz6_2
    try clear hcz6_3
    try clear hfz5_0
    try clear hfz5_1
    try clear hfz5_2
    try clear hfz5_3
    try clear hfz6_0
    try clear hfz6_1
    try clear hfz6_2
    try clear hfz6_3
    try clear p2
    obtain ⟨kq,x14_2,rfl,HA,HJ2,HO_3,BK544,HB⟩:=hcut
    cases kq with
    | zero=>exact absurd HA.out (by simp [l13_Spec_servers.j1])
    | succ kj2 =>
     have H:=HA.out
     clear HA
     simp only [l13_Spec_servers.j1] at H
     by_cases c7:x14_2=true
     ·subst c7
      have H1:(if 0<=x4_1 then (if x4_1<(l0_0.length:Int) then (if (wrap64 (x4_1+1))=0 then (none) else (if x4_1<(l0_1.length:Int) then (if x3_1.length<5864062014805 then (l13_Spec_servers.l0 kj2 (x3_1++[(⟨wrap64 ((Int.tmod (wrap64 ((wrap64 ((Int.tmod (rd l0_0 x4_1) (wrap64 (x4_1+1)))+x4_1))+1)) (wrap64 (x4_1+1)))-1),(⟨Go.bits .and .i64 ((rd_T39 l0_1 x4_1).f0) 31,wrap64 (1+(Go.bits .and .i64 ((rd_T39 l0_1 x4_1).f1) 15))⟩:S34)⟩:S71)]) (wrap64 (x4_1+1)) l0_0 l0_1 a0_2 a0_3) else (none)) else (if x3_1.length<5864062014805 then (l13_Spec_servers.l0 kj2 (x3_1++[(⟨wrap64 ((Int.tmod (wrap64 ((wrap64 ((Int.tmod (rd l0_0 x4_1) (wrap64 (x4_1+1)))+x4_1))+1)) (wrap64 (x4_1+1)))-1),(⟨16,16⟩:S34)⟩:S71)]) (wrap64 (x4_1+1)) l0_0 l0_1 a0_2 a0_3) else (none)))) else (none)) else (none))=some r:=by rw [if_pos rfl] at H;exact H
      clear H
      have H:=H1
      clear H1
      by_cases c8:0<=x4_1
      ·rw [if_pos c8] at H
       have c8b0:decide (0<=x4_1)=true:=decide_eq_true c8
       clear c8
       by_cases c9:x4_1<(l0_0.length:Int)
       ·rw [if_pos c9] at H
        have c9b0:decide (x4_1<(l0_0.length:Int))=true:=decide_eq_true c9
        clear c9
        by_cases c10:(wrap64 (x4_1+1))=0
        ·rw [if_pos c10] at H
         exact absurd H (by simp)
        ·rw [if_neg c10] at H
         have c10b0:((wrap64 (x4_1+1)) == 0)=false:=beq_eq_false_iff_ne.mpr c10
         have c10b1:((wrap64 (x4_1+1)) != 0)=true:=bne_iff_ne.mpr c10
         by_cases c11:x4_1<(l0_1.length:Int)
         ·rw [if_pos c11] at H
          have c11b0:decide (x4_1<(l0_1.length:Int))=true:=decide_eq_true c11
          clear c11
          by_cases c12:x3_1.length<5864062014805
          ·rw [if_pos c12] at H
           have LMc12:=Zz.mk c12
           clear c12
           obtain ⟨y549,hy549⟩:∃y_:List (S71),y_=(x3_1++[(⟨wrap64 ((Int.tmod (wrap64 ((wrap64 ((Int.tmod (rd l0_0 x4_1) (wrap64 (x4_1+1)))+x4_1))+1)) (wrap64 (x4_1+1)))-1),(⟨Go.bits .and .i64 ((rd_T39 l0_1 x4_1).f0) 31,wrap64 (1+(Go.bits .and .i64 ((rd_T39 l0_1 x4_1).f1) 15))⟩:S34)⟩:S71)]):=⟨_,rfl⟩
           replace H:(l13_Spec_servers.l0 kj2 y549 (wrap64 (x4_1+1)) l0_0 l0_1 a0_2 a0_3)=some r:=by first|(rw [hy549];with_reducible exact H)|(have H2_:=(Option.bind_some _ _).symm.trans H;rw [hy549];with_reducible exact H2_)|(have H2_:=(Option.bind_some _ _).symm.trans H;with_reducible exact H2_)|with_reducible exact H|(rw [hy549];exact H)|exact H
           have Ny549:=Zz.mk hy549
           clear hy549
           have H':=Zz.mk H
           clear H
           have hcz13_0:wc.cell? ⟨gb544,0,none⟩=some (.slice A0_0 l0_0.length c0_0):=(Zh BK544.out 0).trans rfl
           have hcz13_1:wc.cell? ⟨gb544,1,none⟩=some (.slice A0_1 l0_1.length c0_1):=(Zh BK544.out 1).trans rfl
           have hcz13_2:wc.cell? ⟨gb544,2,none⟩=some (.int .i64 a0_2):=(Zh BK544.out 2).trans rfl
           have hcz13_3:wc.cell? ⟨gb544,3,none⟩=some (.int .i64 a0_3):=(Zh BK544.out 3).trans rfl
           have hfz13_0:=Zj BK544.out 0
           have hfz13_1:=Zj BK544.out 1
           have hfz13_2:=Zj BK544.out 2
           have hfz13_3:=Zj BK544.out 3
           have p545:0<=(x4_1:Int):=of_decide_eq_true (by first|(with_reducible assumption)|assumption)
           have q545:x4_1<(l0_0.length:Int):=of_decide_eq_true (by first|(with_reducible assumption)|assumption)
           obtain ⟨ad545,e545,hx545_0⟩:=Kd.at_int HR0_0.out x4_1 p545 q545
           cases e545
           replace hx545_0:=(HB.out.cell (World.block_lt_of_cell? w _ hx545_0)).trans hx545_0
           replace p545:=eq_true p545
           replace q545:=eq_true q545
           try go_wp2_with (first|((with_reducible refine Zt (N:=5) rfl ?_);refine Zu ?hg (N:=5) ?hd (cs:=#[.int .i64 0,.int .i64 0,.int .i64 0]) (t:=71) ?hr ?_;(case hd=>rfl);(case hg=>rfl);(case hr=>first|(go_simp;done)|(go_simp;rfl));intro gb546 hg w14 hbox hb;have n0_:=Zz.mk (Kd.R_below (Kd.R_elderB (by (with_reducible repeat (first|apply Kd.R_alloc|apply Kd.R_drewN|apply Kd.R_drew));exact HO_3.out) gb546 (Nat.le_of_eq hg.symm)) hb);have n1_:=Zz.mk (Zk (g:=gb544) (o:=.cells #[.slice (some ad545) l0_0.length c0_0,.slice A0_1 l0_1.length c0_1,.int .i64 a0_2,.int .i64 a0_3] 64 (0,0)) (by (with_reducible repeat (first|refine blk_drewN ?_ _|refine Ze ?_|refine blk_alloc ?_ _));exact BK544.out) hb);have n2_:=Zz.mk (Zi (by repeat (first|(with_reducible first|exact HB.out|apply Zb|apply Za|apply Zc|refine Zd ?_ GE544.out)|exact HB.out)) hb);have n3_:=Zz.mk (hbox);have n4_:=Zz.mk ((by rw [hg];exact (Zf (by repeat (first|(with_reducible first|exact HB.out|apply Zb|apply Za|apply Zc|refine Zd ?_ GE544.out)|exact HB.out))):w.heap.size<=gb546));have n5_:=Zz.mk ((by rw [hg];exact (Zf (by repeat (first|(with_reducible first|exact HB.out|apply Zb|apply Za|apply Zc|refine Zd ?_ GE544.out)|exact HB.out))):w.heap.size<=gb546));have n6_:=Zz.mk ((by rw [hg];exact Nat.ne_of_lt (Z5 (g:=gb544) (o:=.cells #[.slice (some ad545) l0_0.length c0_0,.slice A0_1 l0_1.length c0_1,.int .i64 a0_2,.int .i64 a0_3] 64 (0,0)) (by (with_reducible repeat (first|refine blk_drewN ?_ _|refine Ze ?_|refine blk_alloc ?_ _));exact BK544.out)):gb544≠gb546));have n7_:=Zz.mk ((by rw [hg];exact Nat.ne_of_gt (Z5 (g:=gb544) (o:=.cells #[.slice (some ad545) l0_0.length c0_0,.slice A0_1 l0_1.length c0_1,.int .i64 a0_2,.int .i64 a0_3] 64 (0,0)) (by (with_reducible repeat (first|refine blk_drewN ?_ _|refine Ze ?_|refine blk_alloc ?_ _));exact BK544.out)):gb546≠gb544));clear HO_3;clear BK544;clear HB;have HO_3:=n0_;have BK544:=n1_;have HB:=n2_;have BK546:=n3_;have GW546:=n4_;have GE546:=n5_;have NB544_546:=n6_;have NB546_544:=n7_;clear n0_ n1_ n2_ n3_ n4_ n5_ n6_ n7_;clear hb hbox hg;have hnb15:=NB546_544.out;have hnc15:=NB544_546.out;have hcz16_0:w14.cell? ⟨gb546,0,none⟩=some (.int .i64 0):=(Zh BK546.out 0).trans rfl;have hcz16_1:w14.cell? ⟨gb546,1,none⟩=some (.int .i64 0):=(Zh BK546.out 1).trans rfl;have hcz16_2:w14.cell? ⟨gb546,2,none⟩=some (.int .i64 0):=(Zh BK546.out 2).trans rfl;have hfz16_0:=Zj BK546.out 0;have hfz16_1:=Zj BK546.out 1;have hfz16_2:=Zj BK546.out 2;have hcz17_0:w14.cell? ⟨gb544,0,none⟩=some (.slice (some ad545) l0_0.length c0_0):=(Zh BK544.out 0).trans rfl;have hcz17_1:w14.cell? ⟨gb544,1,none⟩=some (.slice A0_1 l0_1.length c0_1):=(Zh BK544.out 1).trans rfl;have hcz17_2:w14.cell? ⟨gb544,2,none⟩=some (.int .i64 a0_2):=(Zh BK544.out 2).trans rfl;have hcz17_3:w14.cell? ⟨gb544,3,none⟩=some (.int .i64 a0_3):=(Zh BK544.out 3).trans rfl;have hfz17_0:=Zj BK544.out 0;have hfz17_1:=Zj BK544.out 1;have hfz17_2:=Zj BK544.out 2;have hfz17_3:=Zj BK544.out 3))
           have n0_:Zz (Kd.R k71 71 (((w14.setCell ⟨gb546,0,none⟩ (.int .i64 (wrap64 ((Int.tmod (wrap64 ((wrap64 ((Int.tmod (rd l0_0 x4_1) (wrap64 (x4_1+1)))+x4_1))+1)) (wrap64 (x4_1+1)))-1)))).setCell ⟨gb546,1,none⟩ (.int .i64 16)).setCell ⟨gb546,2,none⟩ (.int .i64 16)) w.heap.size (fun k_=>k_≠gb546) u3 x3_1):=⟨by (with_reducible repeat (first|apply Kd.R_alloc|apply Kd.R_drewN|apply Kd.R_drew));exact Kd.R_mono (Kd.R_far (p:=⟨gb546,2,none⟩) (Kd.R_far (p:=⟨gb546,1,none⟩) (Kd.R_far (p:=⟨gb546,0,none⟩) (Kd.R_mono HO_3.out (fun k_ hk=>(⟨hk,hk.2⟩:_/\k_≠gb546))) (fun _ hk=>hk.2) (.int .i64 (wrap64 ((Int.tmod (wrap64 ((wrap64 ((Int.tmod (rd l0_0 x4_1) (wrap64 (x4_1+1)))+x4_1))+1)) (wrap64 (x4_1+1)))-1)))) (fun _ hk=>hk.2) (.int .i64 16)) (fun _ hk=>hk.2) (.int .i64 16)) (fun _ hk=>hk.1.2)⟩
           have n1_:Zz ((((w14.setCell ⟨gb546,0,none⟩ (.int .i64 (wrap64 ((Int.tmod (wrap64 ((wrap64 ((Int.tmod (rd l0_0 x4_1) (wrap64 (x4_1+1)))+x4_1))+1)) (wrap64 (x4_1+1)))-1)))).setCell ⟨gb546,1,none⟩ (.int .i64 16)).setCell ⟨gb546,2,none⟩ (.int .i64 16)).heap[gb544]? = some (.cells #[.slice (some ad545) l0_0.length c0_0,.slice A0_1 l0_1.length c0_1,.int .i64 a0_2,.int .i64 a0_3] 64 (0,0))):=⟨by (with_reducible repeat (first|refine blk_drewN ?_ _|refine Ze ?_|refine blk_alloc ?_ _));refine blk_far ?_ NB544_546.out _;(with_reducible repeat (first|refine blk_drewN ?_ _|refine Ze ?_|refine blk_alloc ?_ _));refine blk_far ?_ NB544_546.out _;(with_reducible repeat (first|refine blk_drewN ?_ _|refine Ze ?_|refine blk_alloc ?_ _));refine blk_far ?_ NB544_546.out _;(with_reducible repeat (first|refine blk_drewN ?_ _|refine Ze ?_|refine blk_alloc ?_ _));exact BK544.out⟩
           have n2_:Zz ((((w14.setCell ⟨gb546,0,none⟩ (.int .i64 (wrap64 ((Int.tmod (wrap64 ((wrap64 ((Int.tmod (rd l0_0 x4_1) (wrap64 (x4_1+1)))+x4_1))+1)) (wrap64 (x4_1+1)))-1)))).setCell ⟨gb546,1,none⟩ (.int .i64 16)).setCell ⟨gb546,2,none⟩ (.int .i64 16)).heap[gb546]? = some (.cells #[.int .i64 (wrap64 ((Int.tmod (wrap64 ((wrap64 ((Int.tmod (rd l0_0 x4_1) (wrap64 (x4_1+1)))+x4_1))+1)) (wrap64 (x4_1+1)))-1)),.int .i64 16,.int .i64 16] 71 (0,0))):=⟨by (with_reducible repeat (first|refine blk_drewN ?_ _|refine Ze ?_|refine blk_alloc ?_ _));refine Zx (cs:=#[.int .i64 (wrap64 ((Int.tmod (wrap64 ((wrap64 ((Int.tmod (rd l0_0 x4_1) (wrap64 (x4_1+1)))+x4_1))+1)) (wrap64 (x4_1+1)))-1)),.int .i64 16,.int .i64 0]) ?_ 2 _ rfl;(with_reducible repeat (first|refine blk_drewN ?_ _|refine Ze ?_|refine blk_alloc ?_ _));refine Zx (cs:=#[.int .i64 (wrap64 ((Int.tmod (wrap64 ((wrap64 ((Int.tmod (rd l0_0 x4_1) (wrap64 (x4_1+1)))+x4_1))+1)) (wrap64 (x4_1+1)))-1)),.int .i64 0,.int .i64 0]) ?_ 1 _ rfl;(with_reducible repeat (first|refine blk_drewN ?_ _|refine Ze ?_|refine blk_alloc ?_ _));refine Zx (cs:=#[.int .i64 0,.int .i64 0,.int .i64 0]) ?_ 0 _ rfl;(with_reducible repeat (first|refine blk_drewN ?_ _|refine Ze ?_|refine blk_alloc ?_ _));exact BK546.out⟩
           have n3_:Zz (Below w.heap.size w (((w14.setCell ⟨gb546,0,none⟩ (.int .i64 (wrap64 ((Int.tmod (wrap64 ((wrap64 ((Int.tmod (rd l0_0 x4_1) (wrap64 (x4_1+1)))+x4_1))+1)) (wrap64 (x4_1+1)))-1)))).setCell ⟨gb546,1,none⟩ (.int .i64 16)).setCell ⟨gb546,2,none⟩ (.int .i64 16))):=⟨by repeat (first|(with_reducible first|exact HB.out|apply Zb|apply Za|apply Zc|refine Zd ?_ GE544.out|refine Zd ?_ GE546.out)|exact HB.out)⟩
           (try clear HO_3)
           (try clear BK544)
           (try clear BK546)
           (try clear HB)
           generalize (((w14.setCell ⟨gb546,0,none⟩ (.int .i64 (wrap64 ((Int.tmod (wrap64 ((wrap64 ((Int.tmod (rd l0_0 x4_1) (wrap64 (x4_1+1)))+x4_1))+1)) (wrap64 (x4_1+1)))-1)))).setCell ⟨gb546,1,none⟩ (.int .i64 16)).setCell ⟨gb546,2,none⟩ (.int .i64 16))=w18 at n0_ n1_ n2_ n3_ ⊢
           have HO_3:=n0_
           have BK544:=n1_
           have BK546:=n2_
           have HB:=n3_
           clear n0_ n1_ n2_ n3_
           have n0_:=Zz.mk (Kd.R_drew HO_3.out)
           have n1_:=Zz.mk (Ze BK544.out)
           have n2_:=Zz.mk (Ze BK546.out)
           have n3_:=Zz.mk (Zc HB.out)
           clear HO_3
           clear BK544
           clear BK546
           clear HB
           have HO_3:=n0_
           have BK544:=n1_
           have BK546:=n2_
           have HB:=n3_
           clear n0_ n1_ n2_ n3_
           have p547:0<=(x4_1:Int):=of_decide_eq_true (by first|(with_reducible assumption)|assumption)
           have q547:x4_1<(l0_1.length:Int):=of_decide_eq_true (by first|(with_reducible assumption)|assumption)
           obtain ⟨ad547,e547,hx547_0,hx547_1⟩:=at_T39 HR0_1.out x4_1 p547 q547
           have hw547_1:=hx547_1
           have hw547_0:=hx547_0
           cases e547
           replace hx547_0:=(HB.out.cell (World.block_lt_of_cell? w _ hx547_0)).trans hx547_0
           replace hx547_1:=(HB.out.cell (World.block_lt_of_cell? w _ hx547_1)).trans hx547_1
           replace p547:=eq_true p547
           replace q547:=eq_true q547
           have p548:0<=(x4_1:Int):=of_decide_eq_true (by first|(with_reducible assumption)|assumption)
           have q548:x4_1<(l0_1.length:Int):=of_decide_eq_true (by first|(with_reducible assumption)|assumption)
           obtain ⟨ad548,e548,hx548_0,hx548_1⟩:=at_T39 HR0_1.out x4_1 p548 q548
           have hw548_1:=hx548_1
           have hw548_0:=hx548_0
           obtain rfl:ad547=ad548:=(by injection e548)
           replace hx548_0:=(HB.out.cell (World.block_lt_of_cell? w _ hx548_0)).trans hx548_0
           replace hx548_1:=(HB.out.cell (World.block_lt_of_cell? w _ hx548_1)).trans hx548_1
           replace p548:=eq_true p548
           replace q548:=eq_true q548
           refine start_ (n:=18) (S:=fun w'=>w'.cell? ⟨gb544,0,none⟩=some (.slice (some ad545) l0_0.length c0_0)/\w'.cell? ⟨gb544,1,none⟩=some (.slice (some ad547) l0_1.length c0_1)/\w'.cell? ⟨gb544,2,none⟩=some (.int .i64 a0_2)/\w'.cell? ⟨gb544,3,none⟩=some (.int .i64 a0_3)/\w'.cell? (ad547.add ((x4_1).toNat*2))=some (.int .i64 ((rd_T39 l0_1 x4_1).f0))/\w'.cell? ⟨(ad547.add ((x4_1).toNat*2)).block,(ad547.add ((x4_1).toNat*2)).off+1,none⟩=some (.int .i64 ((rd_T39 l0_1 x4_1).f1))/\w'.cell? (ad547.add ((x4_1).toNat*2))=some (.int .i64 ((rd_T39 l0_1 x4_1).f0))/\w'.cell? ⟨(ad547.add ((x4_1).toNat*2)).block,(ad547.add ((x4_1).toNat*2)).off+1,none⟩=some (.int .i64 ((rd_T39 l0_1 x4_1).f1))) (ds:=[]) #[false,false,false,false,false,false,false,false,false,false,false,false,false,false,false,false,false,false] (by kernel_rfl) rfl rfl ⟨(Zh BK544.out 0).trans rfl,(Zh BK544.out 1).trans rfl,(Zh BK544.out 2).trans rfl,(Zh BK544.out 3).trans rfl,((HB.out.cell (World.block_lt_of_cell? w _ hw547_0)).trans hw547_0),((HB.out.cell (World.block_lt_of_cell? w _ hw547_1)).trans hw547_1),((HB.out.cell (World.block_lt_of_cell? w _ hw548_0)).trans hw548_0),((HB.out.cell (World.block_lt_of_cell? w _ hw548_1)).trans hw548_1)⟩ (fun hHeld=>?_);refine with_tabW l13_Spec_servers.tab7 l13_Spec_servers.bits7 (fun HT_ HW_=>?_)
           generalize w18.drew=w19 at HO_3 BK544 BK546 HB hx547_0 hx547_1 hx548_0 hx548_1 hHeld ⊢
           refine pure_ (i:=0) (N:=some 39) (v:=?_) (a':=?_) #[true,false,false,false,false,false,false,false,false,false,false,false,false,false,false,false,false,false] rfl rfl (Z3 HT_.out (by kernel_rfl)) (fun _ _ _ h=>h) (Or.inl ⟨by rfl,?_⟩) ?_ ?_
           rotate_left
           ·intro w'
            go_simp
            with_reducible rfl
           rotate_left
           ·simp only [Act.put,List.setIfInBounds_toArray,List.set_cons_zero,List.set_cons_succ,Z6,Z7]
            rfl
           refine pure_ (i:=2) (N:=some 41) (v:=?_) (a':=?_) #[true,false,true,false,false,false,false,false,false,false,false,false,false,false,false,false,false,false] rfl rfl (Z3 HT_.out (by kernel_rfl)) (fun _ _ _ h=>h) (Or.inl ⟨by rfl,?_⟩) ?_ ?_
           rotate_left
           ·intro w'
            go_simp
            with_reducible rfl
           rotate_left
           ·simp only [Act.put,List.setIfInBounds_toArray,List.set_cons_zero,List.set_cons_succ,Z6,Z7]
            rfl
           refine pure_ (i:=7) (N:=some 46) (v:=?_) (a':=?_) #[true,false,true,false,false,false,false,true,false,false,false,false,false,false,false,false,false,false] rfl rfl (Z3 HT_.out (by kernel_rfl)) (fun _ _ _ h=>h) (Or.inl ⟨by rfl,?_⟩) ?_ ?_
           rotate_left
           ·intro w'
            go_simp
            with_reducible rfl
           rotate_left
           ·simp only [Act.put,List.setIfInBounds_toArray,List.set_cons_zero,List.set_cons_succ,Z6,Z7]
            rfl
           refine pure_ (i:=9) (N:=some 48) (v:=?_) (a':=?_) #[true,false,true,false,false,false,false,true,false,true,false,false,false,false,false,false,false,false] rfl rfl (Z3 HT_.out (by kernel_rfl)) (fun _ _ _ h=>h) (Or.inl ⟨by rfl,?_⟩) ?_ ?_
           rotate_left
           ·intro w'
            go_simp
            with_reducible rfl
           rotate_left
           ·simp only [Act.put,List.setIfInBounds_toArray,List.set_cons_zero,List.set_cons_succ,Z6,Z7]
            rfl
           refine take_ (i:=1) (N:=some 40) (v:=?_) (a':=?_) #[true,true,true,false,false,false,false,true,false,true,false,false,false,false,false,false,false,false] rfl rfl (Zw HT_.out HW_.out (by kernel_rfl)) (fun _ _ _ h=>h) (Or.inl ⟨by rfl,?_⟩) hHeld ?_ ?_
           rotate_left
           ·rintro w' ⟨s0,s1,s2,s3,s4,s5,s6,s7⟩
            go_simp
            with_reducible rfl
           rotate_left
           ·simp only [Act.put,List.setIfInBounds_toArray,List.set_cons_zero,List.set_cons_succ,Z6,Z7]
            rfl
           refine pure_ (i:=3) (N:=some 42) (v:=?_) (a':=?_) #[true,true,true,true,false,false,false,true,false,true,false,false,false,false,false,false,false,false] rfl rfl (Z3 HT_.out (by kernel_rfl)) (fun _ _ _ h=>h) (Or.inl ⟨by rfl,?_⟩) ?_ ?_
           rotate_left
           ·intro w'
            go_simp
            with_reducible rfl
           rotate_left
           ·simp only [Act.put,List.setIfInBounds_toArray,List.set_cons_zero,List.set_cons_succ,Z6,Z7]
            rfl
           refine pure_ (i:=4) (N:=some 43) (v:=?_) (a':=?_) #[true,true,true,true,true,false,false,true,false,true,false,false,false,false,false,false,false,false] rfl rfl (Z3 HT_.out (by kernel_rfl)) (fun _ _ _ h=>h) (Or.inl ⟨by rfl,?_⟩) ?_ ?_
           rotate_left
           ·intro w'
            go_simp
            with_reducible rfl
           rotate_left
           ·simp only [Act.put,List.setIfInBounds_toArray,List.set_cons_zero,List.set_cons_succ,Z6,Z7]
            rfl
           refine take_ (i:=5) (N:=some 44) (v:=?_) (a':=?_) #[true,true,true,true,true,true,false,true,false,true,false,false,false,false,false,false,false,false] rfl rfl (Zw HT_.out HW_.out (by kernel_rfl)) (fun _ _ _ h=>h) (Or.inl ⟨by rfl,?_⟩) hHeld ?_ ?_
           rotate_left
           ·rintro w' ⟨s0,s1,s2,s3,s4,s5,s6,s7⟩
            go_simp
            with_reducible rfl
           rotate_left
           ·simp only [Act.put,List.setIfInBounds_toArray,List.set_cons_zero,List.set_cons_succ,Z6,Z7]
            rfl
           refine pure_ (i:=6) (N:=some 45) (v:=?_) (a':=?_) #[true,true,true,true,true,true,true,true,false,true,false,false,false,false,false,false,false,false] rfl rfl (Z3 HT_.out (by kernel_rfl)) (fun _ _ _ h=>h) (Or.inl ⟨by rfl,?_⟩) ?_ ?_
           rotate_left
           ·intro w'
            go_simp
            with_reducible rfl
           rotate_left
           ·simp only [Act.put,List.setIfInBounds_toArray,List.set_cons_zero,List.set_cons_succ,Z6,Z7]
            rfl
           refine take_ (i:=8) (N:=some 47) (v:=?_) (a':=?_) #[true,true,true,true,true,true,true,true,true,true,false,false,false,false,false,false,false,false] rfl rfl (Zw HT_.out HW_.out (by kernel_rfl)) (fun _ _ _ h=>h) (Or.inl ⟨by rfl,?_⟩) hHeld ?_ ?_
           rotate_left
           ·rintro w' ⟨s0,s1,s2,s3,s4,s5,s6,s7⟩
            go_simp
            with_reducible rfl
           rotate_left
           ·simp only [Act.put,List.setIfInBounds_toArray,List.set_cons_zero,List.set_cons_succ,Z6,Z7]
            rfl
           refine pure_ (i:=10) (N:=some 49) (v:=?_) (a':=?_) #[true,true,true,true,true,true,true,true,true,true,true,false,false,false,false,false,false,false] rfl rfl (Z3 HT_.out (by kernel_rfl)) (fun _ _ _ h=>h) (Or.inl ⟨by rfl,?_⟩) ?_ ?_
           rotate_left
           ·intro w'
            go_simp
            with_reducible rfl
           rotate_left
           ·simp only [Act.put,List.setIfInBounds_toArray,List.set_cons_zero,List.set_cons_succ,Z6,Z7]
            rfl
           refine pure_ (i:=11) (N:=some 50) (v:=?_) (a':=?_) #[true,true,true,true,true,true,true,true,true,true,true,true,false,false,false,false,false,false] rfl rfl (Z3 HT_.out (by kernel_rfl)) (fun _ _ _ h=>h) (Or.inl ⟨by rfl,?_⟩) ?_ ?_
           rotate_left
           ·intro w'
            go_simp
            with_reducible rfl
           rotate_left
           ·simp only [Act.put,List.setIfInBounds_toArray,List.set_cons_zero,List.set_cons_succ,Z6,Z7]
            rfl
           refine take_ (i:=12) (N:=some 51) (v:=?_) (a':=?_) #[true,true,true,true,true,true,true,true,true,true,true,true,true,false,false,false,false,false] rfl rfl (Zw HT_.out HW_.out (by kernel_rfl)) (fun _ _ _ h=>h) (Or.inl ⟨by rfl,?_⟩) hHeld ?_ ?_
           rotate_left
           ·rintro w' ⟨s0,s1,s2,s3,s4,s5,s6,s7⟩
            go_simp
            with_reducible rfl
           rotate_left
           ·simp only [Act.put,List.setIfInBounds_toArray,List.set_cons_zero,List.set_cons_succ,Z6,Z7]
            rfl
           refine pure_ (i:=13) (N:=some 52) (v:=?_) (a':=?_) #[true,true,true,true,true,true,true,true,true,true,true,true,true,true,false,false,false,false] rfl rfl (Z3 HT_.out (by kernel_rfl)) (fun _ _ _ h=>h) (Or.inl ⟨by rfl,?_⟩) ?_ ?_
           rotate_left
           ·intro w'
            go_simp
            with_reducible rfl
           rotate_left
           ·simp only [Act.put,List.setIfInBounds_toArray,List.set_cons_zero,List.set_cons_succ,Z6,Z7]
            rfl
           refine pure_ (i:=14) (N:=some 53) (v:=?_) (a':=?_) #[true,true,true,true,true,true,true,true,true,true,true,true,true,true,true,false,false,false] rfl rfl (Z3 HT_.out (by kernel_rfl)) (fun _ _ _ h=>h) (Or.inl ⟨by rfl,?_⟩) ?_ ?_
           rotate_left
           ·intro w'
            go_simp
            with_reducible rfl
           rotate_left
           ·simp only [Act.put,List.setIfInBounds_toArray,List.set_cons_zero,List.set_cons_succ,Z6,Z7]
            rfl
           refine pure_ (i:=15) (N:=some 54) (v:=?_) (a':=?_) #[true,true,true,true,true,true,true,true,true,true,true,true,true,true,true,true,false,false] rfl rfl (Z3 HT_.out (by kernel_rfl)) (fun _ _ _ h=>h) (Or.inl ⟨by rfl,?_⟩) ?_ ?_
           rotate_left
           ·intro w'
            go_simp
            with_reducible rfl
           rotate_left
           ·simp only [Act.put,List.setIfInBounds_toArray,List.set_cons_zero,List.set_cons_succ,Z6,Z7]
            rfl
           refine pure_ (i:=16) (N:=some 55) (v:=?_) (a':=?_) #[true,true,true,true,true,true,true,true,true,true,true,true,true,true,true,true,true,false] rfl rfl (Z3 HT_.out (by kernel_rfl)) (fun _ _ _ h=>h) (Or.inl ⟨by rfl,?_⟩) ?_ ?_
           rotate_left
           ·intro w'
            go_simp
            with_reducible rfl
           rotate_left
           ·simp only [Act.put,List.setIfInBounds_toArray,List.set_cons_zero,List.set_cons_succ,Z6,Z7]
            rfl
           refine one_ (i:=17) (N:=none) #[true,true,true,true,true,true,true,true,true,true,true,true,true,true,true,true,true,true] rfl rfl (one_of HT_.out (by kernel_rfl)) (by decide) (fun K hK=>?_)
           have hs20:w19.cell? ⟨gb546,1,none⟩=some (.int .i64 16):=(Zh BK546.out 1).trans rfl
           have hfs20:=Zj BK546.out 1
           have hns20_0:=NB544_546.out
           have hms20_0:=NB546_544.out
           have hs21:w19.cell? ⟨gb546,2,none⟩=some (.int .i64 16):=(Zh BK546.out 2).trans rfl
           have hfs21:=Zj BK546.out 2
           have hns21_0:=NB544_546.out
           have hms21_0:=NB546_544.out
           refine skip_ (w1:=?_) (by rfl) rfl ?_ ?_
           rotate_left
           ·go_simp
            rfl
           refine hK.out _ _ ⟨((cell_far (p:=⟨gb546,_,none⟩) NB544_546.out _).trans (((cell_far (p:=⟨gb546,_,none⟩) NB544_546.out _).trans (hHeld.1)))),((cell_far (p:=⟨gb546,_,none⟩) NB544_546.out _).trans (((cell_far (p:=⟨gb546,_,none⟩) NB544_546.out _).trans (hHeld.2.1)))),((cell_far (p:=⟨gb546,_,none⟩) NB544_546.out _).trans (((cell_far (p:=⟨gb546,_,none⟩) NB544_546.out _).trans (hHeld.2.2.1)))),((cell_far (p:=⟨gb546,_,none⟩) NB544_546.out _).trans (((cell_far (p:=⟨gb546,_,none⟩) NB544_546.out _).trans (hHeld.2.2.2.1)))),((cell_far (p:=⟨gb546,_,none⟩) (by first|exact Nat.ne_of_lt (Nat.lt_of_lt_of_le (by have:=World.block_lt_of_cell? _ _ hw547_0;first|rwa [add_block] at this|exact this) GW546.out)|(rw [add_block];exact Nat.ne_of_lt (Nat.lt_of_lt_of_le (by have:=World.block_lt_of_cell? _ _ hw547_0;first|rwa [add_block] at this|exact this) GW546.out))|(show (Addr.add _ _).block≠_;rw [add_block];exact Nat.ne_of_lt (Nat.lt_of_lt_of_le (by have:=World.block_lt_of_cell? _ _ hw547_0;first|rwa [add_block] at this|exact this) GW546.out))|(dsimp only;exact Nat.ne_of_lt (Nat.lt_of_lt_of_le (by have:=World.block_lt_of_cell? _ _ hw547_0;first|rwa [add_block] at this|exact this) GW546.out))) _).trans (((cell_far (p:=⟨gb546,_,none⟩) (by first|exact Nat.ne_of_lt (Nat.lt_of_lt_of_le (by have:=World.block_lt_of_cell? _ _ hw547_0;first|rwa [add_block] at this|exact this) GW546.out)|(rw [add_block];exact Nat.ne_of_lt (Nat.lt_of_lt_of_le (by have:=World.block_lt_of_cell? _ _ hw547_0;first|rwa [add_block] at this|exact this) GW546.out))|(show (Addr.add _ _).block≠_;rw [add_block];exact Nat.ne_of_lt (Nat.lt_of_lt_of_le (by have:=World.block_lt_of_cell? _ _ hw547_0;first|rwa [add_block] at this|exact this) GW546.out))|(dsimp only;exact Nat.ne_of_lt (Nat.lt_of_lt_of_le (by have:=World.block_lt_of_cell? _ _ hw547_0;first|rwa [add_block] at this|exact this) GW546.out))) _).trans (hHeld.2.2.2.2.1)))),((cell_far (p:=⟨gb546,_,none⟩) (by first|exact Nat.ne_of_lt (Nat.lt_of_lt_of_le (by have:=World.block_lt_of_cell? _ _ hw547_1;first|rwa [add_block] at this|exact this) GW546.out)|(rw [add_block];exact Nat.ne_of_lt (Nat.lt_of_lt_of_le (by have:=World.block_lt_of_cell? _ _ hw547_1;first|rwa [add_block] at this|exact this) GW546.out))|(show (Addr.add _ _).block≠_;rw [add_block];exact Nat.ne_of_lt (Nat.lt_of_lt_of_le (by have:=World.block_lt_of_cell? _ _ hw547_1;first|rwa [add_block] at this|exact this) GW546.out))|(dsimp only;exact Nat.ne_of_lt (Nat.lt_of_lt_of_le (by have:=World.block_lt_of_cell? _ _ hw547_1;first|rwa [add_block] at this|exact this) GW546.out))) _).trans (((cell_far (p:=⟨gb546,_,none⟩) (by first|exact Nat.ne_of_lt (Nat.lt_of_lt_of_le (by have:=World.block_lt_of_cell? _ _ hw547_1;first|rwa [add_block] at this|exact this) GW546.out)|(rw [add_block];exact Nat.ne_of_lt (Nat.lt_of_lt_of_le (by have:=World.block_lt_of_cell? _ _ hw547_1;first|rwa [add_block] at this|exact this) GW546.out))|(show (Addr.add _ _).block≠_;rw [add_block];exact Nat.ne_of_lt (Nat.lt_of_lt_of_le (by have:=World.block_lt_of_cell? _ _ hw547_1;first|rwa [add_block] at this|exact this) GW546.out))|(dsimp only;exact Nat.ne_of_lt (Nat.lt_of_lt_of_le (by have:=World.block_lt_of_cell? _ _ hw547_1;first|rwa [add_block] at this|exact this) GW546.out))) _).trans (hHeld.2.2.2.2.2.1)))),((cell_far (p:=⟨gb546,_,none⟩) (by first|exact Nat.ne_of_lt (Nat.lt_of_lt_of_le (by have:=World.block_lt_of_cell? _ _ hw548_0;first|rwa [add_block] at this|exact this) GW546.out)|(rw [add_block];exact Nat.ne_of_lt (Nat.lt_of_lt_of_le (by have:=World.block_lt_of_cell? _ _ hw548_0;first|rwa [add_block] at this|exact this) GW546.out))|(show (Addr.add _ _).block≠_;rw [add_block];exact Nat.ne_of_lt (Nat.lt_of_lt_of_le (by have:=World.block_lt_of_cell? _ _ hw548_0;first|rwa [add_block] at this|exact this) GW546.out))|(dsimp only;exact Nat.ne_of_lt (Nat.lt_of_lt_of_le (by have:=World.block_lt_of_cell? _ _ hw548_0;first|rwa [add_block] at this|exact this) GW546.out))) _).trans (((cell_far (p:=⟨gb546,_,none⟩) (by first|exact Nat.ne_of_lt (Nat.lt_of_lt_of_le (by have:=World.block_lt_of_cell? _ _ hw548_0;first|rwa [add_block] at this|exact this) GW546.out)|(rw [add_block];exact Nat.ne_of_lt (Nat.lt_of_lt_of_le (by have:=World.block_lt_of_cell? _ _ hw548_0;first|rwa [add_block] at this|exact this) GW546.out))|(show (Addr.add _ _).block≠_;rw [add_block];exact Nat.ne_of_lt (Nat.lt_of_lt_of_le (by have:=World.block_lt_of_cell? _ _ hw548_0;first|rwa [add_block] at this|exact this) GW546.out))|(dsimp only;exact Nat.ne_of_lt (Nat.lt_of_lt_of_le (by have:=World.block_lt_of_cell? _ _ hw548_0;first|rwa [add_block] at this|exact this) GW546.out))) _).trans (hHeld.2.2.2.2.2.2.1)))),((cell_far (p:=⟨gb546,_,none⟩) (by first|exact Nat.ne_of_lt (Nat.lt_of_lt_of_le (by have:=World.block_lt_of_cell? _ _ hw548_1;first|rwa [add_block] at this|exact this) GW546.out)|(rw [add_block];exact Nat.ne_of_lt (Nat.lt_of_lt_of_le (by have:=World.block_lt_of_cell? _ _ hw548_1;first|rwa [add_block] at this|exact this) GW546.out))|(show (Addr.add _ _).block≠_;rw [add_block];exact Nat.ne_of_lt (Nat.lt_of_lt_of_le (by have:=World.block_lt_of_cell? _ _ hw548_1;first|rwa [add_block] at this|exact this) GW546.out))|(dsimp only;exact Nat.ne_of_lt (Nat.lt_of_lt_of_le (by have:=World.block_lt_of_cell? _ _ hw548_1;first|rwa [add_block] at this|exact this) GW546.out))) _).trans (((cell_far (p:=⟨gb546,_,none⟩) (by first|exact Nat.ne_of_lt (Nat.lt_of_lt_of_le (by have:=World.block_lt_of_cell? _ _ hw548_1;first|rwa [add_block] at this|exact this) GW546.out)|(rw [add_block];exact Nat.ne_of_lt (Nat.lt_of_lt_of_le (by have:=World.block_lt_of_cell? _ _ hw548_1;first|rwa [add_block] at this|exact this) GW546.out))|(show (Addr.add _ _).block≠_;rw [add_block];exact Nat.ne_of_lt (Nat.lt_of_lt_of_le (by have:=World.block_lt_of_cell? _ _ hw548_1;first|rwa [add_block] at this|exact this) GW546.out))|(dsimp only;exact Nat.ne_of_lt (Nat.lt_of_lt_of_le (by have:=World.block_lt_of_cell? _ _ hw548_1;first|rwa [add_block] at this|exact this) GW546.out))) _).trans (hHeld.2.2.2.2.2.2.2))))⟩ (fun hHeld=>?_)
           clear hK K
           refine done_ (done_of HT_.out (by kernel_rfl)) ?_
           have hcz22_0:w19.cell? ⟨gb546,0,none⟩=some (.int .i64 (wrap64 ((Int.tmod (wrap64 ((wrap64 ((Int.tmod (rd l0_0 x4_1) (wrap64 (x4_1+1)))+x4_1))+1)) (wrap64 (x4_1+1)))-1))):=(Zh BK546.out 0).trans rfl
           have hcz22_1:w19.cell? ⟨gb546,1,none⟩=some (.int .i64 16):=(Zh BK546.out 1).trans rfl
           have hcz22_2:w19.cell? ⟨gb546,2,none⟩=some (.int .i64 16):=(Zh BK546.out 2).trans rfl
           have hfz22_0:=Zj BK546.out 0
           have hfz22_1:=Zj BK546.out 1
           have hfz22_2:=Zj BK546.out 2
           try go_wp2_with (first|((with_reducible refine gate_builtin (b:=.append) (xs:=#[.tmp 56,.tmp 58]) rfl ?_);at_builtin;refine Kd.R_append k71 (w0:=w) w.heap.size rfl (.tmp 56) (.tmp 58) 65 71 (.agg #[(.int .i64 0),(.int .i64 0),(.int .i64 0)]) 24 rfl Try.underlying65 info71 rfl (by decide) (by omega) u3 x3_1 (⟨wrap64 ((Int.tmod (wrap64 ((wrap64 ((Int.tmod (rd l0_0 x4_1) (wrap64 (x4_1+1)))+x4_1))+1)) (wrap64 (x4_1+1)))-1),(⟨Go.bits .and .i64 ((rd_T39 l0_1 x4_1).f0) 31,wrap64 (1+(Go.bits .and .i64 ((rd_T39 l0_1 x4_1).f1) 15))⟩:S34)⟩:S71) [.int .i64 (wrap64 ((Int.tmod (wrap64 ((wrap64 ((Int.tmod (rd l0_0 x4_1) (wrap64 (x4_1+1)))+x4_1))+1)) (wrap64 (x4_1+1)))-1)),.int .i64 (Go.bits .and .i64 ((rd_T39 l0_1 x4_1).f0) 31),.int .i64 (wrap64 (1+(Go.bits .and .i64 ((rd_T39 l0_1 x4_1).f1) 15)))] (fun k_=>k_≠gb546) (fun _=>False) rfl (by first|(go_simp;done)|(go_simp;rfl)) ?aP (fun _ hk=>hk.elim) ?aF ?aO ?aB ?aS ?aL ?_;(case aP=>exact k71_mkM _ _ _ (⟨wrap64 ((Int.tmod (wrap64 ((wrap64 ((Int.tmod (rd l0_0 x4_1) (wrap64 (x4_1+1)))+x4_1))+1)) (wrap64 (x4_1+1)))-1),(⟨Go.bits .and .i64 ((rd_T39 l0_1 x4_1).f0) 31,wrap64 (1+(Go.bits .and .i64 ((rd_T39 l0_1 x4_1).f1) 15))⟩:S34)⟩:S71));(case aB=>exact (by repeat (first|(with_reducible first|exact HB.out|apply Zb|apply Za|apply Zc|refine Zd ?_ GE544.out|refine Zd ?_ GE546.out)|exact HB.out)));(case aF=>exact (fun k_ hk=>Kd.freshB (g:=gb546) (o:=.cells #[.int .i64 (wrap64 ((Int.tmod (wrap64 ((wrap64 ((Int.tmod (rd l0_0 x4_1) (wrap64 (x4_1+1)))+x4_1))+1)) (wrap64 (x4_1+1)))-1)),.int .i64 (Go.bits .and .i64 ((rd_T39 l0_1 x4_1).f0) 31),.int .i64 (wrap64 (1+(Go.bits .and .i64 ((rd_T39 l0_1 x4_1).f1) 15)))] 71 (0,0)) (by (with_reducible repeat (first|refine blk_drewN ?_ _|refine Ze ?_|refine blk_alloc ?_ _));refine Zx (cs:=#[.int .i64 (wrap64 ((Int.tmod (wrap64 ((wrap64 ((Int.tmod (rd l0_0 x4_1) (wrap64 (x4_1+1)))+x4_1))+1)) (wrap64 (x4_1+1)))-1)),.int .i64 (Go.bits .and .i64 ((rd_T39 l0_1 x4_1).f0) 31),.int .i64 16]) ?_ 2 _ rfl;(with_reducible repeat (first|refine blk_drewN ?_ _|refine Ze ?_|refine blk_alloc ?_ _));refine Zx (cs:=#[.int .i64 (wrap64 ((Int.tmod (wrap64 ((wrap64 ((Int.tmod (rd l0_0 x4_1) (wrap64 (x4_1+1)))+x4_1))+1)) (wrap64 (x4_1+1)))-1)),.int .i64 16,.int .i64 16]) ?_ 1 _ rfl;(with_reducible repeat (first|refine blk_drewN ?_ _|refine Ze ?_|refine blk_alloc ?_ _));exact BK546.out) k_ hk));(case aO=>exact (by (with_reducible repeat (first|apply Kd.R_alloc|apply Kd.R_drewN|apply Kd.R_drew));exact Kd.R_mono (Kd.R_far (p:=⟨gb546,2,none⟩) (Kd.R_far (p:=⟨gb546,1,none⟩) (Kd.R_mono HO_3.out (fun k_ hk=>(⟨hk,hk⟩:_/\k_≠gb546))) (fun _ hk=>hk.2) (.int .i64 (Go.bits .and .i64 ((rd_T39 l0_1 x4_1).f0) 31))) (fun _ hk=>hk.2) (.int .i64 (wrap64 (1+(Go.bits .and .i64 ((rd_T39 l0_1 x4_1).f1) 15))))) (fun _ hk=>hk.1)));(case aS=>exact (Zf (by repeat (first|(with_reducible first|exact HB.out|apply Zb|apply Za|apply Zc|refine Zd ?_ GE544.out|refine Zd ?_ GE546.out)|exact HB.out))));(case aL=>have:=LMc12.out;omega);intro v550 w23 ho hb hg hat;rw [<-Ny549.out] at ho;have n0_:=Zz.mk (blk_grown (g:=gb544) (o:=.cells #[.slice (some ad545) l0_0.length c0_0,.slice (some ad547) l0_1.length c0_1,.int .i64 a0_2,.int .i64 a0_3] 64 (0,0)) (by (with_reducible repeat (first|refine blk_drewN ?_ _|refine Ze ?_|refine blk_alloc ?_ _));refine blk_far ?_ NB544_546.out _;(with_reducible repeat (first|refine blk_drewN ?_ _|refine Ze ?_|refine blk_alloc ?_ _));refine blk_far ?_ NB544_546.out _;(with_reducible repeat (first|refine blk_drewN ?_ _|refine Ze ?_|refine blk_alloc ?_ _));exact BK544.out) hg (Kd.R_ne HO_3.out BK544.out (by decide)));have n1_:=Zz.mk (blk_grown (g:=gb546) (o:=.cells #[.int .i64 (wrap64 ((Int.tmod (wrap64 ((wrap64 ((Int.tmod (rd l0_0 x4_1) (wrap64 (x4_1+1)))+x4_1))+1)) (wrap64 (x4_1+1)))-1)),.int .i64 (Go.bits .and .i64 ((rd_T39 l0_1 x4_1).f0) 31),.int .i64 (wrap64 (1+(Go.bits .and .i64 ((rd_T39 l0_1 x4_1).f1) 15)))] 71 (0,0)) (by (with_reducible repeat (first|refine blk_drewN ?_ _|refine Ze ?_|refine blk_alloc ?_ _));refine Zx (cs:=#[.int .i64 (wrap64 ((Int.tmod (wrap64 ((wrap64 ((Int.tmod (rd l0_0 x4_1) (wrap64 (x4_1+1)))+x4_1))+1)) (wrap64 (x4_1+1)))-1)),.int .i64 (Go.bits .and .i64 ((rd_T39 l0_1 x4_1).f0) 31),.int .i64 16]) ?_ 2 _ rfl;(with_reducible repeat (first|refine blk_drewN ?_ _|refine Ze ?_|refine blk_alloc ?_ _));refine Zx (cs:=#[.int .i64 (wrap64 ((Int.tmod (wrap64 ((wrap64 ((Int.tmod (rd l0_0 x4_1) (wrap64 (x4_1+1)))+x4_1))+1)) (wrap64 (x4_1+1)))-1)),.int .i64 16,.int .i64 16]) ?_ 1 _ rfl;(with_reducible repeat (first|refine blk_drewN ?_ _|refine Ze ?_|refine blk_alloc ?_ _));exact BK546.out) hg (Kd.R_away HO_3.out (fun _ hk=>hk)));have n2_:=Zz.mk (hb);have n3_:=Zz.mk (ho);clear BK544;clear BK546;clear HB;clear HO_3;have BK544:=n0_;have BK546:=n1_;have HB:=n2_;have HO551:=n3_;clear n0_ n1_ n2_ n3_;clear ho hb hg hat))
           go_roundg kj2
           case measure=>have:=HK1.out;have:=HJ2.out;omega
           case rel=>exact ⟨(y549),(wrap64 (x4_1+1)),(by first|rfl|(simp;done)|(simp [*];done)),H',⟨by have:=HK1.out;have:=HJ2.out;omega⟩,⟨by (with_reducible repeat (first|apply Kd.R_alloc|apply Kd.R_drewN|apply Kd.R_drew));exact Kd.R_mono HO551.out (fun _ hk=>trivial)⟩,⟨by (with_reducible repeat (first|refine blk_drewN ?_ _|refine Ze ?_|refine blk_alloc ?_ _));exact BK544.out⟩,⟨by repeat (first|(with_reducible first|exact HB.out|apply Zb|apply Za|apply Zc|refine Zd ?_ GE544.out|refine Zd ?_ GE546.out)|exact HB.out)⟩⟩
          ·rw [if_neg c12] at H
           exact absurd H (by simp)
         ·rw [if_neg c11] at H
          have c11b0:decide (x4_1<(l0_1.length:Int))=false:=decide_eq_false c11
          clear c11
          by_cases c24:x3_1.length<5864062014805
          ·rw [if_pos c24] at H
           have LMc24:=Zz.mk c24
           clear c24
           obtain ⟨y552,hy552⟩:∃y_:List (S71),y_=(x3_1++[(⟨wrap64 ((Int.tmod (wrap64 ((wrap64 ((Int.tmod (rd l0_0 x4_1) (wrap64 (x4_1+1)))+x4_1))+1)) (wrap64 (x4_1+1)))-1),(⟨16,16⟩:S34)⟩:S71)]):=⟨_,rfl⟩
           replace H:(l13_Spec_servers.l0 kj2 y552 (wrap64 (x4_1+1)) l0_0 l0_1 a0_2 a0_3)=some r:=by first|(rw [hy552];with_reducible exact H)|(have H2_:=(Option.bind_some _ _).symm.trans H;rw [hy552];with_reducible exact H2_)|(have H2_:=(Option.bind_some _ _).symm.trans H;with_reducible exact H2_)|with_reducible exact H|(rw [hy552];exact H)|exact H
           have Ny552:=Zz.mk hy552
           clear hy552
           have H':=Zz.mk H
           clear H
           have hcz25_0:wc.cell? ⟨gb544,0,none⟩=some (.slice A0_0 l0_0.length c0_0):=(Zh BK544.out 0).trans rfl
           have hcz25_1:wc.cell? ⟨gb544,1,none⟩=some (.slice A0_1 l0_1.length c0_1):=(Zh BK544.out 1).trans rfl
           have hcz25_2:wc.cell? ⟨gb544,2,none⟩=some (.int .i64 a0_2):=(Zh BK544.out 2).trans rfl
           have hcz25_3:wc.cell? ⟨gb544,3,none⟩=some (.int .i64 a0_3):=(Zh BK544.out 3).trans rfl
           have hfz25_0:=Zj BK544.out 0
           have hfz25_1:=Zj BK544.out 1
           have hfz25_2:=Zj BK544.out 2
           have hfz25_3:=Zj BK544.out 3
           have p545:0<=(x4_1:Int):=of_decide_eq_true (by first|(with_reducible assumption)|assumption)
           have q545:x4_1<(l0_0.length:Int):=of_decide_eq_true (by first|(with_reducible assumption)|assumption)
           obtain ⟨ad545,e545,hx545_0⟩:=Kd.at_int HR0_0.out x4_1 p545 q545
           cases e545
           replace hx545_0:=(HB.out.cell (World.block_lt_of_cell? w _ hx545_0)).trans hx545_0
           replace p545:=eq_true p545
           replace q545:=eq_true q545
           go_wp2_with (first|((with_reducible refine Zt (N:=5) rfl ?_);refine Zu ?hg (N:=5) ?hd (cs:=#[.int .i64 0,.int .i64 0,.int .i64 0]) (t:=71) ?hr ?_;(case hd=>rfl);(case hg=>rfl);(case hr=>first|(go_simp;done)|(go_simp;rfl));intro gb546 hg w26 hbox hb;have n0_:=Zz.mk (Kd.R_below (Kd.R_elderB (by (with_reducible repeat (first|apply Kd.R_alloc|apply Kd.R_drewN|apply Kd.R_drew));exact HO_3.out) gb546 (Nat.le_of_eq hg.symm)) hb);have n1_:=Zz.mk (Zk (g:=gb544) (o:=.cells #[.slice (some ad545) l0_0.length c0_0,.slice A0_1 l0_1.length c0_1,.int .i64 a0_2,.int .i64 a0_3] 64 (0,0)) (by (with_reducible repeat (first|refine blk_drewN ?_ _|refine Ze ?_|refine blk_alloc ?_ _));exact BK544.out) hb);have n2_:=Zz.mk (Zi (by repeat (first|(with_reducible first|exact HB.out|apply Zb|apply Za|apply Zc|refine Zd ?_ GE544.out)|exact HB.out)) hb);have n3_:=Zz.mk (hbox);have n4_:=Zz.mk ((by rw [hg];exact (Zf (by repeat (first|(with_reducible first|exact HB.out|apply Zb|apply Za|apply Zc|refine Zd ?_ GE544.out)|exact HB.out))):w.heap.size<=gb546));have n5_:=Zz.mk ((by rw [hg];exact (Zf (by repeat (first|(with_reducible first|exact HB.out|apply Zb|apply Za|apply Zc|refine Zd ?_ GE544.out)|exact HB.out))):w.heap.size<=gb546));have n6_:=Zz.mk ((by rw [hg];exact Nat.ne_of_lt (Z5 (g:=gb544) (o:=.cells #[.slice (some ad545) l0_0.length c0_0,.slice A0_1 l0_1.length c0_1,.int .i64 a0_2,.int .i64 a0_3] 64 (0,0)) (by (with_reducible repeat (first|refine blk_drewN ?_ _|refine Ze ?_|refine blk_alloc ?_ _));exact BK544.out)):gb544≠gb546));have n7_:=Zz.mk ((by rw [hg];exact Nat.ne_of_gt (Z5 (g:=gb544) (o:=.cells #[.slice (some ad545) l0_0.length c0_0,.slice A0_1 l0_1.length c0_1,.int .i64 a0_2,.int .i64 a0_3] 64 (0,0)) (by (with_reducible repeat (first|refine blk_drewN ?_ _|refine Ze ?_|refine blk_alloc ?_ _));exact BK544.out)):gb546≠gb544));clear HO_3;clear BK544;clear HB;have HO_3:=n0_;have BK544:=n1_;have HB:=n2_;have BK546:=n3_;have GW546:=n4_;have GE546:=n5_;have NB544_546:=n6_;have NB546_544:=n7_;clear n0_ n1_ n2_ n3_ n4_ n5_ n6_ n7_;clear hb hbox hg;have hnb27:=NB546_544.out;have hnc27:=NB544_546.out;have hcz28_0:w26.cell? ⟨gb546,0,none⟩=some (.int .i64 0):=(Zh BK546.out 0).trans rfl;have hcz28_1:w26.cell? ⟨gb546,1,none⟩=some (.int .i64 0):=(Zh BK546.out 1).trans rfl;have hcz28_2:w26.cell? ⟨gb546,2,none⟩=some (.int .i64 0):=(Zh BK546.out 2).trans rfl;have hfz28_0:=Zj BK546.out 0;have hfz28_1:=Zj BK546.out 1;have hfz28_2:=Zj BK546.out 2;have hcz29_0:w26.cell? ⟨gb544,0,none⟩=some (.slice (some ad545) l0_0.length c0_0):=(Zh BK544.out 0).trans rfl;have hcz29_1:w26.cell? ⟨gb544,1,none⟩=some (.slice A0_1 l0_1.length c0_1):=(Zh BK544.out 1).trans rfl;have hcz29_2:w26.cell? ⟨gb544,2,none⟩=some (.int .i64 a0_2):=(Zh BK544.out 2).trans rfl;have hcz29_3:w26.cell? ⟨gb544,3,none⟩=some (.int .i64 a0_3):=(Zh BK544.out 3).trans rfl;have hfz29_0:=Zj BK544.out 0;have hfz29_1:=Zj BK544.out 1;have hfz29_2:=Zj BK544.out 2;have hfz29_3:=Zj BK544.out 3)|((with_reducible refine gate_builtin (b:=.append) (xs:=#[.tmp 56,.tmp 58]) rfl ?_);at_builtin;refine Kd.R_append k71 (w0:=w) w.heap.size rfl (.tmp 56) (.tmp 58) 65 71 (.agg #[(.int .i64 0),(.int .i64 0),(.int .i64 0)]) 24 rfl Try.underlying65 info71 rfl (by decide) (by omega) u3 x3_1 (⟨wrap64 ((Int.tmod (wrap64 ((wrap64 ((Int.tmod (rd l0_0 x4_1) (wrap64 (x4_1+1)))+x4_1))+1)) (wrap64 (x4_1+1)))-1),(⟨16,16⟩:S34)⟩:S71) [.int .i64 (wrap64 ((Int.tmod (wrap64 ((wrap64 ((Int.tmod (rd l0_0 x4_1) (wrap64 (x4_1+1)))+x4_1))+1)) (wrap64 (x4_1+1)))-1)),.int .i64 16,.int .i64 16] (fun k_=>k_≠gb546) (fun _=>False) rfl (by first|(go_simp;done)|(go_simp;rfl)) ?aP (fun _ hk=>hk.elim) ?aF ?aO ?aB ?aS ?aL ?_;(case aP=>exact k71_mkM _ _ _ (⟨wrap64 ((Int.tmod (wrap64 ((wrap64 ((Int.tmod (rd l0_0 x4_1) (wrap64 (x4_1+1)))+x4_1))+1)) (wrap64 (x4_1+1)))-1),(⟨16,16⟩:S34)⟩:S71));(case aB=>exact (by repeat (first|(with_reducible first|exact HB.out|apply Zb|apply Za|apply Zc|refine Zd ?_ GE544.out|refine Zd ?_ GE546.out)|exact HB.out)));(case aF=>exact (fun k_ hk=>Kd.freshB (g:=gb546) (o:=.cells #[.int .i64 (wrap64 ((Int.tmod (wrap64 ((wrap64 ((Int.tmod (rd l0_0 x4_1) (wrap64 (x4_1+1)))+x4_1))+1)) (wrap64 (x4_1+1)))-1)),.int .i64 16,.int .i64 16] 71 (0,0)) (by (with_reducible repeat (first|refine blk_drewN ?_ _|refine Ze ?_|refine blk_alloc ?_ _));refine Zx (cs:=#[.int .i64 (wrap64 ((Int.tmod (wrap64 ((wrap64 ((Int.tmod (rd l0_0 x4_1) (wrap64 (x4_1+1)))+x4_1))+1)) (wrap64 (x4_1+1)))-1)),.int .i64 16,.int .i64 0]) ?_ 2 _ rfl;(with_reducible repeat (first|refine blk_drewN ?_ _|refine Ze ?_|refine blk_alloc ?_ _));refine Zx (cs:=#[.int .i64 (wrap64 ((Int.tmod (wrap64 ((wrap64 ((Int.tmod (rd l0_0 x4_1) (wrap64 (x4_1+1)))+x4_1))+1)) (wrap64 (x4_1+1)))-1)),.int .i64 0,.int .i64 0]) ?_ 1 _ rfl;(with_reducible repeat (first|refine blk_drewN ?_ _|refine Ze ?_|refine blk_alloc ?_ _));refine Zx (cs:=#[.int .i64 0,.int .i64 0,.int .i64 0]) ?_ 0 _ rfl;(with_reducible repeat (first|refine blk_drewN ?_ _|refine Ze ?_|refine blk_alloc ?_ _));exact BK546.out) k_ hk));(case aO=>exact (by (with_reducible repeat (first|apply Kd.R_alloc|apply Kd.R_drewN|apply Kd.R_drew));exact Kd.R_mono (Kd.R_far (p:=⟨gb546,2,none⟩) (Kd.R_far (p:=⟨gb546,1,none⟩) (Kd.R_far (p:=⟨gb546,0,none⟩) (Kd.R_mono HO_3.out (fun k_ hk=>(⟨hk,hk.2⟩:_/\k_≠gb546))) (fun _ hk=>hk.2) (.int .i64 (wrap64 ((Int.tmod (wrap64 ((wrap64 ((Int.tmod (rd l0_0 x4_1) (wrap64 (x4_1+1)))+x4_1))+1)) (wrap64 (x4_1+1)))-1)))) (fun _ hk=>hk.2) (.int .i64 16)) (fun _ hk=>hk.2) (.int .i64 16)) (fun _ hk=>hk.1.2)));(case aS=>exact (Zf (by repeat (first|(with_reducible first|exact HB.out|apply Zb|apply Za|apply Zc|refine Zd ?_ GE544.out|refine Zd ?_ GE546.out)|exact HB.out))));(case aL=>have:=LMc24.out;omega);intro v553 w30 ho hb hg hat;rw [<-Ny552.out] at ho;have n0_:=Zz.mk (blk_grown (g:=gb544) (o:=.cells #[.slice (some ad545) l0_0.length c0_0,.slice A0_1 l0_1.length c0_1,.int .i64 a0_2,.int .i64 a0_3] 64 (0,0)) (by (with_reducible repeat (first|refine blk_drewN ?_ _|refine Ze ?_|refine blk_alloc ?_ _));refine blk_far ?_ NB544_546.out _;(with_reducible repeat (first|refine blk_drewN ?_ _|refine Ze ?_|refine blk_alloc ?_ _));refine blk_far ?_ NB544_546.out _;(with_reducible repeat (first|refine blk_drewN ?_ _|refine Ze ?_|refine blk_alloc ?_ _));refine blk_far ?_ NB544_546.out _;(with_reducible repeat (first|refine blk_drewN ?_ _|refine Ze ?_|refine blk_alloc ?_ _));exact BK544.out) hg (Kd.R_ne HO_3.out BK544.out (by decide)));have n1_:=Zz.mk (blk_grown (g:=gb546) (o:=.cells #[.int .i64 (wrap64 ((Int.tmod (wrap64 ((wrap64 ((Int.tmod (rd l0_0 x4_1) (wrap64 (x4_1+1)))+x4_1))+1)) (wrap64 (x4_1+1)))-1)),.int .i64 16,.int .i64 16] 71 (0,0)) (by (with_reducible repeat (first|refine blk_drewN ?_ _|refine Ze ?_|refine blk_alloc ?_ _));refine Zx (cs:=#[.int .i64 (wrap64 ((Int.tmod (wrap64 ((wrap64 ((Int.tmod (rd l0_0 x4_1) (wrap64 (x4_1+1)))+x4_1))+1)) (wrap64 (x4_1+1)))-1)),.int .i64 16,.int .i64 0]) ?_ 2 _ rfl;(with_reducible repeat (first|refine blk_drewN ?_ _|refine Ze ?_|refine blk_alloc ?_ _));refine Zx (cs:=#[.int .i64 (wrap64 ((Int.tmod (wrap64 ((wrap64 ((Int.tmod (rd l0_0 x4_1) (wrap64 (x4_1+1)))+x4_1))+1)) (wrap64 (x4_1+1)))-1)),.int .i64 0,.int .i64 0]) ?_ 1 _ rfl;(with_reducible repeat (first|refine blk_drewN ?_ _|refine Ze ?_|refine blk_alloc ?_ _));refine Zx (cs:=#[.int .i64 0,.int .i64 0,.int .i64 0]) ?_ 0 _ rfl;(with_reducible repeat (first|refine blk_drewN ?_ _|refine Ze ?_|refine blk_alloc ?_ _));exact BK546.out) hg (Kd.R_away HO_3.out (fun _ hk=>hk.2)));have n2_:=Zz.mk (hb);have n3_:=Zz.mk (ho);clear BK544;clear BK546;clear HB;clear HO_3;have BK544:=n0_;have BK546:=n1_;have HB:=n2_;have HO554:=n3_;clear n0_ n1_ n2_ n3_;clear ho hb hg hat))
           go_roundg kj2
           case measure=>have:=HK1.out;have:=HJ2.out;omega
           case rel=>exact ⟨(y552),(wrap64 (x4_1+1)),(by first|rfl|(simp;done)|(simp [*];done)),H',⟨by have:=HK1.out;have:=HJ2.out;omega⟩,⟨by (with_reducible repeat (first|apply Kd.R_alloc|apply Kd.R_drewN|apply Kd.R_drew));exact Kd.R_mono HO554.out (fun _ hk=>trivial)⟩,⟨by (with_reducible repeat (first|refine blk_drewN ?_ _|refine Ze ?_|refine blk_alloc ?_ _));exact BK544.out⟩,⟨by repeat (first|(with_reducible first|exact HB.out|apply Zb|apply Za|apply Zc|refine Zd ?_ GE544.out|refine Zd ?_ GE546.out)|exact HB.out)⟩⟩
          ·rw [if_neg c24] at H
           exact absurd H (by simp)
       ·rw [if_neg c9] at H
        exact absurd H (by simp)
      ·rw [if_neg c8] at H
       exact absurd H (by simp)
     ·replace c7:=Bool.eq_false_iff.mpr c7
      subst c7
      have H1:(some x3_1)=some r:=by rw [if_neg (show ¬ (false=true) by decide)] at H;exact H
      clear H
      have H:=H1
      clear H1
      obtain rfl:=Option.some.inj H
      go_wp2
      go_ret
      exact ⟨_,by first|rfl|(simp [Zm,Zl]<;>rfl)|(simp [*,Zm,Zl]<;>rfl),by (with_reducible repeat (first|apply Kd.R_alloc|apply Kd.R_drewN|apply Kd.R_drew));exact HO_3.out,by repeat (first|(with_reducible first|exact HB.out|apply Zb|apply Za|apply Zc|refine Zd ?_ GE544.out)|exact HB.out)⟩
end Go.Proofs.Ytfldklimlcnnnaa.PHq
end

section
namespace Go.Proofs.Ytfldklimlcnnnaa.PHq
open Go.RowKit YtfldklimlcnnnaaW.PrintWords YtfldklimlcnnnaaW.PrintLast YtfldklimlcnnnaaW.PrintMore MWords
attribute [local go_sem] max2_int min2_int max_two min_two max_three min_three max_four min_four   -- for this text's walks alone
def l13_Spec_all.f (k:Nat) (l0_0:List Int) (l0_1:List (S39)) (a0_2:Int) (a0_3:Int):Option (List Int × List Int):=(l13_one.f k (IntKind.u64.wrap (Go.bits .and .i64 a0_2 7)) (IntKind.u64.wrap (wrap64 (1+(Go.bits .and .i64 a0_3 3))))).bind fun bt557=>(some (bt557.1,bt557.2))
set_option maxHeartbeats 8000000 in
set_option maxRecDepth 100000 in
theorem l13_Spec_all.calls (k:Nat) (A0_0:Option Addr) (c0_0:Nat) (l0_0:List Int) (A0_1:Option Addr) (c0_1:Nat) (l0_1:List (S39)) (a0_2:Int) (a0_3:Int) (r1:List Int) (r2:List Int) (w:World) (hr0_0:Kd.C (Kd.int .i64) w A0_0 l0_0.length l0_0) (hc0_0:l0_0.length<=c0_0) (hr0_1:Kd.C k39 w A0_1 l0_1.length l0_1) (hc0_1:l0_1.length<=c0_1) (h:l13_Spec_all.f k l0_0 l0_1 a0_2 a0_3=some (r1,r2)) :
  Calls Try.prog 42 #[.agg #[.slice A0_0 l0_0.length c0_0,.slice A0_1 l0_1.length c0_1,.int .i64 a0_2,.int .i64 a0_3]] w fun e w'=>∃v0_ v1_:Value,e=.returned (.agg #[v0_,v1_])/\Kd.R (Kd.int .u32) 89 w' w.heap.size (fun k_=>some k_≠(v1_:Value).ownBlock) v0_ r1/\Kd.R (Kd.int .u32) 89 w' w.heap.size (fun k_=>some k_≠(v0_:Value).ownBlock) v1_ r2/\Below w.heap.size w w':=by
 have hu64:=Try.underlying64
 have hu28:=Try.underlying28
 have HR0_0:=Zz.mk hr0_0
 have HC0_0:=Zz.mk hc0_0
 clear hr0_0 hc0_0
 have HR0_1:=Zz.mk hr0_1
 have HC0_1:=Zz.mk hc0_1
 clear hr0_1 hc0_1
 have HB:=Zz.mk (Below.refl w.heap.size w)
 have H:((l13_one.f k (IntKind.u64.wrap (Go.bits .and .i64 a0_2 7)) (IntKind.u64.wrap (wrap64 (1+(Go.bits .and .i64 a0_3 3))))).bind fun bt557=>(some (bt557.1,bt557.2)))=some (r1,r2):=h
 clear h
 replace H:=Option.bind_eq_some_iff.mp H
 obtain ⟨⟨t557,t560⟩,A20,H⟩:=H
 replace H:(some (t557,t560))=some (r1,r2):=H
 have A2:=Zz.mk A20
 clear A20
 simp only [Option.some.injEq,Prod.mk.injEq] at H
 obtain ⟨rfl,rfl⟩:=H
 go_enter Try.func42,Try.ntmps42
 go_wp2_with (first|((with_reducible refine Zt (N:=1) rfl ?_);refine Zu ?hg (N:=1) ?hd (cs:=#[.slice A0_0 l0_0.length c0_0,.slice A0_1 l0_1.length c0_1,.int .i64 a0_2,.int .i64 a0_3]) (t:=64) ?hr ?_;(case hd=>rfl);(case hg=>rfl);(case hr=>first|(go_simp;done)|(go_simp;rfl));intro gb555 hg w3 hbox hb;have n0_:=Zz.mk (Zi (by repeat (first|(with_reducible first|exact HB.out|apply Zb|apply Za|apply Zc)|exact HB.out)) hb);have n1_:=Zz.mk (hbox);have n2_:=Zz.mk ((by rw [hg];exact (Zf (by repeat (first|(with_reducible first|exact HB.out|apply Zb|apply Za|apply Zc)|exact HB.out))):w.heap.size<=gb555));have n3_:=Zz.mk ((by rw [hg];exact (Zf (by repeat (first|(with_reducible first|exact HB.out|apply Zb|apply Za|apply Zc)|exact HB.out))):w.heap.size<=gb555));clear HB;have HB:=n0_;have BK555:=n1_;have GW555:=n2_;have GE555:=n3_;clear n0_ n1_ n2_ n3_;clear hb hbox hg)|((with_reducible refine Zt (N:=2) rfl ?_);refine Zu ?hg (N:=2) ?hd (cs:=#[.slice none 0 0,.slice none 0 0]) (t:=28) ?hr ?_;(case hd=>rfl);(case hg=>rfl);(case hr=>first|(go_simp;done)|(go_simp;rfl));intro gb556 hg w4 hbox hb;have n0_:=Zz.mk (Zk (g:=gb555) (o:=.cells #[.slice A0_0 l0_0.length c0_0,.slice A0_1 l0_1.length c0_1,.int .i64 a0_2,.int .i64 a0_3] 64 (0,0)) (by (with_reducible repeat (first|refine blk_drewN ?_ _|refine Ze ?_|refine blk_alloc ?_ _));exact BK555.out) hb);have n1_:=Zz.mk (Zi (by repeat (first|(with_reducible first|exact HB.out|apply Zb|apply Za|apply Zc|refine Zd ?_ GE555.out)|exact HB.out)) hb);have n2_:=Zz.mk (hbox);have n3_:=Zz.mk ((by rw [hg];exact (Zf (by repeat (first|(with_reducible first|exact HB.out|apply Zb|apply Za|apply Zc|refine Zd ?_ GE555.out)|exact HB.out))):w.heap.size<=gb556));have n4_:=Zz.mk ((by rw [hg];exact (Zf (by repeat (first|(with_reducible first|exact HB.out|apply Zb|apply Za|apply Zc|refine Zd ?_ GE555.out)|exact HB.out))):w.heap.size<=gb556));have n5_:=Zz.mk ((by rw [hg];exact Nat.ne_of_lt (Z5 (g:=gb555) (o:=.cells #[.slice A0_0 l0_0.length c0_0,.slice A0_1 l0_1.length c0_1,.int .i64 a0_2,.int .i64 a0_3] 64 (0,0)) (by (with_reducible repeat (first|refine blk_drewN ?_ _|refine Ze ?_|refine blk_alloc ?_ _));exact BK555.out)):gb555≠gb556));have n6_:=Zz.mk ((by rw [hg];exact Nat.ne_of_gt (Z5 (g:=gb555) (o:=.cells #[.slice A0_0 l0_0.length c0_0,.slice A0_1 l0_1.length c0_1,.int .i64 a0_2,.int .i64 a0_3] 64 (0,0)) (by (with_reducible repeat (first|refine blk_drewN ?_ _|refine Ze ?_|refine blk_alloc ?_ _));exact BK555.out)):gb556≠gb555));clear BK555;clear HB;have BK555:=n0_;have HB:=n1_;have BK556:=n2_;have GW556:=n3_;have GE556:=n4_;have NB555_556:=n5_;have NB556_555:=n6_;clear n0_ n1_ n2_ n3_ n4_ n5_ n6_;clear hb hbox hg;have hnb5:=NB555_556.out;have hnc5:=NB556_555.out;have hcz6_0:w4.cell? ⟨gb555,0,none⟩=some (.slice A0_0 l0_0.length c0_0):=(Zh BK555.out 0).trans rfl;have hcz6_1:w4.cell? ⟨gb555,1,none⟩=some (.slice A0_1 l0_1.length c0_1):=(Zh BK555.out 1).trans rfl;have hcz6_2:w4.cell? ⟨gb555,2,none⟩=some (.int .i64 a0_2):=(Zh BK555.out 2).trans rfl;have hcz6_3:w4.cell? ⟨gb555,3,none⟩=some (.int .i64 a0_3):=(Zh BK555.out 3).trans rfl;have hfz6_0:=Zj BK555.out 0;have hfz6_1:=Zj BK555.out 1;have hfz6_2:=Zj BK555.out 2;have hfz6_3:=Zj BK555.out 3)|((with_reducible refine Zs (f:=44) rfl ?_);refine Zv (some 14) rfl rfl Try.func44 (by kernel_rfl) rfl #[.int .u64 (IntKind.u64.wrap (Go.bits .and .i64 a0_2 7)),.int .u64 (IntKind.u64.wrap (wrap64 (1+(Go.bits .and .i64 a0_3 3))))] rfl (by (try simp only [List.map_toArray,List.map_cons,List.map_nil]);first|done|rfl|(simp only [List.length_drop,List.length_take];rfl)) ?_;(with_reducible refine (l13_one.calls k (IntKind.u64.wrap (Go.bits .and .i64 a0_2 7)) (IntKind.u64.wrap (wrap64 (1+(Go.bits .and .i64 a0_3 3)))) t557 t560 _ A2.out).mono ?_);rintro e w7 ⟨v558,v561,rfl,ho0,ho1,hb⟩;refine ⟨_,rfl,?_⟩;have n0_:=Zz.mk (Kd.R_lower ho0 (Zf (by repeat (first|(with_reducible first|exact HB.out|apply Zb|apply Za|apply Zc|refine Zd ?_ GE555.out|refine Zd ?_ GE556.out)|exact HB.out))));have n1_:=Zz.mk (Kd.R_lower ho1 (Zf (by repeat (first|(with_reducible first|exact HB.out|apply Zb|apply Za|apply Zc|refine Zd ?_ GE555.out|refine Zd ?_ GE556.out)|exact HB.out))));have n2_:=Zz.mk (Zk (g:=gb555) (o:=.cells #[.slice A0_0 l0_0.length c0_0,.slice A0_1 l0_1.length c0_1,.int .i64 a0_2,.int .i64 a0_3] 64 (0,0)) (by (with_reducible repeat (first|refine blk_drewN ?_ _|refine Ze ?_|refine blk_alloc ?_ _));exact BK555.out) hb);have n3_:=Zz.mk (Zk (g:=gb556) (o:=.cells #[.slice none 0 0,.slice none 0 0] 28 (0,0)) (by (with_reducible repeat (first|refine blk_drewN ?_ _|refine Ze ?_|refine blk_alloc ?_ _));exact BK556.out) hb);have n4_:=Zz.mk (Zi (by repeat (first|(with_reducible first|exact HB.out|apply Zb|apply Za|apply Zc|refine Zd ?_ GE555.out|refine Zd ?_ GE556.out)|exact HB.out)) hb);clear BK555;clear BK556;clear HB;have HO559:=n0_;have HO562:=n1_;have BK555:=n2_;have BK556:=n3_;have HB:=n4_;clear n0_ n1_ n2_ n3_ n4_;(try clear hb);(try clear hb2);(try clear hk);(try clear hi);(try clear ho0);(try clear ho1);obtain ⟨Ao8,co8,eo8⟩:=Kd.R_slice HO559.out;subst eo8;have hcz9_0:w7.cell? ⟨gb556,0,none⟩=some (.slice none 0 0):=(Zh BK556.out 0).trans rfl;have hcz9_1:w7.cell? ⟨gb556,1,none⟩=some (.slice none 0 0):=(Zh BK556.out 1).trans rfl;have hfz9_0:=Zj BK556.out 0;have hfz9_1:=Zj BK556.out 1;obtain ⟨Ao10,co10,eo10⟩:=Kd.R_slice HO562.out;subst eo10))
 refine bodyPost_ret (results_cell_row rfl _ _ gb556 28 #[.slice Ao8 t557.length co8,.slice Ao10 t560.length co10] (0,0) _ rfl (by (with_reducible repeat (first|refine blk_drewN ?_ _|refine Ze ?_|refine blk_alloc ?_ _));refine Zx (cs:=#[.slice Ao8 t557.length co8,.slice none 0 0]) ?_ 1 _ rfl;(with_reducible repeat (first|refine blk_drewN ?_ _|refine Ze ?_|refine blk_alloc ?_ _));refine Zx (cs:=#[.slice none 0 0,.slice none 0 0]) ?_ 0 _ rfl;(with_reducible repeat (first|refine blk_drewN ?_ _|refine Ze ?_|refine blk_alloc ?_ _));exact BK556.out) Try.underlying28 rfl (by kernel_rfl)) rfl ?_
 exact ⟨_,_,by first|rfl|(simp [Zm,Zl]<;>rfl)|(simp [*,Zm,Zl]<;>rfl),by (with_reducible repeat (first|apply Kd.R_alloc|apply Kd.R_drewN|apply Kd.R_drew));exact Kd.R_mono (Kd.R_far (p:=⟨gb556,1,none⟩) (Kd.R_far (p:=⟨gb556,0,none⟩) (Kd.R_types HO559.out BK556.out (by decide)) (fun _ hk=>hk.2) (.slice Ao8 t557.length co8)) (fun _ hk=>hk.2) (.slice Ao10 t560.length co10)) (fun _ hk=>hk.1),by (with_reducible repeat (first|apply Kd.R_alloc|apply Kd.R_drewN|apply Kd.R_drew));exact Kd.R_mono (Kd.R_far (p:=⟨gb556,1,none⟩) (Kd.R_far (p:=⟨gb556,0,none⟩) (Kd.R_types HO562.out BK556.out (by decide)) (fun _ hk=>hk.2) (.slice Ao8 t557.length co8)) (fun _ hk=>hk.2) (.slice Ao10 t560.length co10)) (fun _ hk=>hk.1),by repeat (first|(with_reducible first|exact HB.out|apply Zb|apply Za|apply Zc|refine Zd ?_ GE555.out|refine Zd ?_ GE556.out)|exact HB.out)⟩
end Go.Proofs.Ytfldklimlcnnnaa.PHq
end

section
namespace Go.Proofs.Ytfldklimlcnnnaa.PHq
open Go.RowKit YtfldklimlcnnnaaW.PrintWords YtfldklimlcnnnaaW.PrintLast YtfldklimlcnnnaaW.PrintMore MWords
attribute [local go_sem] max2_int min2_int max_two min_two max_three min_three max_four min_four   -- for this text's walks alone
def r07_Same.l0:Nat->List Int->List Int->Int->Option (Bool)
 | 0,_,_,_=>none
 | k+1,x0,x1,x5=>if x5<(x0.length:Int) then (if 0<=x5 then (if x5<(x1.length:Int) then (if (rd x0 x5)=(rd x1 x5) then (r07_Same.l0 k x0 x1 (wrap64 (x5+1))) else (some false)) else (none)) else (none)) else (some true)
def r07_Same.f (k:Nat) (l0:List Int) (l1:List Int):Option (Bool):=if (l0.length:Int)=(l1.length:Int) then (r07_Same.l0 k l0 l1 0) else (some false)
set_option maxHeartbeats 8000000 in
set_option maxRecDepth 100000 in
theorem r07_Same.calls (k:Nat) (A0:Option Addr) (c0:Nat) (l0:List Int) (A1:Option Addr) (c1:Nat) (l1:List Int) (r:Bool) (w:World) (hr0:Kd.C (Kd.int .i64) w A0 l0.length l0) (hc0:l0.length<=c0) (hr1:Kd.C (Kd.int .i64) w A1 l1.length l1) (hc1:l1.length<=c1) (h:r07_Same.f k l0 l1=some r) :
  Calls Try.prog 54 #[.slice A0 l0.length c0,.slice A1 l1.length c1] w fun e w'=>e=.returned (.bool r)/\Drawn0 w w':=by
 have HR0:=Zz.mk hr0
 have HC0:=Zz.mk hc0
 clear hr0 hc0
 have HR1:=Zz.mk hr1
 have HC1:=Zz.mk hc1
 clear hr1 hc1
 have H:(if (l0.length:Int)=(l1.length:Int) then (r07_Same.l0 k l0 l1 0) else (some false))=some r:=h
 clear h
 by_cases c3:(l0.length:Int)=(l1.length:Int)
 ·rw [if_pos c3] at H
  have c3b0:((l0.length:Int) == (l1.length:Int))=true:=beq_iff_eq.mpr c3
  have c3b1:((l0.length:Int) != (l1.length:Int))=false:=bne_eq_false_iff_eq.mpr c3
  have c3b2:(l0.length == l1.length)=true:=by first|simpa using c3|(simp at c3 ⊢;omega)
  clear c3
  have H':=Zz.mk H
  clear H
  go_enter Try.func54,Try.ntmps54
  go_wp2
  repeat (go_quiet (fail);try go_wp2)
  go_loopg [5] k (fun kq v5 w'=>∃ (x5_1:Int),v5=.int .i64 x5_1/\Zz (r07_Same.l0 kq l0 l1 x5_1=some r)/\Zz (kq<=k)/\Drawn0 w w')
  case atStart=>exact ⟨(0),(by first|rfl|(simp;done)|(simp [*];done)),H',⟨Nat.le_refl _⟩,by repeat (first|exact Drawn0.refl _|apply Drawn0.step)⟩
  case round =>
   clear H'
   try clear c1
   try clear p2
   try clear c3
   try clear c3b0
   try clear c3b1
   try clear c3b2
   obtain ⟨x5_1,rfl,HA,HK1,⟨m1,rfl⟩⟩:=hrel
   cases gk with
   | zero=>exact absurd HA.out (by simp [r07_Same.l0])
   | succ k1 =>
    have H:=HA.out
    clear HA
    simp only [r07_Same.l0] at H
    by_cases c4:x5_1<(l0.length:Int)
    ·rw [if_pos c4] at H
     have c4b0:decide (x5_1<(l0.length:Int))=true:=decide_eq_true c4
     clear c4
     by_cases c5:0<=x5_1
     ·rw [if_pos c5] at H
      have c5b0:decide (0<=x5_1)=true:=decide_eq_true c5
      clear c5
      by_cases c6:x5_1<(l1.length:Int)
      ·rw [if_pos c6] at H
       have c6b0:decide (x5_1<(l1.length:Int))=true:=decide_eq_true c6
       clear c6
       by_cases c7:(rd l0 x5_1)=(rd l1 x5_1)
       ·rw [if_pos c7] at H
        have c7b0:((rd l0 x5_1) == (rd l1 x5_1))=true:=beq_iff_eq.mpr c7
        have c7b1:((rd l0 x5_1) != (rd l1 x5_1))=false:=bne_eq_false_iff_eq.mpr c7
        clear c7
        have H':=Zz.mk H
        clear H
        have p533:0<=(x5_1:Int):=of_decide_eq_true (by first|(with_reducible assumption)|assumption)
        have q533:x5_1<(l0.length:Int):=of_decide_eq_true (by first|(with_reducible assumption)|assumption)
        obtain ⟨ad533,e533,hx533_0⟩:=Kd.at_int HR0.out x5_1 p533 q533
        cases e533
        replace p533:=eq_true p533
        replace q533:=eq_true q533
        have p534:0<=(x5_1:Int):=of_decide_eq_true (by first|(with_reducible assumption)|assumption)
        have q534:x5_1<(l1.length:Int):=of_decide_eq_true (by first|(with_reducible assumption)|assumption)
        obtain ⟨ad534,e534,hx534_0⟩:=Kd.at_int HR1.out x5_1 p534 q534
        cases e534
        replace p534:=eq_true p534
        replace q534:=eq_true q534
        go_wp2
        repeat (go_quiet (fail);try go_wp2)
        go_roundg k1
        case measure=>have:=HK1.out;omega
        case rel=>exact ⟨(wrap64 (x5_1+1)),(by first|rfl|(simp;done)|(simp [*];done)),H',⟨by have:=HK1.out;omega⟩,by repeat (first|exact Drawn0.refl _|apply Drawn0.step)⟩
       ·rw [if_neg c7] at H
        have c7b0:((rd l0 x5_1) == (rd l1 x5_1))=false:=beq_eq_false_iff_ne.mpr c7
        have c7b1:((rd l0 x5_1) != (rd l1 x5_1))=true:=bne_iff_ne.mpr c7
        obtain rfl:=Option.some.inj H
        have p533:0<=(x5_1:Int):=of_decide_eq_true (by first|(with_reducible assumption)|assumption)
        have q533:x5_1<(l0.length:Int):=of_decide_eq_true (by first|(with_reducible assumption)|assumption)
        obtain ⟨ad533,e533,hx533_0⟩:=Kd.at_int HR0.out x5_1 p533 q533
        cases e533
        replace p533:=eq_true p533
        replace q533:=eq_true q533
        have p534:0<=(x5_1:Int):=of_decide_eq_true (by first|(with_reducible assumption)|assumption)
        have q534:x5_1<(l1.length:Int):=of_decide_eq_true (by first|(with_reducible assumption)|assumption)
        obtain ⟨ad534,e534,hx534_0⟩:=Kd.at_int HR1.out x5_1 p534 q534
        cases e534
        replace p534:=eq_true p534
        replace q534:=eq_true q534
        go_wp2
        repeat (go_quiet (fail);try go_wp2)
        go_ret
        exact ⟨by first|rfl|(simp;done)|(simp [*];done),by repeat (first|exact Drawn0.refl _|apply Drawn0.step)⟩
      ·rw [if_neg c6] at H
       exact absurd H (by simp)
     ·rw [if_neg c5] at H
      exact absurd H (by simp)
    ·rw [if_neg c4] at H
     have c4b0:decide (x5_1<(l0.length:Int))=false:=decide_eq_false c4
     clear c4
     obtain rfl:=Option.some.inj H
     go_wp2
     repeat (go_quiet (fail);try go_wp2)
     go_ret
     exact ⟨by first|rfl|(simp;done)|(simp [*];done),by repeat (first|exact Drawn0.refl _|apply Drawn0.step)⟩
 ·rw [if_neg c3] at H
  have c3b0:((l0.length:Int) == (l1.length:Int))=false:=beq_eq_false_iff_ne.mpr c3
  have c3b1:((l0.length:Int) != (l1.length:Int))=true:=bne_iff_ne.mpr c3
  have c3b2:(l0.length == l1.length)=false:=by first|simpa using c3|(simp at c3 ⊢;omega)
  obtain rfl:=Option.some.inj H
  go_enter Try.func54,Try.ntmps54
  go_wp2
  repeat (go_quiet (fail);try go_wp2)
  go_ret
  exact ⟨by first|rfl|(simp;done)|(simp [*];done),by repeat (first|exact Drawn0.refl _|apply Drawn0.step)⟩
end Go.Proofs.Ytfldklimlcnnnaa.PHq
end

section
namespace Go.Proofs.Ytfldklimlcnnnaa.PHq
open Go.RowKit YtfldklimlcnnnaaW.PrintWords YtfldklimlcnnnaaW.PrintLast YtfldklimlcnnnaaW.PrintMore MWords
attribute [local go_sem] max2_int min2_int max_two min_two max_three min_three max_four min_four   -- for this text's walks alone
end Go.Proofs.Ytfldklimlcnnnaa.PHq
end

section
namespace Go.Proofs.Ytfldklimlcnnnaa.PHq
open Go.RowKit YtfldklimlcnnnaaW.PrintWords YtfldklimlcnnnaaW.PrintLast YtfldklimlcnnnaaW.PrintMore MWords
attribute [local go_sem] max2_int min2_int max_two min_two max_three min_three max_four min_four   -- for this text's walks alone
def l13_Op_weight.f (a0_0:Int) (a0_1:Int) (a0_2:Int) (a0_3:Int) (a0_4:Int):Option (Int × Int):=some (wrap64 ((Go.bits .and .i64 a0_3 31)-1),Go.bits .and .i64 a0_4 31)
set_option maxHeartbeats 8000000 in
set_option maxRecDepth 100000 in
theorem l13_Op_weight.calls (a0_0:Int) (a0_1:Int) (a0_2:Int) (a0_3:Int) (a0_4:Int) (r1:Int) (r2:Int) (w:World) (h:l13_Op_weight.f a0_0 a0_1 a0_2 a0_3 a0_4=some (r1,r2)) :
  Calls Try.prog 48 #[.agg #[.int .i64 a0_0,.int .i64 a0_1,.int .i64 a0_2,.int .i64 a0_3,.int .i64 a0_4]] w fun e w'=>e=.returned (.agg #[.int .i64 r1,.int .i64 r2])/\Below w.heap.size w w':=by
 have hu83:=Try.underlying83
 have hu34:=Try.underlying34
 have HB:=Zz.mk (Below.refl w.heap.size w)
 have H:(some (wrap64 ((Go.bits .and .i64 a0_3 31)-1),Go.bits .and .i64 a0_4 31))=some (r1,r2):=h
 clear h
 simp only [Option.some.injEq,Prod.mk.injEq] at H
 obtain ⟨rfl,rfl⟩:=H
 go_enter Try.func48,Try.ntmps48
 go_wp2_with (first|((with_reducible refine Zt (N:=1) rfl ?_);refine Zu ?hg (N:=1) ?hd (cs:=#[.int .i64 a0_0,.int .i64 a0_1,.int .i64 a0_2,.int .i64 a0_3,.int .i64 a0_4]) (t:=83) ?hr ?_;(case hd=>rfl);(case hg=>rfl);(case hr=>first|(go_simp;done)|(go_simp;rfl));intro gb563 hg w2 hbox hb;have n0_:=Zz.mk (Zi (by repeat (first|(with_reducible first|exact HB.out|apply Zb|apply Za|apply Zc)|exact HB.out)) hb);have n1_:=Zz.mk (hbox);have n2_:=Zz.mk ((by rw [hg];exact (Zf (by repeat (first|(with_reducible first|exact HB.out|apply Zb|apply Za|apply Zc)|exact HB.out))):w.heap.size<=gb563));have n3_:=Zz.mk ((by rw [hg];exact (Zf (by repeat (first|(with_reducible first|exact HB.out|apply Zb|apply Za|apply Zc)|exact HB.out))):w.heap.size<=gb563));clear HB;have HB:=n0_;have BK563:=n1_;have GW563:=n2_;have GE563:=n3_;clear n0_ n1_ n2_ n3_;clear hb hbox hg)|((with_reducible refine Zt (N:=2) rfl ?_);refine Zu ?hg (N:=2) ?hd (cs:=#[.int .i64 0,.int .i64 0]) (t:=34) ?hr ?_;(case hd=>rfl);(case hg=>rfl);(case hr=>first|(go_simp;done)|(go_simp;rfl));intro gb564 hg w3 hbox hb;have n0_:=Zz.mk (Zk (g:=gb563) (o:=.cells #[.int .i64 a0_0,.int .i64 a0_1,.int .i64 a0_2,.int .i64 a0_3,.int .i64 a0_4] 83 (0,0)) (by (with_reducible repeat (first|refine blk_drewN ?_ _|refine Ze ?_|refine blk_alloc ?_ _));exact BK563.out) hb);have n1_:=Zz.mk (Zi (by repeat (first|(with_reducible first|exact HB.out|apply Zb|apply Za|apply Zc|refine Zd ?_ GE563.out)|exact HB.out)) hb);have n2_:=Zz.mk (hbox);have n3_:=Zz.mk ((by rw [hg];exact (Zf (by repeat (first|(with_reducible first|exact HB.out|apply Zb|apply Za|apply Zc|refine Zd ?_ GE563.out)|exact HB.out))):w.heap.size<=gb564));have n4_:=Zz.mk ((by rw [hg];exact (Zf (by repeat (first|(with_reducible first|exact HB.out|apply Zb|apply Za|apply Zc|refine Zd ?_ GE563.out)|exact HB.out))):w.heap.size<=gb564));have n5_:=Zz.mk ((by rw [hg];exact Nat.ne_of_lt (Z5 (g:=gb563) (o:=.cells #[.int .i64 a0_0,.int .i64 a0_1,.int .i64 a0_2,.int .i64 a0_3,.int .i64 a0_4] 83 (0,0)) (by (with_reducible repeat (first|refine blk_drewN ?_ _|refine Ze ?_|refine blk_alloc ?_ _));exact BK563.out)):gb563≠gb564));have n6_:=Zz.mk ((by rw [hg];exact Nat.ne_of_gt (Z5 (g:=gb563) (o:=.cells #[.int .i64 a0_0,.int .i64 a0_1,.int .i64 a0_2,.int .i64 a0_3,.int .i64 a0_4] 83 (0,0)) (by (with_reducible repeat (first|refine blk_drewN ?_ _|refine Ze ?_|refine blk_alloc ?_ _));exact BK563.out)):gb564≠gb563));clear BK563;clear HB;have BK563:=n0_;have HB:=n1_;have BK564:=n2_;have GW564:=n3_;have GE564:=n4_;have NB563_564:=n5_;have NB564_563:=n6_;clear n0_ n1_ n2_ n3_ n4_ n5_ n6_;clear hb hbox hg;have hnb4:=NB563_564.out;have hnc4:=NB564_563.out;have hcz5_0:w3.cell? ⟨gb563,0,none⟩=some (.int .i64 a0_0):=(Zh BK563.out 0).trans rfl;have hcz5_1:w3.cell? ⟨gb563,1,none⟩=some (.int .i64 a0_1):=(Zh BK563.out 1).trans rfl;have hcz5_2:w3.cell? ⟨gb563,2,none⟩=some (.int .i64 a0_2):=(Zh BK563.out 2).trans rfl;have hcz5_3:w3.cell? ⟨gb563,3,none⟩=some (.int .i64 a0_3):=(Zh BK563.out 3).trans rfl;have hcz5_4:w3.cell? ⟨gb563,4,none⟩=some (.int .i64 a0_4):=(Zh BK563.out 4).trans rfl;have hfz5_0:=Zj BK563.out 0;have hfz5_1:=Zj BK563.out 1;have hfz5_2:=Zj BK563.out 2;have hfz5_3:=Zj BK563.out 3;have hfz5_4:=Zj BK563.out 4;have hcz6_0:w3.cell? ⟨gb564,0,none⟩=some (.int .i64 0):=(Zh BK564.out 0).trans rfl;have hcz6_1:w3.cell? ⟨gb564,1,none⟩=some (.int .i64 0):=(Zh BK564.out 1).trans rfl;have hfz6_0:=Zj BK564.out 0;have hfz6_1:=Zj BK564.out 1))
 refine bodyPost_ret (results_cell_row rfl _ _ gb564 34 #[.int .i64 (wrap64 ((Go.bits .and .i64 a0_3 31)-1)),.int .i64 (Go.bits .and .i64 a0_4 31)] (0,0) _ rfl (by (with_reducible repeat (first|refine blk_drewN ?_ _|refine Ze ?_|refine blk_alloc ?_ _));refine Zx (cs:=#[.int .i64 (wrap64 ((Go.bits .and .i64 a0_3 31)-1)),.int .i64 0]) ?_ 1 _ rfl;(with_reducible repeat (first|refine blk_drewN ?_ _|refine Ze ?_|refine blk_alloc ?_ _));refine Zx (cs:=#[.int .i64 0,.int .i64 0]) ?_ 0 _ rfl;(with_reducible repeat (first|refine blk_drewN ?_ _|refine Ze ?_|refine blk_alloc ?_ _));exact BK564.out) Try.underlying34 rfl (by kernel_rfl)) rfl ?_
 exact ⟨by first|rfl|(simp [Zm,Zl]<;>rfl)|(simp [*,Zm,Zl]<;>rfl),by repeat (first|(with_reducible first|exact HB.out|apply Zb|apply Za|apply Zc|refine Zd ?_ GE563.out|refine Zd ?_ GE564.out)|exact HB.out)⟩
end Go.Proofs.Ytfldklimlcnnnaa.PHq
end

section
namespace Go.Proofs.Ytfldklimlcnnnaa.PHq
open Go.RowKit YtfldklimlcnnnaaW.PrintWords YtfldklimlcnnnaaW.PrintLast YtfldklimlcnnnaaW.PrintMore MWords
attribute [local go_sem] max2_int min2_int max_two min_two max_three min_three max_four min_four   -- for this text's walks alone
def r13_holds.f (a0_0:Int) (a0_1:Int) (a0_2:Int) (a0_3:Int) (a0_4:Int) (a0_5:Int) (a0_6:Bool):Option (Int × Int):=if a0_6=true then (if (wrap64 (a0_4*a0_3))>(wrap64 (a0_2*a0_5)) then (some (a0_4,a0_5)) else (some (a0_2,a0_3))) else (some (a0_2,a0_3))
set_option maxHeartbeats 8000000 in
set_option maxRecDepth 100000 in
theorem r13_holds.calls (a0_0:Int) (a0_1:Int) (a0_2:Int) (a0_3:Int) (a0_4:Int) (a0_5:Int) (a0_6:Bool) (r1:Int) (r2:Int) (w:World) (h:r13_holds.f a0_0 a0_1 a0_2 a0_3 a0_4 a0_5 a0_6=some (r1,r2)) :
  Calls Try.prog 116 #[.agg #[.int .i64 a0_0,.int .i64 a0_1,.int .i64 a0_2,.int .i64 a0_3,.int .i64 a0_4,.int .i64 a0_5,.bool a0_6]] w fun e w'=>e=.returned (.agg #[.int .i64 r1,.int .i64 r2])/\Below w.heap.size w w':=by
 have hu86:=Try.underlying86
 have hu34:=Try.underlying34
 have HB:=Zz.mk (Below.refl w.heap.size w)
 have H:(if a0_6=true then (if (wrap64 (a0_4*a0_3))>(wrap64 (a0_2*a0_5)) then (some (a0_4,a0_5)) else (some (a0_2,a0_3))) else (some (a0_2,a0_3)))=some (r1,r2):=h
 clear h
 by_cases c2:a0_6=true
 ·subst c2
  have H1:(if (wrap64 (a0_4*a0_3))>(wrap64 (a0_2*a0_5)) then (some (a0_4,a0_5)) else (some (a0_2,a0_3)))=some (r1,r2):=by rw [if_pos rfl] at H;exact H
  clear H
  have H:=H1
  clear H1
  by_cases c3:(wrap64 (a0_4*a0_3))>(wrap64 (a0_2*a0_5))
  ·rw [if_pos c3] at H
   have c3b0:decide ((wrap64 (a0_2*a0_5))<(wrap64 (a0_4*a0_3)))=true:=decide_eq_true c3
   clear c3
   simp only [Option.some.injEq,Prod.mk.injEq] at H
   obtain ⟨rfl,rfl⟩:=H
   go_enter Try.func116,Try.ntmps116
   go_wp2_with (first|((with_reducible refine Zt (N:=1) rfl ?_);refine Zu ?hg (N:=1) ?hd (cs:=#[.int .i64 a0_0,.int .i64 a0_1,.int .i64 a0_2,.int .i64 a0_3,.int .i64 a0_4,.int .i64 a0_5,.bool true]) (t:=86) ?hr ?_;(case hd=>rfl);(case hg=>rfl);(case hr=>first|(go_simp;done)|(go_simp;rfl));intro gb573 hg w4 hbox hb;have n0_:=Zz.mk (Zi (by repeat (first|(with_reducible first|exact HB.out|apply Zb|apply Za|apply Zc)|exact HB.out)) hb);have n1_:=Zz.mk (hbox);have n2_:=Zz.mk ((by rw [hg];exact (Zf (by repeat (first|(with_reducible first|exact HB.out|apply Zb|apply Za|apply Zc)|exact HB.out))):w.heap.size<=gb573));have n3_:=Zz.mk ((by rw [hg];exact (Zf (by repeat (first|(with_reducible first|exact HB.out|apply Zb|apply Za|apply Zc)|exact HB.out))):w.heap.size<=gb573));clear HB;have HB:=n0_;have BK573:=n1_;have GW573:=n2_;have GE573:=n3_;clear n0_ n1_ n2_ n3_;clear hb hbox hg)|((with_reducible refine Zt (N:=2) rfl ?_);refine Zu ?hg (N:=2) ?hd (cs:=#[.int .i64 0,.int .i64 0]) (t:=34) ?hr ?_;(case hd=>rfl);(case hg=>rfl);(case hr=>first|(go_simp;done)|(go_simp;rfl));intro gb574 hg w5 hbox hb;have n0_:=Zz.mk (Zk (g:=gb573) (o:=.cells #[.int .i64 a0_0,.int .i64 a0_1,.int .i64 a0_2,.int .i64 a0_3,.int .i64 a0_4,.int .i64 a0_5,.bool true] 86 (0,0)) (by (with_reducible repeat (first|refine blk_drewN ?_ _|refine Ze ?_|refine blk_alloc ?_ _));exact BK573.out) hb);have n1_:=Zz.mk (Zi (by repeat (first|(with_reducible first|exact HB.out|apply Zb|apply Za|apply Zc|refine Zd ?_ GE573.out)|exact HB.out)) hb);have n2_:=Zz.mk (hbox);have n3_:=Zz.mk ((by rw [hg];exact (Zf (by repeat (first|(with_reducible first|exact HB.out|apply Zb|apply Za|apply Zc|refine Zd ?_ GE573.out)|exact HB.out))):w.heap.size<=gb574));have n4_:=Zz.mk ((by rw [hg];exact (Zf (by repeat (first|(with_reducible first|exact HB.out|apply Zb|apply Za|apply Zc|refine Zd ?_ GE573.out)|exact HB.out))):w.heap.size<=gb574));have n5_:=Zz.mk ((by rw [hg];exact Nat.ne_of_lt (Z5 (g:=gb573) (o:=.cells #[.int .i64 a0_0,.int .i64 a0_1,.int .i64 a0_2,.int .i64 a0_3,.int .i64 a0_4,.int .i64 a0_5,.bool true] 86 (0,0)) (by (with_reducible repeat (first|refine blk_drewN ?_ _|refine Ze ?_|refine blk_alloc ?_ _));exact BK573.out)):gb573≠gb574));have n6_:=Zz.mk ((by rw [hg];exact Nat.ne_of_gt (Z5 (g:=gb573) (o:=.cells #[.int .i64 a0_0,.int .i64 a0_1,.int .i64 a0_2,.int .i64 a0_3,.int .i64 a0_4,.int .i64 a0_5,.bool true] 86 (0,0)) (by (with_reducible repeat (first|refine blk_drewN ?_ _|refine Ze ?_|refine blk_alloc ?_ _));exact BK573.out)):gb574≠gb573));clear BK573;clear HB;have BK573:=n0_;have HB:=n1_;have BK574:=n2_;have GW574:=n3_;have GE574:=n4_;have NB573_574:=n5_;have NB574_573:=n6_;clear n0_ n1_ n2_ n3_ n4_ n5_ n6_;clear hb hbox hg;have hnb6:=NB573_574.out;have hnc6:=NB574_573.out;have hcz7_0:w5.cell? ⟨gb573,0,none⟩=some (.int .i64 a0_0):=(Zh BK573.out 0).trans rfl;have hcz7_1:w5.cell? ⟨gb573,1,none⟩=some (.int .i64 a0_1):=(Zh BK573.out 1).trans rfl;have hcz7_2:w5.cell? ⟨gb573,2,none⟩=some (.int .i64 a0_2):=(Zh BK573.out 2).trans rfl;have hcz7_3:w5.cell? ⟨gb573,3,none⟩=some (.int .i64 a0_3):=(Zh BK573.out 3).trans rfl;have hcz7_4:w5.cell? ⟨gb573,4,none⟩=some (.int .i64 a0_4):=(Zh BK573.out 4).trans rfl;have hcz7_5:w5.cell? ⟨gb573,5,none⟩=some (.int .i64 a0_5):=(Zh BK573.out 5).trans rfl;have hcz7_6:w5.cell? ⟨gb573,6,none⟩=some (.bool true):=(Zh BK573.out 6).trans rfl;have hfz7_0:=Zj BK573.out 0;have hfz7_1:=Zj BK573.out 1;have hfz7_2:=Zj BK573.out 2;have hfz7_3:=Zj BK573.out 3;have hfz7_4:=Zj BK573.out 4;have hfz7_5:=Zj BK573.out 5;have hfz7_6:=Zj BK573.out 6;have hcz8_0:w5.cell? ⟨gb574,0,none⟩=some (.int .i64 0):=(Zh BK574.out 0).trans rfl;have hcz8_1:w5.cell? ⟨gb574,1,none⟩=some (.int .i64 0):=(Zh BK574.out 1).trans rfl;have hfz8_0:=Zj BK574.out 0;have hfz8_1:=Zj BK574.out 1))
   refine bodyPost_ret (results_cell_row rfl _ _ gb574 34 #[.int .i64 a0_4,.int .i64 a0_5] (0,0) _ rfl (by (with_reducible repeat (first|refine blk_drewN ?_ _|refine Ze ?_|refine blk_alloc ?_ _));refine Zx (cs:=#[.int .i64 a0_4,.int .i64 0]) ?_ 1 _ rfl;(with_reducible repeat (first|refine blk_drewN ?_ _|refine Ze ?_|refine blk_alloc ?_ _));refine Zx (cs:=#[.int .i64 0,.int .i64 0]) ?_ 0 _ rfl;(with_reducible repeat (first|refine blk_drewN ?_ _|refine Ze ?_|refine blk_alloc ?_ _));exact BK574.out) Try.underlying34 rfl (by kernel_rfl)) rfl ?_
   exact ⟨by first|rfl|(simp [Zm,Zl]<;>rfl)|(simp [*,Zm,Zl]<;>rfl),by repeat (first|(with_reducible first|exact HB.out|apply Zb|apply Za|apply Zc|refine Zd ?_ GE573.out|refine Zd ?_ GE574.out)|exact HB.out)⟩
  ·rw [if_neg c3] at H
   have c3b0:decide ((wrap64 (a0_2*a0_5))<(wrap64 (a0_4*a0_3)))=false:=decide_eq_false c3
   clear c3
   simp only [Option.some.injEq,Prod.mk.injEq] at H
   obtain ⟨rfl,rfl⟩:=H
   go_enter Try.func116,Try.ntmps116
   go_wp2_with (first|((with_reducible refine Zt (N:=1) rfl ?_);refine Zu ?hg (N:=1) ?hd (cs:=#[.int .i64 a0_0,.int .i64 a0_1,.int .i64 a0_2,.int .i64 a0_3,.int .i64 a0_4,.int .i64 a0_5,.bool true]) (t:=86) ?hr ?_;(case hd=>rfl);(case hg=>rfl);(case hr=>first|(go_simp;done)|(go_simp;rfl));intro gb573 hg w9 hbox hb;have n0_:=Zz.mk (Zi (by repeat (first|(with_reducible first|exact HB.out|apply Zb|apply Za|apply Zc)|exact HB.out)) hb);have n1_:=Zz.mk (hbox);have n2_:=Zz.mk ((by rw [hg];exact (Zf (by repeat (first|(with_reducible first|exact HB.out|apply Zb|apply Za|apply Zc)|exact HB.out))):w.heap.size<=gb573));have n3_:=Zz.mk ((by rw [hg];exact (Zf (by repeat (first|(with_reducible first|exact HB.out|apply Zb|apply Za|apply Zc)|exact HB.out))):w.heap.size<=gb573));clear HB;have HB:=n0_;have BK573:=n1_;have GW573:=n2_;have GE573:=n3_;clear n0_ n1_ n2_ n3_;clear hb hbox hg)|((with_reducible refine Zt (N:=2) rfl ?_);refine Zu ?hg (N:=2) ?hd (cs:=#[.int .i64 0,.int .i64 0]) (t:=34) ?hr ?_;(case hd=>rfl);(case hg=>rfl);(case hr=>first|(go_simp;done)|(go_simp;rfl));intro gb574 hg w10 hbox hb;have n0_:=Zz.mk (Zk (g:=gb573) (o:=.cells #[.int .i64 a0_0,.int .i64 a0_1,.int .i64 a0_2,.int .i64 a0_3,.int .i64 a0_4,.int .i64 a0_5,.bool true] 86 (0,0)) (by (with_reducible repeat (first|refine blk_drewN ?_ _|refine Ze ?_|refine blk_alloc ?_ _));exact BK573.out) hb);have n1_:=Zz.mk (Zi (by repeat (first|(with_reducible first|exact HB.out|apply Zb|apply Za|apply Zc|refine Zd ?_ GE573.out)|exact HB.out)) hb);have n2_:=Zz.mk (hbox);have n3_:=Zz.mk ((by rw [hg];exact (Zf (by repeat (first|(with_reducible first|exact HB.out|apply Zb|apply Za|apply Zc|refine Zd ?_ GE573.out)|exact HB.out))):w.heap.size<=gb574));have n4_:=Zz.mk ((by rw [hg];exact (Zf (by repeat (first|(with_reducible first|exact HB.out|apply Zb|apply Za|apply Zc|refine Zd ?_ GE573.out)|exact HB.out))):w.heap.size<=gb574));have n5_:=Zz.mk ((by rw [hg];exact Nat.ne_of_lt (Z5 (g:=gb573) (o:=.cells #[.int .i64 a0_0,.int .i64 a0_1,.int .i64 a0_2,.int .i64 a0_3,.int .i64 a0_4,.int .i64 a0_5,.bool true] 86 (0,0)) (by (with_reducible repeat (first|refine blk_drewN ?_ _|refine Ze ?_|refine blk_alloc ?_ _));exact BK573.out)):gb573≠gb574));have n6_:=Zz.mk ((by rw [hg];exact Nat.ne_of_gt (Z5 (g:=gb573) (o:=.cells #[.int .i64 a0_0,.int .i64 a0_1,.int .i64 a0_2,.int .i64 a0_3,.int .i64 a0_4,.int .i64 a0_5,.bool true] 86 (0,0)) (by (with_reducible repeat (first|refine blk_drewN ?_ _|refine Ze ?_|refine blk_alloc ?_ _));exact BK573.out)):gb574≠gb573));clear BK573;clear HB;have BK573:=n0_;have HB:=n1_;have BK574:=n2_;have GW574:=n3_;have GE574:=n4_;have NB573_574:=n5_;have NB574_573:=n6_;clear n0_ n1_ n2_ n3_ n4_ n5_ n6_;clear hb hbox hg;have hnb11:=NB573_574.out;have hnc11:=NB574_573.out;have hcz12_0:w10.cell? ⟨gb573,0,none⟩=some (.int .i64 a0_0):=(Zh BK573.out 0).trans rfl;have hcz12_1:w10.cell? ⟨gb573,1,none⟩=some (.int .i64 a0_1):=(Zh BK573.out 1).trans rfl;have hcz12_2:w10.cell? ⟨gb573,2,none⟩=some (.int .i64 a0_2):=(Zh BK573.out 2).trans rfl;have hcz12_3:w10.cell? ⟨gb573,3,none⟩=some (.int .i64 a0_3):=(Zh BK573.out 3).trans rfl;have hcz12_4:w10.cell? ⟨gb573,4,none⟩=some (.int .i64 a0_4):=(Zh BK573.out 4).trans rfl;have hcz12_5:w10.cell? ⟨gb573,5,none⟩=some (.int .i64 a0_5):=(Zh BK573.out 5).trans rfl;have hcz12_6:w10.cell? ⟨gb573,6,none⟩=some (.bool true):=(Zh BK573.out 6).trans rfl;have hfz12_0:=Zj BK573.out 0;have hfz12_1:=Zj BK573.out 1;have hfz12_2:=Zj BK573.out 2;have hfz12_3:=Zj BK573.out 3;have hfz12_4:=Zj BK573.out 4;have hfz12_5:=Zj BK573.out 5;have hfz12_6:=Zj BK573.out 6;have hcz13_0:w10.cell? ⟨gb574,0,none⟩=some (.int .i64 0):=(Zh BK574.out 0).trans rfl;have hcz13_1:w10.cell? ⟨gb574,1,none⟩=some (.int .i64 0):=(Zh BK574.out 1).trans rfl;have hfz13_0:=Zj BK574.out 0;have hfz13_1:=Zj BK574.out 1))
   refine bodyPost_ret (results_cell_row rfl _ _ gb574 34 #[.int .i64 a0_2,.int .i64 a0_3] (0,0) _ rfl (by (with_reducible repeat (first|refine blk_drewN ?_ _|refine Ze ?_|refine blk_alloc ?_ _));refine Zx (cs:=#[.int .i64 a0_2,.int .i64 0]) ?_ 1 _ rfl;(with_reducible repeat (first|refine blk_drewN ?_ _|refine Ze ?_|refine blk_alloc ?_ _));refine Zx (cs:=#[.int .i64 0,.int .i64 0]) ?_ 0 _ rfl;(with_reducible repeat (first|refine blk_drewN ?_ _|refine Ze ?_|refine blk_alloc ?_ _));exact BK574.out) Try.underlying34 rfl (by kernel_rfl)) rfl ?_
   exact ⟨by first|rfl|(simp [Zm,Zl]<;>rfl)|(simp [*,Zm,Zl]<;>rfl),by repeat (first|(with_reducible first|exact HB.out|apply Zb|apply Za|apply Zc|refine Zd ?_ GE573.out|refine Zd ?_ GE574.out)|exact HB.out)⟩
 ·replace c2:=Bool.eq_false_iff.mpr c2
  subst c2
  have H1:(some (a0_2,a0_3))=some (r1,r2):=by rw [if_neg (show ¬ (false=true) by decide)] at H;exact H
  clear H
  have H:=H1
  clear H1
  simp only [Option.some.injEq,Prod.mk.injEq] at H
  obtain ⟨rfl,rfl⟩:=H
  go_enter Try.func116,Try.ntmps116
  go_wp2_with (first|((with_reducible refine Zt (N:=1) rfl ?_);refine Zu ?hg (N:=1) ?hd (cs:=#[.int .i64 a0_0,.int .i64 a0_1,.int .i64 a0_2,.int .i64 a0_3,.int .i64 a0_4,.int .i64 a0_5,.bool false]) (t:=86) ?hr ?_;(case hd=>rfl);(case hg=>rfl);(case hr=>first|(go_simp;done)|(go_simp;rfl));intro gb573 hg w14 hbox hb;have n0_:=Zz.mk (Zi (by repeat (first|(with_reducible first|exact HB.out|apply Zb|apply Za|apply Zc)|exact HB.out)) hb);have n1_:=Zz.mk (hbox);have n2_:=Zz.mk ((by rw [hg];exact (Zf (by repeat (first|(with_reducible first|exact HB.out|apply Zb|apply Za|apply Zc)|exact HB.out))):w.heap.size<=gb573));have n3_:=Zz.mk ((by rw [hg];exact (Zf (by repeat (first|(with_reducible first|exact HB.out|apply Zb|apply Za|apply Zc)|exact HB.out))):w.heap.size<=gb573));clear HB;have HB:=n0_;have BK573:=n1_;have GW573:=n2_;have GE573:=n3_;clear n0_ n1_ n2_ n3_;clear hb hbox hg)|((with_reducible refine Zt (N:=2) rfl ?_);refine Zu ?hg (N:=2) ?hd (cs:=#[.int .i64 0,.int .i64 0]) (t:=34) ?hr ?_;(case hd=>rfl);(case hg=>rfl);(case hr=>first|(go_simp;done)|(go_simp;rfl));intro gb574 hg w15 hbox hb;have n0_:=Zz.mk (Zk (g:=gb573) (o:=.cells #[.int .i64 a0_0,.int .i64 a0_1,.int .i64 a0_2,.int .i64 a0_3,.int .i64 a0_4,.int .i64 a0_5,.bool false] 86 (0,0)) (by (with_reducible repeat (first|refine blk_drewN ?_ _|refine Ze ?_|refine blk_alloc ?_ _));exact BK573.out) hb);have n1_:=Zz.mk (Zi (by repeat (first|(with_reducible first|exact HB.out|apply Zb|apply Za|apply Zc|refine Zd ?_ GE573.out)|exact HB.out)) hb);have n2_:=Zz.mk (hbox);have n3_:=Zz.mk ((by rw [hg];exact (Zf (by repeat (first|(with_reducible first|exact HB.out|apply Zb|apply Za|apply Zc|refine Zd ?_ GE573.out)|exact HB.out))):w.heap.size<=gb574));have n4_:=Zz.mk ((by rw [hg];exact (Zf (by repeat (first|(with_reducible first|exact HB.out|apply Zb|apply Za|apply Zc|refine Zd ?_ GE573.out)|exact HB.out))):w.heap.size<=gb574));have n5_:=Zz.mk ((by rw [hg];exact Nat.ne_of_lt (Z5 (g:=gb573) (o:=.cells #[.int .i64 a0_0,.int .i64 a0_1,.int .i64 a0_2,.int .i64 a0_3,.int .i64 a0_4,.int .i64 a0_5,.bool false] 86 (0,0)) (by (with_reducible repeat (first|refine blk_drewN ?_ _|refine Ze ?_|refine blk_alloc ?_ _));exact BK573.out)):gb573≠gb574));have n6_:=Zz.mk ((by rw [hg];exact Nat.ne_of_gt (Z5 (g:=gb573) (o:=.cells #[.int .i64 a0_0,.int .i64 a0_1,.int .i64 a0_2,.int .i64 a0_3,.int .i64 a0_4,.int .i64 a0_5,.bool false] 86 (0,0)) (by (with_reducible repeat (first|refine blk_drewN ?_ _|refine Ze ?_|refine blk_alloc ?_ _));exact BK573.out)):gb574≠gb573));clear BK573;clear HB;have BK573:=n0_;have HB:=n1_;have BK574:=n2_;have GW574:=n3_;have GE574:=n4_;have NB573_574:=n5_;have NB574_573:=n6_;clear n0_ n1_ n2_ n3_ n4_ n5_ n6_;clear hb hbox hg;have hnb16:=NB573_574.out;have hnc16:=NB574_573.out;have hcz17_0:w15.cell? ⟨gb573,0,none⟩=some (.int .i64 a0_0):=(Zh BK573.out 0).trans rfl;have hcz17_1:w15.cell? ⟨gb573,1,none⟩=some (.int .i64 a0_1):=(Zh BK573.out 1).trans rfl;have hcz17_2:w15.cell? ⟨gb573,2,none⟩=some (.int .i64 a0_2):=(Zh BK573.out 2).trans rfl;have hcz17_3:w15.cell? ⟨gb573,3,none⟩=some (.int .i64 a0_3):=(Zh BK573.out 3).trans rfl;have hcz17_4:w15.cell? ⟨gb573,4,none⟩=some (.int .i64 a0_4):=(Zh BK573.out 4).trans rfl;have hcz17_5:w15.cell? ⟨gb573,5,none⟩=some (.int .i64 a0_5):=(Zh BK573.out 5).trans rfl;have hcz17_6:w15.cell? ⟨gb573,6,none⟩=some (.bool false):=(Zh BK573.out 6).trans rfl;have hfz17_0:=Zj BK573.out 0;have hfz17_1:=Zj BK573.out 1;have hfz17_2:=Zj BK573.out 2;have hfz17_3:=Zj BK573.out 3;have hfz17_4:=Zj BK573.out 4;have hfz17_5:=Zj BK573.out 5;have hfz17_6:=Zj BK573.out 6;have hcz18_0:w15.cell? ⟨gb574,0,none⟩=some (.int .i64 0):=(Zh BK574.out 0).trans rfl;have hcz18_1:w15.cell? ⟨gb574,1,none⟩=some (.int .i64 0):=(Zh BK574.out 1).trans rfl;have hfz18_0:=Zj BK574.out 0;have hfz18_1:=Zj BK574.out 1))
  refine bodyPost_ret (results_cell_row rfl _ _ gb574 34 #[.int .i64 a0_2,.int .i64 a0_3] (0,0) _ rfl (by (with_reducible repeat (first|refine blk_drewN ?_ _|refine Ze ?_|refine blk_alloc ?_ _));refine Zx (cs:=#[.int .i64 a0_2,.int .i64 0]) ?_ 1 _ rfl;(with_reducible repeat (first|refine blk_drewN ?_ _|refine Ze ?_|refine blk_alloc ?_ _));refine Zx (cs:=#[.int .i64 0,.int .i64 0]) ?_ 0 _ rfl;(with_reducible repeat (first|refine blk_drewN ?_ _|refine Ze ?_|refine blk_alloc ?_ _));exact BK574.out) Try.underlying34 rfl (by kernel_rfl)) rfl ?_
  exact ⟨by first|rfl|(simp [Zm,Zl]<;>rfl)|(simp [*,Zm,Zl]<;>rfl),by repeat (first|(with_reducible first|exact HB.out|apply Zb|apply Za|apply Zc|refine Zd ?_ GE573.out|refine Zd ?_ GE574.out)|exact HB.out)⟩
end Go.Proofs.Ytfldklimlcnnnaa.PHq
end

section
namespace Go.Proofs.Ytfldklimlcnnnaa.PHq
open Go.RowKit YtfldklimlcnnnaaW.PrintWords YtfldklimlcnnnaaW.PrintLast YtfldklimlcnnnaaW.PrintMore MWords
attribute [local go_sem] max2_int min2_int max_two min_two max_three min_three max_four min_four   -- for this text's walks alone
def r04_Check.f (a0_0:Int) (a0_1:Int):Option (Bool):=if a0_0 ≥ 1 then (if a0_0<=a0_1 then (some (decide (a0_1<=1048576))) else (some false)) else (some false)
set_option maxHeartbeats 8000000 in
set_option maxRecDepth 100000 in
theorem r04_Check.calls (a0_0:Int) (a0_1:Int) (r:Bool) (w:World) (h:r04_Check.f a0_0 a0_1=some r) :
  Calls Try.prog 77 #[.agg #[.int .i64 a0_0,.int .i64 a0_1]] w fun e w'=>e=.returned (.bool r)/\Below w.heap.size w w':=by
 have hu34:=Try.underlying34
 have HB:=Zz.mk (Below.refl w.heap.size w)
 have H:(if a0_0 ≥ 1 then (if a0_0<=a0_1 then (some (decide (a0_1<=1048576))) else (some false)) else (some false))=some r:=h
 clear h
 by_cases c2:a0_0 ≥ 1
 ·rw [if_pos c2] at H
  have c2b0:decide (1<=a0_0)=true:=decide_eq_true c2
  clear c2
  by_cases c3:a0_0<=a0_1
  ·rw [if_pos c3] at H
   have c3b0:decide (a0_0<=a0_1)=true:=decide_eq_true c3
   clear c3
   obtain rfl:=Option.some.inj H
   go_enter Try.func77,Try.ntmps77
   go_wp2_with (first|((with_reducible refine Zt (N:=1) rfl ?_);refine Zu ?hg (N:=1) ?hd (cs:=#[.int .i64 a0_0,.int .i64 a0_1]) (t:=34) ?hr ?_;(case hd=>rfl);(case hg=>rfl);(case hr=>first|(go_simp;done)|(go_simp;rfl));intro gb454 hg w4 hbox hb;have n0_:=Zz.mk (Zi (by repeat (first|(with_reducible first|exact HB.out|apply Zb|apply Za|apply Zc)|exact HB.out)) hb);have n1_:=Zz.mk (hbox);have n2_:=Zz.mk ((by rw [hg];exact (Zf (by repeat (first|(with_reducible first|exact HB.out|apply Zb|apply Za|apply Zc)|exact HB.out))):w.heap.size<=gb454));have n3_:=Zz.mk ((by rw [hg];exact (Zf (by repeat (first|(with_reducible first|exact HB.out|apply Zb|apply Za|apply Zc)|exact HB.out))):w.heap.size<=gb454));clear HB;have HB:=n0_;have BK454:=n1_;have GW454:=n2_;have GE454:=n3_;clear n0_ n1_ n2_ n3_;clear hb hbox hg;have hcz5_0:w4.cell? ⟨gb454,0,none⟩=some (.int .i64 a0_0):=(Zh BK454.out 0).trans rfl;have hcz5_1:w4.cell? ⟨gb454,1,none⟩=some (.int .i64 a0_1):=(Zh BK454.out 1).trans rfl;have hfz5_0:=Zj BK454.out 0;have hfz5_1:=Zj BK454.out 1))
   go_ret
   exact ⟨by first|rfl|(simp [Zm,Zl]<;>rfl)|(simp [*,Zm,Zl]<;>rfl),by repeat (first|(with_reducible first|exact HB.out|apply Zb|apply Za|apply Zc|refine Zd ?_ GE454.out)|exact HB.out)⟩
  ·rw [if_neg c3] at H
   have c3b0:decide (a0_0<=a0_1)=false:=decide_eq_false c3
   clear c3
   obtain rfl:=Option.some.inj H
   go_enter Try.func77,Try.ntmps77
   go_wp2_with (first|((with_reducible refine Zt (N:=1) rfl ?_);refine Zu ?hg (N:=1) ?hd (cs:=#[.int .i64 a0_0,.int .i64 a0_1]) (t:=34) ?hr ?_;(case hd=>rfl);(case hg=>rfl);(case hr=>first|(go_simp;done)|(go_simp;rfl));intro gb454 hg w6 hbox hb;have n0_:=Zz.mk (Zi (by repeat (first|(with_reducible first|exact HB.out|apply Zb|apply Za|apply Zc)|exact HB.out)) hb);have n1_:=Zz.mk (hbox);have n2_:=Zz.mk ((by rw [hg];exact (Zf (by repeat (first|(with_reducible first|exact HB.out|apply Zb|apply Za|apply Zc)|exact HB.out))):w.heap.size<=gb454));have n3_:=Zz.mk ((by rw [hg];exact (Zf (by repeat (first|(with_reducible first|exact HB.out|apply Zb|apply Za|apply Zc)|exact HB.out))):w.heap.size<=gb454));clear HB;have HB:=n0_;have BK454:=n1_;have GW454:=n2_;have GE454:=n3_;clear n0_ n1_ n2_ n3_;clear hb hbox hg;have hcz7_0:w6.cell? ⟨gb454,0,none⟩=some (.int .i64 a0_0):=(Zh BK454.out 0).trans rfl;have hcz7_1:w6.cell? ⟨gb454,1,none⟩=some (.int .i64 a0_1):=(Zh BK454.out 1).trans rfl;have hfz7_0:=Zj BK454.out 0;have hfz7_1:=Zj BK454.out 1))
   go_ret
   exact ⟨by first|rfl|(simp [Zm,Zl]<;>rfl)|(simp [*,Zm,Zl]<;>rfl),by repeat (first|(with_reducible first|exact HB.out|apply Zb|apply Za|apply Zc|refine Zd ?_ GE454.out)|exact HB.out)⟩
 ·rw [if_neg c2] at H
  have c2b0:decide (1<=a0_0)=false:=decide_eq_false c2
  clear c2
  obtain rfl:=Option.some.inj H
  go_enter Try.func77,Try.ntmps77
  go_wp2_with (first|((with_reducible refine Zt (N:=1) rfl ?_);refine Zu ?hg (N:=1) ?hd (cs:=#[.int .i64 a0_0,.int .i64 a0_1]) (t:=34) ?hr ?_;(case hd=>rfl);(case hg=>rfl);(case hr=>first|(go_simp;done)|(go_simp;rfl));intro gb454 hg w8 hbox hb;have n0_:=Zz.mk (Zi (by repeat (first|(with_reducible first|exact HB.out|apply Zb|apply Za|apply Zc)|exact HB.out)) hb);have n1_:=Zz.mk (hbox);have n2_:=Zz.mk ((by rw [hg];exact (Zf (by repeat (first|(with_reducible first|exact HB.out|apply Zb|apply Za|apply Zc)|exact HB.out))):w.heap.size<=gb454));have n3_:=Zz.mk ((by rw [hg];exact (Zf (by repeat (first|(with_reducible first|exact HB.out|apply Zb|apply Za|apply Zc)|exact HB.out))):w.heap.size<=gb454));clear HB;have HB:=n0_;have BK454:=n1_;have GW454:=n2_;have GE454:=n3_;clear n0_ n1_ n2_ n3_;clear hb hbox hg;have hcz9_0:w8.cell? ⟨gb454,0,none⟩=some (.int .i64 a0_0):=(Zh BK454.out 0).trans rfl;have hcz9_1:w8.cell? ⟨gb454,1,none⟩=some (.int .i64 a0_1):=(Zh BK454.out 1).trans rfl;have hfz9_0:=Zj BK454.out 0;have hfz9_1:=Zj BK454.out 1))
  go_ret
  exact ⟨by first|rfl|(simp [Zm,Zl]<;>rfl)|(simp [*,Zm,Zl]<;>rfl),by repeat (first|(with_reducible first|exact HB.out|apply Zb|apply Za|apply Zc|refine Zd ?_ GE454.out)|exact HB.out)⟩
end Go.Proofs.Ytfldklimlcnnnaa.PHq
end

section
namespace Go.Proofs.Ytfldklimlcnnnaa.QEv
def Tell {α:Type} (f:Nat->Option α) (r:α):Prop:=∃k0,∀k,k0<=k->f k=some r
theorem Tell.const {α:Type} (r:α):Tell (fun _=>some r) r:=⟨0,fun _ _=>rfl⟩
theorem Tell.bind {α β:Type} {f:Nat->Option α} {g:Nat->α->Option β} {a:α} {b:β} (h:Tell f a) (h2:Tell (fun k=>g k a) b):Tell (fun k=>(f k).bind (g k)) b:=by
 obtain ⟨k0,h0⟩:=h
 obtain ⟨k1,h1⟩:=h2
 exact ⟨max k0 k1,fun k hk=>by show (f k).bind (g k)=some b;rw [h0 k (by omega)];exact h1 k (by omega)⟩
theorem Tell.step {α:Type} {f g:Nat->Option α} {r:α} (h:∀k,f (k+1)=g k) (hg:Tell g r):Tell f r:=by
 obtain ⟨k0,h0⟩:=hg
 refine ⟨k0+1,fun k hk=>?_⟩
 obtain ⟨j,rfl⟩:∃j,k=j+1:=⟨k-1,by omega⟩
 rw [h j];exact h0 j (by omega)
theorem Tell.of {α:Type} {f g:Nat->Option α} {r:α} (h:∀k,f k=g k) (hg:Tell g r):Tell f r:=by
 obtain ⟨k0,h0⟩:=hg
 exact ⟨k0,fun k hk=>by rw [h k];exact h0 k hk⟩
theorem Tell.get {α:Type} {f:Nat->Option α} {r:α} (h:Tell f r):∃k,f k=some r:=⟨_,h.choose_spec _ (Nat.le_refl _)⟩
end Go.Proofs.Ytfldklimlcnnnaa.QEv
end

section
namespace Go.Proofs.Ytfldklimlcnnnaa.QNat
open Go.RowKit YtfldklimlcnnnaaW.PrintWords YtfldklimlcnnnaaW.PrintLast YtfldklimlcnnnaaW.PrintMore
open MNat PHq
theorem w64 {x:Int} (h0 : -9223372036854775808<=x) (h1:x<=9223372036854775807):wrap64 x=x:=by unfold wrap64;omega
theorem rd_nat (l:List Int) (i:Nat):rd l (i:Int)=l.getD i 0:=by simp [rd]
theorem snoc_cases (l:List Int):l = [] ∨ ∃ys x,l=ys++[x]:=by
 induction l using rev_ind with
 | h0=>exact .inl rfl
 | h1 xs x _=>exact .inr ⟨xs,x,rfl⟩
theorem check_f (l:List Int) (h:isN l):nat_Check.f l=some true:=by
 have hl:=h.2
 unfold nat_Check.f
 rcases limbs_last (nval l) with h0|⟨ys,x,h0,hx⟩
 ·rw [<-h.1] at h0;subst h0;rfl
 ·rw [<-h.1] at h0
  rw [h0] at hl ⊢
  have e:wrap64 (((ys++[x]).length:Int)-1)=(ys.length:Int):=by simp only [List.length_append,List.length_singleton] at hl ⊢;rw [w64 (by omega) (by omega)];omega
  have r:rd (ys++[x]) (ys.length:Int)=x:=by rw [rd_nat];simp [List.getD]
  rw [if_neg (by simp;omega),e,r,if_pos (by omega),if_pos (by simp;omega)]
  simp [hx]
def cmpI (a b:Nat):Int:=if a<b then -1 else if a=b then 0 else 1
theorem cmpi (a b:Nat):cmp_Compare_int.f (a:Int) (b:Int)=some (cmpI a b):=by
 unfold cmp_Compare_int.f cmp_isNaN_int.f cmpI
 simp only [Option.bind_some,bne_self_eq_false,Bool.false_eq_true,if_false]
 by_cases h:a<b
 ·rw [if_pos (by omega),if_pos h]
 ·rw [if_neg (by omega),if_neg h]
  by_cases h2:a=b
  ·rw [if_neg (by omega),if_pos h2]
  ·rw [if_pos (by omega),if_neg h2]
theorem cmpu (a b:Int):cmp_Compare_uint32.f a b=some (if a<b then -1 else if a=b then 0 else 1):=by
 unfold cmp_Compare_uint32.f cmp_isNaN_uint32.f
 simp only [Option.bind_some,bne_self_eq_false,Bool.false_eq_true,if_false]
 by_cases h:a<b
 ·rw [if_pos h,if_pos h]
 ·rw [if_neg h,if_neg h]
  by_cases h2:a=b
  ·rw [if_neg (by omega),if_pos h2]
  ·rw [if_pos (by omega),if_neg h2]
theorem nval_cmp_last {xs ys:List Int} {x y:Int} (hx:Lim (xs++[x])) (hy:Lim (ys++[y])) (hl:xs.length=ys.length) (h:x<y) (zs:List Int) (hz:Lim zs):nval (xs++[x]++zs)<nval (ys++[y]++zs):=by
 have h1:=nval_lt (lim_append.1 hx).1
 have h2:=(lim_append.1 hx).2 x (by simp)
 have h3:=(lim_append.1 hy).2 y (by simp)
 rw [nval_append,nval_append (ys++[y]),nval_snoc,nval_snoc]
 simp only [List.length_append,List.length_singleton,<-hl]
 have h4:4294967296 ^ xs.length*(x.toNat+1)<=4294967296 ^ xs.length*y.toNat:=Nat.mul_le_mul_left _ (by omega)
 rw [Nat.mul_add,Nat.mul_one] at h4
 omega
theorem drop_cons (l:List Int) (i:Nat) (h:i<l.length):l.drop i=l.getD i 0::l.drop (i+1):=by
 rw [List.drop_eq_getElem_cons h];simp [List.getD,h]
theorem parts_at (l:List Int) (i:Nat) (h:i<l.length):l=(l.take i++[l.getD i 0])++l.drop (i+1):=by
 rw [List.append_assoc,List.singleton_append,<-drop_cons l i h,List.take_append_drop]
theorem cmp_l (a b:List Int) (ha:Lim a) (hb:Lim b) (hab:a.length=b.length) (hl:a.length<=1000000000) (d:Nat):∀ (k i:Nat),i<=a.length->a.length-i=d->d<k->a.drop (a.length-i)=b.drop (a.length-i) →
  nat_Cmp.l0 k a b (a.length:Int) (i:Int)=some (cmpI (nval a) (nval b)):=by
 induction d with
 | zero =>
  intro k i hi hd hk he
  obtain ⟨k,rfl⟩:∃m,k=m+1:=⟨k-1,by omega⟩
  simp only [nat_Cmp.l0]
  rw [if_neg (by omega)]
  rw [hd] at he
  simp at he
  simp [he,cmpI]
 | succ d ih =>
  intro k i hi hd hk he
  obtain ⟨k,rfl⟩:∃m,k=m+1:=⟨k-1,by omega⟩
  have e:wrap64 (wrap64 ((a.length:Int)-1)-(i:Int))=(d:Int):=by rw [w64 (by rw [w64 (by omega) (by omega)];omega) (by rw [w64 (by omega) (by omega)];omega),w64 (by omega) (by omega)];omega
  simp only [nat_Cmp.l0,e]
  rw [if_pos (by omega),if_pos (by omega),if_pos (by omega),if_pos (by omega),rd_nat,rd_nat]
  rw [hd] at he
  by_cases h:a.getD d 0=b.getD d 0
  ·rw [if_pos h,w64 (by omega) (by omega)]
   exact ih k (i+1) (by omega) (by omega) (by omega) (by rw [show a.length-(i+1)=d by omega,drop_cons a d (by omega),drop_cons b d (by omega),he,h])
  ·rw [if_neg h,cmpu]
   simp only [Option.bind_some]
   have pa:=parts_at a d (by omega)
   have pb:=parts_at b d (by omega)
   rw [<-he] at pb
   have hz:Lim (a.drop (d+1)):=lim_drop ha _
   have la:Lim (a.take d++[a.getD d 0]):=lim_append.2 ⟨lim_take ha _,fun y hy=>by simp at hy;subst hy;have:=lim_getD ha d;simpa [List.getD] using this⟩
   have lb:Lim (b.take d++[b.getD d 0]):=lim_append.2 ⟨lim_take hb _,fun y hy=>by simp at hy;subst hy;have:=lim_getD hb d;simpa [List.getD] using this⟩
   by_cases hlt:a.getD d 0<b.getD d 0
   ·rw [if_pos hlt]
    have:=nval_cmp_last la lb (by simp;omega) hlt _ hz
    rw [<-pa,<-pb] at this
    simp [cmpI,this]
   ·rw [if_neg hlt,if_neg h]
    have:=nval_cmp_last lb la (by simp;omega) (by omega) _ hz
    rw [<-pa,<-pb] at this
    have h1:¬ nval a<nval b:=by omega
    have h2:¬ nval a=nval b:=by omega
    simp [cmpI,h1,h2]
theorem limbs_len_lt {n m:Nat} (h:(limbs n).length<(limbs m).length):n<m:=by
 rcases Nat.lt_or_ge n m with h1|h1
 ·exact h1
 ·have:=limbs_length_le h1;omega
theorem cmp_f (k:Nat) (a b:List Int) (ha:isN a) (hb:isN b) (hk:a.length<k):nat_Cmp.f k a b=some (cmpI (nval a) (nval b)):=by
 have hl:=ha.2
 unfold nat_Cmp.f
 by_cases h:a.length=b.length
 ·rw [if_pos (by omega)]
  exact cmp_l a b ha.lim hb.lim h (by omega) a.length k 0 (by omega) (by omega) hk (by simp [h])
 ·rw [if_neg (by omega),cmpi]
  simp only [Option.bind_some]
  congr 1
  unfold cmpI
  have h1:=ha.1
  have h2:=hb.1
  rcases Nat.lt_or_gt_of_ne h with h3|h3
  ·have:nval a<nval b:=limbs_len_lt (by rw [<-h1,<-h2];exact h3)
   rw [if_pos h3,if_pos this]
  ·have:nval b<nval a:=limbs_len_lt (by rw [<-h1,<-h2];exact h3)
   rw [if_neg (by omega),if_neg (by omega),if_neg (by omega),if_neg (by omega)]
theorem of_f (n:Int) (h0:0<=n) (h1:n<18446744073709551616):nat_Of.f n=some (limbs n.toNat):=by
 unfold nat_Of.f nat_cut.f
 simp only [Option.bind_some]
 have hL:Lim [n % 4294967296,n / 4294967296 % 4294967296]:=by
  intro x hx
  simp at hx
  omega
 rw [trim_eq hL]
 congr 2
 simp [nval]
 omega
theorem add_f (a b:List Int) (ha:isN a) (hb:isN b):nat_Add.f a b=some (limbs (nval a+nval b)):=by unfold nat_Add.f;rw [if_pos ⟨ha,hb⟩]
theorem mul_f (a b:List Int) (ha:isN a) (hb:isN b):nat_Mul.f a b=some (limbs (nval a*nval b)):=by unfold nat_Mul.f;rw [if_pos ⟨ha,hb⟩]
end Go.Proofs.Ytfldklimlcnnnaa.QNat
end

section
namespace Go.Proofs.Ytfldklimlcnnnaa.QText
open Go.RowKit YtfldklimlcnnnaaW.PrintWords YtfldklimlcnnnaaW.PrintLast YtfldklimlcnnnaaW.PrintMore
open MNat PHq QNat
theorem wu64 {x:Int} (h0:0<=x) (h1:x<18446744073709551616):IntKind.u64.wrap x=x:=by rw [IntKind.wrap_u64];omega
end Go.Proofs.Ytfldklimlcnnnaa.QText
end

section
namespace Go.Proofs.Ytfldklimlcnnnaa.QText
open Go.RowKit YtfldklimlcnnnaaW.PrintWords YtfldklimlcnnnaaW.PrintLast YtfldklimlcnnnaaW.PrintMore
open MNat PHq QNat
theorem limb_at {l:List Int} (h:Lim l) (i:Nat):∃d:Nat,l.getD i 0=(d:Int)/\d<4294967296:=⟨(l.getD i 0).toNat,by have:=lim_getD h i;omega,by have:=lim_getD h i;omega⟩
theorem take_nval {l:List Int} (i d:Nat) (h:l.getD i 0=(d:Int)):nval (l.take (i+1))=nval (l.take i)+4294967296 ^ i*d:=by
 by_cases hi:i<l.length
 ·rw [take_succ_rd _ _ hi,nval_snoc,h,List.length_take,Nat.min_eq_left (by omega),Int.toNat_natCast]
 ·have:d=0:=by simp [List.getD,List.getElem?_eq_none (Nat.le_of_not_lt hi)] at h;omega
  subst this
  rw [List.take_of_length_le (by omega),List.take_of_length_le (by omega)];simp
theorem nat_at_f (l:List Int) (k:Nat) (h:Lim l):nat_at.f l (k:Int)=some (l.getD k 0):=by
 have hb:=lim_getD h k
 unfold nat_at.f
 by_cases hk:k<l.length
 ·rw [if_pos (by omega),if_pos (by omega),rd_nat,wu64 (by omega) (by omega)]
 ·rw [if_neg (by omega)]
  simp [List.getD,List.getElem?_eq_none (Nat.le_of_not_lt hk)]
theorem nsub_l (x y:List Int) (hx:Lim x) (hy:Lim y) (hyx:nval y<=nval x) (hxN:x.length<=1000000) (hyl:y.length<=x.length) (d:Nat):∀ (k i c:Nat) (out:List Int),i<=x.length->x.length-i=d->d<k->out.length=x.length->Lim (out.take i)->c<=1 →
  nval (out.take i)+nval (y.take i)=nval (x.take i)+c*4294967296 ^ i->nat_Sub.l0 k x y out (c:Int) (x.length:Int) (i:Int)=some (limbs (nval x-nval y),0):=by
 induction d with
 | zero =>
  intro k i c out hi hd hk ho hO hc he
  obtain ⟨k,rfl⟩:∃m,k=m+1:=⟨k-1,by omega⟩
  simp only [nat_Sub.l0,nat_cut.f,Option.bind_some]
  rw [if_neg (by omega)]
  rw [List.take_of_length_le (by omega)] at hO
  rw [List.take_of_length_le (by omega),List.take_of_length_le (by omega),List.take_of_length_le (by omega)] at he
  have hb:=nval_lt hO
  have hii:i=x.length:=by omega
  rw [ho,<-hii] at hb
  have hc0:c=0:=by
   rcases Nat.eq_zero_or_pos c with h|h
   ·exact h
   ·have:1*4294967296 ^ i<=c*4294967296 ^ i:=Nat.mul_le_mul_right _ h
    omega
  subst hc0
  rw [trim_eq hO]
  congr 3;omega
 | succ d ih =>
  intro k i c out hi hd hk ho hO hc he
  obtain ⟨k,rfl⟩:∃m,k=m+1:=⟨k-1,by omega⟩
  obtain ⟨X,hX,hX32⟩:=limb_at hx i
  obtain ⟨Y,hY,hY32⟩:=limb_at hy i
  have tx:=take_nval i X hX
  have ty:=take_nval i Y hY
  have key:∀ (r c':Nat),r<4294967296->c'<=1->r+c+Y=X+4294967296*c'->nat_Sub.l0 k x y (out.set i (r:Int)) (c':Int) (x.length:Int) ((i+1:Nat):Int)=some (limbs (nval x-nval y),0):=by
   intro r c' hr hc' hrel
   have e1:(out.set i (r:Int)).take (i+1)=out.take i++[(r:Int)]:=by
    rw [take_succ_rd _ _ (by simp;omega),List.take_set_of_le (by omega)]
    simp [List.getD,show i<out.length by omega]
   refine ih k (i+1) c' _ (by omega) (by omega) (by omega) (by simp [ho]) (by rw [e1];exact lim_append.2 ⟨hO,lim_cons.2 ⟨by omega,lim_nil⟩⟩) hc' ?_
   rw [e1,nval_snoc,List.length_take,Nat.min_eq_left (by omega),tx,ty,Int.toNat_natCast,Nat.pow_succ]
   have h1:=congrArg (4294967296 ^ i * ·) hrel
   simp only [Nat.mul_add] at h1
   have h2:4294967296 ^ i*(4294967296*c')=c'*(4294967296 ^ i*4294967296):=by rw [Nat.mul_comm c',Nat.mul_assoc]
   have h3:c*4294967296 ^ i=4294967296 ^ i*c:=Nat.mul_comm _ _
   omega
  simp only [nat_Sub.l0]
  rw [if_pos (by omega),nat_at_f x i hx,nat_at_f y i hy]
  simp only [Option.bind_some]
  rw [if_pos (by omega),if_pos (by omega),w64 (x:=(i:Int)+1) (by omega) (by omega),show (i:Int)+1=((i+1:Nat):Int) by omega,Int.toNat_natCast,hX,hY]
  by_cases hneg:X<Y+c
  ·have e1:IntKind.u64.wrap (IntKind.u64.wrap ((X:Int)-(Y:Int))-(c:Int))=(18446744073709551616+X-Y-c:Int):=by simp only [IntKind.wrap_u64];omega
   rw [e1,show (18446744073709551616+(X:Int)-(Y:Int)-(c:Int)) % 4294967296=((4294967296+X-Y-c:Nat):Int) by omega,show (18446744073709551616+(X:Int)-(Y:Int)-(c:Int)) / 9223372036854775808=((1:Nat):Int) by omega]
   exact key (4294967296+X-Y-c) 1 (by omega) (by omega) (by omega)
  ·have e1:IntKind.u64.wrap (IntKind.u64.wrap ((X:Int)-(Y:Int))-(c:Int))=((X-Y-c:Nat):Int):=by simp only [IntKind.wrap_u64];omega
   rw [e1,show ((X-Y-c:Nat):Int) % 4294967296=((X-Y-c:Nat):Int) by omega,show ((X-Y-c:Nat):Int) / 9223372036854775808=((0:Nat):Int) by omega]
   exact key (X-Y-c) 0 (by omega) (by omega) (by omega)
theorem nsub_f (k a b:Nat) (ha:isN (limbs a)) (hb:isN (limbs b)) (hk:(limbs a).length<k):nat_Sub.f k (limbs a) (limbs b)=some (if a<b then ([],16) else (limbs (a-b),0)):=by
 have hl:=ha.2
 unfold nat_Sub.f
 rw [cmp_f k _ _ ha hb hk,nval_limbs,nval_limbs]
 simp only [Option.bind_some]
 by_cases h:a<b
 ·rw [if_pos h,if_pos (by unfold cmpI;rw [if_pos h];omega)]
 ·rw [if_neg h,if_neg (by unfold cmpI;rw [if_neg h];split<;>omega),if_pos (by omega),if_pos (by omega),Int.toNat_natCast]
  have:=nsub_l (limbs a) (limbs b) (lim_limbs a) (lim_limbs b) (by rw [nval_limbs,nval_limbs];omega) hl (limbs_length_le (by omega)) (limbs a).length k 0 0 (List.replicate (limbs a).length 0) (by omega) (by omega) hk (by simp) lim_nil (by omega) (by simp [nval])
  rw [nval_limbs,nval_limbs] at this
  exact this
end Go.Proofs.Ytfldklimlcnnnaa.QText
end

section
namespace Go.Proofs.Ytfldklimlcnnnaa.QRatio
open Go.RowKit YtfldklimlcnnnaaW.PrintWords YtfldklimlcnnnaaW.PrintLast YtfldklimlcnnnaaW.PrintMore
open MNat QNat QText QEv PHq
def F (j n:Nat):Prop:=n<4294967296 ^ j
theorem F.mono {i j n:Nat} (h:F i n) (hij:i<=j):F j n:=Nat.lt_of_lt_of_le h (Nat.pow_le_pow_right (by decide) hij)
theorem F.le {j n m:Nat} (h:F j n) (hm:m<=n):F j m:=Nat.lt_of_le_of_lt hm h
theorem F.mul {i j a b:Nat} (h:F i a) (k:F j b):F (i+j) (a*b):=by
 unfold F at *
 rw [Nat.pow_add]
 exact Nat.mul_lt_mul'' h k
theorem F.add {j a b:Nat} (h:F j a) (k:F j b):F (j+1) (a+b):=by
 unfold F at *
 rw [Nat.pow_succ]
 omega
theorem F.isN {j n:Nat} (h:F j n) (hj:j<=1000000):isN (limbs n):=isN_limbs h hj
theorem F.one {n:Nat} (h:n<4294967296):F 1 n:=by unfold F;simpa using h
theorem cmp_t (j a b:Nat) (ha:F j a) (hb:F j b) (hj:j<=1000000):Tell (fun k=>nat_Cmp.f k (limbs a) (limbs b)) (cmpI a b) :=
 ⟨(limbs a).length+1,fun k hk=>by show nat_Cmp.f k _ _=_;rw [cmp_f k _ _ (ha.isN hj) (hb.isN hj) (by omega),nval_limbs,nval_limbs]⟩
theorem add_n (j a b:Nat) (ha:F j a) (hb:F j b) (hj:j<=1000000):nat_Add.f (limbs a) (limbs b)=some (limbs (a+b)):=by
 rw [add_f _ _ (ha.isN hj) (hb.isN hj),nval_limbs,nval_limbs]
theorem mul_n (i j a b:Nat) (ha:F i a) (hb:F j b) (hi:i<=1000000) (hj:j<=1000000):nat_Mul.f (limbs a) (limbs b)=some (limbs (a*b)):=by
 rw [mul_f _ _ (ha.isN hi) (hb.isN hj),nval_limbs,nval_limbs]
theorem sub_t (j a b:Nat) (ha:F j a) (hb:F j b) (hj:j<=1000000):Tell (fun k=>nat_Sub.f k (limbs a) (limbs b)) (if a<b then ([],16) else (limbs (a-b),0)) :=
 ⟨(limbs a).length+1,fun k hk=>nsub_f k a b (ha.isN hj) (hb.isN hj) (by omega)⟩
theorem of_n (n:Nat) (h:n<18446744073709551616):nat_Of.f (n:Int)=some (limbs n):=by
 rw [of_f _ (by omega) (by omega),Int.toNat_natCast]
theorem cmpI_neg {a b:Nat} : cmpI a b<0↔a<b:=by
 unfold cmpI
 by_cases h:a<b
 ·simp [h]
 ·by_cases h2:a=b<;>simp [h,h2]
theorem quo_t (j a:Nat) (ha:F j a) (hj:j+2<=1000000) (d:Nat):∀b,0<b->F (j+1) b->a<b*2 ^ d->Tell (fun k=>ratio_quo.f k (limbs a) (limbs b)) (limbs (a / b),limbs (a % b)):=by
 induction d with
 | zero =>
  intro b hb hF hlt
  have hlt:a<b:=by simpa using hlt
  refine Tell.step (fun k=>by rw [ratio_quo.f]) (Tell.bind (cmp_t (j+1) a b (ha.mono (by omega)) hF (by omega)) ?_)
  refine Tell.of (fun k=>?_) (Tell.const (limbs (a / b),limbs (a % b)))
  rw [if_pos (cmpI_neg.2 hlt),Nat.div_eq_of_lt hlt,Nat.mod_eq_of_lt hlt,limbs_zero]
 | succ d ih =>
  intro b hb hF hlt
  refine Tell.step (fun k=>by rw [ratio_quo.f]) (Tell.bind (cmp_t (j+1) a b (ha.mono (by omega)) hF (by omega)) ?_)
  by_cases h:a<b
  ·refine Tell.of (fun k=>?_) (Tell.const (limbs (a / b),limbs (a % b)))
   rw [if_pos (cmpI_neg.2 h),Nat.div_eq_of_lt h,Nat.mod_eq_of_lt h,limbs_zero]
  ·have hbF:F j b:=ha.le (by omega)
   have hbb:F (j+1) (b+b):=hbF.add hbF
   have hlt2:a<(b+b)*2 ^ d:=by
    have e:b*2 ^ (d+1)=(b+b)*2 ^ d:=by rw [Nat.pow_succ,Nat.add_mul,Nat.mul_comm (2 ^ d) 2,<-Nat.mul_assoc,Nat.mul_comm b 2,Nat.mul_assoc,Nat.two_mul]
    omega
   have hrec:=ih (b+b) (by omega) hbb hlt2
   have hq:a / (b+b)<=a:=Nat.div_le_self _ _
   have hr:a % (b+b)<=a:=Nat.mod_le _ _
   have hqF:F j (a / (b+b)):=ha.le hq
   have hrF:F j (a % (b+b)):=ha.le hr
   have hdm:=Nat.div_add_mod a (b+b)
   have hrl:=Nat.mod_lt a (show 0<b+b by omega)
   generalize hQ:a / (b+b)=Q at *
   generalize hR:a % (b+b)=R at *
   refine Tell.of (fun k=>by rw [if_neg (fun h'=>h (cmpI_neg.1 h')),add_n j b b hbF hbF (by omega),Option.bind_some]) ?_
   refine Tell.bind hrec ?_
   refine Tell.of (fun k=>by rw [add_n j Q Q hqF hqF (by omega),Option.bind_some]) ?_
   refine Tell.bind (cmp_t j R b hrF hbF (by omega)) ?_
   have h2:(b+b)*Q=b*(Q+Q):=by rw [Nat.add_mul,Nat.mul_add]
   by_cases hlt2:R<b
   ·refine Tell.of (fun k=>?_) (Tell.const (limbs (a / b),limbs (a % b)))
    have e1:a / b=Q+Q:=by
     rw [<-hdm,h2,Nat.mul_add_div hb,Nat.div_eq_of_lt hlt2,Nat.add_zero]
    have e2:a % b=R:=by
     rw [<-hdm,h2,Nat.mul_add_mod,Nat.mod_eq_of_lt hlt2]
    rw [if_pos (cmpI_neg.2 hlt2),e1,e2]
   ·have e1:a / b=Q+Q+1:=by
     rw [<-hdm,h2,Nat.mul_add_div hb,show R=b*1+(R-b) by omega,Nat.mul_add_div hb,Nat.div_eq_of_lt (show R-b<b by omega),Nat.add_zero]
    have e2:a % b=R-b:=by
     rw [<-hdm,h2,Nat.mul_add_mod,show R=b*1+(R-b) by omega,Nat.mul_add_mod,Nat.mod_eq_of_lt (show R-b<b by omega)]
     omega
    refine Tell.of (fun k=>by rw [if_neg (fun h'=>hlt2 (cmpI_neg.1 h'))]) ?_
    refine Tell.bind (sub_t j R b hrF hbF (by omega)) ?_
    refine Tell.of (fun k=>?_) (Tell.const (limbs (a / b),limbs (a % b)))
    rw [if_neg hlt2,show nat_Of.f 1=some (limbs 1) from of_n 1 (by omega),Option.bind_some,add_n (j+1) (Q+Q) 1 (hqF.add hqF) (F.mono (F.one (by omega)) (by omega)) (by omega),Option.bind_some,e1,e2]
theorem quo_f (j a b:Nat) (ha:F j a) (hb:F (j+1) b) (hj:j+2<=1000000) (h0:0<b):Tell (fun k=>ratio_quo.f k (limbs a) (limbs b)) (limbs (a / b),limbs (a % b)) :=
 quo_t j a ha hj a b h0 hb (by
  have h1:a<2 ^ a:=Nat.lt_two_pow_self
  have h2:1*2 ^ a<=b*2 ^ a:=Nat.mul_le_mul_right _ h0
  omega)
theorem limbs_nil {n:Nat} (h:((limbs n).length:Int)=0):n=0:=by
 by_cases h0:n=0
 ·exact h0
 ·exfalso
  have:=List.eq_nil_of_length_eq_zero (by omega:(limbs n).length=0)
  exact limbs_ne n h0 this
theorem limbs_pos_len {n:Nat} (h:0<n):((limbs n).length:Int)>0:=by
 have:((limbs n).length:Int)≠0:=fun e=>by have:=limbs_nil e;omega
 omega
theorem gcd_t (j:Nat) (hj:j+2<=1000000) (b:Nat):∀a,F j a->F j b->Tell (fun k=>ratio_gcd.l0 k (limbs a) (limbs b)) (limbs (Nat.gcd a b)):=by
 induction b using Nat.strongRecOn with
 | _ b ih =>
  intro a ha hb
  by_cases h0:b=0
  ·subst h0
   exact Tell.step (g:=fun _=>some (limbs a)) (fun k=>by rw [ratio_gcd.l0,limbs_zero];simp) (by rw [Nat.gcd_zero_right];exact Tell.const _)
  ·have hb0:0<b:=by omega
   refine Tell.step (fun k=>by rw [ratio_gcd.l0,if_neg (fun e=>h0 (limbs_nil e))]) (Tell.bind (quo_f j a b ha (hb.mono (by omega)) hj hb0) ?_)
   have hm:=Nat.mod_lt a hb0
   have h:=ih (a % b) hm b hb (hb.le (by omega))
   rwa [show Nat.gcd b (a % b)=Nat.gcd a b by rw [Nat.gcd_comm a b,Nat.gcd_rec b a,Nat.gcd_comm]] at h
theorem check_n (j n d:Nat) (hn:F j n) (hd:F j d) (hj:j<=1000000) (h0:0<d):ratio_Check.f (limbs n) (limbs d)=some true:=by
 unfold ratio_Check.f
 rw [check_f _ (hn.isN hj)]
 simp only [Option.bind_some,if_true]
 rw [check_f _ (hd.isN hj)]
 simp only [Option.bind_some,if_true]
 rw [decide_eq_true (limbs_pos_len h0)]
def L (q:Rat):List Int × List Int:=(limbs q.num.natAbs,limbs q.den)
theorem mk_num (n d:Nat) (h0:0<d):(mkRat (n:Int) d).num.natAbs=n / Nat.gcd n d/\(mkRat (n:Int) d).den=d / Nat.gcd n d:=by
 rw [<-Rat.normalize_eq_mkRat (show d≠0 by omega),Rat.normalize_eq]
 constructor
 ·show ((n:Int) / ((Nat.gcd (n:Int).natAbs d:Nat):Int)).natAbs=_
  rw [Int.natAbs_natCast,<-Int.natCast_ediv,Int.natAbs_natCast]
 ·show d / Nat.gcd (n:Int).natAbs d=_
  rw [Int.natAbs_natCast]
theorem least_t (j n d:Nat) (hn:F j n) (hd:F j d) (hj:j+2<=1000000) (h0:0<d):Tell (fun k=>ratio_Least.f k (limbs n) (limbs d)) (L (mkRat (n:Int) d)):=by
 obtain ⟨e1,e2⟩:=mk_num n d h0
 unfold ratio_Least.f L
 rw [e1,e2]
 have hg:0<Nat.gcd n d:=Nat.gcd_pos_of_pos_right _ h0
 have hgd:Nat.gcd n d<=d:=Nat.gcd_le_right _ h0
 have hgF:F (j+1) (Nat.gcd n d):=(hd.le hgd).mono (by omega)
 refine Tell.of (fun k=>by rw [check_n j n d hn hd (by omega) h0,Option.bind_some,if_pos rfl]) ?_
 refine Tell.bind (gcd_t j hj d n hn hd) (Tell.bind (quo_f j n _ hn hgF hj hg) (Tell.bind (quo_f j d _ hd hgF hj hg) ?_))
 exact Tell.const _
def Sz (j:Nat) (q:Rat):Prop:=0<=q/\F j q.num.natAbs/\F j q.den
theorem mk_nonneg (n d:Nat):0<=mkRat (n:Int) d:=by
 by_cases h0:d=0
 ·subst h0;simp
 ·rw [<-Rat.num_nonneg,<-Rat.normalize_eq_mkRat h0,Rat.normalize_eq]
  exact Int.ediv_nonneg (by omega) (by omega)
theorem mk_sz (j n d:Nat) (hn:F j n) (hd:F j d) (h0:0<d):Sz j (mkRat (n:Int) d):=by
 obtain ⟨e1,e2⟩:=mk_num n d h0
 refine ⟨mk_nonneg n d,?_,?_⟩
 ·rw [e1];exact hn.le (Nat.div_le_self _ _)
 ·rw [e2];exact hd.le (Nat.div_le_self _ _)
theorem mk_add (n d m e:Nat) (h0:0<d) (h1:0<e):mkRat (n:Int) d+mkRat (m:Int) e=mkRat ((n*e+m*d:Nat):Int) (d*e):=by
 rw [Rat.mkRat_add_mkRat _ _ (by omega) (by omega)]
 simp
theorem self_mk (q:Rat) (h:0<=q):mkRat (q.num.natAbs:Int) q.den=q:=by
 have h2:=Rat.num_nonneg.2 h
 rw [Int.natAbs_of_nonneg h2,Rat.mkRat_self]
theorem F_cross {i j n d m e:Nat} (hn:F i n) (hd:F i d) (hm:F j m) (he:F j e):F (i+j+1) (n*e+m*d):=by
 have h2:=hm.mul hd
 rw [Nat.add_comm j i] at h2
 exact (hn.mul he).add h2
theorem radd_t (i j n d m e:Nat) (hn:F i n) (hd:F i d) (hm:F j m) (he:F j e) (hij:i+j+3<=1000000) (h0:0<d) (h1:0<e) :
  Tell (fun k=>ratio_Add.f k (limbs n) (limbs d) (limbs m) (limbs e)) (L (mkRat (n:Int) d+mkRat (m:Int) e)):=by
 unfold ratio_Add.f
 rw [mul_n i j n e hn he (by omega) (by omega),mul_n j i m d hm hd (by omega) (by omega),mul_n i j d e hd he (by omega) (by omega)]
 simp only [Option.bind_some]
 have h2:=hm.mul hd
 rw [Nat.add_comm j i] at h2
 rw [add_n (i+j) (n*e) (m*d) (hn.mul he) h2 (by omega)]
 simp only [Option.bind_some]
 have h3:=least_t (i+j+1) (n*e+m*d) (d*e) (F_cross hn hd hm he) ((hd.mul he).mono (by omega)) (by omega) (Nat.mul_pos h0 h1)
 rw [mk_add n d m e h0 h1]
 exact Tell.bind h3 (Tell.const _)
theorem sz_add (i j n d m e:Nat) (hn:F i n) (hd:F i d) (hm:F j m) (he:F j e) (h0:0<d) (h1:0<e):Sz (i+j+1) (mkRat (n:Int) d+mkRat (m:Int) e):=by
 rw [mk_add n d m e h0 h1]
 exact mk_sz _ _ _ (F_cross hn hd hm he) ((hd.mul he).mono (by omega)) (Nat.mul_pos h0 h1)
theorem lt_cross (p q:Rat) (hp:0<=p) (hq:0<=q):p<q↔p.num.natAbs*q.den<q.num.natAbs*p.den:=by
 rw [Rat.lt_iff]
 have h1:=Int.natAbs_of_nonneg (Rat.num_nonneg.2 hp)
 have h2:=Int.natAbs_of_nonneg (Rat.num_nonneg.2 hq)
 rw [<-h1,<-h2]
 simp only [Int.natAbs_natCast]
 exact_mod_cast Iff.rfl
theorem mk_lt (n d m e:Nat) (h0:0<d) (h1:0<e):mkRat (n:Int) d<mkRat (m:Int) e↔n*e<m*d:=by
 obtain ⟨a1,a2⟩:=mk_num n d h0
 obtain ⟨b1,b2⟩:=mk_num m e h1
 rw [lt_cross _ _ (mk_nonneg n d) (mk_nonneg m e),a1,a2,b1,b2]
 have g:0<Nat.gcd n d:=Nat.gcd_pos_of_pos_right _ h0
 have g':0<Nat.gcd m e:=Nat.gcd_pos_of_pos_right _ h1
 obtain ⟨x,hx⟩:=Nat.gcd_dvd_left n d
 obtain ⟨y,hy⟩:=Nat.gcd_dvd_right n d
 obtain ⟨z,hz⟩:=Nat.gcd_dvd_left m e
 obtain ⟨v,hv⟩:=Nat.gcd_dvd_right m e
 generalize Nat.gcd n d=G at *
 generalize Nat.gcd m e=H at *
 subst hx hy hz hv
 rw [Nat.mul_div_cancel_left _ g,Nat.mul_div_cancel_left _ g,Nat.mul_div_cancel_left _ g',Nat.mul_div_cancel_left _ g']
 have e1:G*x*(H*v)=G*H*(x*v):=by rw [Nat.mul_mul_mul_comm]
 have e2:H*z*(G*y)=G*H*(z*y):=by rw [Nat.mul_mul_mul_comm,Nat.mul_comm H G]
 rw [e1,e2]
 exact (Nat.mul_lt_mul_left (Nat.mul_pos g g')).symm
theorem mk_eq (n d m e:Nat) (h0:0<d) (h1:0<e):mkRat (n:Int) d=mkRat (m:Int) e↔n*e=m*d:=by
 rw [Rat.mkRat_eq_iff (by omega) (by omega)]
 exact_mod_cast Iff.rfl
def cmpR (p q:Rat):Int:=if p<q then -1 else if p=q then 0 else 1
theorem cmp_cross (n d m e:Nat) (h0:0<d) (h1:0<e):cmpI (n*e) (m*d)=cmpR (mkRat (n:Int) d) (mkRat (m:Int) e):=by
 unfold cmpI cmpR
 by_cases h:n*e<m*d
 ·rw [if_pos h,if_pos ((mk_lt n d m e h0 h1).2 h)]
 ·rw [if_neg h,if_neg (fun h'=>h ((mk_lt n d m e h0 h1).1 h'))]
  by_cases h2:n*e=m*d
  ·rw [if_pos h2,if_pos ((mk_eq n d m e h0 h1).2 h2)]
  ·rw [if_neg h2,if_neg (fun h'=>h2 ((mk_eq n d m e h0 h1).1 h'))]
theorem rcmp_t (i j n d m e:Nat) (hn:F i n) (hd:F i d) (hm:F j m) (he:F j e) (hij:i+j<=1000000) (h0:0<d) (h1:0<e) :
  Tell (fun k=>ratio_Cmp.f k (limbs n) (limbs d) (limbs m) (limbs e)) (cmpR (mkRat (n:Int) d) (mkRat (m:Int) e)):=by
 unfold ratio_Cmp.f
 rw [mul_n i j n e hn he (by omega) (by omega),mul_n j i m d hm hd (by omega) (by omega)]
 simp only [Option.bind_some]
 have h2:=hm.mul hd
 rw [Nat.add_comm j i] at h2
 rw [<-cmp_cross n d m e h0 h1]
 exact Tell.bind (cmp_t (i+j) _ _ (hn.mul he) h2 hij) (Tell.const _)
theorem cmpL (i j:Nat) (p q:Rat) (hp:Sz i p) (hq:Sz j q) (hij:i+j<=1000000):Tell (fun k=>ratio_Cmp.f k (L p).1 (L p).2 (L q).1 (L q).2) (cmpR p q):=by
 have h:=rcmp_t i j _ _ _ _ hp.2.1 hp.2.2 hq.2.1 hq.2.2 hij p.den_pos q.den_pos
 rw [self_mk p hp.1,self_mk q hq.1] at h
 exact h
theorem mk_sub (n d m e:Nat) (h0:0<d) (h1:0<e) (h:m*d<=n*e):mkRat (n:Int) d-mkRat (m:Int) e=mkRat ((n*e-m*d:Nat):Int) (d*e):=by
 have h2:mkRat ((n*e-m*d:Nat):Int) (d*e)+mkRat (m:Int) e=mkRat (n:Int) d:=by
  rw [mk_add _ _ _ _ (Nat.mul_pos h0 h1) h1,mk_eq _ _ _ _ (Nat.mul_pos (Nat.mul_pos h0 h1) h1) h0]
  have e1:(n*e-m*d)*e+m*(d*e)=n*e*e:=by
   rw [<-Nat.mul_assoc,<-Nat.add_mul]
   congr 1;omega
  rw [e1,Nat.mul_comm (n*e*e) d,Nat.mul_assoc n e e,<-Nat.mul_assoc d n,Nat.mul_comm d n,Nat.mul_assoc n d,Nat.mul_assoc d e e]
 rw [<-h2,Rat.add_sub_cancel]
theorem rsub_t (i j n d m e:Nat) (hn:F i n) (hd:F i d) (hm:F j m) (he:F j e) (hij:i+j+3<=1000000) (h0:0<d) (h1:0<e) :
  Tell (fun k=>ratio_Sub.f k (limbs n) (limbs d) (limbs m) (limbs e)) (if mkRat (n:Int) d<mkRat (m:Int) e then ([],[],16) else ((L (mkRat (n:Int) d-mkRat (m:Int) e)).1,(L (mkRat (n:Int) d-mkRat (m:Int) e)).2,0)):=by
 unfold ratio_Sub.f
 rw [mul_n i j n e hn he (by omega) (by omega),mul_n j i m d hm hd (by omega) (by omega),mul_n i j d e hd he (by omega) (by omega)]
 simp only [Option.bind_some]
 have h2:=hm.mul hd
 rw [Nat.add_comm j i] at h2
 refine Tell.bind (sub_t (i+j) _ _ (hn.mul he) h2 (by omega)) ?_
 by_cases h:n*e<m*d
 ·rw [if_pos ((mk_lt n d m e h0 h1).2 h)]
  refine Tell.of (fun k=>?_) (Tell.const _)
  rw [if_pos h,if_neg (by decide)]
 ·rw [if_neg (fun h'=>h ((mk_lt n d m e h0 h1).1 h')),mk_sub n d m e h0 h1 (by omega)]
  refine Tell.of (fun k=>by rw [if_neg h,if_pos rfl]) ?_
  have h3:=least_t (i+j) (n*e-m*d) (d*e) ((hn.mul he).le (Nat.sub_le _ _)) (hd.mul he) (by omega) (Nat.mul_pos h0 h1)
  exact Tell.bind h3 (Tell.const _)
end Go.Proofs.Ytfldklimlcnnnaa.QRatio
end

section
namespace Go.Proofs.Ytfldklimlcnnnaa.QBits
open Go Go.RowKit
theorem w64 {x:Int} (h0 : -9223372036854775808<=x) (h1:x<=9223372036854775807):wrap64 x=x:=by unfold wrap64;omega
theorem and_mask (i:Nat) (hi:i<=62) (x m:Int) (hm:m=2 ^ i-1):Go.bits .and .i64 x m=x % 2 ^ i:=by
 have hp:(2:Nat) ^ i<=2 ^ 62:=Nat.pow_le_pow_right (by decide) hi
 have hpos:0<(2:Nat) ^ i:=Nat.two_pow_pos i
 have h62:(2:Nat) ^ 62=4611686018427387904:=by decide
 have hm':m=(((2 ^ i-1:Nat)):Int):=by rw [hm,Int.natCast_sub hpos];simp
 have hz:(2:Int) ^ i=((2 ^ i:Nat):Int):=by simp
 have e1:(BitVec.ofInt 64 m).toNat=2 ^ i-1:=by
  rw [hm',BitVec.ofInt_natCast,BitVec.toNat_ofNat,Nat.mod_eq_of_lt]
  have:(2:Nat) ^ 64=18446744073709551616:=by decide
  omega
 show IntKind.i64.wrap (((BitVec.ofInt 64 x &&& BitVec.ofInt 64 m).toNat:Nat):Int)=_
 rw [BitVec.toNat_and,e1,Nat.and_two_pow_sub_one_eq_mod,BitVec.toNat_ofInt,IntKind.wrap_i64,hz]
 have hx:0<=x % ((2 ^ 64:Nat):Int):=Int.emod_nonneg _ (by decide)
 have h3:(((x % ((2 ^ 64:Nat):Int)).toNat % 2 ^ i:Nat):Int)=x % ((2 ^ i:Nat):Int):=by
  rw [Int.natCast_emod,Int.toNat_of_nonneg hx]
  exact Int.emod_emod_of_dvd x (by exact_mod_cast Nat.pow_dvd_pow 2 (by omega:i<=64))
 rw [h3]
 have h4:=Int.emod_nonneg x (show ((2 ^ i:Nat):Int)≠0 by omega)
 have h5:=Int.emod_lt_of_pos x (show (0:Int)<((2 ^ i:Nat):Int) by omega)
 generalize x % ((2 ^ i:Nat):Int)=y at *
 omega
theorem and7 (x:Int):Go.bits .and .i64 x 7=x % 8:=and_mask 3 (by omega) x 7 rfl
theorem and15 (x:Int):Go.bits .and .i64 x 15=x % 16:=and_mask 4 (by omega) x 15 rfl
theorem and31 (x:Int):Go.bits .and .i64 x 31=x % 32:=and_mask 5 (by omega) x 31 rfl
end Go.Proofs.Ytfldklimlcnnnaa.QBits
end

section
namespace Go.Proofs.Ytfldklimlcnnnaa.QRatio
open Go.RowKit YtfldklimlcnnnaaW.PrintWords YtfldklimlcnnnaaW.PrintLast YtfldklimlcnnnaaW.PrintMore
open MNat QNat QText QEv PHq
theorem rdW (l:List S34) (i:Nat) (h:i<l.length):rd_T34 l (i:Int)=l[i]:=by simp [rd_T34,List.getD,List.getElem?_eq_getElem h]
def okW (x:S34):Prop:=0<=x.f0/\x.f0<4294967296/\1<=x.f1/\x.f1<4294967296
def wt (x:S34):Rat:=mkRat (x.f0.toNat:Int) x.f1.toNat
def sumR:List S34->Rat
 | []=>0
 | x::xs=>wt x+sumR xs
theorem of_w (x:S34) (h:okW x):ratio_Of.f x.f0 x.f1=some (limbs x.f0.toNat,limbs x.f1.toNat):=by
 obtain ⟨h0,h1,h2,h3⟩:=h
 unfold ratio_Of.f
 have e0:IntKind.u64.wrap (mx x.f0 0)=(x.f0.toNat:Int):=by rw [IntKind.wrap_u64];unfold mx;omega
 have e1:IntKind.u64.wrap (mx x.f1 1)=(x.f1.toNat:Int):=by rw [IntKind.wrap_u64];unfold mx;omega
 rw [e0,e1,of_n _ (by omega),Option.bind_some,of_n _ (by omega),Option.bind_some]
theorem natL (n:Nat):L (n:Rat)=(limbs n,limbs 1):=by
 show (limbs ((n:Int)).natAbs,limbs 1)=_
 rw [Int.natAbs_natCast]
theorem whole_n (n:Nat) (h:n<18446744073709551616):ratio_Whole.f (n:Int)=some (L (n:Rat)):=by
 unfold ratio_Whole.f
 rw [of_n _ h,Option.bind_some,show nat_Of.f 1=some (limbs 1) from of_n 1 (by omega),Option.bind_some,natL]
theorem natSz (n:Nat) (h:n<18446744073709551616):Sz 2 (n:Rat):=by
 refine ⟨?_,?_,?_⟩
 ·exact Rat.num_nonneg.1 (Int.natCast_nonneg n)
 ·show F 2 ((n:Int)).natAbs
  rw [Int.natAbs_natCast]
  unfold F;simpa using h
 ·show F 2 1
  unfold F;decide
theorem zeroSz:Sz 1 0:=⟨Rat.le_refl,by show F 1 0;unfold F;decide,by show F 1 1;unfold F;decide⟩
theorem okW_pos {x:S34} (h:okW x):0<x.f1.toNat:=by have:=h.2.2.1;omega
theorem okW_F {x:S34} (h:okW x):F 1 x.f0.toNat/\F 1 x.f1.toNat:=by
 obtain ⟨h0,h1,h2,h3⟩:=h
 exact ⟨F.one (by omega),F.one (by omega)⟩
theorem addW (i:Nat) (p:Rat) (x:S34) (hp:Sz i p) (h:okW x) (hi:i+4<=1000000) :
  Tell (fun k=>ratio_Add.f k (L p).1 (L p).2 (limbs x.f0.toNat) (limbs x.f1.toNat)) (L (p+wt x))/\Sz (i+2) (p+wt x):=by
 have h1:=radd_t i 1 _ _ _ _ hp.2.1 hp.2.2 (okW_F h).1 (okW_F h).2 (by omega) p.den_pos (okW_pos h)
 have h2:=sz_add i 1 _ _ _ _ hp.2.1 hp.2.2 (okW_F h).1 (okW_F h).2 p.den_pos (okW_pos h)
 rw [self_mk p hp.1] at h1 h2
 exact ⟨h1,h2⟩
theorem sum_l (l:List S34) (hl:l.length<=1000) (ho:∀x∈l,okW x) (d:Nat):∀ (i j:Nat) (s:Rat),i+d=l.length->Sz j s->j+2*d+4<=1000000 →
  Tell (fun k=>ratio_Sum.l0 k l (l.length:Int) (i:Int) (L s).1 (L s).2) (L (s+sumR (l.drop i)))/\Sz (j+2*d) (s+sumR (l.drop i)):=by
 induction d with
 | zero =>
  intro i j s hi hs _
  rw [List.drop_of_length_le (by omega)]
  have e:s+sumR []=s:=Rat.add_zero s
  rw [e]
  exact ⟨Tell.step (g:=fun _=>some (L s)) (fun k=>by rw [ratio_Sum.l0,if_neg (by omega)]) (Tell.const _),hs⟩
 | succ d ih =>
  intro i j s hi hs hj
  have hlt:i<l.length:=by omega
  have hx:=ho l[i] (List.getElem_mem hlt)
  obtain ⟨h1,h2⟩:=addW j s l[i] hs hx (by omega)
  obtain ⟨h3,h4⟩:=ih (i+1) (j+2) (s+wt l[i]) (by omega) h2 (by omega)
  rw [List.drop_eq_getElem_cons hlt]
  have e:s+sumR (l[i]::l.drop (i+1))=s+wt l[i]+sumR (l.drop (i+1)):=(Rat.add_assoc _ _ _).symm
  rw [e]
  refine ⟨?_,by rw [show j+2*(d+1)=j+2+2*d by omega];exact h4⟩
  refine Tell.step (fun k=>by rw [ratio_Sum.l0,if_pos (by omega),if_pos (by omega),if_pos (by omega),rdW l i hlt,of_w _ hx,Option.bind_some,w64 (by omega) (by omega)]) ?_
  exact Tell.bind h1 h3
theorem sum_t (l:List S34) (hl:l.length<=1000) (ho:∀x∈l,okW x):Tell (fun k=>ratio_Sum.f k l) (L (sumR l))/\Sz (1+2*l.length) (sumR l):=by
 obtain ⟨h1,h2⟩:=sum_l l hl ho l.length 0 1 0 (by omega) zeroSz (by omega)
 rw [Rat.zero_add,List.drop_zero] at h1 h2
 refine ⟨?_,h2⟩
 unfold ratio_Sum.f
 refine Tell.of (fun k=>?_) h1
 rw [show ratio_Whole.f 0=some (L ((0:Nat):Rat)) from whole_n 0 (by omega),Option.bind_some]
 rfl
theorem sumR_append (a b:List S34):sumR (a++b)=sumR a+sumR b:=by
 induction a with
 | nil=>exact (Rat.zero_add _).symm
 | cons x a ih=>show wt x+sumR (a++b)=wt x+sumR a+sumR b;rw [ih,Rat.add_assoc]
theorem F_ten {j n:Nat} (h:F j n):n<10 ^ (10*j):=by
 unfold F at h
 have:(4294967296:Nat) ^ j<=(10 ^ 10) ^ j:=Nat.pow_le_pow_left (by decide) j
 rw [<-Nat.pow_mul] at this
 omega
end Go.Proofs.Ytfldklimlcnnnaa.QRatio
end

section
namespace Go.Proofs.Ytfldklimlcnnnaa.QRef
open Go.RowKit YtfldklimlcnnnaaW.PrintWords YtfldklimlcnnnaaW.PrintLast YtfldklimlcnnnaaW.PrintMore
open MNat MDec QNat PHq
theorem cut_l (k:Nat):∀x:List Int,x.length<k->x.length<=1000000->r02_cut.l0 k x=some (trim x):=by
 induction k with
 | zero=>intro x h;omega
 | succ k ih =>
  intro x hk hl
  rcases snoc_cases x with rfl|⟨ys,y,rfl⟩
  ·simp only [r02_cut.l0];rw [if_neg (by simp)];rfl
  ·have e:wrap64 (((ys++[y]).length:Int)-1)=(ys.length:Int):=by simp only [List.length_append,List.length_singleton] at hl ⊢;rw [w64 (by omega) (by omega)];omega
   have r:rd (ys++[y]) (ys.length:Int)=y:=by rw [rd_nat];simp [List.getD]
   simp only [r02_cut.l0,e,r]
   rw [if_pos (by simp only [List.length_append,List.length_singleton];omega),if_pos (by omega),if_pos (by simp only [List.length_append,List.length_singleton];omega)]
   by_cases hy:y=0
   ·subst hy
    rw [if_pos rfl,if_pos (by simp only [List.length_append,List.length_singleton];omega),Int.toNat_natCast,List.take_left' rfl,trim_snoc0]
    simp at hk hl;exact ih ys (by omega) (by omega)
   ·rw [if_neg hy,trim_snoc _ _ hy]
theorem cut_f (k:Nat) (x:List Int) (hk:x.length<k) (hl:x.length<=1000000) (h:Dgt x):r02_cut.f k x=some (decs (dval x)):=by
 unfold r02_cut.f;rw [cut_l k x hk hl,MDec.trim_eq h]
theorem tdiv_nat (a b:Nat):Int.tdiv (a:Int) (b:Int)=((a / b:Nat):Int):=by rw [Int.tdiv_eq_ediv_of_nonneg (by omega),<-Int.natCast_ediv]
theorem tmod_nat (a b:Nat):Int.tmod (a:Int) (b:Int)=((a % b:Nat):Int):=by rw [Int.tmod_eq_emod_of_nonneg (by omega),<-Int.natCast_emod]
theorem tdiv10 (a:Nat):Int.tdiv (a:Int) 10=((a / 10:Nat):Int):=tdiv_nat a 10
theorem tmod10 (a:Nat):Int.tmod (a:Int) 10=((a % 10:Nat):Int):=tmod_nat a 10
theorem small_l (m:Nat):∀ (k n:Nat) (acc:List Int),n<10 ^ m->n<=9223372036854775807->m<k->acc.length+m<=1000000->r02_small.l0 k (n:Int) acc=some (acc++decs n):=by
 induction m with
 | zero =>
  intro k n acc hn _ hk _
  obtain ⟨k,rfl⟩:∃m,k=m+1:=⟨k-1,by omega⟩
  obtain rfl:n=0:=by simpa using hn
  simp only [r02_small.l0]
  rw [if_neg (by omega),decs_zero,List.append_nil]
 | succ m ih =>
  intro k n acc hn h63 hk ha
  by_cases h0:n=0
  ·subst h0;exact ih k 0 acc (Nat.pow_pos (by omega)) (by omega) (by omega) (by omega)
  ·obtain ⟨k,rfl⟩:∃m,k=m+1:=⟨k-1,by omega⟩
   simp only [r02_small.l0]
   rw [if_pos (by omega),if_pos (by omega),tdiv10,tmod10,w64 (by omega) (by omega),ih k (n / 10) _ (by rw [Nat.pow_succ] at hn;omega) (by omega) (by omega) (by simp;omega),decs_pos n h0]
   simp
theorem small_f (k n:Nat) (hn:n<10 ^ 19) (h63:n<=9223372036854775807) (hk:20<=k):r02_small.f k (n:Int)=some (decs n):=by
 unfold r02_small.f;rw [small_l 19 k n [] hn h63 (by omega) (by simp)];simp
theorem dig_at {l:List Int} (h:Dgt l) (i:Nat):∃d:Nat,l.getD i 0=(d:Int)/\d<10:=⟨(l.getD i 0).toNat,by have:=dgt_getD h i;omega,by have:=dgt_getD h i;omega⟩
theorem take_dval {l:List Int} (i d:Nat) (h:l.getD i 0=(d:Int)):dval (l.take (i+1))=dval (l.take i)+10 ^ i*d:=by
 by_cases hi:i<l.length
 ·rw [take_succ_rd _ _ hi,dval_snoc,h,List.length_take,Nat.min_eq_left (by omega),Int.toNat_natCast]
 ·have:d=0:=by simp [List.getD,List.getElem?_eq_none (Nat.le_of_not_lt hi)] at h;omega
  subst this
  rw [List.take_of_length_le (by omega),List.take_of_length_le (by omega)];simp
theorem carry_step (P S c q r b:Nat) (hdm:b*q+r=S):P*S=q*(P*b)+P*r:=by
 rw [<-hdm,Nat.mul_add,Nat.mul_comm q (P*b),Nat.mul_assoc]
theorem add_l (x y:List Int) (hx:Dgt x) (hy:Dgt y) (N:Nat) (hxN:x.length<=N) (hyN:y.length<=N) (hN:N<=100000) (d:Nat):∀ (k i c:Nat) (out:List Int),i<=N+1->N+1-i=d->2*d+N+5<k->out.length=i->Dgt out->c<=1->(N<i->c=0) →
  dval out+c*10 ^ i=dval (x.take i)+dval (y.take i)->r02_add.l0 k x y out (c:Int) (i:Int)=some (decs (dval x+dval y)):=by
 induction d with
 | zero =>
  intro k i c out hi hd hk ho hO hc hcz he
  obtain ⟨k,rfl⟩:∃m,k=m+1+1:=⟨k-2,by omega⟩
  obtain rfl:i=N+1:=by omega
  obtain rfl:=hcz (by omega)
  simp only [r02_add.l0,r02_add.j1]
  rw [if_neg (by omega),if_neg (by omega),if_neg (by simp)]
  rw [List.take_of_length_le (by omega),List.take_of_length_le (by omega)] at he
  rw [cut_f k out (by omega) (by omega) hO]
  simp only [Option.bind_some]
  congr 2;omega
 | succ d ih =>
  intro k i c out hi hd hk ho hO hc hcz he
  obtain ⟨k,rfl⟩:∃m,k=m+1+1:=⟨k-2,by omega⟩
  obtain ⟨X,hX,hX10⟩:=dig_at hx i
  obtain ⟨Y,hY,hY10⟩:=dig_at hy i
  obtain ⟨S,hS⟩:∃S:Nat,c+X+Y=S:=⟨_,rfl⟩
  have tx:=take_dval i X hX
  have ty:=take_dval i Y hY
  have hstep:i<=N->r02_add.l0 k x y (out++[((S % 10:Nat):Int)]) ((S / 10:Nat):Int) ((i+1:Nat):Int)=some (decs (dval x+dval y)):=by
   intro hiN
   refine ih k (i+1) (S / 10) _ (by omega) (by omega) (by omega) (by simp [ho]) (dgt_append.2 ⟨hO,dgt_cons.2 ⟨by omega,dgt_nil⟩⟩) (by omega) ?_ ?_
   ·intro hNi
    have hxl:x.length<=i:=by omega
    have hyl:y.length<=i:=by omega
    have x0:X=0:=by simp [List.getD,List.getElem?_eq_none hxl] at hX;omega
    have y0:Y=0:=by simp [List.getD,List.getElem?_eq_none hyl] at hY;omega
    omega
   ·rw [dval_snoc,ho,tx,ty,Int.toNat_natCast,Nat.pow_succ]
    have h1:=carry_step (10 ^ i) S c (S / 10) (S % 10) 10 (Nat.div_add_mod S 10)
    have h2:10 ^ i*S=10 ^ i*c+10 ^ i*X+10 ^ i*Y:=by rw [<-hS];simp [Nat.mul_add]
    have h3:c*10 ^ i=10 ^ i*c:=Nat.mul_comm _ _
    omega
  simp only [r02_add.l0,r02_add.j1]
  have e0:((i:Int)+1)=((i+1:Nat):Int):=by omega
  by_cases hxl:i<x.length
  ·rw [if_pos (by omega),if_pos trivial,if_pos (by omega),if_pos (by omega),rd_nat,hX]
   by_cases hyl:i<y.length
   ·rw [if_pos (by omega),if_pos (by omega),rd_nat,hY,w64 (x:=(c:Int)+(X:Int)) (by omega) (by omega),w64 (x:=(c:Int)+(X:Int)+(Y:Int)) (by omega) (by omega)]
    rw [show (c:Int)+(X:Int)+(Y:Int)=(S:Int) by omega,tdiv10,tmod10,w64 (by omega) (by omega),w64 (by omega) (by omega),e0]
    exact hstep (by omega)
   ·have y0:Y=0:=by simp [List.getD,List.getElem?_eq_none (Nat.le_of_not_lt hyl)] at hY;omega
    rw [if_neg (by omega),if_pos (by omega),w64 (x:=(c:Int)+(X:Int)) (by omega) (by omega)]
    rw [show (c:Int)+(X:Int)=(S:Int) by omega,tdiv10,tmod10,w64 (by omega) (by omega),w64 (by omega) (by omega),e0]
    exact hstep (by omega)
  ·have x0:X=0:=by simp [List.getD,List.getElem?_eq_none (Nat.le_of_not_lt hxl)] at hX;omega
   by_cases hyl:i<y.length
   ·rw [if_neg (by omega),if_pos (by omega),if_pos trivial,if_neg (by omega),if_pos (by omega),if_pos (by omega),if_pos (by omega),rd_nat,hY,w64 (x:=(c:Int)+(Y:Int)) (by omega) (by omega)]
    rw [show (c:Int)+(Y:Int)=(S:Int) by omega,tdiv10,tmod10,w64 (by omega) (by omega),w64 (by omega) (by omega),e0]
    exact hstep (by omega)
   ·have y0:Y=0:=by simp [List.getD,List.getElem?_eq_none (Nat.le_of_not_lt hyl)] at hY;omega
    rw [if_neg (by omega),if_neg (by omega)]
    by_cases hcp:c=0
    ·subst hcp
     rw [if_neg (by simp),cut_f k out (by omega) (by omega) hO]
     simp only [Option.bind_some]
     rw [List.take_of_length_le (by omega),List.take_of_length_le (by omega)] at he
     congr 2;omega
    ·rw [if_pos (by simp;omega),if_neg (by omega),if_neg (by omega),if_pos (by omega),show (c:Int)=(S:Int) by omega,tdiv10,tmod10,w64 (by omega) (by omega),w64 (by omega) (by omega),e0]
     exact hstep (by omega)
theorem add_f' (k m a b:Nat) (ha:a<10 ^ m) (hb:b<10 ^ m) (hm:m<=100000) (hk:3*m+10<k):r02_add.f k (decs a) (decs b)=some (decs (a+b)):=by
 have h1:=decs_len a m ha
 have h2:=decs_len b m hb
 unfold r02_add.f
 have:=add_l (decs a) (decs b) (dgt_decs a) (dgt_decs b) m h1 h2 hm (m+1) k 0 0 [] (by omega) (by omega) (by omega) rfl dgt_nil (by omega) (by omega) (by simp [dval])
 rw [dval_decs,dval_decs] at this
 exact this
theorem times_e (x:List Int) (M e:Nat):∀ (k i c:Nat) (out:List Int),x.length<=i->c<10 ^ e->c<=9223372036854775807->2*e+(out.length+e)+5<k->out.length+e<=1000000->i+e<=1000000->Dgt out →
  r02_times.l0 k x (M:Int) out (c:Int) (i:Int)=some (decs (dval out+10 ^ out.length*c)):=by
 induction e with
 | zero =>
  intro k i c out hi hc _ hk ho hie hO
  obtain ⟨k,rfl⟩:∃m,k=m+1+1:=⟨k-2,by omega⟩
  obtain rfl:c=0:=by simpa using hc
  simp only [r02_times.l0,r02_times.j1]
  rw [if_neg (by omega),if_neg (by simp),cut_f k out (by omega) (by omega) hO]
  simp
 | succ e ih =>
  intro k i c out hi hc h63 hk ho hie hO
  by_cases h0:c=0
  ·subst h0;exact ih k i 0 out hi (Nat.pow_pos (by omega)) (by omega) (by omega) (by omega) (by omega) hO
  ·obtain ⟨k,rfl⟩:∃m,k=m+1+1:=⟨k-2,by omega⟩
   simp only [r02_times.l0,r02_times.j1]
   rw [if_neg (by omega),if_pos (by simp;omega),if_neg (by omega),if_pos (by omega),tdiv10,tmod10,w64 (by omega) (by omega),w64 (by omega) (by omega),show ((i:Int)+1)=((i+1:Nat):Int) by omega]
   rw [ih k (i+1) (c / 10) _ (by omega) (by rw [Nat.pow_succ] at hc;omega) (by omega) (by simp;omega) (by simp;omega) (by omega) (dgt_append.2 ⟨hO,dgt_cons.2 ⟨by omega,dgt_nil⟩⟩)]
   congr 2
   rw [dval_snoc,Int.toNat_natCast]
   simp only [List.length_append,List.length_singleton,Nat.pow_succ]
   have h1:=carry_step (10 ^ out.length) c c (c / 10) (c % 10) 10 (Nat.div_add_mod c 10)
   have h2:c / 10*(10 ^ out.length*10)=10 ^ out.length*10*(c / 10):=Nat.mul_comm _ _
   omega
theorem times_l (x:List Int) (hx:Dgt x) (M:Nat) (hM:M<=4294967296) (hxl:x.length<=100000) (d:Nat):∀ (k i c:Nat) (out:List Int),i<=x.length->x.length-i=d->2*d+x.length+60<k->out.length=i->Dgt out->c<=M →
  dval out+c*10 ^ i=dval (x.take i)*M->r02_times.l0 k x (M:Int) out (c:Int) (i:Int)=some (decs (dval x*M)):=by
 induction d with
 | zero =>
  intro k i c out hi hd hk ho hO hc he
  rw [times_e x M 10 k i c out (by omega) (by omega) (by omega) (by omega) (by omega) (by omega) hO,ho]
  rw [List.take_of_length_le (by omega)] at he
  rw [<-he,Nat.mul_comm c]
 | succ d ih =>
  intro k i c out hi hd hk ho hO hc he
  obtain ⟨k,rfl⟩:∃m,k=m+1+1:=⟨k-2,by omega⟩
  obtain ⟨X,hX,hX10⟩:=dig_at hx i
  have tx:=take_dval i X hX
  simp only [r02_times.l0,r02_times.j1]
  have hXM:X*M<=9*M:=Nat.mul_le_mul_right _ (by omega)
  have ex:(X:Int)*(M:Int)=((X*M:Nat):Int):=by simp
  obtain ⟨S,hS⟩:∃S:Nat,c+X*M=S:=⟨_,rfl⟩
  rw [if_pos (by omega),if_pos trivial,if_pos (by omega),if_pos (by omega),if_pos (by omega),rd_nat,hX,ex,w64 (x:=((X*M:Nat):Int)) (by omega) (by omega),w64 (x:=(c:Int)+((X*M:Nat):Int)) (by omega) (by omega),show (c:Int)+((X*M:Nat):Int)=(S:Int) by omega,tdiv10,tmod10,w64 (by omega) (by omega),w64 (by omega) (by omega),show ((i:Int)+1)=((i+1:Nat):Int) by omega]
  refine ih k (i+1) (S / 10) _ (by omega) (by omega) (by omega) (by simp [ho]) (dgt_append.2 ⟨hO,dgt_cons.2 ⟨by omega,dgt_nil⟩⟩) (by omega) ?_
  rw [dval_snoc,ho,tx,Int.toNat_natCast,Nat.pow_succ,Nat.add_mul,<-he]
  have h1:=carry_step (10 ^ i) S c (S / 10) (S % 10) 10 (Nat.div_add_mod S 10)
  have h2:10 ^ i*S=10 ^ i*c+10 ^ i*(X*M):=by rw [<-hS];simp [Nat.mul_add]
  have h3:c*10 ^ i=10 ^ i*c:=Nat.mul_comm _ _
  have h4:10 ^ i*X*M=10 ^ i*(X*M):=Nat.mul_assoc _ _ _
  omega
theorem times_f (k m a M:Nat) (ha:a<10 ^ m) (hM:M<=4294967296) (hm:m<=100000) (hk:3*m+70<k):r02_times.f k (decs a) (M:Int)=some (decs (a*M)):=by
 have h1:=decs_len a m ha
 unfold r02_times.f
 have:=times_l (decs a) (dgt_decs a) M hM (by omega) (decs a).length k 0 0 [] (by omega) (by omega) (by omega) rfl dgt_nil (by omega) (by simp [dval])
 rw [dval_decs] at this
 exact this
theorem from_l (l:List Int) (hl:Lim l) (m:Nat) (hm:m<=50000) (hnl:nval l*4294967296<10 ^ m) (hll:l.length<=1000000) (hm20:20<=m) (d:Nat):∀k,d<=l.length->d+4*m+100<k->r02_FromLimbs.l0 k l (decs (nval (l.drop d))) ((d:Int)-1)=some (decs (nval l)):=by
 induction d with
 | zero =>
  intro k hd hk
  obtain ⟨k,rfl⟩:∃m,k=m+1:=⟨k-1,by omega⟩
  simp only [r02_FromLimbs.l0]
  rw [if_neg (by omega)];rfl
 | succ d ih =>
  intro k hd hk
  obtain ⟨k,rfl⟩:∃m,k=m+1:=⟨k-1,by omega⟩
  simp only [r02_FromLimbs.l0]
  have e1:((d+1:Nat):Int)-1=(d:Int):=by omega
  have hx:=lim_getD hl d
  obtain ⟨X,hX⟩:∃X:Nat,l.getD d 0=(X:Int):=⟨(l.getD d 0).toNat,by omega⟩
  rw [hX] at hx
  have hX32:X<4294967296:=by omega
  have hX19:X<10 ^ 19:=Nat.lt_of_lt_of_le hX32 (by decide)
  have hdr:=drop_cons l d (by omega)
  have hv:nval (l.drop d)=X+4294967296*nval (l.drop (d+1)):=by rw [hdr,hX];simp [nval]
  have hle:nval (l.drop d)<=nval l:=by
   have:=nval_append (l.take d) (l.drop d)
   rw [List.take_append_drop] at this
   have h1:1*nval (l.drop d)<=4294967296 ^ (l.take d).length*nval (l.drop d):=Nat.mul_le_mul_right _ (Nat.pow_pos (by omega))
   omega
  have hle2:nval (l.drop (d+1))<=nval l:=by omega
  have hA:nval (List.drop (d+1) l)*4294967296<10 ^ m:=Nat.lt_of_le_of_lt (Nat.mul_le_mul_right _ hle2) hnl
  have hB:nval (List.drop (d+1) l)<10 ^ m:=Nat.lt_of_le_of_lt (Nat.le_mul_of_pos_right _ (by decide)) hA
  rw [e1,if_pos (by omega)]
  have ht:r02_times.f k (decs (nval (List.drop (d+1) l))) 4294967296=some (decs (nval (List.drop (d+1) l)*4294967296)):=times_f k m _ 4294967296 hB (by omega) (by omega) (by omega)
  rw [ht]
  simp only [Option.bind_some]
  rw [if_pos (by omega),if_pos (by omega),rd_nat,hX,w64 (by omega) (by omega),small_f k X hX19 (by omega) (by omega)]
  simp only [Option.bind_some]
  have hXm:X<10 ^ m:=Nat.lt_of_lt_of_le hX19 (Nat.pow_le_pow_right (by omega) (by omega))
  rw [add_f' k m (nval (List.drop (d+1) l)*4294967296) X hA hXm (by omega) (by omega)]
  simp only [Option.bind_some]
  rw [w64 (by omega) (by omega),Nat.mul_comm,Nat.add_comm,<-hv]
  exact ih k (by omega) (by omega)
theorem from_f (k m:Nat) (l:List Int) (hl:Lim l) (hm:m<=50000) (hnl:nval l*4294967296<10 ^ m) (hll:l.length<=m) (hm20:20<=m) (hk:5*m+100<k):r02_FromLimbs.f k l=some (decs (nval l)):=by
 unfold r02_FromLimbs.f
 rw [w64 (by omega) (by omega)]
 have:=from_l l hl m hm hnl (by omega) hm20 l.length k (by omega) (by omega)
 rw [List.drop_of_length_le (by omega)] at this
 simpa [nval,decs_zero] using this
theorem divd_l (l:List Int) (dv:Nat) (hl:Dgt l) (h0:0<dv) (h1:dv<=4294967296) (hn:l.length<=100000) (d:Nat):∀ (k:Nat) (q:List Int) (rest:Nat),d<=l.length->d+l.length+5<k->q.length=l.length->Dgt (q.drop d)->rest<dv →
  dval (l.drop d)=dval (q.drop d)*dv+rest->r02_div.l0 k l (dv:Int) q (rest:Int) ((d:Int)-1)=some (decs (dval l / dv),((dval l % dv:Nat):Int)):=by
 induction d with
 | zero =>
  intro k q rest hd hk hq hL hr he
  obtain ⟨k,rfl⟩:∃m,k=m+1:=⟨k-1,by omega⟩
  simp only [r02_div.l0]
  rw [if_neg (by omega)]
  simp only [List.drop_zero] at hL he
  rw [cut_f k q (by omega) (by omega) hL]
  simp only [Option.bind_some]
  have a1:dval l / dv=dval q:=by rw [he,Nat.mul_comm,Nat.mul_add_div h0,Nat.div_eq_of_lt hr];omega
  have a2:dval l % dv=rest:=by rw [he,Nat.mul_comm,Nat.mul_add_mod,Nat.mod_eq_of_lt hr]
  rw [a1,a2]
 | succ d ih =>
  intro k q rest hd hk hq hL hr he
  obtain ⟨k,rfl⟩:∃m,k=m+1:=⟨k-1,by omega⟩
  obtain ⟨X,hX,hX10⟩:=dig_at hl d
  have e1:((d+1:Nat):Int)-1=(d:Int):=by omega
  simp only [r02_div.l0]
  rw [e1,if_pos (by omega),if_pos (by omega),if_pos (by omega),if_neg (by omega),if_pos (by omega),rd_nat,hX]
  obtain ⟨S,hS⟩:∃S:Nat,rest*10+X=S:=⟨_,rfl⟩
  rw [w64 (x:=(rest:Int)*10) (by omega) (by omega),w64 (x:=(rest:Int)*10+(X:Int)) (by omega) (by omega),show (rest:Int)*10+(X:Int)=(S:Int) by omega,tdiv_nat,tmod_nat]
  have hSlt:S<dv*10:=by omega
  have hqd:S / dv<10:=Nat.div_lt_of_lt_mul hSlt
  rw [w64 (x:=((S / dv:Nat):Int)) (by generalize S / dv=Q at *;omega) (by generalize S / dv=Q at *;omega),w64 (by omega) (by omega),Int.toNat_natCast]
  have hset:(q.set d ((S / dv:Nat):Int)).drop d=((S / dv:Nat):Int)::q.drop (d+1):=by
   rw [List.drop_set,if_neg (by omega),Nat.sub_self,drop_cons q d (by omega)];rfl
  refine ih k (q.set d ((S / dv:Nat):Int)) (S % dv) (by omega) (by omega) (by simpa using hq) ?_ (Nat.mod_lt _ h0) ?_
  ·rw [hset];exact dgt_cons.2 ⟨by generalize S / dv=Q at *;omega,hL⟩
  ·rw [hset,drop_cons l d (by omega),hX]
   simp only [dval,Int.toNat_natCast]
   rw [he,Nat.add_mul,Nat.mul_add,Nat.mul_assoc]
   have hdm:=Nat.div_add_mod S dv
   rw [Nat.mul_comm] at hdm
   omega
theorem divd_f (k m a dv:Nat) (ha:a<10 ^ m) (h0:0<dv) (h1:dv<=4294967296) (hm:m<=100000) (hk:2*m+10<k):r02_div.f k (decs a) (dv:Int)=some (decs (a / dv),((a % dv:Nat):Int)):=by
 have hl:=decs_len a m ha
 unfold r02_div.f
 rw [if_pos (by omega),if_pos (by omega),w64 (by omega) (by omega),Int.toNat_natCast]
 have:=divd_l (decs a) dv (dgt_decs a) h0 h1 (by omega) (decs a).length k (List.replicate (decs a).length 0) 0 (by omega) (by omega) (by simp) (by rw [List.drop_of_length_le (by simp)];exact dgt_nil) (by omega) (by rw [List.drop_of_length_le (by simp),List.drop_of_length_le (by simp)];simp [dval])
 rw [dval_decs] at this
 exact this
theorem limbs_l (j:Nat):∀ (k m n:Nat) (acc:List Int),n<4294967296 ^ j->n<10 ^ m->m<=100000->j+2*m+12<k->acc.length+j<=1000000->r02_Limbs.l0 k (decs n) acc=some (acc++limbs n):=by
 induction j with
 | zero =>
  intro k m n acc hn _ _ hk _
  obtain ⟨k,rfl⟩:∃m,k=m+1:=⟨k-1,by omega⟩
  obtain rfl:n=0:=by simpa using hn
  simp only [r02_Limbs.l0,decs_zero,limbs_zero]
  rw [if_neg (by simp)];simp
 | succ j ih =>
  intro k m n acc hn hnm hm hk ha
  by_cases h0:n=0
  ·subst h0;exact ih k m 0 acc (Nat.pow_pos (by omega)) hnm hm (by omega) (by omega)
  ·obtain ⟨k,rfl⟩:∃m,k=m+1:=⟨k-1,by omega⟩
   simp only [r02_Limbs.l0]
   have hp:0<(decs n).length:=List.length_pos_iff.2 (decs_ne n h0)
   have hd:r02_div.f k (decs n) 4294967296=_:=divd_f k m n 4294967296 hnm (by omega) (by omega) hm (by omega)
   rw [if_pos (by omega),hd]
   simp only [Option.bind_some]
   rw [if_pos (by omega),ih k m (n / 4294967296) _ (by rw [Nat.pow_succ] at hn;omega) (by omega) hm (by omega) (by simp;omega),limbs_pos n h0]
   have e:(((n % 4294967296:Nat):Int)) % 4294967296=((n % 4294967296:Nat):Int):=by omega
   rw [e];simp
theorem limbs_f (k m n:Nat) (hnm:n<10 ^ m) (hm:m<=100000) (hk:3*m+15<k):r02_Limbs.f k (decs n)=some (limbs n):=by
 unfold r02_Limbs.f
 have h:n<4294967296 ^ m:=Nat.lt_of_lt_of_le hnm (Nat.pow_le_pow_left (by omega) m)
 rw [limbs_l m k m n [] h hnm hm (by omega) (by simp;omega)];simp
theorem of_l (j:Nat):∀ (k n:Nat) (acc:List Int),n<4294967296 ^ j->n<18446744073709551616->j<k->acc.length+j<=1000000->r02_Of.l0 k (n:Int) acc=some (acc++limbs n):=by
 induction j with
 | zero =>
  intro k n acc hn _ hk _
  obtain ⟨k,rfl⟩:∃m,k=m+1:=⟨k-1,by omega⟩
  obtain rfl:n=0:=by simpa using hn
  simp only [r02_Of.l0,limbs_zero]
  rw [if_neg (by omega)];simp
 | succ j ih =>
  intro k n acc hn h64 hk ha
  by_cases h0:n=0
  ·subst h0;exact ih k 0 acc (Nat.pow_pos (by omega)) (by omega) (by omega) (by omega)
  ·obtain ⟨k,rfl⟩:∃m,k=m+1:=⟨k-1,by omega⟩
   simp only [r02_Of.l0]
   have e1:Int.tdiv (n:Int) 4294967296=((n / 4294967296:Nat):Int):=tdiv_nat n 4294967296
   have e2:Int.tmod (n:Int) 4294967296=((n % 4294967296:Nat):Int):=tmod_nat n 4294967296
   have e3:IntKind.u64.wrap ((n / 4294967296:Nat):Int)=((n / 4294967296:Nat):Int):=by rw [IntKind.wrap_u64];omega
   have e4:(((n % 4294967296:Nat):Int)) % 4294967296=((n % 4294967296:Nat):Int):=by omega
   rw [if_pos (by omega),if_pos (by omega),e1,e2,e3,e4,ih k (n / 4294967296) _ (by rw [Nat.pow_succ] at hn;omega) (by omega) (by omega) (by simp;omega),limbs_pos n h0]
   simp
theorem rof_f (k n:Nat) (h:n<18446744073709551616) (hk:5<=k):r02_Of.f k (n:Int)=some (limbs n):=by
 unfold r02_Of.f
 rw [of_l 2 k n [] (by omega) h (by omega) (by simp)];simp
end Go.Proofs.Ytfldklimlcnnnaa.QRef
end

section
namespace Go.Proofs.Ytfldklimlcnnnaa.QRef
open Go.RowKit YtfldklimlcnnnaaW.PrintWords YtfldklimlcnnnaaW.PrintLast YtfldklimlcnnnaaW.PrintMore
open MNat MDec QNat PHq
theorem dval_drop_le (l:List Int) (d:Nat):dval (l.drop d)<=dval l:=by
 have:=dval_append (l.take d) (l.drop d)
 rw [List.take_append_drop] at this
 have h1:1*dval (l.drop d)<=10 ^ (l.take d).length*dval (l.drop d):=Nat.mul_le_mul_right _ (Nat.pow_pos (by omega))
 omega
theorem mul_l (a:Nat) (y:List Int) (hy:Dgt y) (m:Nat) (hm:m<=50000) (hab:(a+1)*(10*(dval y+1))<10 ^ m) (hyl:y.length<=m) (d:Nat):∀k,d<=y.length->d+4*m+100<k →
  r02_mul.l0 k (decs a) y (decs (a*dval (y.drop d))) ((d:Int)-1)=some (decs (a*dval y)):=by
 have ham:a<10 ^ m:=by
  have:(a+1)*1<=(a+1)*(10*(dval y+1)):=Nat.mul_le_mul_left _ (by omega)
  omega
 have bound:∀v,v<=dval y->10*(a*v)+a*9<10 ^ m:=by
  intro v hv
  have h1:(a+1)*(10*(v+1))<=(a+1)*(10*(dval y+1)):=Nat.mul_le_mul_left _ (by omega)
  have h2:(a+1)*(10*(v+1))=10*(a*v)+a*10+(10*v+10):=by
   rw [Nat.add_mul,Nat.mul_add,Nat.mul_add,Nat.mul_left_comm];omega
  omega
 induction d with
 | zero =>
  intro k hd hk
  obtain ⟨k,rfl⟩:∃m,k=m+1:=⟨k-1,by omega⟩
  simp only [r02_mul.l0]
  have b:=bound (dval y) (Nat.le_refl _)
  rw [if_neg (by omega),List.drop_zero,cut_f k _ (by have:=decs_len (a*dval y) m (by omega);omega) (by have:=decs_len (a*dval y) m (by omega);omega) (dgt_decs _)]
  simp only [Option.bind_some,dval_decs]
 | succ d ih =>
  intro k hd hk
  obtain ⟨k,rfl⟩:∃m,k=m+1:=⟨k-1,by omega⟩
  simp only [r02_mul.l0]
  have e1:((d+1:Nat):Int)-1=(d:Int):=by omega
  obtain ⟨X,hX,hX10⟩:=dig_at hy d
  have hdr:=drop_cons y d (by omega)
  have hv:dval (y.drop d)=X+10*dval (y.drop (d+1)):=by rw [hdr,hX];simp [dval]
  have hle:=dval_drop_le y d
  have hle2:=dval_drop_le y (d+1)
  have b1:=bound _ hle2
  have hl:=decs_len (a*dval (y.drop (d+1))) m (by omega)
  have hX9:a*X<=a*9:=Nat.mul_le_mul_left _ (by omega)
  rw [e1,if_pos (by omega)]
  simp only [Option.bind_some,List.singleton_append]
  rw [if_pos (by simp;omega),cut_f k _ (by simp;omega) (by simp;omega) (dgt_cons.2 ⟨by omega,dgt_decs _⟩)]
  simp only [Option.bind_some]
  rw [if_pos (by omega),if_pos (by omega),rd_nat,hX,times_f k m a X ham (by omega) (by omega) (by omega)]
  simp only [Option.bind_some]
  have e2:dval (0::decs (a*dval (y.drop (d+1))))=10*(a*dval (y.drop (d+1))):=by simp [dval,dval_decs]
  rw [e2,add_f' k m _ _ (by omega) (by omega) (by omega) (by omega)]
  simp only [Option.bind_some]
  have e3:10*(a*dval (y.drop (d+1)))+a*X=a*dval (y.drop d):=by rw [hv,Nat.mul_add,Nat.mul_left_comm];omega
  rw [e3,w64 (by omega) (by omega)]
  exact ih k (by omega) (by omega)
theorem mul_f' (k m a b:Nat) (hab:(a+1)*(10*(b+1))<10 ^ m) (hm:m<=50000) (hk:5*m+100<k):r02_mul.f k (decs a) (decs b)=some (decs (a*b)):=by
 have hb:b<10 ^ m:=by
  have:1*(10*(b+1))<=(a+1)*(10*(b+1)):=Nat.mul_le_mul_right _ (by omega)
  omega
 have hl:=decs_len b m hb
 unfold r02_mul.f
 rw [w64 (by omega) (by omega)]
 have:=mul_l a (decs b) (dgt_decs b) m hm (by rw [dval_decs];exact hab) hl (decs b).length k (by omega) (by omega)
 rw [List.drop_of_length_le (by omega),dval_decs] at this
 simpa [dval,decs_zero] using this
theorem dval_cmp_last {xs ys:List Int} {x y:Int} (hx:Dgt (xs++[x])) (hy:Dgt (ys++[y])) (hl:xs.length=ys.length) (h:x<y) (zs:List Int):dval (xs++[x]++zs)<dval (ys++[y]++zs):=by
 have h1:=dval_lt (dgt_append.1 hx).1
 have h2:=(dgt_append.1 hx).2 x (by simp)
 have h3:=(dgt_append.1 hy).2 y (by simp)
 rw [dval_append,dval_append (ys++[y]),dval_snoc,dval_snoc]
 simp only [List.length_append,List.length_singleton,<-hl]
 have h4:10 ^ xs.length*(x.toNat+1)<=10 ^ xs.length*y.toNat:=Nat.mul_le_mul_left _ (by omega)
 rw [Nat.mul_add,Nat.mul_one] at h4
 omega
theorem cmpd_l (a b:List Int) (ha:Dgt a) (hb:Dgt b) (hab:a.length=b.length) (hl:a.length<=1000000) (d:Nat):∀k,d<=a.length->d<k->a.drop d=b.drop d →
  r02_cmp.l0 k a b ((d:Int)-1)=some (cmpI (dval a) (dval b)):=by
 induction d with
 | zero =>
  intro k hd hk he
  obtain ⟨k,rfl⟩:∃m,k=m+1:=⟨k-1,by omega⟩
  simp only [r02_cmp.l0]
  rw [if_neg (by omega)]
  simp at he
  simp [he,cmpI]
 | succ d ih =>
  intro k hd hk he
  obtain ⟨k,rfl⟩:∃m,k=m+1:=⟨k-1,by omega⟩
  have e1:((d+1:Nat):Int)-1=(d:Int):=by omega
  simp only [r02_cmp.l0]
  rw [e1,if_pos (by omega),if_pos (by omega),if_pos (by omega),if_pos (by omega),rd_nat,rd_nat]
  have pa:=parts_at a d (by omega)
  have pb:=parts_at b d (by omega)
  rw [<-he] at pb
  have la:Dgt (a.take d++[a.getD d 0]):=dgt_append.2 ⟨dgt_take ha _,fun y hy=>by simp at hy;subst hy;have:=dgt_getD ha d;simpa [List.getD] using this⟩
  have lb:Dgt (b.take d++[b.getD d 0]):=dgt_append.2 ⟨dgt_take hb _,fun y hy=>by simp at hy;subst hy;have:=dgt_getD hb d;simpa [List.getD] using this⟩
  by_cases hlt:a.getD d 0<b.getD d 0
  ·rw [if_pos hlt]
   have:=dval_cmp_last la lb (by simp;omega) hlt (a.drop (d+1))
   rw [<-pa,<-pb] at this
   simp [cmpI,this]
  ·rw [if_neg hlt]
   by_cases hgt:a.getD d 0>b.getD d 0
   ·rw [if_pos hgt]
    have:=dval_cmp_last lb la (by simp;omega) hgt (a.drop (d+1))
    rw [<-pa,<-pb] at this
    have h1:¬ dval a<dval b:=by omega
    have h2:¬ dval a=dval b:=by omega
    simp [cmpI,h1,h2]
   ·rw [if_neg hgt,w64 (by omega) (by omega)]
    have h:a.getD d 0=b.getD d 0:=by omega
    exact ih k (by omega) (by omega) (by rw [drop_cons a d (by omega),drop_cons b d (by omega),he,h])
theorem decs_len_lt {n m:Nat} (h:(decs n).length<(decs m).length):n<m:=by
 rcases Nat.lt_or_ge n m with h1|h1
 ·exact h1
 ·have:=decs_length_le h1;omega
theorem cmpd_f (k m a b:Nat) (ha:a<10 ^ m) (hm:m<=100000) (hk:m<k):r02_cmp.f k (decs a) (decs b)=some (cmpI a b):=by
 have hl:=decs_len a m ha
 unfold r02_cmp.f
 by_cases h:(decs a).length=(decs b).length
 ·rw [if_pos (by omega),w64 (by omega) (by omega)]
  have:=cmpd_l (decs a) (decs b) (dgt_decs a) (dgt_decs b) h (by omega) (decs a).length k (by omega) (by omega) (by rw [List.drop_of_length_le (by omega),List.drop_of_length_le (by omega)])
  rw [dval_decs,dval_decs] at this
  exact this
 ·rw [if_neg (by omega)]
  unfold cmpI
  rcases Nat.lt_or_gt_of_ne h with h3|h3
  ·have:=decs_len_lt h3
   rw [if_pos (by omega),if_pos this]
  ·have:=decs_len_lt h3
   rw [if_neg (by omega),if_neg (by omega),if_neg (by omega)]
theorem limbs_len10 {a m:Nat} (ha:a<10 ^ m):(limbs a).length<=m:=limbs_len a m (Nat.lt_of_lt_of_le ha (Nat.pow_le_pow_left (by omega) m))
theorem from_n (k m a:Nat) (ha:a<10 ^ m) (hm:m<=20000) (hk:5*m+300<k):r02_FromLimbs.f k (limbs a)=some (decs a):=by
 have hl:=limbs_len10 ha
 have h1:nval (limbs a)*4294967296<10 ^ (m+20):=by
  rw [nval_limbs,Nat.pow_add]
  exact Nat.mul_lt_mul_of_lt_of_le ha (by decide) (by decide)
 rw [from_f k (m+20) (limbs a) (lim_limbs a) (by omega) h1 (by omega) (by omega) (by omega),nval_limbs]
theorem radd_f (k m a b:Nat) (ha:a<10 ^ m) (hb:b<10 ^ m) (hm:m<=20000) (hk:5*m+400<k):r02_Add.f k (limbs a) (limbs b)=some (limbs (a+b)):=by
 have hp:(10:Nat) ^ (m+1)=10 ^ m*10:=Nat.pow_succ _ _
 unfold r02_Add.f
 rw [from_n k m a ha hm (by omega),from_n k m b hb hm (by omega)]
 simp only [Option.bind_some]
 rw [add_f' k m a b ha hb (by omega) (by omega)]
 simp only [Option.bind_some]
 rw [limbs_f k (m+1) (a+b) (by omega) (by omega) (by omega)]
 rfl
theorem mul_lt10 {a b m n:Nat} (ha:a<10 ^ m) (hb:b<10 ^ n):a*b<10 ^ (m+n):=by
 rw [Nat.pow_add]
 exact Nat.mul_lt_mul'' ha hb
theorem rmul_f (k m n a b:Nat) (ha:a<10 ^ m) (hb:b<10 ^ n) (hm:m+n<=20000) (hk:5*(m+n)+400<k):r02_Mul.f k (limbs a) (limbs b)=some (limbs (a*b)):=by
 have hab:(a+1)*(10*(b+1))<10 ^ (m+n+2):=by
  have h1:(a+1)*(10*(b+1))<=10 ^ m*(10*10 ^ n):=Nat.mul_le_mul (by omega) (by omega)
  have h2:(10:Nat) ^ m*(10*10 ^ n)=10 ^ (m+n+1):=by rw [Nat.pow_succ,Nat.pow_add,Nat.mul_comm 10,Nat.mul_assoc]
  have h3:(10:Nat) ^ (m+n+1)<10 ^ (m+n+2):=Nat.pow_lt_pow_right (by omega) (by omega)
  omega
 unfold r02_Mul.f
 rw [from_n k m a ha (by omega) (by omega),from_n k n b hb (by omega) (by omega)]
 simp only [Option.bind_some]
 rw [mul_f' k (m+n+2) a b hab (by omega) (by omega)]
 simp only [Option.bind_some]
 rw [limbs_f k (m+n) (a*b) (mul_lt10 ha hb) (by omega) (by omega)]
 rfl
theorem rcmp_f (k m a b:Nat) (ha:a<10 ^ m) (hb:b<10 ^ m) (hm:m<=20000) (hk:5*m+400<k):r02_Cmp.f k (limbs a) (limbs b)=some (cmpI a b):=by
 unfold r02_Cmp.f
 rw [from_n k m a ha hm (by omega),from_n k m b hb hm (by omega)]
 simp only [Option.bind_some]
 rw [cmpd_f k m a b ha (by omega) (by omega)]
 rfl
end Go.Proofs.Ytfldklimlcnnnaa.QRef
end

section
namespace Go.Proofs.Ytfldklimlcnnnaa.QRatio
open Go.RowKit YtfldklimlcnnnaaW.PrintWords YtfldklimlcnnnaaW.PrintLast YtfldklimlcnnnaaW.PrintMore
open MNat QNat QText QRef QEv PHq
theorem r2of_t (n:Nat) (h:n<18446744073709551616):Tell (fun k=>r02_Of.f k (n:Int)) (limbs n):=⟨5,fun k hk=>rof_f k n h hk⟩
theorem r2mul_t (i j a b:Nat) (ha:F i a) (hb:F j b) (hij:i+j<=2000):Tell (fun k=>r02_Mul.f k (limbs a) (limbs b)) (limbs (a*b)) :=
 ⟨5*(10*i+10*j)+401,fun k hk=>rmul_f k (10*i) (10*j) a b (F_ten ha) (F_ten hb) (by omega) (by omega)⟩
theorem r2cmp_t (j a b:Nat) (ha:F j a) (hb:F j b) (hj:j<=2000):Tell (fun k=>r02_Cmp.f k (limbs a) (limbs b)) (cmpI a b) :=
 ⟨5*(10*j)+401,fun k hk=>rcmp_f k (10*j) a b (F_ten ha) (F_ten hb) (by omega) (by omega)⟩
theorem r2add_t (j a b:Nat) (ha:F j a) (hb:F j b) (hj:j<=2000):Tell (fun k=>r02_Add.f k (limbs a) (limbs b)) (limbs (a+b)) :=
 ⟨5*(10*j)+401,fun k hk=>radd_f k (10*j) a b (F_ten ha) (F_ten hb) (by omega) (by omega)⟩
theorem r3of_t (x:S34) (h:okW x):Tell (fun k=>r03_Of.f k x.f0 x.f1) (limbs x.f0.toNat,limbs x.f1.toNat):=by
 obtain ⟨h0,h1,h2,h3⟩:=h
 unfold r03_Of.f
 have e0:IntKind.u64.wrap x.f0=(x.f0.toNat:Int):=by rw [IntKind.wrap_u64];omega
 have e1:IntKind.u64.wrap x.f1=(x.f1.toNat:Int):=by rw [IntKind.wrap_u64];omega
 rw [e0,e1]
 exact Tell.bind (r2of_t _ (by omega)) (Tell.bind (r2of_t _ (by omega)) (Tell.const _))
theorem r3cmp_t (i j n d m e:Nat) (hn:F i n) (hd:F i d) (hm:F j m) (he:F j e) (hij:i+j<=2000) (h0:0<d) (h1:0<e) :
  Tell (fun k=>r03_Cmp.f k (limbs n) (limbs d) (limbs m) (limbs e)) (cmpR (mkRat (n:Int) d) (mkRat (m:Int) e)):=by
 unfold r03_Cmp.f
 have h2:=hm.mul hd
 rw [Nat.add_comm j i] at h2
 rw [<-cmp_cross n d m e h0 h1]
 exact Tell.bind (r2mul_t i j n e hn he hij) (Tell.bind (r2mul_t j i m d hm hd (by omega)) (Tell.bind (r2cmp_t (i+j) _ _ (hn.mul he) h2 hij) (Tell.const _)))
theorem r3plus_t (i j n d m e:Nat) (hn:F i n) (hd:F i d) (hm:F j m) (he:F j e) (hij:i+j<=2000) :
  Tell (fun k=>r03_Plus.f k (limbs n) (limbs d) (limbs m) (limbs e)) (limbs (n*e+m*d),limbs (d*e)):=by
 unfold r03_Plus.f
 have h2:=hm.mul hd
 rw [Nat.add_comm j i] at h2
 exact Tell.bind (r2mul_t i j n e hn he hij) (Tell.bind (r2mul_t j i m d hm hd (by omega)) (Tell.bind (r2add_t (i+j) _ _ (hn.mul he) h2 hij) (Tell.bind (r2mul_t i j d e hd he hij) (Tell.const _))))
theorem cmpR_zero {p q:Rat} : cmpR p q=0↔p=q:=by
 unfold cmpR
 by_cases h:p<q
 ·simp [h]
  intro e;subst e;exact Rat.lt_irrefl h
 ·by_cases h2:p=q<;>simp [h,h2]
theorem cmpR_self (p:Rat):cmpR p p=0:=cmpR_zero.2 rfl
end Go.Proofs.Ytfldklimlcnnnaa.QRatio
end

/- The words and walks that the law QuotaPlays is proved by, part 3: each text in a section of its own. -/
import Derived.Test.YtfldklimlcnnnaaQL2
set_option linter.unusedVariables false
set_option linter.unusedSimpArgs false
section
namespace Go.Proofs.Ytfldklimlcnnnaa.PHq
open Go.RowKit YtfldklimlcnnnaaW.PrintWords YtfldklimlcnnnaaW.PrintLast YtfldklimlcnnnaaW.PrintMore MWords
attribute [local go_sem] max2_int min2_int max_two min_two max_three min_three max_four min_four   -- for this text's walks alone
def ratio_Whole.f (a0:Int):Option (List Int × List Int):=(nat_Of.f a0).bind fun t181=>((nat_Of.f 1).bind fun t184=>(some (t181,t184)))
set_option maxHeartbeats 8000000 in
set_option maxRecDepth 100000 in
theorem ratio_Whole.calls (a0:Int) (r1:List Int) (r2:List Int) (w:World) (h:ratio_Whole.f a0=some (r1,r2)) :
  Calls Try.prog 64 #[.int .u64 a0] w fun e w'=>∃v0_ v1_:Value,e=.returned (.agg #[v0_,v1_])/\Kd.V (Kd.int .u32) 89 w' w.heap.size (fun k_=>(w.heap.size<=k_)) v0_ r1/\Kd.V (Kd.int .u32) 89 w' w.heap.size (fun k_=>(w.heap.size<=k_)) v1_ r2/\Below w.heap.size w w':=by
 have hu28:=Try.underlying28
 have HB:=Zz.mk (Below.refl w.heap.size w)
 have H:((nat_Of.f a0).bind fun t181=>((nat_Of.f 1).bind fun t184=>(some (t181,t184))))=some (r1,r2):=h
 clear h
 replace H:=Option.bind_eq_some_iff.mp H
 obtain ⟨t181,A20,H⟩:=H
 replace H:((nat_Of.f 1).bind fun t184=>(some (t181,t184)))=some (r1,r2):=H
 have A2:=Zz.mk A20
 clear A20
 replace H:=Option.bind_eq_some_iff.mp H
 obtain ⟨t184,A30,H⟩:=H
 replace H:(some (t181,t184))=some (r1,r2):=H
 have A3:=Zz.mk A30
 clear A30
 simp only [Option.some.injEq,Prod.mk.injEq] at H
 obtain ⟨rfl,rfl⟩:=H
 go_enter Try.func64,Try.ntmps64
 go_wp2_with (first|((with_reducible refine Zt (N:=2) rfl ?_);refine Zu ?hg (N:=2) ?hd (cs:=#[.slice none 0 0,.slice none 0 0]) (t:=28) ?hr ?_;(case hd=>rfl);(case hg=>rfl);(case hr=>first|(go_simp;done)|(go_simp;rfl));intro gb180 hg w4 hbox hb;have n0_:=Zz.mk (Zi (by repeat (first|(with_reducible first|exact HB.out|apply Zb|apply Za|apply Zc)|exact HB.out)) hb);have n1_:=Zz.mk (hbox);have n2_:=Zz.mk ((by rw [hg];exact (Zf (by repeat (first|(with_reducible first|exact HB.out|apply Zb|apply Za|apply Zc)|exact HB.out))):w.heap.size<=gb180));have n3_:=Zz.mk ((by rw [hg];exact (Zf (by repeat (first|(with_reducible first|exact HB.out|apply Zb|apply Za|apply Zc)|exact HB.out))):w.heap.size<=gb180));clear HB;have HB:=n0_;have BK180:=n1_;have GW180:=n2_;have GE180:=n3_;clear n0_ n1_ n2_ n3_;clear hb hbox hg)|((with_reducible refine Zs (f:=100) rfl ?_);refine Zv (some 4) rfl rfl Try.func100 (by kernel_rfl) rfl #[.int .u64 a0] rfl (by (try simp only [List.map_toArray,List.map_cons,List.map_nil]);first|done|rfl|(simp only [List.length_drop,List.length_take];rfl)) ?_;(with_reducible refine (nat_Of.calls a0 t181 _ A2.out).mono ?_);rintro e w5 ⟨v182,rfl,ho0,hb⟩;refine ⟨_,rfl,?_⟩;have n0_:=Zz.mk (Kd.V_lower (Kd.V_mono (ok':=fun k_=>(w.heap.size<=k_)/\k_≠gb180) ho0 (fun k_ hk_=>⟨(Nat.le_trans (Zf (by repeat (first|(with_reducible first|exact HB.out|apply Zb|apply Za|apply Zc|refine Zd ?_ GE180.out)|exact HB.out))) hk_),(Kd.freshB (g:=gb180) (o:=.cells #[.slice none 0 0,.slice none 0 0] 28 (0,0)) (by (with_reducible repeat (first|refine blk_drewN ?_ _|refine Ze ?_|refine blk_alloc ?_ _));exact BK180.out) k_ hk_)⟩)) (Zf (by repeat (first|(with_reducible first|exact HB.out|apply Zb|apply Za|apply Zc|refine Zd ?_ GE180.out)|exact HB.out))));have n1_:=Zz.mk (Zk (g:=gb180) (o:=.cells #[.slice none 0 0,.slice none 0 0] 28 (0,0)) (by (with_reducible repeat (first|refine blk_drewN ?_ _|refine Ze ?_|refine blk_alloc ?_ _));exact BK180.out) hb);have n2_:=Zz.mk (Zi (by repeat (first|(with_reducible first|exact HB.out|apply Zb|apply Za|apply Zc|refine Zd ?_ GE180.out)|exact HB.out)) hb);clear BK180;clear HB;have HO183:=n0_;have BK180:=n1_;have HB:=n2_;clear n0_ n1_ n2_;(try clear hb);(try clear hb2);(try clear hk);(try clear hi);(try clear ho0);(try clear A2))|((with_reducible refine Zs (f:=100) rfl ?_);refine Zv (some 5) rfl rfl Try.func100 (by kernel_rfl) rfl #[.int .u64 1] rfl (by (try simp only [List.map_toArray,List.map_cons,List.map_nil]);first|done|rfl|(simp only [List.length_drop,List.length_take];rfl)) ?_;(with_reducible refine (nat_Of.calls 1 t184 _ A3.out).mono ?_);rintro e w6 ⟨v185,rfl,ho0,hb⟩;refine ⟨_,rfl,?_⟩;have n0_:=Zz.mk (Kd.V_below (by (with_reducible repeat (first|apply Kd.V_alloc|apply Kd.V_drewN|apply Kd.V_drew));exact HO183.out) hb);have n1_:=Zz.mk (Kd.V_lower (Kd.V_mono (ok':=fun k_=>(w.heap.size<=k_)/\k_≠gb180) ho0 (fun k_ hk_=>⟨(Nat.le_trans (Zf (by repeat (first|(with_reducible first|exact HB.out|apply Zb|apply Za|apply Zc|refine Zd ?_ GE180.out)|exact HB.out))) hk_),(Kd.freshB (g:=gb180) (o:=.cells #[.slice none 0 0,.slice none 0 0] 28 (0,0)) (by (with_reducible repeat (first|refine blk_drewN ?_ _|refine Ze ?_|refine blk_alloc ?_ _));exact BK180.out) k_ hk_)⟩)) (Zf (by repeat (first|(with_reducible first|exact HB.out|apply Zb|apply Za|apply Zc|refine Zd ?_ GE180.out)|exact HB.out))));have n2_:=Zz.mk (Zk (g:=gb180) (o:=.cells #[.slice none 0 0,.slice none 0 0] 28 (0,0)) (by (with_reducible repeat (first|refine blk_drewN ?_ _|refine Ze ?_|refine blk_alloc ?_ _));exact BK180.out) hb);have n3_:=Zz.mk (Zi (by repeat (first|(with_reducible first|exact HB.out|apply Zb|apply Za|apply Zc|refine Zd ?_ GE180.out)|exact HB.out)) hb);clear HO183;clear BK180;clear HB;have HO183:=n0_;have HO186:=n1_;have BK180:=n2_;have HB:=n3_;clear n0_ n1_ n2_ n3_;(try clear hb);(try clear hb2);(try clear hk);(try clear hi);(try clear ho0);obtain ⟨Ao7,co7,eo7⟩:=Kd.V_slice HO186.out;subst eo7;obtain ⟨Ao8,co8,eo8⟩:=Kd.V_slice HO183.out;subst eo8;have hcz9_0:w6.cell? ⟨gb180,0,none⟩=some (.slice none 0 0):=(Zh BK180.out 0).trans rfl;have hcz9_1:w6.cell? ⟨gb180,1,none⟩=some (.slice none 0 0):=(Zh BK180.out 1).trans rfl;have hfz9_0:=Zj BK180.out 0;have hfz9_1:=Zj BK180.out 1;(try clear A3)))
 refine bodyPost_ret (results_cell_row rfl _ _ gb180 28 #[.slice Ao8 t181.length co8,.slice Ao7 t184.length co7] (0,0) _ rfl (by (with_reducible repeat (first|refine blk_drewN ?_ _|refine Ze ?_|refine blk_alloc ?_ _));refine Zx (cs:=#[.slice Ao8 t181.length co8,.slice none 0 0]) ?_ 1 _ rfl;(with_reducible repeat (first|refine blk_drewN ?_ _|refine Ze ?_|refine blk_alloc ?_ _));refine Zx (cs:=#[.slice none 0 0,.slice none 0 0]) ?_ 0 _ rfl;(with_reducible repeat (first|refine blk_drewN ?_ _|refine Ze ?_|refine blk_alloc ?_ _));exact BK180.out) Try.underlying28 rfl (by kernel_rfl)) rfl ?_
 exact ⟨_,_,by first|rfl|(simp [Zm,Zl]<;>rfl)|(simp [*,Zm,Zl]<;>rfl),by (with_reducible repeat (first|apply Kd.V_alloc|apply Kd.V_drewN|apply Kd.V_drew));exact Kd.V_mono (Kd.V_far (p:=⟨gb180,1,none⟩) (Kd.V_far (p:=⟨gb180,0,none⟩) (Kd.V_mono HO183.out (fun k_ hk=>(⟨hk,hk.2⟩:_/\k_≠gb180))) (fun _ hk=>hk.2) (.slice Ao8 t181.length co8)) (fun _ hk=>hk.2) (.slice Ao7 t184.length co7)) (fun _ hk=>hk.1.1),by (with_reducible repeat (first|apply Kd.V_alloc|apply Kd.V_drewN|apply Kd.V_drew));exact Kd.V_mono (Kd.V_far (p:=⟨gb180,1,none⟩) (Kd.V_far (p:=⟨gb180,0,none⟩) (Kd.V_mono HO186.out (fun k_ hk=>(⟨hk,hk.2⟩:_/\k_≠gb180))) (fun _ hk=>hk.2) (.slice Ao8 t181.length co8)) (fun _ hk=>hk.2) (.slice Ao7 t184.length co7)) (fun _ hk=>hk.1.1),by repeat (first|(with_reducible first|exact HB.out|apply Zb|apply Za|apply Zc|refine Zd ?_ GE180.out)|exact HB.out)⟩
def ratio_Of.f (a0_0:Int) (a0_1:Int):Option (List Int × List Int):=(nat_Of.f (IntKind.u64.wrap (mx a0_0 0))).bind fun t200=>((nat_Of.f (IntKind.u64.wrap (mx a0_1 1))).bind fun t203=>(some (t200,t203)))
def ratio_Of.T1:Bool × List (List Nat × List Nat):=(true,[([],[]),([0],[0]),([1],[1]),([2],[2]),([3],[3]),([],[]),([5],[5]),([6],[6]),([7],[7]),([8,4],[8]),([4,9],[4,9]),([10,9,0,1,2,3,4,5,6,7,8,9,10],[10])])
def ratio_Of.B1:List Nat:=[0,1,3,7,15,0,32,96,224,511,1023,2047]
theorem ratio_Of.tab1:rtab .any (opsOf Try.f71 1)=ratio_Of.T1:=by kernel_rfl
theorem ratio_Of.bits1:waitsOk ratio_Of.T1.2 ratio_Of.B1=true:=by kernel_rfl
set_option maxHeartbeats 8000000 in
set_option maxRecDepth 100000 in
theorem ratio_Of.calls (a0_0:Int) (a0_1:Int) (r1:List Int) (r2:List Int) (w:World) (h:ratio_Of.f a0_0 a0_1=some (r1,r2)) :
  Calls Try.prog 71 #[.agg #[.int .i64 a0_0,.int .i64 a0_1]] w fun e w'=>∃v0_ v1_:Value,e=.returned (.agg #[v0_,v1_])/\Kd.V (Kd.int .u32) 89 w' w.heap.size (fun k_=>(w.heap.size<=k_)) v0_ r1/\Kd.V (Kd.int .u32) 89 w' w.heap.size (fun k_=>(w.heap.size<=k_)) v1_ r2/\Below w.heap.size w w':=by
 have hu34:=Try.underlying34
 have hu28:=Try.underlying28
 have HB:=Zz.mk (Below.refl w.heap.size w)
 have H:((nat_Of.f (IntKind.u64.wrap (mx a0_0 0))).bind fun t200=>((nat_Of.f (IntKind.u64.wrap (mx a0_1 1))).bind fun t203=>(some (t200,t203))))=some (r1,r2):=h
 clear h
 obtain ⟨ji2,hji2⟩:∃j_:Int,(mx a0_0 0)=j_:=⟨_,rfl⟩
 replace H:((nat_Of.f (IntKind.u64.wrap (ji2))).bind fun t200=>((nat_Of.f (IntKind.u64.wrap (mx a0_1 1))).bind fun t203=>(some (t200,t203))))=some (r1,r2):=by first|(rw [hji2] at H;exact H)|(simp only [hji2] at H ⊢;exact H)
 (try (have hji2l:0<=ji2:=by (rw [<-hji2];unfold mx;(repeat' split)<;>omega)))
 (try (have hji2m:0<=ji2:=by omega))
 have hji2_:(if a0_0<0 then 0 else a0_0)=ji2:=hji2
 replace H:=Option.bind_eq_some_iff.mp H
 obtain ⟨t200,A30,H⟩:=H
 replace H:((nat_Of.f (IntKind.u64.wrap (mx a0_1 1))).bind fun t203=>(some (t200,t203)))=some (r1,r2):=H
 have A3:=Zz.mk A30
 clear A30
 obtain ⟨ji4,hji4⟩:∃j_:Int,(mx a0_1 1)=j_:=⟨_,rfl⟩
 replace H:((nat_Of.f (IntKind.u64.wrap (ji4))).bind fun t203=>(some (t200,t203)))=some (r1,r2):=by first|(rw [hji4] at H;exact H)|(simp only [hji4] at H ⊢;exact H)
 (try rw [hji4] at A3)
 (try (have hji4l:1<=ji4:=by (rw [<-hji4];unfold mx;(repeat' split)<;>omega)))
 (try (have hji4m:0<=ji4:=by omega))
 have hji4_:(if a0_1<1 then 1 else a0_1)=ji4:=hji4
 replace H:=Option.bind_eq_some_iff.mp H
 obtain ⟨t203,A50,H⟩:=H
 replace H:(some (t200,t203))=some (r1,r2):=H
 have A5:=Zz.mk A50
 clear A50
 simp only [Option.some.injEq,Prod.mk.injEq] at H
 obtain ⟨rfl,rfl⟩:=H
 go_enter Try.func71,Try.ntmps71
 try go_wp2_with (first|((with_reducible refine Zt (N:=1) rfl ?_);refine Zu ?hg (N:=1) ?hd (cs:=#[.int .i64 a0_0,.int .i64 a0_1]) (t:=34) ?hr ?_;(case hd=>rfl);(case hg=>rfl);(case hr=>first|(go_simp;done)|(go_simp;rfl));intro gb198 hg w6 hbox hb;have n0_:=Zz.mk (Zi (by repeat (first|(with_reducible first|exact HB.out|apply Zb|apply Za|apply Zc)|exact HB.out)) hb);have n1_:=Zz.mk (hbox);have n2_:=Zz.mk ((by rw [hg];exact (Zf (by repeat (first|(with_reducible first|exact HB.out|apply Zb|apply Za|apply Zc)|exact HB.out))):w.heap.size<=gb198));have n3_:=Zz.mk ((by rw [hg];exact (Zf (by repeat (first|(with_reducible first|exact HB.out|apply Zb|apply Za|apply Zc)|exact HB.out))):w.heap.size<=gb198));clear HB;have HB:=n0_;have BK198:=n1_;have GW198:=n2_;have GE198:=n3_;clear n0_ n1_ n2_ n3_;clear hb hbox hg)|((with_reducible refine Zt (N:=2) rfl ?_);refine Zu ?hg (N:=2) ?hd (cs:=#[.slice none 0 0,.slice none 0 0]) (t:=28) ?hr ?_;(case hd=>rfl);(case hg=>rfl);(case hr=>first|(go_simp;done)|(go_simp;rfl));intro gb199 hg w7 hbox hb;have n0_:=Zz.mk (Zk (g:=gb198) (o:=.cells #[.int .i64 a0_0,.int .i64 a0_1] 34 (0,0)) (by (with_reducible repeat (first|refine blk_drewN ?_ _|refine Ze ?_|refine blk_alloc ?_ _));exact BK198.out) hb);have n1_:=Zz.mk (Zi (by repeat (first|(with_reducible first|exact HB.out|apply Zb|apply Za|apply Zc|refine Zd ?_ GE198.out)|exact HB.out)) hb);have n2_:=Zz.mk (hbox);have n3_:=Zz.mk ((by rw [hg];exact (Zf (by repeat (first|(with_reducible first|exact HB.out|apply Zb|apply Za|apply Zc|refine Zd ?_ GE198.out)|exact HB.out))):w.heap.size<=gb199));have n4_:=Zz.mk ((by rw [hg];exact (Zf (by repeat (first|(with_reducible first|exact HB.out|apply Zb|apply Za|apply Zc|refine Zd ?_ GE198.out)|exact HB.out))):w.heap.size<=gb199));have n5_:=Zz.mk ((by rw [hg];exact Nat.ne_of_lt (Z5 (g:=gb198) (o:=.cells #[.int .i64 a0_0,.int .i64 a0_1] 34 (0,0)) (by (with_reducible repeat (first|refine blk_drewN ?_ _|refine Ze ?_|refine blk_alloc ?_ _));exact BK198.out)):gb198≠gb199));have n6_:=Zz.mk ((by rw [hg];exact Nat.ne_of_gt (Z5 (g:=gb198) (o:=.cells #[.int .i64 a0_0,.int .i64 a0_1] 34 (0,0)) (by (with_reducible repeat (first|refine blk_drewN ?_ _|refine Ze ?_|refine blk_alloc ?_ _));exact BK198.out)):gb199≠gb198));clear BK198;clear HB;have BK198:=n0_;have HB:=n1_;have BK199:=n2_;have GW199:=n3_;have GE199:=n4_;have NB198_199:=n5_;have NB199_198:=n6_;clear n0_ n1_ n2_ n3_ n4_ n5_ n6_;clear hb hbox hg))
 have n0_:=Zz.mk (Ze BK198.out)
 have n1_:=Zz.mk (Ze BK199.out)
 have n2_:=Zz.mk (Zc HB.out)
 clear BK198
 clear BK199
 clear HB
 have BK198:=n0_
 have BK199:=n1_
 have HB:=n2_
 clear n0_ n1_ n2_
 refine start_ (n:=12) (S:=fun w'=>w'.cell? ⟨gb198,0,none⟩=some (.int .i64 a0_0)/\w'.cell? ⟨gb198,1,none⟩=some (.int .i64 a0_1)) (ds:=[]) #[false,false,false,false,false,false,false,false,false,false,false,false] (by kernel_rfl) rfl rfl ⟨(Zh BK198.out 0).trans rfl,(Zh BK198.out 1).trans rfl⟩ (fun hHeld=>?_);refine with_tabW ratio_Of.tab1 ratio_Of.bits1 (fun HT_ HW_=>?_)
 generalize w7.drew=w8 at BK198 BK199 HB hHeld ⊢
 refine pure_ (i:=0) (N:=some 3) (v:=?_) (a':=?_) #[true,false,false,false,false,false,false,false,false,false,false,false] rfl rfl (Z3 HT_.out (by kernel_rfl)) (fun _ _ _ h=>h) (Or.inl ⟨by rfl,?_⟩) ?_ ?_
 rotate_left
 ·intro w'
  go_simp
  with_reducible rfl
 rotate_left
 ·simp only [Act.put,List.setIfInBounds_toArray,List.set_cons_zero,List.set_cons_succ,Z6,Z7]
  rfl
 refine pure_ (i:=5) (N:=some 8) (v:=?_) (a':=?_) #[true,false,false,false,false,true,false,false,false,false,false,false] rfl rfl (Z3 HT_.out (by kernel_rfl)) (fun _ _ _ h=>h) (Or.inl ⟨by rfl,?_⟩) ?_ ?_
 rotate_left
 ·intro w'
  go_simp
  with_reducible rfl
 rotate_left
 ·simp only [Act.put,List.setIfInBounds_toArray,List.set_cons_zero,List.set_cons_succ,Z6,Z7]
  rfl
 refine take_ (i:=1) (N:=some 4) (v:=?_) (a':=?_) #[true,true,false,false,false,true,false,false,false,false,false,false] rfl rfl (Zw HT_.out HW_.out (by kernel_rfl)) (fun _ _ _ h=>h) (Or.inl ⟨by rfl,?_⟩) hHeld ?_ ?_
 rotate_left
 ·rintro w' ⟨s0,s1⟩
  go_simp
  with_reducible rfl
 rotate_left
 ·simp only [Act.put,List.setIfInBounds_toArray,List.set_cons_zero,List.set_cons_succ,Z6,Z7]
  rfl
 refine pure_ (i:=2) (N:=some 5) (v:=?_) (a':=?_) #[true,true,true,false,false,true,false,false,false,false,false,false] rfl rfl (Z3 HT_.out (by kernel_rfl)) (fun _ _ _ h=>h) (Or.inl ⟨by rfl,?_⟩) ?_ ?_
 rotate_left
 ·intro w'
  go_simp
  with_reducible rfl
 rotate_left
 ·simp only [Act.put,List.setIfInBounds_toArray,List.set_cons_zero,List.set_cons_succ,Z6,Z7]
  rfl
 refine pure_ (i:=3) (N:=some 6) (v:=?_) (a':=?_) #[true,true,true,true,false,true,false,false,false,false,false,false] rfl rfl (Z3 HT_.out (by kernel_rfl)) (fun _ _ _ h=>h) (Or.inl ⟨by rfl,?_⟩) ?_ ?_
 rotate_left
 ·intro w'
  go_simp
  with_reducible rfl
 rotate_left
 ·simp only [Act.put,List.setIfInBounds_toArray,List.set_cons_zero,List.set_cons_succ,Z6,Z7]
  rfl
 refine take_ (i:=6) (N:=some 9) (v:=?_) (a':=?_) #[true,true,true,true,false,true,true,false,false,false,false,false] rfl rfl (Zw HT_.out HW_.out (by kernel_rfl)) (fun _ _ _ h=>h) (Or.inl ⟨by rfl,?_⟩) hHeld ?_ ?_
 rotate_left
 ·rintro w' ⟨s0,s1⟩
  go_simp
  with_reducible rfl
 rotate_left
 ·simp only [Act.put,List.setIfInBounds_toArray,List.set_cons_zero,List.set_cons_succ,Z6,Z7]
  rfl
 refine pure_ (i:=7) (N:=some 10) (v:=?_) (a':=?_) #[true,true,true,true,false,true,true,true,false,false,false,false] rfl rfl (Z3 HT_.out (by kernel_rfl)) (fun _ _ _ h=>h) (Or.inl ⟨by rfl,?_⟩) ?_ ?_
 rotate_left
 ·intro w'
  go_simp
  with_reducible rfl
 rotate_left
 ·simp only [Act.put,List.setIfInBounds_toArray,List.set_cons_zero,List.set_cons_succ,Z6,Z7]
  rfl
 refine pure_ (i:=8) (N:=some 11) (v:=?_) (a':=?_) #[true,true,true,true,false,true,true,true,true,false,false,false] rfl rfl (Z3 HT_.out (by kernel_rfl)) (fun _ _ _ h=>h) (Or.inl ⟨by rfl,?_⟩) ?_ ?_
 rotate_left
 ·intro w'
  go_simp
  with_reducible rfl
 rotate_left
 ·simp only [Act.put,List.setIfInBounds_toArray,List.set_cons_zero,List.set_cons_succ,Z6,Z7]
  rfl
 refine one_ (i:=4) (N:=some 7) #[true,true,true,true,true,true,true,true,true,false,false,false] rfl rfl (one_of HT_.out (by kernel_rfl)) (by decide) (fun K hK=>?_)
 refine goes_ Try.func100 (by kernel_rfl) rfl #[.int .u64 (IntKind.u64.wrap (ji2))] (by rfl) rfl rfl (by (try simp only [List.map_toArray,List.map_cons,List.map_nil]);first|done|(simp only [hji2];rfl)|rfl|(simp only [List.length_drop,List.length_take];rfl)) ?_
 with_reducible refine (nat_Of.calls (IntKind.u64.wrap (ji2)) t200 _ A3.out).mono ?_
 rintro e w9 ⟨v201,rfl,ho0,hb⟩
 refine ⟨_,rfl,?_⟩
 have n0_:=Zz.mk (Kd.V_lower (Kd.V_mono (ok':=fun k_=>(w.heap.size<=k_)/\k_≠gb198/\k_≠gb199) ho0 (fun k_ hk_=>⟨(Nat.le_trans (Zf (by repeat (first|(with_reducible first|exact HB.out|apply Zb|apply Za|apply Zc|refine Zd ?_ GE198.out|refine Zd ?_ GE199.out)|exact HB.out))) hk_),(Kd.freshB (g:=gb198) (o:=.cells #[.int .i64 a0_0,.int .i64 a0_1] 34 (0,0)) (by (with_reducible repeat (first|refine blk_drewN ?_ _|refine Ze ?_|refine blk_alloc ?_ _));exact BK198.out) k_ hk_),(Kd.freshB (g:=gb199) (o:=.cells #[.slice none 0 0,.slice none 0 0] 28 (0,0)) (by (with_reducible repeat (first|refine blk_drewN ?_ _|refine Ze ?_|refine blk_alloc ?_ _));exact BK199.out) k_ hk_)⟩)) (Zf (by repeat (first|(with_reducible first|exact HB.out|apply Zb|apply Za|apply Zc|refine Zd ?_ GE198.out|refine Zd ?_ GE199.out)|exact HB.out))))
 have n1_:=Zz.mk (Zk (g:=gb198) (o:=.cells #[.int .i64 a0_0,.int .i64 a0_1] 34 (0,0)) (by (with_reducible repeat (first|refine blk_drewN ?_ _|refine Ze ?_|refine blk_alloc ?_ _));exact BK198.out) hb)
 have n2_:=Zz.mk (Zk (g:=gb199) (o:=.cells #[.slice none 0 0,.slice none 0 0] 28 (0,0)) (by (with_reducible repeat (first|refine blk_drewN ?_ _|refine Ze ?_|refine blk_alloc ?_ _));exact BK199.out) hb)
 have n3_:=Zz.mk (Zi (by repeat (first|(with_reducible first|exact HB.out|apply Zb|apply Za|apply Zc|refine Zd ?_ GE198.out|refine Zd ?_ GE199.out)|exact HB.out)) hb)
 clear BK198
 clear BK199
 clear HB
 have HO202:=n0_
 have BK198:=n1_
 have BK199:=n2_
 have HB:=n3_
 clear n0_ n1_ n2_ n3_
 (try clear hb)
 (try clear hb2)
 (try clear hk)
 (try clear hi)
 (try clear ho0)
 refine hK.out _ _ ⟨(Zh BK198.out 0).trans rfl,(Zh BK198.out 1).trans rfl⟩ (fun hHeld=>?_)
 clear hK K
 refine norm_ (a':=?_) ?_ ?_
 rotate_left
 ·show Act.put _ (some 7) _=_
  simp only [Act.put,List.setIfInBounds_toArray,List.set_cons_zero,List.set_cons_succ,Z6,Z7]
  rfl
 refine one_ (i:=9) (N:=some 12) #[true,true,true,true,true,true,true,true,true,true,false,false] rfl rfl (one_of HT_.out (by kernel_rfl)) (by decide) (fun K hK=>?_)
 refine goes_ Try.func100 (by kernel_rfl) rfl #[.int .u64 (IntKind.u64.wrap (ji4))] (by rfl) rfl rfl (by (try simp only [List.map_toArray,List.map_cons,List.map_nil]);first|done|(simp only [hji4];rfl)|rfl|(simp only [List.length_drop,List.length_take];rfl)) ?_
 with_reducible refine (nat_Of.calls (IntKind.u64.wrap (ji4)) t203 _ A5.out).mono ?_
 rintro e w10 ⟨v204,rfl,ho0,hb⟩
 refine ⟨_,rfl,?_⟩
 have n0_:=Zz.mk (Kd.V_below (by (with_reducible repeat (first|apply Kd.V_alloc|apply Kd.V_drewN|apply Kd.V_drew));exact HO202.out) hb)
 have n1_:=Zz.mk (Kd.V_lower (Kd.V_mono (ok':=fun k_=>(w.heap.size<=k_)/\k_≠gb198/\k_≠gb199) ho0 (fun k_ hk_=>⟨(Nat.le_trans (Zf (by repeat (first|(with_reducible first|exact HB.out|apply Zb|apply Za|apply Zc|refine Zd ?_ GE198.out|refine Zd ?_ GE199.out)|exact HB.out))) hk_),(Kd.freshB (g:=gb198) (o:=.cells #[.int .i64 a0_0,.int .i64 a0_1] 34 (0,0)) (by (with_reducible repeat (first|refine blk_drewN ?_ _|refine Ze ?_|refine blk_alloc ?_ _));exact BK198.out) k_ hk_),(Kd.freshB (g:=gb199) (o:=.cells #[.slice none 0 0,.slice none 0 0] 28 (0,0)) (by (with_reducible repeat (first|refine blk_drewN ?_ _|refine Ze ?_|refine blk_alloc ?_ _));exact BK199.out) k_ hk_)⟩)) (Zf (by repeat (first|(with_reducible first|exact HB.out|apply Zb|apply Za|apply Zc|refine Zd ?_ GE198.out|refine Zd ?_ GE199.out)|exact HB.out))))
 have n2_:=Zz.mk (Zk (g:=gb198) (o:=.cells #[.int .i64 a0_0,.int .i64 a0_1] 34 (0,0)) (by (with_reducible repeat (first|refine blk_drewN ?_ _|refine Ze ?_|refine blk_alloc ?_ _));exact BK198.out) hb)
 have n3_:=Zz.mk (Zk (g:=gb199) (o:=.cells #[.slice none 0 0,.slice none 0 0] 28 (0,0)) (by (with_reducible repeat (first|refine blk_drewN ?_ _|refine Ze ?_|refine blk_alloc ?_ _));exact BK199.out) hb)
 have n4_:=Zz.mk (Zi (by repeat (first|(with_reducible first|exact HB.out|apply Zb|apply Za|apply Zc|refine Zd ?_ GE198.out|refine Zd ?_ GE199.out)|exact HB.out)) hb)
 clear HO202
 clear BK198
 clear BK199
 clear HB
 have HO202:=n0_
 have HO205:=n1_
 have BK198:=n2_
 have BK199:=n3_
 have HB:=n4_
 clear n0_ n1_ n2_ n3_ n4_
 (try clear hb)
 (try clear hb2)
 (try clear hk)
 (try clear hi)
 (try clear ho0)
 obtain ⟨Ao11,co11,eo11⟩:=Kd.V_slice HO205.out
 (first|subst eo11|(injection eo11 with f1_ f2_ f3_;have f4_:=f1_.symm;have f5_:=f3_.symm;clear f1_ f2_ f3_;subst f4_;subst f5_))
 obtain ⟨Ao12,co12,eo12⟩:=Kd.V_slice HO202.out
 (first|subst eo12|(injection eo12 with f1_ f2_ f3_;have f4_:=f1_.symm;have f5_:=f3_.symm;clear f1_ f2_ f3_;subst f4_;subst f5_))
 refine hK.out _ _ ⟨(Zh BK198.out 0).trans rfl,(Zh BK198.out 1).trans rfl⟩ (fun hHeld=>?_)
 clear hK K
 refine norm_ (a':=?_) ?_ ?_
 rotate_left
 ·show Act.put _ (some 12) _=_
  simp only [Act.put,List.setIfInBounds_toArray,List.set_cons_zero,List.set_cons_succ,Z6,Z7]
  rfl
 refine pure_ (i:=10) (N:=some 13) (v:=?_) (a':=?_) #[true,true,true,true,true,true,true,true,true,true,true,false] rfl rfl (Z3 HT_.out (by kernel_rfl)) (fun _ _ _ h=>h) (Or.inl ⟨by rfl,?_⟩) ?_ ?_
 rotate_left
 ·intro w'
  go_simp
  with_reducible rfl
 rotate_left
 ·simp only [Act.put,List.setIfInBounds_toArray,List.set_cons_zero,List.set_cons_succ,Z6,Z7]
  rfl
 refine one_ (i:=11) (N:=none) #[true,true,true,true,true,true,true,true,true,true,true,true] rfl rfl (one_of HT_.out (by kernel_rfl)) (by decide) (fun K hK=>?_)
 have hs13:w10.cell? ⟨gb199,0,none⟩=some (.slice none 0 0):=(Zh BK199.out 0).trans rfl
 have hfs13:=Zj BK199.out 0
 have hns13_0:=NB198_199.out
 have hms13_0:=NB199_198.out
 have hs14:w10.cell? ⟨gb199,1,none⟩=some (.slice none 0 0):=(Zh BK199.out 1).trans rfl
 have hfs14:=Zj BK199.out 1
 have hns14_0:=NB198_199.out
 have hms14_0:=NB199_198.out
 refine skip_ (w1:=?_) (by rfl) rfl ?_ ?_
 rotate_left
 ·go_simp
  rfl
 refine hK.out _ _ ⟨((cell_far (p:=⟨gb199,_,none⟩) NB198_199.out _).trans (((cell_far (p:=⟨gb199,_,none⟩) NB198_199.out _).trans (hHeld.1)))),((cell_far (p:=⟨gb199,_,none⟩) NB198_199.out _).trans (((cell_far (p:=⟨gb199,_,none⟩) NB198_199.out _).trans (hHeld.2))))⟩ (fun hHeld=>?_)
 clear hK K
 refine done_ (done_of HT_.out (by kernel_rfl)) ?_
 try go_wp2
 refine bodyPost_ret (results_cell_row rfl _ _ gb199 28 #[.slice Ao12 t200.length co12,.slice Ao11 t203.length co11] (0,0) _ rfl (by (with_reducible repeat (first|refine blk_drewN ?_ _|refine Ze ?_|refine blk_alloc ?_ _));refine Zx (cs:=#[.slice Ao12 t200.length co12,.slice none 0 0]) ?_ 1 _ rfl;(with_reducible repeat (first|refine blk_drewN ?_ _|refine Ze ?_|refine blk_alloc ?_ _));refine Zx (cs:=#[.slice none 0 0,.slice none 0 0]) ?_ 0 _ rfl;(with_reducible repeat (first|refine blk_drewN ?_ _|refine Ze ?_|refine blk_alloc ?_ _));exact BK199.out) Try.underlying28 rfl (by kernel_rfl)) rfl ?_
 exact ⟨_,_,by first|rfl|(simp [Zm,Zl]<;>rfl)|(simp only [<-hji2,<-hji4];first|rfl|(simp [Zm,Zl]<;>rfl))|(simp [*,Zm,Zl]<;>rfl),by (with_reducible repeat (first|apply Kd.V_alloc|apply Kd.V_drewN|apply Kd.V_drew));exact Kd.V_mono (Kd.V_far (p:=⟨gb199,1,none⟩) (Kd.V_far (p:=⟨gb199,0,none⟩) (Kd.V_mono HO202.out (fun k_ hk=>(⟨hk,hk.2.2⟩:_/\k_≠gb199))) (fun _ hk=>hk.2) (.slice Ao12 t200.length co12)) (fun _ hk=>hk.2) (.slice Ao11 t203.length co11)) (fun _ hk=>hk.1.1),by (with_reducible repeat (first|apply Kd.V_alloc|apply Kd.V_drewN|apply Kd.V_drew));exact Kd.V_mono (Kd.V_far (p:=⟨gb199,1,none⟩) (Kd.V_far (p:=⟨gb199,0,none⟩) (Kd.V_mono HO205.out (fun k_ hk=>(⟨hk,hk.2.2⟩:_/\k_≠gb199))) (fun _ hk=>hk.2) (.slice Ao12 t200.length co12)) (fun _ hk=>hk.2) (.slice Ao11 t203.length co11)) (fun _ hk=>hk.1.1),by repeat (first|(with_reducible first|exact HB.out|apply Zb|apply Za|apply Zc|refine Zd ?_ GE198.out|refine Zd ?_ GE199.out)|exact HB.out)⟩
def ratio_Add.f (k:Nat) (l0_0:List Int) (l0_1:List Int) (l1_0:List Int) (l1_1:List Int):Option (List Int × List Int):=(nat_Mul.f l0_0 l1_1).bind fun t231=>((nat_Mul.f l1_0 l0_1).bind fun t234=>((nat_Add.f t231 t234).bind fun t237=>((nat_Mul.f l0_1 l1_1).bind fun t240=>((ratio_Least.f k t237 t240).bind fun bt243=>(some (bt243.1,bt243.2))))))
def ratio_Add.T1:Bool × List (List Nat × List Nat):=(true,[([],[]),([0],[0]),([],[]),([2],[2]),([1,3],[1,3]),([],[]),([5],[5]),([],[]),([7],[7]),([6,8,4],[6,8]),([4,9,9],[4,9]),([],[]),([11],[11]),([],[]),([13],[13]),([12,14,10],[12,14]),([10,15],[10,15]),([16,15],[16]),([17,17,0,1,2,3,4,5,6,7,8,9,10,11,12,13,14,15,16,17],[17])])
def ratio_Add.B1:List Nat:=[0,1,0,4,15,0,32,0,128,511,1023,0,2048,0,8192,32767,65535,131071,262143]
theorem ratio_Add.tab1:rtab .any (opsOf Try.f105 1)=ratio_Add.T1:=by kernel_rfl
theorem ratio_Add.bits1:waitsOk ratio_Add.T1.2 ratio_Add.B1=true:=by kernel_rfl
set_option maxHeartbeats 8000000 in
set_option maxRecDepth 100000 in
theorem ratio_Add.calls (k:Nat) (A0_0:Option Addr) (c0_0:Nat) (l0_0:List Int) (A0_1:Option Addr) (c0_1:Nat) (l0_1:List Int) (A1_0:Option Addr) (c1_0:Nat) (l1_0:List Int) (A1_1:Option Addr) (c1_1:Nat) (l1_1:List Int) (r1:List Int) (r2:List Int) (w:World) (hr0_0:Kd.C (Kd.int .u32) w A0_0 l0_0.length l0_0) (hc0_0:l0_0.length<=c0_0) (hr0_1:Kd.C (Kd.int .u32) w A0_1 l0_1.length l0_1) (hc0_1:l0_1.length<=c0_1) (hr1_0:Kd.C (Kd.int .u32) w A1_0 l1_0.length l1_0) (hc1_0:l1_0.length<=c1_0) (hr1_1:Kd.C (Kd.int .u32) w A1_1 l1_1.length l1_1) (hc1_1:l1_1.length<=c1_1) (h:ratio_Add.f k l0_0 l0_1 l1_0 l1_1=some (r1,r2)) :
  Calls Try.prog 105 #[.agg #[.slice A0_0 l0_0.length c0_0,.slice A0_1 l0_1.length c0_1],.agg #[.slice A1_0 l1_0.length c1_0,.slice A1_1 l1_1.length c1_1]] w fun e w'=>∃v0_ v1_:Value,e=.returned (.agg #[v0_,v1_])/\Kd.V (Kd.int .u32) 89 w' w.heap.size (fun k_=>(w.heap.size<=k_)) v0_ r1/\Kd.V (Kd.int .u32) 89 w' w.heap.size (fun k_=>(w.heap.size<=k_)) v1_ r2/\Below w.heap.size w w':=by
 have hu28:=Try.underlying28
 have HR0_0:=Zz.mk hr0_0
 have HC0_0:=Zz.mk hc0_0
 clear hr0_0 hc0_0
 have HR0_1:=Zz.mk hr0_1
 have HC0_1:=Zz.mk hc0_1
 clear hr0_1 hc0_1
 have HR1_0:=Zz.mk hr1_0
 have HC1_0:=Zz.mk hc1_0
 clear hr1_0 hc1_0
 have HR1_1:=Zz.mk hr1_1
 have HC1_1:=Zz.mk hc1_1
 clear hr1_1 hc1_1
 have HB:=Zz.mk (Below.refl w.heap.size w)
 have H:((nat_Mul.f l0_0 l1_1).bind fun t231=>((nat_Mul.f l1_0 l0_1).bind fun t234=>((nat_Add.f t231 t234).bind fun t237=>((nat_Mul.f l0_1 l1_1).bind fun t240=>((ratio_Least.f k t237 t240).bind fun bt243=>(some (bt243.1,bt243.2)))))))=some (r1,r2):=h
 clear h
 replace H:=Option.bind_eq_some_iff.mp H
 obtain ⟨t231,A30,H⟩:=H
 replace H:((nat_Mul.f l1_0 l0_1).bind fun t234=>((nat_Add.f t231 t234).bind fun t237=>((nat_Mul.f l0_1 l1_1).bind fun t240=>((ratio_Least.f k t237 t240).bind fun bt243=>(some (bt243.1,bt243.2))))))=some (r1,r2):=H
 have A3:=Zz.mk A30
 clear A30
 replace H:=Option.bind_eq_some_iff.mp H
 obtain ⟨t234,A40,H⟩:=H
 replace H:((nat_Add.f t231 t234).bind fun t237=>((nat_Mul.f l0_1 l1_1).bind fun t240=>((ratio_Least.f k t237 t240).bind fun bt243=>(some (bt243.1,bt243.2)))))=some (r1,r2):=H
 have A4:=Zz.mk A40
 clear A40
 replace H:=Option.bind_eq_some_iff.mp H
 obtain ⟨t237,A50,H⟩:=H
 replace H:((nat_Mul.f l0_1 l1_1).bind fun t240=>((ratio_Least.f k t237 t240).bind fun bt243=>(some (bt243.1,bt243.2))))=some (r1,r2):=H
 have A5:=Zz.mk A50
 clear A50
 replace H:=Option.bind_eq_some_iff.mp H
 obtain ⟨t240,A60,H⟩:=H
 replace H:((ratio_Least.f k t237 t240).bind fun bt243=>(some (bt243.1,bt243.2)))=some (r1,r2):=H
 have A6:=Zz.mk A60
 clear A60
 replace H:=Option.bind_eq_some_iff.mp H
 obtain ⟨⟨t243,t246⟩,A70,H⟩:=H
 replace H:(some (t243,t246))=some (r1,r2):=H
 have A7:=Zz.mk A70
 clear A70
 simp only [Option.some.injEq,Prod.mk.injEq] at H
 obtain ⟨rfl,rfl⟩:=H
 go_enter Try.func105,Try.ntmps105
 try go_wp2_with (first|((with_reducible refine Zt (N:=2) rfl ?_);refine Zu ?hg (N:=2) ?hd (cs:=#[.slice A0_0 l0_0.length c0_0,.slice A0_1 l0_1.length c0_1]) (t:=28) ?hr ?_;(case hd=>rfl);(case hg=>rfl);(case hr=>first|(go_simp;done)|(go_simp;rfl));intro gb228 hg w8 hbox hb;have n0_:=Zz.mk (Zi (by repeat (first|(with_reducible first|exact HB.out|apply Zb|apply Za|apply Zc)|exact HB.out)) hb);have n1_:=Zz.mk (hbox);have n2_:=Zz.mk ((by rw [hg];exact (Zf (by repeat (first|(with_reducible first|exact HB.out|apply Zb|apply Za|apply Zc)|exact HB.out))):w.heap.size<=gb228));have n3_:=Zz.mk ((by rw [hg];exact (Zf (by repeat (first|(with_reducible first|exact HB.out|apply Zb|apply Za|apply Zc)|exact HB.out))):w.heap.size<=gb228));clear HB;have HB:=n0_;have BK228:=n1_;have GW228:=n2_;have GE228:=n3_;clear n0_ n1_ n2_ n3_;clear hb hbox hg)|((with_reducible refine Zt (N:=3) rfl ?_);refine Zu ?hg (N:=3) ?hd (cs:=#[.slice A1_0 l1_0.length c1_0,.slice A1_1 l1_1.length c1_1]) (t:=28) ?hr ?_;(case hd=>rfl);(case hg=>rfl);(case hr=>first|(go_simp;done)|(go_simp;rfl));intro gb229 hg w9 hbox hb;have n0_:=Zz.mk (Zk (g:=gb228) (o:=.cells #[.slice A0_0 l0_0.length c0_0,.slice A0_1 l0_1.length c0_1] 28 (0,0)) (by (with_reducible repeat (first|refine blk_drewN ?_ _|refine Ze ?_|refine blk_alloc ?_ _));exact BK228.out) hb);have n1_:=Zz.mk (Zi (by repeat (first|(with_reducible first|exact HB.out|apply Zb|apply Za|apply Zc|refine Zd ?_ GE228.out)|exact HB.out)) hb);have n2_:=Zz.mk (hbox);have n3_:=Zz.mk ((by rw [hg];exact (Zf (by repeat (first|(with_reducible first|exact HB.out|apply Zb|apply Za|apply Zc|refine Zd ?_ GE228.out)|exact HB.out))):w.heap.size<=gb229));have n4_:=Zz.mk ((by rw [hg];exact (Zf (by repeat (first|(with_reducible first|exact HB.out|apply Zb|apply Za|apply Zc|refine Zd ?_ GE228.out)|exact HB.out))):w.heap.size<=gb229));have n5_:=Zz.mk ((by rw [hg];exact Nat.ne_of_lt (Z5 (g:=gb228) (o:=.cells #[.slice A0_0 l0_0.length c0_0,.slice A0_1 l0_1.length c0_1] 28 (0,0)) (by (with_reducible repeat (first|refine blk_drewN ?_ _|refine Ze ?_|refine blk_alloc ?_ _));exact BK228.out)):gb228≠gb229));have n6_:=Zz.mk ((by rw [hg];exact Nat.ne_of_gt (Z5 (g:=gb228) (o:=.cells #[.slice A0_0 l0_0.length c0_0,.slice A0_1 l0_1.length c0_1] 28 (0,0)) (by (with_reducible repeat (first|refine blk_drewN ?_ _|refine Ze ?_|refine blk_alloc ?_ _));exact BK228.out)):gb229≠gb228));clear BK228;clear HB;have BK228:=n0_;have HB:=n1_;have BK229:=n2_;have GW229:=n3_;have GE229:=n4_;have NB228_229:=n5_;have NB229_228:=n6_;clear n0_ n1_ n2_ n3_ n4_ n5_ n6_;clear hb hbox hg)|((with_reducible refine Zt (N:=4) rfl ?_);refine Zu ?hg (N:=4) ?hd (cs:=#[.slice none 0 0,.slice none 0 0]) (t:=28) ?hr ?_;(case hd=>rfl);(case hg=>rfl);(case hr=>first|(go_simp;done)|(go_simp;rfl));intro gb230 hg w10 hbox hb;have n0_:=Zz.mk (Zk (g:=gb228) (o:=.cells #[.slice A0_0 l0_0.length c0_0,.slice A0_1 l0_1.length c0_1] 28 (0,0)) (by (with_reducible repeat (first|refine blk_drewN ?_ _|refine Ze ?_|refine blk_alloc ?_ _));exact BK228.out) hb);have n1_:=Zz.mk (Zk (g:=gb229) (o:=.cells #[.slice A1_0 l1_0.length c1_0,.slice A1_1 l1_1.length c1_1] 28 (0,0)) (by (with_reducible repeat (first|refine blk_drewN ?_ _|refine Ze ?_|refine blk_alloc ?_ _));exact BK229.out) hb);have n2_:=Zz.mk (Zi (by repeat (first|(with_reducible first|exact HB.out|apply Zb|apply Za|apply Zc|refine Zd ?_ GE228.out|refine Zd ?_ GE229.out)|exact HB.out)) hb);have n3_:=Zz.mk (hbox);have n4_:=Zz.mk ((by rw [hg];exact (Zf (by repeat (first|(with_reducible first|exact HB.out|apply Zb|apply Za|apply Zc|refine Zd ?_ GE228.out|refine Zd ?_ GE229.out)|exact HB.out))):w.heap.size<=gb230));have n5_:=Zz.mk ((by rw [hg];exact (Zf (by repeat (first|(with_reducible first|exact HB.out|apply Zb|apply Za|apply Zc|refine Zd ?_ GE228.out|refine Zd ?_ GE229.out)|exact HB.out))):w.heap.size<=gb230));have n6_:=Zz.mk ((by rw [hg];exact Nat.ne_of_lt (Z5 (g:=gb228) (o:=.cells #[.slice A0_0 l0_0.length c0_0,.slice A0_1 l0_1.length c0_1] 28 (0,0)) (by (with_reducible repeat (first|refine blk_drewN ?_ _|refine Ze ?_|refine blk_alloc ?_ _));exact BK228.out)):gb228≠gb230));have n7_:=Zz.mk ((by rw [hg];exact Nat.ne_of_gt (Z5 (g:=gb228) (o:=.cells #[.slice A0_0 l0_0.length c0_0,.slice A0_1 l0_1.length c0_1] 28 (0,0)) (by (with_reducible repeat (first|refine blk_drewN ?_ _|refine Ze ?_|refine blk_alloc ?_ _));exact BK228.out)):gb230≠gb228));have n8_:=Zz.mk ((by rw [hg];exact Nat.ne_of_lt (Z5 (g:=gb229) (o:=.cells #[.slice A1_0 l1_0.length c1_0,.slice A1_1 l1_1.length c1_1] 28 (0,0)) (by (with_reducible repeat (first|refine blk_drewN ?_ _|refine Ze ?_|refine blk_alloc ?_ _));exact BK229.out)):gb229≠gb230));have n9_:=Zz.mk ((by rw [hg];exact Nat.ne_of_gt (Z5 (g:=gb229) (o:=.cells #[.slice A1_0 l1_0.length c1_0,.slice A1_1 l1_1.length c1_1] 28 (0,0)) (by (with_reducible repeat (first|refine blk_drewN ?_ _|refine Ze ?_|refine blk_alloc ?_ _));exact BK229.out)):gb230≠gb229));clear BK228;clear BK229;clear HB;have BK228:=n0_;have BK229:=n1_;have HB:=n2_;have BK230:=n3_;have GW230:=n4_;have GE230:=n5_;have NB228_230:=n6_;have NB230_228:=n7_;have NB229_230:=n8_;have NB230_229:=n9_;clear n0_ n1_ n2_ n3_ n4_ n5_ n6_ n7_ n8_ n9_;clear hb hbox hg))
 have n0_:=Zz.mk (Ze BK228.out)
 have n1_:=Zz.mk (Ze BK229.out)
 have n2_:=Zz.mk (Ze BK230.out)
 have n3_:=Zz.mk (Zc HB.out)
 clear BK228
 clear BK229
 clear BK230
 clear HB
 have BK228:=n0_
 have BK229:=n1_
 have BK230:=n2_
 have HB:=n3_
 clear n0_ n1_ n2_ n3_
 refine start_ (n:=19) (S:=fun w'=>w'.cell? ⟨gb228,0,none⟩=some (.slice A0_0 l0_0.length c0_0)/\w'.cell? ⟨gb228,1,none⟩=some (.slice A0_1 l0_1.length c0_1)/\w'.cell? ⟨gb229,0,none⟩=some (.slice A1_0 l1_0.length c1_0)/\w'.cell? ⟨gb229,1,none⟩=some (.slice A1_1 l1_1.length c1_1)) (ds:=[]) #[false,false,false,false,false,false,false,false,false,false,false,false,false,false,false,false,false,false,false] (by kernel_rfl) rfl rfl ⟨(Zh BK228.out 0).trans rfl,(Zh BK228.out 1).trans rfl,(Zh BK229.out 0).trans rfl,(Zh BK229.out 1).trans rfl⟩ (fun hHeld=>?_);refine with_tabW ratio_Add.tab1 ratio_Add.bits1 (fun HT_ HW_=>?_)
 generalize w10.drew=w11 at BK228 BK229 BK230 HB hHeld ⊢
 refine pure_ (i:=0) (N:=some 5) (v:=?_) (a':=?_) #[true,false,false,false,false,false,false,false,false,false,false,false,false,false,false,false,false,false,false] rfl rfl (Z3 HT_.out (by kernel_rfl)) (fun _ _ _ h=>h) (Or.inl ⟨by rfl,?_⟩) ?_ ?_
 rotate_left
 ·intro w'
  go_simp
  with_reducible rfl
 rotate_left
 ·simp only [Act.put,List.setIfInBounds_toArray,List.set_cons_zero,List.set_cons_succ,Z6,Z7]
  rfl
 refine pure_ (i:=2) (N:=some 7) (v:=?_) (a':=?_) #[true,false,true,false,false,false,false,false,false,false,false,false,false,false,false,false,false,false,false] rfl rfl (Z3 HT_.out (by kernel_rfl)) (fun _ _ _ h=>h) (Or.inl ⟨by rfl,?_⟩) ?_ ?_
 rotate_left
 ·intro w'
  go_simp
  with_reducible rfl
 rotate_left
 ·simp only [Act.put,List.setIfInBounds_toArray,List.set_cons_zero,List.set_cons_succ,Z6,Z7]
  rfl
 refine pure_ (i:=5) (N:=some 10) (v:=?_) (a':=?_) #[true,false,true,false,false,true,false,false,false,false,false,false,false,false,false,false,false,false,false] rfl rfl (Z3 HT_.out (by kernel_rfl)) (fun _ _ _ h=>h) (Or.inl ⟨by rfl,?_⟩) ?_ ?_
 rotate_left
 ·intro w'
  go_simp
  with_reducible rfl
 rotate_left
 ·simp only [Act.put,List.setIfInBounds_toArray,List.set_cons_zero,List.set_cons_succ,Z6,Z7]
  rfl
 refine pure_ (i:=7) (N:=some 12) (v:=?_) (a':=?_) #[true,false,true,false,false,true,false,true,false,false,false,false,false,false,false,false,false,false,false] rfl rfl (Z3 HT_.out (by kernel_rfl)) (fun _ _ _ h=>h) (Or.inl ⟨by rfl,?_⟩) ?_ ?_
 rotate_left
 ·intro w'
  go_simp
  with_reducible rfl
 rotate_left
 ·simp only [Act.put,List.setIfInBounds_toArray,List.set_cons_zero,List.set_cons_succ,Z6,Z7]
  rfl
 refine pure_ (i:=11) (N:=some 16) (v:=?_) (a':=?_) #[true,false,true,false,false,true,false,true,false,false,false,true,false,false,false,false,false,false,false] rfl rfl (Z3 HT_.out (by kernel_rfl)) (fun _ _ _ h=>h) (Or.inl ⟨by rfl,?_⟩) ?_ ?_
 rotate_left
 ·intro w'
  go_simp
  with_reducible rfl
 rotate_left
 ·simp only [Act.put,List.setIfInBounds_toArray,List.set_cons_zero,List.set_cons_succ,Z6,Z7]
  rfl
 refine pure_ (i:=13) (N:=some 18) (v:=?_) (a':=?_) #[true,false,true,false,false,true,false,true,false,false,false,true,false,true,false,false,false,false,false] rfl rfl (Z3 HT_.out (by kernel_rfl)) (fun _ _ _ h=>h) (Or.inl ⟨by rfl,?_⟩) ?_ ?_
 rotate_left
 ·intro w'
  go_simp
  with_reducible rfl
 rotate_left
 ·simp only [Act.put,List.setIfInBounds_toArray,List.set_cons_zero,List.set_cons_succ,Z6,Z7]
  rfl
 refine take_ (i:=1) (N:=some 6) (v:=?_) (a':=?_) #[true,true,true,false,false,true,false,true,false,false,false,true,false,true,false,false,false,false,false] rfl rfl (Zw HT_.out HW_.out (by kernel_rfl)) (fun _ _ _ h=>h) (Or.inl ⟨by rfl,?_⟩) hHeld ?_ ?_
 rotate_left
 ·rintro w' ⟨s0,s1,s2,s3⟩
  go_simp
  with_reducible rfl
 rotate_left
 ·simp only [Act.put,List.setIfInBounds_toArray,List.set_cons_zero,List.set_cons_succ,Z6,Z7]
  rfl
 refine take_ (i:=3) (N:=some 8) (v:=?_) (a':=?_) #[true,true,true,true,false,true,false,true,false,false,false,true,false,true,false,false,false,false,false] rfl rfl (Zw HT_.out HW_.out (by kernel_rfl)) (fun _ _ _ h=>h) (Or.inl ⟨by rfl,?_⟩) hHeld ?_ ?_
 rotate_left
 ·rintro w' ⟨s0,s1,s2,s3⟩
  go_simp
  with_reducible rfl
 rotate_left
 ·simp only [Act.put,List.setIfInBounds_toArray,List.set_cons_zero,List.set_cons_succ,Z6,Z7]
  rfl
 refine take_ (i:=6) (N:=some 11) (v:=?_) (a':=?_) #[true,true,true,true,false,true,true,true,false,false,false,true,false,true,false,false,false,false,false] rfl rfl (Zw HT_.out HW_.out (by kernel_rfl)) (fun _ _ _ h=>h) (Or.inl ⟨by rfl,?_⟩) hHeld ?_ ?_
 rotate_left
 ·rintro w' ⟨s0,s1,s2,s3⟩
  go_simp
  with_reducible rfl
 rotate_left
 ·simp only [Act.put,List.setIfInBounds_toArray,List.set_cons_zero,List.set_cons_succ,Z6,Z7]
  rfl
 refine take_ (i:=8) (N:=some 13) (v:=?_) (a':=?_) #[true,true,true,true,false,true,true,true,true,false,false,true,false,true,false,false,false,false,false] rfl rfl (Zw HT_.out HW_.out (by kernel_rfl)) (fun _ _ _ h=>h) (Or.inl ⟨by rfl,?_⟩) hHeld ?_ ?_
 rotate_left
 ·rintro w' ⟨s0,s1,s2,s3⟩
  go_simp
  with_reducible rfl
 rotate_left
 ·simp only [Act.put,List.setIfInBounds_toArray,List.set_cons_zero,List.set_cons_succ,Z6,Z7]
  rfl
 refine take_ (i:=12) (N:=some 17) (v:=?_) (a':=?_) #[true,true,true,true,false,true,true,true,true,false,false,true,true,true,false,false,false,false,false] rfl rfl (Zw HT_.out HW_.out (by kernel_rfl)) (fun _ _ _ h=>h) (Or.inl ⟨by rfl,?_⟩) hHeld ?_ ?_
 rotate_left
 ·rintro w' ⟨s0,s1,s2,s3⟩
  go_simp
  with_reducible rfl
 rotate_left
 ·simp only [Act.put,List.setIfInBounds_toArray,List.set_cons_zero,List.set_cons_succ,Z6,Z7]
  rfl
 refine take_ (i:=14) (N:=some 19) (v:=?_) (a':=?_) #[true,true,true,true,false,true,true,true,true,false,false,true,true,true,true,false,false,false,false] rfl rfl (Zw HT_.out HW_.out (by kernel_rfl)) (fun _ _ _ h=>h) (Or.inl ⟨by rfl,?_⟩) hHeld ?_ ?_
 rotate_left
 ·rintro w' ⟨s0,s1,s2,s3⟩
  go_simp
  with_reducible rfl
 rotate_left
 ·simp only [Act.put,List.setIfInBounds_toArray,List.set_cons_zero,List.set_cons_succ,Z6,Z7]
  rfl
 refine one_ (i:=4) (N:=some 9) #[true,true,true,true,true,true,true,true,true,false,false,true,true,true,true,false,false,false,false] rfl rfl (one_of HT_.out (by kernel_rfl)) (by decide) (fun K hK=>?_)
 refine goes_ Try.func108 (by kernel_rfl) rfl #[.slice A0_0 l0_0.length c0_0,.slice A1_1 l1_1.length c1_1] (by rfl) rfl rfl (by (try simp only [List.map_toArray,List.map_cons,List.map_nil]);first|done|rfl|(simp only [List.length_drop,List.length_take];rfl)) ?_
 with_reducible refine (nat_Mul.calls _ _ l0_0 _ _ l1_1 t231 _ ?side1 ?side2 ?side3 ?side4 A3.out).mono ?_
 (case side1=>repeat (first|exact (Kd.C_below HR0_0.out HB.out)|(with_reducible refine Kd.C_alloc ?_ _)|(with_reducible refine Kd.C_drewN ?_ _)|(with_reducible refine Kd.C_drew ?_)))
 (case side2=>exact HC0_0.out)
 (case side3=>repeat (first|exact (Kd.C_below HR1_1.out HB.out)|(with_reducible refine Kd.C_alloc ?_ _)|(with_reducible refine Kd.C_drewN ?_ _)|(with_reducible refine Kd.C_drew ?_)))
 (case side4=>exact HC1_1.out)
 rintro e w12 ⟨v232,rfl,ho0,hb⟩
 refine ⟨_,rfl,?_⟩
 have n0_:=Zz.mk (Kd.V_lower (Kd.V_mono (ok':=fun k_=>(w.heap.size<=k_)/\k_≠gb228/\k_≠gb229/\k_≠gb230) ho0 (fun k_ hk_=>⟨(Nat.le_trans (Zf (by repeat (first|(with_reducible first|exact HB.out|apply Zb|apply Za|apply Zc|refine Zd ?_ GE228.out|refine Zd ?_ GE229.out|refine Zd ?_ GE230.out)|exact HB.out))) hk_),(Kd.freshB (g:=gb228) (o:=.cells #[.slice A0_0 l0_0.length c0_0,.slice A0_1 l0_1.length c0_1] 28 (0,0)) (by (with_reducible repeat (first|refine blk_drewN ?_ _|refine Ze ?_|refine blk_alloc ?_ _));exact BK228.out) k_ hk_),(Kd.freshB (g:=gb229) (o:=.cells #[.slice A1_0 l1_0.length c1_0,.slice A1_1 l1_1.length c1_1] 28 (0,0)) (by (with_reducible repeat (first|refine blk_drewN ?_ _|refine Ze ?_|refine blk_alloc ?_ _));exact BK229.out) k_ hk_),(Kd.freshB (g:=gb230) (o:=.cells #[.slice none 0 0,.slice none 0 0] 28 (0,0)) (by (with_reducible repeat (first|refine blk_drewN ?_ _|refine Ze ?_|refine blk_alloc ?_ _));exact BK230.out) k_ hk_)⟩)) (Zf (by repeat (first|(with_reducible first|exact HB.out|apply Zb|apply Za|apply Zc|refine Zd ?_ GE228.out|refine Zd ?_ GE229.out|refine Zd ?_ GE230.out)|exact HB.out))))
 have n1_:=Zz.mk (Zk (g:=gb228) (o:=.cells #[.slice A0_0 l0_0.length c0_0,.slice A0_1 l0_1.length c0_1] 28 (0,0)) (by (with_reducible repeat (first|refine blk_drewN ?_ _|refine Ze ?_|refine blk_alloc ?_ _));exact BK228.out) hb)
 have n2_:=Zz.mk (Zk (g:=gb229) (o:=.cells #[.slice A1_0 l1_0.length c1_0,.slice A1_1 l1_1.length c1_1] 28 (0,0)) (by (with_reducible repeat (first|refine blk_drewN ?_ _|refine Ze ?_|refine blk_alloc ?_ _));exact BK229.out) hb)
 have n3_:=Zz.mk (Zk (g:=gb230) (o:=.cells #[.slice none 0 0,.slice none 0 0] 28 (0,0)) (by (with_reducible repeat (first|refine blk_drewN ?_ _|refine Ze ?_|refine blk_alloc ?_ _));exact BK230.out) hb)
 have n4_:=Zz.mk (Zi (by repeat (first|(with_reducible first|exact HB.out|apply Zb|apply Za|apply Zc|refine Zd ?_ GE228.out|refine Zd ?_ GE229.out|refine Zd ?_ GE230.out)|exact HB.out)) hb)
 clear BK228
 clear BK229
 clear BK230
 clear HB
 have HO233:=n0_
 have BK228:=n1_
 have BK229:=n2_
 have BK230:=n3_
 have HB:=n4_
 clear n0_ n1_ n2_ n3_ n4_
 (try clear hb)
 (try clear hb2)
 (try clear hk)
 (try clear hi)
 (try clear ho0)
 refine hK.out _ _ ⟨(Zh BK228.out 0).trans rfl,(Zh BK228.out 1).trans rfl,(Zh BK229.out 0).trans rfl,(Zh BK229.out 1).trans rfl⟩ (fun hHeld=>?_)
 clear hK K
 refine norm_ (a':=?_) ?_ ?_
 rotate_left
 ·show Act.put _ (some 9) _=_
  simp only [Act.put,List.setIfInBounds_toArray,List.set_cons_zero,List.set_cons_succ,Z6,Z7]
  rfl
 refine one_ (i:=9) (N:=some 14) #[true,true,true,true,true,true,true,true,true,true,false,true,true,true,true,false,false,false,false] rfl rfl (one_of HT_.out (by kernel_rfl)) (by decide) (fun K hK=>?_)
 refine goes_ Try.func108 (by kernel_rfl) rfl #[.slice A1_0 l1_0.length c1_0,.slice A0_1 l0_1.length c0_1] (by rfl) rfl rfl (by (try simp only [List.map_toArray,List.map_cons,List.map_nil]);first|done|rfl|(simp only [List.length_drop,List.length_take];rfl)) ?_
 with_reducible refine (nat_Mul.calls _ _ l1_0 _ _ l0_1 t234 _ ?side1 ?side2 ?side3 ?side4 A4.out).mono ?_
 (case side1=>repeat (first|exact (Kd.C_below HR1_0.out HB.out)|(with_reducible refine Kd.C_alloc ?_ _)|(with_reducible refine Kd.C_drewN ?_ _)|(with_reducible refine Kd.C_drew ?_)))
 (case side2=>exact HC1_0.out)
 (case side3=>repeat (first|exact (Kd.C_below HR0_1.out HB.out)|(with_reducible refine Kd.C_alloc ?_ _)|(with_reducible refine Kd.C_drewN ?_ _)|(with_reducible refine Kd.C_drew ?_)))
 (case side4=>exact HC0_1.out)
 rintro e w13 ⟨v235,rfl,ho0,hb⟩
 refine ⟨_,rfl,?_⟩
 have n0_:=Zz.mk (Kd.V_below (by (with_reducible repeat (first|apply Kd.V_alloc|apply Kd.V_drewN|apply Kd.V_drew));exact HO233.out) hb)
 have n1_:=Zz.mk (Kd.V_lower (Kd.V_mono (ok':=fun k_=>(w.heap.size<=k_)/\k_≠gb228/\k_≠gb229/\k_≠gb230) ho0 (fun k_ hk_=>⟨(Nat.le_trans (Zf (by repeat (first|(with_reducible first|exact HB.out|apply Zb|apply Za|apply Zc|refine Zd ?_ GE228.out|refine Zd ?_ GE229.out|refine Zd ?_ GE230.out)|exact HB.out))) hk_),(Kd.freshB (g:=gb228) (o:=.cells #[.slice A0_0 l0_0.length c0_0,.slice A0_1 l0_1.length c0_1] 28 (0,0)) (by (with_reducible repeat (first|refine blk_drewN ?_ _|refine Ze ?_|refine blk_alloc ?_ _));exact BK228.out) k_ hk_),(Kd.freshB (g:=gb229) (o:=.cells #[.slice A1_0 l1_0.length c1_0,.slice A1_1 l1_1.length c1_1] 28 (0,0)) (by (with_reducible repeat (first|refine blk_drewN ?_ _|refine Ze ?_|refine blk_alloc ?_ _));exact BK229.out) k_ hk_),(Kd.freshB (g:=gb230) (o:=.cells #[.slice none 0 0,.slice none 0 0] 28 (0,0)) (by (with_reducible repeat (first|refine blk_drewN ?_ _|refine Ze ?_|refine blk_alloc ?_ _));exact BK230.out) k_ hk_)⟩)) (Zf (by repeat (first|(with_reducible first|exact HB.out|apply Zb|apply Za|apply Zc|refine Zd ?_ GE228.out|refine Zd ?_ GE229.out|refine Zd ?_ GE230.out)|exact HB.out))))
 have n2_:=Zz.mk (Zk (g:=gb228) (o:=.cells #[.slice A0_0 l0_0.length c0_0,.slice A0_1 l0_1.length c0_1] 28 (0,0)) (by (with_reducible repeat (first|refine blk_drewN ?_ _|refine Ze ?_|refine blk_alloc ?_ _));exact BK228.out) hb)
 have n3_:=Zz.mk (Zk (g:=gb229) (o:=.cells #[.slice A1_0 l1_0.length c1_0,.slice A1_1 l1_1.length c1_1] 28 (0,0)) (by (with_reducible repeat (first|refine blk_drewN ?_ _|refine Ze ?_|refine blk_alloc ?_ _));exact BK229.out) hb)
 have n4_:=Zz.mk (Zk (g:=gb230) (o:=.cells #[.slice none 0 0,.slice none 0 0] 28 (0,0)) (by (with_reducible repeat (first|refine blk_drewN ?_ _|refine Ze ?_|refine blk_alloc ?_ _));exact BK230.out) hb)
 have n5_:=Zz.mk (Zi (by repeat (first|(with_reducible first|exact HB.out|apply Zb|apply Za|apply Zc|refine Zd ?_ GE228.out|refine Zd ?_ GE229.out|refine Zd ?_ GE230.out)|exact HB.out)) hb)
 clear HO233
 clear BK228
 clear BK229
 clear BK230
 clear HB
 have HO233:=n0_
 have HO236:=n1_
 have BK228:=n2_
 have BK229:=n3_
 have BK230:=n4_
 have HB:=n5_
 clear n0_ n1_ n2_ n3_ n4_ n5_
 (try clear hb)
 (try clear hb2)
 (try clear hk)
 (try clear hi)
 (try clear ho0)
 obtain ⟨Ao14,co14,eo14⟩:=Kd.V_slice HO233.out
 (first|subst eo14|(injection eo14 with f1_ f2_ f3_;have f4_:=f1_.symm;have f5_:=f3_.symm;clear f1_ f2_ f3_;subst f4_;subst f5_))
 obtain ⟨Ao15,co15,eo15⟩:=Kd.V_slice HO236.out
 (first|subst eo15|(injection eo15 with f1_ f2_ f3_;have f4_:=f1_.symm;have f5_:=f3_.symm;clear f1_ f2_ f3_;subst f4_;subst f5_))
 refine hK.out _ _ ⟨(Zh BK228.out 0).trans rfl,(Zh BK228.out 1).trans rfl,(Zh BK229.out 0).trans rfl,(Zh BK229.out 1).trans rfl⟩ (fun hHeld=>?_)
 clear hK K
 refine norm_ (a':=?_) ?_ ?_
 rotate_left
 ·show Act.put _ (some 14) _=_
  simp only [Act.put,List.setIfInBounds_toArray,List.set_cons_zero,List.set_cons_succ,Z6,Z7]
  rfl
 refine one_ (i:=10) (N:=some 15) #[true,true,true,true,true,true,true,true,true,true,true,true,true,true,true,false,false,false,false] rfl rfl (one_of HT_.out (by kernel_rfl)) (by decide) (fun K hK=>?_)
 refine goes_ Try.func118 (by kernel_rfl) rfl #[.slice Ao14 t231.length co14,.slice Ao15 t234.length co15] (by rfl) rfl rfl (by (try simp only [List.map_toArray,List.map_cons,List.map_nil]);first|done|rfl|(simp only [List.length_drop,List.length_take];rfl)) ?_
 with_reducible refine (nat_Add.calls _ _ t231 _ _ t234 t237 _ ?side1 ?side2 ?side3 ?side4 A5.out).mono ?_
 (case side1=>repeat (first|exact (Kd.V_reads' HO233.out).2.2|(with_reducible refine Kd.C_alloc ?_ _)|(with_reducible refine Kd.C_drewN ?_ _)|(with_reducible refine Kd.C_drew ?_)))
 (case side2=>exact (Kd.V_reads' HO233.out).2.1)
 (case side3=>repeat (first|exact (Kd.V_reads' HO236.out).2.2|(with_reducible refine Kd.C_alloc ?_ _)|(with_reducible refine Kd.C_drewN ?_ _)|(with_reducible refine Kd.C_drew ?_)))
 (case side4=>exact (Kd.V_reads' HO236.out).2.1)
 rintro e w16 ⟨v238,rfl,ho0,hb⟩
 refine ⟨_,rfl,?_⟩
 have n0_:=Zz.mk (Kd.V_below (by (with_reducible repeat (first|apply Kd.V_alloc|apply Kd.V_drewN|apply Kd.V_drew));exact HO233.out) hb)
 have n1_:=Zz.mk (Kd.V_below (by (with_reducible repeat (first|apply Kd.V_alloc|apply Kd.V_drewN|apply Kd.V_drew));exact HO236.out) hb)
 have n2_:=Zz.mk (Kd.V_lower (Kd.V_mono (ok':=fun k_=>(w.heap.size<=k_)/\k_≠gb228/\k_≠gb229/\k_≠gb230) ho0 (fun k_ hk_=>⟨(Nat.le_trans (Zf (by repeat (first|(with_reducible first|exact HB.out|apply Zb|apply Za|apply Zc|refine Zd ?_ GE228.out|refine Zd ?_ GE229.out|refine Zd ?_ GE230.out)|exact HB.out))) hk_),(Kd.freshB (g:=gb228) (o:=.cells #[.slice A0_0 l0_0.length c0_0,.slice A0_1 l0_1.length c0_1] 28 (0,0)) (by (with_reducible repeat (first|refine blk_drewN ?_ _|refine Ze ?_|refine blk_alloc ?_ _));exact BK228.out) k_ hk_),(Kd.freshB (g:=gb229) (o:=.cells #[.slice A1_0 l1_0.length c1_0,.slice A1_1 l1_1.length c1_1] 28 (0,0)) (by (with_reducible repeat (first|refine blk_drewN ?_ _|refine Ze ?_|refine blk_alloc ?_ _));exact BK229.out) k_ hk_),(Kd.freshB (g:=gb230) (o:=.cells #[.slice none 0 0,.slice none 0 0] 28 (0,0)) (by (with_reducible repeat (first|refine blk_drewN ?_ _|refine Ze ?_|refine blk_alloc ?_ _));exact BK230.out) k_ hk_)⟩)) (Zf (by repeat (first|(with_reducible first|exact HB.out|apply Zb|apply Za|apply Zc|refine Zd ?_ GE228.out|refine Zd ?_ GE229.out|refine Zd ?_ GE230.out)|exact HB.out))))
 have n3_:=Zz.mk (Zk (g:=gb228) (o:=.cells #[.slice A0_0 l0_0.length c0_0,.slice A0_1 l0_1.length c0_1] 28 (0,0)) (by (with_reducible repeat (first|refine blk_drewN ?_ _|refine Ze ?_|refine blk_alloc ?_ _));exact BK228.out) hb)
 have n4_:=Zz.mk (Zk (g:=gb229) (o:=.cells #[.slice A1_0 l1_0.length c1_0,.slice A1_1 l1_1.length c1_1] 28 (0,0)) (by (with_reducible repeat (first|refine blk_drewN ?_ _|refine Ze ?_|refine blk_alloc ?_ _));exact BK229.out) hb)
 have n5_:=Zz.mk (Zk (g:=gb230) (o:=.cells #[.slice none 0 0,.slice none 0 0] 28 (0,0)) (by (with_reducible repeat (first|refine blk_drewN ?_ _|refine Ze ?_|refine blk_alloc ?_ _));exact BK230.out) hb)
 have n6_:=Zz.mk (Zi (by repeat (first|(with_reducible first|exact HB.out|apply Zb|apply Za|apply Zc|refine Zd ?_ GE228.out|refine Zd ?_ GE229.out|refine Zd ?_ GE230.out)|exact HB.out)) hb)
 clear HO233
 clear HO236
 clear BK228
 clear BK229
 clear BK230
 clear HB
 have HO233:=n0_
 have HO236:=n1_
 have HO239:=n2_
 have BK228:=n3_
 have BK229:=n4_
 have BK230:=n5_
 have HB:=n6_
 clear n0_ n1_ n2_ n3_ n4_ n5_ n6_
 (try clear hb)
 (try clear hb2)
 (try clear hk)
 (try clear hi)
 (try clear ho0)
 refine hK.out _ _ ⟨(Zh BK228.out 0).trans rfl,(Zh BK228.out 1).trans rfl,(Zh BK229.out 0).trans rfl,(Zh BK229.out 1).trans rfl⟩ (fun hHeld=>?_)
 clear hK K
 refine norm_ (a':=?_) ?_ ?_
 rotate_left
 ·show Act.put _ (some 15) _=_
  simp only [Act.put,List.setIfInBounds_toArray,List.set_cons_zero,List.set_cons_succ,Z6,Z7]
  rfl
 refine one_ (i:=15) (N:=some 20) #[true,true,true,true,true,true,true,true,true,true,true,true,true,true,true,true,false,false,false] rfl rfl (one_of HT_.out (by kernel_rfl)) (by decide) (fun K hK=>?_)
 refine goes_ Try.func108 (by kernel_rfl) rfl #[.slice A0_1 l0_1.length c0_1,.slice A1_1 l1_1.length c1_1] (by rfl) rfl rfl (by (try simp only [List.map_toArray,List.map_cons,List.map_nil]);first|done|rfl|(simp only [List.length_drop,List.length_take];rfl)) ?_
 with_reducible refine (nat_Mul.calls _ _ l0_1 _ _ l1_1 t240 _ ?side1 ?side2 ?side3 ?side4 A6.out).mono ?_
 (case side1=>repeat (first|exact (Kd.C_below HR0_1.out HB.out)|(with_reducible refine Kd.C_alloc ?_ _)|(with_reducible refine Kd.C_drewN ?_ _)|(with_reducible refine Kd.C_drew ?_)))
 (case side2=>exact HC0_1.out)
 (case side3=>repeat (first|exact (Kd.C_below HR1_1.out HB.out)|(with_reducible refine Kd.C_alloc ?_ _)|(with_reducible refine Kd.C_drewN ?_ _)|(with_reducible refine Kd.C_drew ?_)))
 (case side4=>exact HC1_1.out)
 rintro e w17 ⟨v241,rfl,ho0,hb⟩
 refine ⟨_,rfl,?_⟩
 have n0_:=Zz.mk (Kd.V_below (by (with_reducible repeat (first|apply Kd.V_alloc|apply Kd.V_drewN|apply Kd.V_drew));exact HO233.out) hb)
 have n1_:=Zz.mk (Kd.V_below (by (with_reducible repeat (first|apply Kd.V_alloc|apply Kd.V_drewN|apply Kd.V_drew));exact HO236.out) hb)
 have n2_:=Zz.mk (Kd.V_below (by (with_reducible repeat (first|apply Kd.V_alloc|apply Kd.V_drewN|apply Kd.V_drew));exact HO239.out) hb)
 have n3_:=Zz.mk (Kd.V_lower (Kd.V_mono (ok':=fun k_=>(w.heap.size<=k_)/\k_≠gb228/\k_≠gb229/\k_≠gb230) ho0 (fun k_ hk_=>⟨(Nat.le_trans (Zf (by repeat (first|(with_reducible first|exact HB.out|apply Zb|apply Za|apply Zc|refine Zd ?_ GE228.out|refine Zd ?_ GE229.out|refine Zd ?_ GE230.out)|exact HB.out))) hk_),(Kd.freshB (g:=gb228) (o:=.cells #[.slice A0_0 l0_0.length c0_0,.slice A0_1 l0_1.length c0_1] 28 (0,0)) (by (with_reducible repeat (first|refine blk_drewN ?_ _|refine Ze ?_|refine blk_alloc ?_ _));exact BK228.out) k_ hk_),(Kd.freshB (g:=gb229) (o:=.cells #[.slice A1_0 l1_0.length c1_0,.slice A1_1 l1_1.length c1_1] 28 (0,0)) (by (with_reducible repeat (first|refine blk_drewN ?_ _|refine Ze ?_|refine blk_alloc ?_ _));exact BK229.out) k_ hk_),(Kd.freshB (g:=gb230) (o:=.cells #[.slice none 0 0,.slice none 0 0] 28 (0,0)) (by (with_reducible repeat (first|refine blk_drewN ?_ _|refine Ze ?_|refine blk_alloc ?_ _));exact BK230.out) k_ hk_)⟩)) (Zf (by repeat (first|(with_reducible first|exact HB.out|apply Zb|apply Za|apply Zc|refine Zd ?_ GE228.out|refine Zd ?_ GE229.out|refine Zd ?_ GE230.out)|exact HB.out))))
 have n4_:=Zz.mk (Zk (g:=gb228) (o:=.cells #[.slice A0_0 l0_0.length c0_0,.slice A0_1 l0_1.length c0_1] 28 (0,0)) (by (with_reducible repeat (first|refine blk_drewN ?_ _|refine Ze ?_|refine blk_alloc ?_ _));exact BK228.out) hb)
 have n5_:=Zz.mk (Zk (g:=gb229) (o:=.cells #[.slice A1_0 l1_0.length c1_0,.slice A1_1 l1_1.length c1_1] 28 (0,0)) (by (with_reducible repeat (first|refine blk_drewN ?_ _|refine Ze ?_|refine blk_alloc ?_ _));exact BK229.out) hb)
 have n6_:=Zz.mk (Zk (g:=gb230) (o:=.cells #[.slice none 0 0,.slice none 0 0] 28 (0,0)) (by (with_reducible repeat (first|refine blk_drewN ?_ _|refine Ze ?_|refine blk_alloc ?_ _));exact BK230.out) hb)
 have n7_:=Zz.mk (Zi (by repeat (first|(with_reducible first|exact HB.out|apply Zb|apply Za|apply Zc|refine Zd ?_ GE228.out|refine Zd ?_ GE229.out|refine Zd ?_ GE230.out)|exact HB.out)) hb)
 clear HO233
 clear HO236
 clear HO239
 clear BK228
 clear BK229
 clear BK230
 clear HB
 have HO233:=n0_
 have HO236:=n1_
 have HO239:=n2_
 have HO242:=n3_
 have BK228:=n4_
 have BK229:=n5_
 have BK230:=n6_
 have HB:=n7_
 clear n0_ n1_ n2_ n3_ n4_ n5_ n6_ n7_
 (try clear hb)
 (try clear hb2)
 (try clear hk)
 (try clear hi)
 (try clear ho0)
 obtain ⟨Ao18,co18,eo18⟩:=Kd.V_slice HO242.out
 (first|subst eo18|(injection eo18 with f1_ f2_ f3_;have f4_:=f1_.symm;have f5_:=f3_.symm;clear f1_ f2_ f3_;subst f4_;subst f5_))
 obtain ⟨Ao19,co19,eo19⟩:=Kd.V_slice HO239.out
 (first|subst eo19|(injection eo19 with f1_ f2_ f3_;have f4_:=f1_.symm;have f5_:=f3_.symm;clear f1_ f2_ f3_;subst f4_;subst f5_))
 refine hK.out _ _ ⟨(Zh BK228.out 0).trans rfl,(Zh BK228.out 1).trans rfl,(Zh BK229.out 0).trans rfl,(Zh BK229.out 1).trans rfl⟩ (fun hHeld=>?_)
 clear hK K
 refine norm_ (a':=?_) ?_ ?_
 rotate_left
 ·show Act.put _ (some 20) _=_
  simp only [Act.put,List.setIfInBounds_toArray,List.set_cons_zero,List.set_cons_succ,Z6,Z7]
  rfl
 refine pure_ (i:=16) (N:=some 21) (v:=?_) (a':=?_) #[true,true,true,true,true,true,true,true,true,true,true,true,true,true,true,true,true,false,false] rfl rfl (Z3 HT_.out (by kernel_rfl)) (fun _ _ _ h=>h) (Or.inl ⟨by rfl,?_⟩) ?_ ?_
 rotate_left
 ·intro w'
  go_simp
  with_reducible rfl
 rotate_left
 ·simp only [Act.put,List.setIfInBounds_toArray,List.set_cons_zero,List.set_cons_succ,Z6,Z7]
  rfl
 refine one_ (i:=17) (N:=some 22) #[true,true,true,true,true,true,true,true,true,true,true,true,true,true,true,true,true,true,false] rfl rfl (one_of HT_.out (by kernel_rfl)) (by decide) (fun K hK=>?_)
 refine goes_ Try.func63 (by kernel_rfl) rfl #[.agg #[.slice Ao19 t237.length co19,.slice Ao18 t240.length co18]] (by rfl) rfl rfl (by (try simp only [List.map_toArray,List.map_cons,List.map_nil]);first|done|rfl|(simp only [List.length_drop,List.length_take];rfl)) ?_
 with_reducible refine (ratio_Least.calls k (fun k_=>((w.heap.size<=k_)/\(k_≠gb228/\(k_≠gb229/\k_≠gb230)))) _ _ t237 (fun k_=>((w.heap.size<=k_)/\(k_≠gb228/\(k_≠gb229/\k_≠gb230)))) _ _ t240 t243 t246 _ ?side1 ?side2 A7.out).mono ?_
 (case side1=>exact HO239.out)
 (case side2=>exact HO242.out)
 rintro e w20 ⟨v244,v247,rfl,ho0,ho1,hb⟩
 refine ⟨_,rfl,?_⟩
 have n0_:=Zz.mk (Kd.V_below (by (with_reducible repeat (first|apply Kd.V_alloc|apply Kd.V_drewN|apply Kd.V_drew));exact HO233.out) hb)
 have n1_:=Zz.mk (Kd.V_below (by (with_reducible repeat (first|apply Kd.V_alloc|apply Kd.V_drewN|apply Kd.V_drew));exact HO236.out) hb)
 have n2_:=Zz.mk (Kd.V_below (by (with_reducible repeat (first|apply Kd.V_alloc|apply Kd.V_drewN|apply Kd.V_drew));exact HO239.out) hb)
 have n3_:=Zz.mk (Kd.V_below (by (with_reducible repeat (first|apply Kd.V_alloc|apply Kd.V_drewN|apply Kd.V_drew));exact HO242.out) hb)
 have n4_:=Zz.mk (Kd.V_lower (Kd.V_mono (ok':=fun k_=>(w.heap.size<=k_)/\k_≠gb228/\k_≠gb229/\k_≠gb230) ho0 (fun k_ hk_=>⟨Or.elim hk_ (fun hs_=>Or.elim hs_ (fun hs_=>hs_.1) (fun hs_=>hs_.1)) (fun hn_=>(Nat.le_trans (Zf (by repeat (first|(with_reducible first|exact HB.out|apply Zb|apply Za|apply Zc|refine Zd ?_ GE228.out|refine Zd ?_ GE229.out|refine Zd ?_ GE230.out)|exact HB.out))) hn_)),Or.elim hk_ (fun hs_=>Or.elim hs_ (fun hs_=>hs_.2.1) (fun hs_=>hs_.2.1)) (fun hn_=>(Kd.freshB (g:=gb228) (o:=.cells #[.slice A0_0 l0_0.length c0_0,.slice A0_1 l0_1.length c0_1] 28 (0,0)) (by (with_reducible repeat (first|refine blk_drewN ?_ _|refine Ze ?_|refine blk_alloc ?_ _));exact BK228.out) k_ hn_)),Or.elim hk_ (fun hs_=>Or.elim hs_ (fun hs_=>hs_.2.2.1) (fun hs_=>hs_.2.2.1)) (fun hn_=>(Kd.freshB (g:=gb229) (o:=.cells #[.slice A1_0 l1_0.length c1_0,.slice A1_1 l1_1.length c1_1] 28 (0,0)) (by (with_reducible repeat (first|refine blk_drewN ?_ _|refine Ze ?_|refine blk_alloc ?_ _));exact BK229.out) k_ hn_)),Or.elim hk_ (fun hs_=>Or.elim hs_ (fun hs_=>hs_.2.2.2) (fun hs_=>hs_.2.2.2)) (fun hn_=>(Kd.freshB (g:=gb230) (o:=.cells #[.slice none 0 0,.slice none 0 0] 28 (0,0)) (by (with_reducible repeat (first|refine blk_drewN ?_ _|refine Ze ?_|refine blk_alloc ?_ _));exact BK230.out) k_ hn_))⟩)) (Zf (by repeat (first|(with_reducible first|exact HB.out|apply Zb|apply Za|apply Zc|refine Zd ?_ GE228.out|refine Zd ?_ GE229.out|refine Zd ?_ GE230.out)|exact HB.out))))
 have n5_:=Zz.mk (Kd.V_lower (Kd.V_mono (ok':=fun k_=>(w.heap.size<=k_)/\k_≠gb228/\k_≠gb229/\k_≠gb230) ho1 (fun k_ hk_=>⟨Or.elim hk_ (fun hs_=>Or.elim hs_ (fun hs_=>hs_.1) (fun hs_=>hs_.1)) (fun hn_=>(Nat.le_trans (Zf (by repeat (first|(with_reducible first|exact HB.out|apply Zb|apply Za|apply Zc|refine Zd ?_ GE228.out|refine Zd ?_ GE229.out|refine Zd ?_ GE230.out)|exact HB.out))) hn_)),Or.elim hk_ (fun hs_=>Or.elim hs_ (fun hs_=>hs_.2.1) (fun hs_=>hs_.2.1)) (fun hn_=>(Kd.freshB (g:=gb228) (o:=.cells #[.slice A0_0 l0_0.length c0_0,.slice A0_1 l0_1.length c0_1] 28 (0,0)) (by (with_reducible repeat (first|refine blk_drewN ?_ _|refine Ze ?_|refine blk_alloc ?_ _));exact BK228.out) k_ hn_)),Or.elim hk_ (fun hs_=>Or.elim hs_ (fun hs_=>hs_.2.2.1) (fun hs_=>hs_.2.2.1)) (fun hn_=>(Kd.freshB (g:=gb229) (o:=.cells #[.slice A1_0 l1_0.length c1_0,.slice A1_1 l1_1.length c1_1] 28 (0,0)) (by (with_reducible repeat (first|refine blk_drewN ?_ _|refine Ze ?_|refine blk_alloc ?_ _));exact BK229.out) k_ hn_)),Or.elim hk_ (fun hs_=>Or.elim hs_ (fun hs_=>hs_.2.2.2) (fun hs_=>hs_.2.2.2)) (fun hn_=>(Kd.freshB (g:=gb230) (o:=.cells #[.slice none 0 0,.slice none 0 0] 28 (0,0)) (by (with_reducible repeat (first|refine blk_drewN ?_ _|refine Ze ?_|refine blk_alloc ?_ _));exact BK230.out) k_ hn_))⟩)) (Zf (by repeat (first|(with_reducible first|exact HB.out|apply Zb|apply Za|apply Zc|refine Zd ?_ GE228.out|refine Zd ?_ GE229.out|refine Zd ?_ GE230.out)|exact HB.out))))
 have n6_:=Zz.mk (Zk (g:=gb228) (o:=.cells #[.slice A0_0 l0_0.length c0_0,.slice A0_1 l0_1.length c0_1] 28 (0,0)) (by (with_reducible repeat (first|refine blk_drewN ?_ _|refine Ze ?_|refine blk_alloc ?_ _));exact BK228.out) hb)
 have n7_:=Zz.mk (Zk (g:=gb229) (o:=.cells #[.slice A1_0 l1_0.length c1_0,.slice A1_1 l1_1.length c1_1] 28 (0,0)) (by (with_reducible repeat (first|refine blk_drewN ?_ _|refine Ze ?_|refine blk_alloc ?_ _));exact BK229.out) hb)
 have n8_:=Zz.mk (Zk (g:=gb230) (o:=.cells #[.slice none 0 0,.slice none 0 0] 28 (0,0)) (by (with_reducible repeat (first|refine blk_drewN ?_ _|refine Ze ?_|refine blk_alloc ?_ _));exact BK230.out) hb)
 have n9_:=Zz.mk (Zi (by repeat (first|(with_reducible first|exact HB.out|apply Zb|apply Za|apply Zc|refine Zd ?_ GE228.out|refine Zd ?_ GE229.out|refine Zd ?_ GE230.out)|exact HB.out)) hb)
 clear HO233
 clear HO236
 clear HO239
 clear HO242
 clear BK228
 clear BK229
 clear BK230
 clear HB
 have HO233:=n0_
 have HO236:=n1_
 have HO239:=n2_
 have HO242:=n3_
 have HO245:=n4_
 have HO248:=n5_
 have BK228:=n6_
 have BK229:=n7_
 have BK230:=n8_
 have HB:=n9_
 clear n0_ n1_ n2_ n3_ n4_ n5_ n6_ n7_ n8_ n9_
 (try clear hb)
 (try clear hb2)
 (try clear hk)
 (try clear hi)
 (try clear ho0)
 (try clear ho1)
 obtain ⟨Ao21,co21,eo21⟩:=Kd.V_slice HO245.out
 (first|subst eo21|(injection eo21 with f1_ f2_ f3_;have f4_:=f1_.symm;have f5_:=f3_.symm;clear f1_ f2_ f3_;subst f4_;subst f5_))
 obtain ⟨Ao23,co23,eo23⟩:=Kd.V_slice HO248.out
 (first|subst eo23|(injection eo23 with f1_ f2_ f3_;have f4_:=f1_.symm;have f5_:=f3_.symm;clear f1_ f2_ f3_;subst f4_;subst f5_))
 refine hK.out _ _ ⟨(Zh BK228.out 0).trans rfl,(Zh BK228.out 1).trans rfl,(Zh BK229.out 0).trans rfl,(Zh BK229.out 1).trans rfl⟩ (fun hHeld=>?_)
 clear hK K
 refine norm_ (a':=?_) ?_ ?_
 rotate_left
 ·show Act.put _ (some 22) _=_
  simp only [Act.put,List.setIfInBounds_toArray,List.set_cons_zero,List.set_cons_succ,Z6,Z7]
  rfl
 refine one_ (i:=18) (N:=none) #[true,true,true,true,true,true,true,true,true,true,true,true,true,true,true,true,true,true,true] rfl rfl (one_of HT_.out (by kernel_rfl)) (by decide) (fun K hK=>?_)
 have hs22:w20.cell? ⟨gb230,0,none⟩=some (.slice none 0 0):=(Zh BK230.out 0).trans rfl
 have hfs22:=Zj BK230.out 0
 have hns22_0:=NB228_230.out
 have hns22_1:=NB229_230.out
 have hms22_0:=NB230_228.out
 have hms22_1:=NB230_229.out
 have hs24:w20.cell? ⟨gb230,1,none⟩=some (.slice none 0 0):=(Zh BK230.out 1).trans rfl
 have hfs24:=Zj BK230.out 1
 have hns24_0:=NB228_230.out
 have hns24_1:=NB229_230.out
 have hms24_0:=NB230_228.out
 have hms24_1:=NB230_229.out
 refine skip_ (w1:=?_) (by rfl) rfl ?_ ?_
 rotate_left
 ·go_simp
  rfl
 refine hK.out _ _ ⟨((cell_far (p:=⟨gb230,_,none⟩) NB228_230.out _).trans (((cell_far (p:=⟨gb230,_,none⟩) NB228_230.out _).trans (hHeld.1)))),((cell_far (p:=⟨gb230,_,none⟩) NB228_230.out _).trans (((cell_far (p:=⟨gb230,_,none⟩) NB228_230.out _).trans (hHeld.2.1)))),((cell_far (p:=⟨gb230,_,none⟩) NB229_230.out _).trans (((cell_far (p:=⟨gb230,_,none⟩) NB229_230.out _).trans (hHeld.2.2.1)))),((cell_far (p:=⟨gb230,_,none⟩) NB229_230.out _).trans (((cell_far (p:=⟨gb230,_,none⟩) NB229_230.out _).trans (hHeld.2.2.2))))⟩ (fun hHeld=>?_)
 clear hK K
 refine done_ (done_of HT_.out (by kernel_rfl)) ?_
 try go_wp2
 refine bodyPost_ret (results_cell_row rfl _ _ gb230 28 #[.slice Ao21 t243.length co21,.slice Ao23 t246.length co23] (0,0) _ rfl (by (with_reducible repeat (first|refine blk_drewN ?_ _|refine Ze ?_|refine blk_alloc ?_ _));refine Zx (cs:=#[.slice Ao21 t243.length co21,.slice none 0 0]) ?_ 1 _ rfl;(with_reducible repeat (first|refine blk_drewN ?_ _|refine Ze ?_|refine blk_alloc ?_ _));refine Zx (cs:=#[.slice none 0 0,.slice none 0 0]) ?_ 0 _ rfl;(with_reducible repeat (first|refine blk_drewN ?_ _|refine Ze ?_|refine blk_alloc ?_ _));exact BK230.out) Try.underlying28 rfl (by kernel_rfl)) rfl ?_
 exact ⟨_,_,by first|rfl|(simp [Zm,Zl]<;>rfl)|(simp [*,Zm,Zl]<;>rfl),by (with_reducible repeat (first|apply Kd.V_alloc|apply Kd.V_drewN|apply Kd.V_drew));exact Kd.V_mono (Kd.V_far (p:=⟨gb230,1,none⟩) (Kd.V_far (p:=⟨gb230,0,none⟩) (Kd.V_mono HO245.out (fun k_ hk=>(⟨hk,hk.2.2.2⟩:_/\k_≠gb230))) (fun _ hk=>hk.2) (.slice Ao21 t243.length co21)) (fun _ hk=>hk.2) (.slice Ao23 t246.length co23)) (fun _ hk=>hk.1.1),by (with_reducible repeat (first|apply Kd.V_alloc|apply Kd.V_drewN|apply Kd.V_drew));exact Kd.V_mono (Kd.V_far (p:=⟨gb230,1,none⟩) (Kd.V_far (p:=⟨gb230,0,none⟩) (Kd.V_mono HO248.out (fun k_ hk=>(⟨hk,hk.2.2.2⟩:_/\k_≠gb230))) (fun _ hk=>hk.2) (.slice Ao21 t243.length co21)) (fun _ hk=>hk.2) (.slice Ao23 t246.length co23)) (fun _ hk=>hk.1.1),by repeat (first|(with_reducible first|exact HB.out|apply Zb|apply Za|apply Zc|refine Zd ?_ GE228.out|refine Zd ?_ GE229.out|refine Zd ?_ GE230.out)|exact HB.out)⟩
def ratio_Sum.l0:Nat->List (S34)->Int->Int->List Int->List Int->Option (List Int × List Int)
 | 0,_,_,_,_,_=>none
 | k+1,x7,x8,x9,x266000,x266001=>if x9<x8 then (if 0<=x9 then (if x9<(x7.length:Int) then ((ratio_Of.f ((rd_T34 x7 x9).f0) ((rd_T34 x7 x9).f1)).bind fun bt268=>((ratio_Add.f k x266000 x266001 bt268.1 bt268.2).bind fun bt274=>(ratio_Sum.l0 k x7 x8 (wrap64 (x9+1)) bt274.1 bt274.2))) else (none)) else (none)) else (some (x266000,x266001))
def ratio_Sum.f (k:Nat) (l0:List (S34)):Option (List Int × List Int):=(ratio_Whole.f 0).bind fun bt259=>(ratio_Sum.l0 k l0 (l0.length:Int) 0 bt259.1 bt259.2)
set_option maxHeartbeats 8000000 in
set_option maxRecDepth 100000 in
theorem ratio_Sum.calls (k:Nat) (A0:Option Addr) (c0:Nat) (l0:List (S34)) (r1:List Int) (r2:List Int) (w:World) (hr0:Kd.C k34 w A0 l0.length l0) (hc0:l0.length<=c0) (h:ratio_Sum.f k l0=some (r1,r2)) :
  Calls Try.prog 110 #[.slice A0 l0.length c0] w fun e w'=>∃v0_ v1_:Value,e=.returned (.agg #[v0_,v1_])/\Kd.V (Kd.int .u32) 89 w' w.heap.size (fun k_=>(w.heap.size<=k_)) v0_ r1/\Kd.V (Kd.int .u32) 89 w' w.heap.size (fun k_=>(w.heap.size<=k_)) v1_ r2/\Below w.heap.size w w':=by
 have hu28:=Try.underlying28
 have hu34:=Try.underlying34
 have HR0:=Zz.mk hr0
 have HC0:=Zz.mk hc0
 clear hr0 hc0
 have HB:=Zz.mk (Below.refl w.heap.size w)
 have H:((ratio_Whole.f 0).bind fun bt259=>(ratio_Sum.l0 k l0 (l0.length:Int) 0 bt259.1 bt259.2))=some (r1,r2):=h
 clear h
 replace H:=Option.bind_eq_some_iff.mp H
 obtain ⟨⟨t259,t262⟩,A20,H⟩:=H
 replace H:(ratio_Sum.l0 k l0 (l0.length:Int) 0 t259 t262)=some (r1,r2):=H
 have A2:=Zz.mk A20
 clear A20
 have H':=Zz.mk H
 clear H
 go_enter Try.func110,Try.ntmps110
 go_wp2_with (first|((with_reducible refine Zt (N:=2) rfl ?_);refine Zu ?hg (N:=2) ?hd (cs:=#[.slice none 0 0,.slice none 0 0]) (t:=28) ?hr ?_;(case hd=>rfl);(case hg=>rfl);(case hr=>first|(go_simp;done)|(go_simp;rfl));intro gb258 hg w3 hbox hb;have n0_:=Zz.mk (Zi (by repeat (first|(with_reducible first|exact HB.out|apply Zb|apply Za|apply Zc)|exact HB.out)) hb);have n1_:=Zz.mk (hbox);have n2_:=Zz.mk ((by rw [hg];exact (Zf (by repeat (first|(with_reducible first|exact HB.out|apply Zb|apply Za|apply Zc)|exact HB.out))):w.heap.size<=gb258));have n3_:=Zz.mk ((by rw [hg];exact (Zf (by repeat (first|(with_reducible first|exact HB.out|apply Zb|apply Za|apply Zc)|exact HB.out))):w.heap.size<=gb258));clear HB;have HB:=n0_;have BK258:=n1_;have GW258:=n2_;have GE258:=n3_;clear n0_ n1_ n2_ n3_;clear hb hbox hg)|((with_reducible refine Zs (f:=64) rfl ?_);refine Zv (some 6) rfl rfl Try.func64 (by kernel_rfl) rfl #[.int .u64 0] rfl (by (try simp only [List.map_toArray,List.map_cons,List.map_nil]);first|done|rfl|(simp only [List.length_drop,List.length_take];rfl)) ?_;(with_reducible refine (ratio_Whole.calls 0 t259 t262 _ A2.out).mono ?_);rintro e w4 ⟨v260,v263,rfl,ho0,ho1,hb⟩;refine ⟨_,rfl,?_⟩;have n0_:=Zz.mk (Kd.V_lower (Kd.V_mono (ok':=fun k_=>(w.heap.size<=k_)/\k_≠gb258) ho0 (fun k_ hk_=>⟨(Nat.le_trans (Zf (by repeat (first|(with_reducible first|exact HB.out|apply Zb|apply Za|apply Zc|refine Zd ?_ GE258.out)|exact HB.out))) hk_),(Kd.freshB (g:=gb258) (o:=.cells #[.slice none 0 0,.slice none 0 0] 28 (0,0)) (by (with_reducible repeat (first|refine blk_drewN ?_ _|refine Ze ?_|refine blk_alloc ?_ _));exact BK258.out) k_ hk_)⟩)) (Zf (by repeat (first|(with_reducible first|exact HB.out|apply Zb|apply Za|apply Zc|refine Zd ?_ GE258.out)|exact HB.out))));have n1_:=Zz.mk (Kd.V_lower (Kd.V_mono (ok':=fun k_=>(w.heap.size<=k_)/\k_≠gb258) ho1 (fun k_ hk_=>⟨(Nat.le_trans (Zf (by repeat (first|(with_reducible first|exact HB.out|apply Zb|apply Za|apply Zc|refine Zd ?_ GE258.out)|exact HB.out))) hk_),(Kd.freshB (g:=gb258) (o:=.cells #[.slice none 0 0,.slice none 0 0] 28 (0,0)) (by (with_reducible repeat (first|refine blk_drewN ?_ _|refine Ze ?_|refine blk_alloc ?_ _));exact BK258.out) k_ hk_)⟩)) (Zf (by repeat (first|(with_reducible first|exact HB.out|apply Zb|apply Za|apply Zc|refine Zd ?_ GE258.out)|exact HB.out))));have n2_:=Zz.mk (Zk (g:=gb258) (o:=.cells #[.slice none 0 0,.slice none 0 0] 28 (0,0)) (by (with_reducible repeat (first|refine blk_drewN ?_ _|refine Ze ?_|refine blk_alloc ?_ _));exact BK258.out) hb);have n3_:=Zz.mk (Zi (by repeat (first|(with_reducible first|exact HB.out|apply Zb|apply Za|apply Zc|refine Zd ?_ GE258.out)|exact HB.out)) hb);clear BK258;clear HB;have HO261:=n0_;have HO264:=n1_;have BK258:=n2_;have HB:=n3_;clear n0_ n1_ n2_ n3_;(try clear hb);(try clear hb2);(try clear hk);(try clear hi);(try clear ho0);(try clear ho1))|((with_reducible refine Zt (N:=3) rfl ?_);refine Zu ?hg (N:=3) ?hd (cs:=#[.slice none 0 0,.slice none 0 0]) (t:=28) ?hr ?_;(case hd=>rfl);(case hg=>rfl);(case hr=>first|(go_simp;done)|(go_simp;rfl));intro gb265 hg w5 hbox hb;have n0_:=Zz.mk (Kd.V_below (Kd.V_elderB (by (with_reducible repeat (first|apply Kd.V_alloc|apply Kd.V_drewN|apply Kd.V_drew));exact HO261.out) gb265 (Nat.le_of_eq hg.symm)) hb);have n1_:=Zz.mk (Kd.V_below (Kd.V_elderB (by (with_reducible repeat (first|apply Kd.V_alloc|apply Kd.V_drewN|apply Kd.V_drew));exact HO264.out) gb265 (Nat.le_of_eq hg.symm)) hb);have n2_:=Zz.mk (Zk (g:=gb258) (o:=.cells #[.slice none 0 0,.slice none 0 0] 28 (0,0)) (by (with_reducible repeat (first|refine blk_drewN ?_ _|refine Ze ?_|refine blk_alloc ?_ _));exact BK258.out) hb);have n3_:=Zz.mk (Zi (by repeat (first|(with_reducible first|exact HB.out|apply Zb|apply Za|apply Zc|refine Zd ?_ GE258.out)|exact HB.out)) hb);have n4_:=Zz.mk (hbox);have n5_:=Zz.mk ((by rw [hg];exact (Zf (by repeat (first|(with_reducible first|exact HB.out|apply Zb|apply Za|apply Zc|refine Zd ?_ GE258.out)|exact HB.out))):w.heap.size<=gb265));have n6_:=Zz.mk ((by rw [hg];exact (Zf (by repeat (first|(with_reducible first|exact HB.out|apply Zb|apply Za|apply Zc|refine Zd ?_ GE258.out)|exact HB.out))):w.heap.size<=gb265));have n7_:=Zz.mk ((by rw [hg];exact Nat.ne_of_lt (Z5 (g:=gb258) (o:=.cells #[.slice none 0 0,.slice none 0 0] 28 (0,0)) (by (with_reducible repeat (first|refine blk_drewN ?_ _|refine Ze ?_|refine blk_alloc ?_ _));exact BK258.out)):gb258≠gb265));have n8_:=Zz.mk ((by rw [hg];exact Nat.ne_of_gt (Z5 (g:=gb258) (o:=.cells #[.slice none 0 0,.slice none 0 0] 28 (0,0)) (by (with_reducible repeat (first|refine blk_drewN ?_ _|refine Ze ?_|refine blk_alloc ?_ _));exact BK258.out)):gb265≠gb258));clear HO261;clear HO264;clear BK258;clear HB;have HO261:=n0_;have HO264:=n1_;have BK258:=n2_;have HB:=n3_;have BK265:=n4_;have GW265:=n5_;have GE265:=n6_;have NB258_265:=n7_;have NB265_258:=n8_;clear n0_ n1_ n2_ n3_ n4_ n5_ n6_ n7_ n8_;clear hb hbox hg;obtain ⟨Ao6,co6,eo6⟩:=Kd.V_slice HO261.out;subst eo6;have hnb7:=NB265_258.out;have hnc7:=NB258_265.out;have hcz8_0:w5.cell? ⟨gb265,0,none⟩=some (.slice none 0 0):=(Zh BK265.out 0).trans rfl;have hcz8_1:w5.cell? ⟨gb265,1,none⟩=some (.slice none 0 0):=(Zh BK265.out 1).trans rfl;have hfz8_0:=Zj BK265.out 0;have hfz8_1:=Zj BK265.out 1;obtain ⟨Ao9,co9,eo9⟩:=Kd.V_slice HO264.out;subst eo9))
 go_loopg [9] k (fun kq v9 w'=>∃ (x9_1:Int) (x266000_1:List Int) (x266001_1:List Int) (u266000:Value) (u266001:Value),v9=.int .i64 x9_1/\Zz (ratio_Sum.l0 kq l0 (l0.length:Int) x9_1 x266000_1 x266001_1=some (r1,r2))/\Zz (kq<=k)/\Zz (Kd.V (Kd.int .u32) 89 w' w.heap.size (fun k_=>(w.heap.size<=k_)/\k_≠gb258/\k_≠gb265) u266000 x266000_1)/\Zz (Kd.V (Kd.int .u32) 89 w' w.heap.size (fun k_=>(w.heap.size<=k_)/\k_≠gb258/\k_≠gb265) u266001 x266001_1)/\Zz (w'.heap[gb258]? = some (.cells #[(.slice none 0 0),(.slice none 0 0)] 28 (0,0)))/\Zz (w'.heap[gb265]? = some (.cells #[u266000,u266001] 28 (0,0)))/\Zz (Below w.heap.size w w'))
 case atStart=>exact ⟨(0),(t259),(t262),(.slice Ao6 t259.length co6),(.slice Ao9 t262.length co9),(by first|rfl|(simp;done)|(simp [*];done)),H',⟨Nat.le_refl _⟩,⟨by (with_reducible repeat (first|apply Kd.V_alloc|apply Kd.V_drewN|apply Kd.V_drew));exact Kd.V_mono (Kd.V_far (p:=⟨gb265,1,none⟩) (Kd.V_far (p:=⟨gb265,0,none⟩) (Kd.V_mono HO261.out (fun k_ hk=>(⟨hk,hk.2⟩:_/\k_≠gb265))) (fun _ hk=>hk.2) (.slice Ao6 t259.length co6)) (fun _ hk=>hk.2) (.slice Ao9 t262.length co9)) (fun _ hk=>⟨hk.1.1.1,⟨hk.1.1.2,hk.1.2⟩⟩)⟩,⟨by (with_reducible repeat (first|apply Kd.V_alloc|apply Kd.V_drewN|apply Kd.V_drew));exact Kd.V_mono (Kd.V_far (p:=⟨gb265,1,none⟩) (Kd.V_far (p:=⟨gb265,0,none⟩) (Kd.V_mono HO264.out (fun k_ hk=>(⟨hk,hk.2⟩:_/\k_≠gb265))) (fun _ hk=>hk.2) (.slice Ao6 t259.length co6)) (fun _ hk=>hk.2) (.slice Ao9 t262.length co9)) (fun _ hk=>⟨hk.1.1.1,⟨hk.1.1.2,hk.1.2⟩⟩)⟩,⟨by (with_reducible repeat (first|refine blk_drewN ?_ _|refine Ze ?_|refine blk_alloc ?_ _));refine blk_far ?_ NB258_265.out _;(with_reducible repeat (first|refine blk_drewN ?_ _|refine Ze ?_|refine blk_alloc ?_ _));refine blk_far ?_ NB258_265.out _;(with_reducible repeat (first|refine blk_drewN ?_ _|refine Ze ?_|refine blk_alloc ?_ _));exact BK258.out⟩,⟨by (with_reducible repeat (first|refine blk_drewN ?_ _|refine Ze ?_|refine blk_alloc ?_ _));refine Zx (cs:=#[.slice Ao6 t259.length co6,.slice none 0 0]) ?_ 1 _ rfl;(with_reducible repeat (first|refine blk_drewN ?_ _|refine Ze ?_|refine blk_alloc ?_ _));refine Zx (cs:=#[.slice none 0 0,.slice none 0 0]) ?_ 0 _ rfl;(with_reducible repeat (first|refine blk_drewN ?_ _|refine Ze ?_|refine blk_alloc ?_ _));exact BK265.out⟩,⟨by repeat (first|(with_reducible first|exact HB.out|apply Zb|apply Za|apply Zc|refine Zd ?_ GE258.out|refine Zd ?_ GE265.out)|exact HB.out)⟩⟩
 case round =>
  clear H'
  try clear c1
  try clear p2
  try clear c6
  try clear c7
  try clear hcz8_0
  try clear hcz8_1
  try clear hfz8_0
  try clear hfz8_1
  obtain ⟨x9_1,x266000_1,x266001_1,u266000,u266001,rfl,HA,HK1,HO_266000,HO_266001,BK258,BK265,HB⟩:=hrel
  cases gk with
  | zero=>exact absurd HA.out (by simp [ratio_Sum.l0])
  | succ k1 =>
   have H:=HA.out
   clear HA
   simp only [ratio_Sum.l0] at H
   by_cases c10:x9_1<(l0.length:Int)
   ·rw [if_pos c10] at H
    have c10b0:decide (x9_1<(l0.length:Int))=true:=decide_eq_true c10
    clear c10
    by_cases c11:0<=x9_1
    ·rw [if_pos c11] at H
     have c11b0:decide (0<=x9_1)=true:=decide_eq_true c11
     clear c11
     by_cases c12:x9_1<(l0.length:Int)
     ·rw [if_pos c12] at H
      have c12b0:decide (x9_1<(l0.length:Int))=true:=decide_eq_true c12
      clear c12
      replace H:=Option.bind_eq_some_iff.mp H
      obtain ⟨⟨t268,t271⟩,A130,H⟩:=H
      replace H:((ratio_Add.f k1 x266000_1 x266001_1 t268 t271).bind fun bt274=>(ratio_Sum.l0 k1 l0 (l0.length:Int) (wrap64 (x9_1+1)) bt274.1 bt274.2))=some (r1,r2):=H
      have A13:=Zz.mk A130
      clear A130
      replace H:=Option.bind_eq_some_iff.mp H
      obtain ⟨⟨t274,t277⟩,A140,H⟩:=H
      replace H:(ratio_Sum.l0 k1 l0 (l0.length:Int) (wrap64 (x9_1+1)) t274 t277)=some (r1,r2):=H
      have A14:=Zz.mk A140
      clear A140
      have H':=Zz.mk H
      clear H
      have p266:0<=(x9_1:Int):=of_decide_eq_true (by first|(with_reducible assumption)|assumption)
      have q266:x9_1<(l0.length:Int):=of_decide_eq_true (by first|(with_reducible assumption)|assumption)
      obtain ⟨ad266,e266,hx266_0,hx266_1⟩:=at_T34 HR0.out x9_1 p266 q266
      cases e266
      replace hx266_0:=(HB.out.cell (World.block_lt_of_cell? w _ hx266_0)).trans hx266_0
      replace hx266_1:=(HB.out.cell (World.block_lt_of_cell? w _ hx266_1)).trans hx266_1
      replace p266:=eq_true p266
      replace q266:=eq_true q266
      try go_wp2_with (first|((with_reducible refine Zt (N:=5) rfl ?_);refine Zu ?hg (N:=5) ?hd (cs:=#[.int .i64 0,.int .i64 0]) (t:=34) ?hr ?_;(case hd=>rfl);(case hg=>rfl);(case hr=>first|(go_simp;done)|(go_simp;rfl));intro gb267 hg w15 hbox hb;have n0_:=Zz.mk (Kd.V_below (Kd.V_elderB (by (with_reducible repeat (first|apply Kd.V_alloc|apply Kd.V_drewN|apply Kd.V_drew));exact HO_266000.out) gb267 (Nat.le_of_eq hg.symm)) hb);have n1_:=Zz.mk (Kd.V_below (Kd.V_elderB (by (with_reducible repeat (first|apply Kd.V_alloc|apply Kd.V_drewN|apply Kd.V_drew));exact HO_266001.out) gb267 (Nat.le_of_eq hg.symm)) hb);have n2_:=Zz.mk (Zk (g:=gb258) (o:=.cells #[.slice none 0 0,.slice none 0 0] 28 (0,0)) (by (with_reducible repeat (first|refine blk_drewN ?_ _|refine Ze ?_|refine blk_alloc ?_ _));exact BK258.out) hb);have n3_:=Zz.mk (Zk (g:=gb265) (o:=.cells #[u266000,u266001] 28 (0,0)) (by (with_reducible repeat (first|refine blk_drewN ?_ _|refine Ze ?_|refine blk_alloc ?_ _));exact BK265.out) hb);have n4_:=Zz.mk (Zi (by repeat (first|(with_reducible first|exact HB.out|apply Zb|apply Za|apply Zc|refine Zd ?_ GE258.out|refine Zd ?_ GE265.out)|exact HB.out)) hb);have n5_:=Zz.mk (hbox);have n6_:=Zz.mk ((by rw [hg];exact (Zf (by repeat (first|(with_reducible first|exact HB.out|apply Zb|apply Za|apply Zc|refine Zd ?_ GE258.out|refine Zd ?_ GE265.out)|exact HB.out))):w.heap.size<=gb267));have n7_:=Zz.mk ((by rw [hg];exact (Zf (by repeat (first|(with_reducible first|exact HB.out|apply Zb|apply Za|apply Zc|refine Zd ?_ GE258.out|refine Zd ?_ GE265.out)|exact HB.out))):w.heap.size<=gb267));have n8_:=Zz.mk ((by rw [hg];exact Nat.ne_of_lt (Z5 (g:=gb258) (o:=.cells #[.slice none 0 0,.slice none 0 0] 28 (0,0)) (by (with_reducible repeat (first|refine blk_drewN ?_ _|refine Ze ?_|refine blk_alloc ?_ _));exact BK258.out)):gb258≠gb267));have n9_:=Zz.mk ((by rw [hg];exact Nat.ne_of_gt (Z5 (g:=gb258) (o:=.cells #[.slice none 0 0,.slice none 0 0] 28 (0,0)) (by (with_reducible repeat (first|refine blk_drewN ?_ _|refine Ze ?_|refine blk_alloc ?_ _));exact BK258.out)):gb267≠gb258));have n10_:=Zz.mk ((by rw [hg];exact Nat.ne_of_lt (Z5 (g:=gb265) (o:=.cells #[u266000,u266001] 28 (0,0)) (by (with_reducible repeat (first|refine blk_drewN ?_ _|refine Ze ?_|refine blk_alloc ?_ _));exact BK265.out)):gb265≠gb267));have n11_:=Zz.mk ((by rw [hg];exact Nat.ne_of_gt (Z5 (g:=gb265) (o:=.cells #[u266000,u266001] 28 (0,0)) (by (with_reducible repeat (first|refine blk_drewN ?_ _|refine Ze ?_|refine blk_alloc ?_ _));exact BK265.out)):gb267≠gb265));clear HO_266000;clear HO_266001;clear BK258;clear BK265;clear HB;have HO_266000:=n0_;have HO_266001:=n1_;have BK258:=n2_;have BK265:=n3_;have HB:=n4_;have BK267:=n5_;have GW267:=n6_;have GE267:=n7_;have NB258_267:=n8_;have NB267_258:=n9_;have NB265_267:=n10_;have NB267_265:=n11_;clear n0_ n1_ n2_ n3_ n4_ n5_ n6_ n7_ n8_ n9_ n10_ n11_;clear hb hbox hg;have hnb16:=NB267_258.out;have hnc16:=NB258_267.out;have hnb17:=NB267_265.out;have hnc17:=NB265_267.out;have hcz18_0:w15.cell? ⟨gb267,0,none⟩=some (.int .i64 0):=(Zh BK267.out 0).trans rfl;have hcz18_1:w15.cell? ⟨gb267,1,none⟩=some (.int .i64 0):=(Zh BK267.out 1).trans rfl;have hfz18_0:=Zj BK267.out 0;have hfz18_1:=Zj BK267.out 1))
      have n0_:Zz (Kd.V (Kd.int .u32) 89 ((w15.setCell ⟨gb267,0,none⟩ (.int .i64 ((rd_T34 l0 x9_1).f0))).setCell ⟨gb267,1,none⟩ (.int .i64 ((rd_T34 l0 x9_1).f1))) w.heap.size (fun k_=>(w.heap.size<=k_)/\k_≠gb258/\k_≠gb265/\k_≠gb267) u266000 x266000_1):=⟨by (with_reducible repeat (first|apply Kd.V_alloc|apply Kd.V_drewN|apply Kd.V_drew));exact Kd.V_mono (Kd.V_far (p:=⟨gb267,1,none⟩) (Kd.V_far (p:=⟨gb267,0,none⟩) (Kd.V_mono HO_266000.out (fun k_ hk=>(⟨hk,hk.2⟩:_/\k_≠gb267))) (fun _ hk=>hk.2) (.int .i64 ((rd_T34 l0 x9_1).f0))) (fun _ hk=>hk.2) (.int .i64 ((rd_T34 l0 x9_1).f1))) (fun _ hk=>⟨hk.1.1.1,⟨hk.1.1.2.1,⟨hk.1.1.2.2,hk.1.2⟩⟩⟩)⟩
      have n1_:Zz (Kd.V (Kd.int .u32) 89 ((w15.setCell ⟨gb267,0,none⟩ (.int .i64 ((rd_T34 l0 x9_1).f0))).setCell ⟨gb267,1,none⟩ (.int .i64 ((rd_T34 l0 x9_1).f1))) w.heap.size (fun k_=>(w.heap.size<=k_)/\k_≠gb258/\k_≠gb265/\k_≠gb267) u266001 x266001_1):=⟨by (with_reducible repeat (first|apply Kd.V_alloc|apply Kd.V_drewN|apply Kd.V_drew));exact Kd.V_mono (Kd.V_far (p:=⟨gb267,1,none⟩) (Kd.V_far (p:=⟨gb267,0,none⟩) (Kd.V_mono HO_266001.out (fun k_ hk=>(⟨hk,hk.2⟩:_/\k_≠gb267))) (fun _ hk=>hk.2) (.int .i64 ((rd_T34 l0 x9_1).f0))) (fun _ hk=>hk.2) (.int .i64 ((rd_T34 l0 x9_1).f1))) (fun _ hk=>⟨hk.1.1.1,⟨hk.1.1.2.1,⟨hk.1.1.2.2,hk.1.2⟩⟩⟩)⟩
      have n2_:Zz (((w15.setCell ⟨gb267,0,none⟩ (.int .i64 ((rd_T34 l0 x9_1).f0))).setCell ⟨gb267,1,none⟩ (.int .i64 ((rd_T34 l0 x9_1).f1))).heap[gb258]? = some (.cells #[.slice none 0 0,.slice none 0 0] 28 (0,0))):=⟨by (with_reducible repeat (first|refine blk_drewN ?_ _|refine Ze ?_|refine blk_alloc ?_ _));refine blk_far ?_ NB258_267.out _;(with_reducible repeat (first|refine blk_drewN ?_ _|refine Ze ?_|refine blk_alloc ?_ _));refine blk_far ?_ NB258_267.out _;(with_reducible repeat (first|refine blk_drewN ?_ _|refine Ze ?_|refine blk_alloc ?_ _));exact BK258.out⟩
      have n3_:Zz (((w15.setCell ⟨gb267,0,none⟩ (.int .i64 ((rd_T34 l0 x9_1).f0))).setCell ⟨gb267,1,none⟩ (.int .i64 ((rd_T34 l0 x9_1).f1))).heap[gb265]? = some (.cells #[u266000,u266001] 28 (0,0))):=⟨by (with_reducible repeat (first|refine blk_drewN ?_ _|refine Ze ?_|refine blk_alloc ?_ _));refine blk_far ?_ NB265_267.out _;(with_reducible repeat (first|refine blk_drewN ?_ _|refine Ze ?_|refine blk_alloc ?_ _));refine blk_far ?_ NB265_267.out _;(with_reducible repeat (first|refine blk_drewN ?_ _|refine Ze ?_|refine blk_alloc ?_ _));exact BK265.out⟩
      have n4_:Zz (((w15.setCell ⟨gb267,0,none⟩ (.int .i64 ((rd_T34 l0 x9_1).f0))).setCell ⟨gb267,1,none⟩ (.int .i64 ((rd_T34 l0 x9_1).f1))).heap[gb267]? = some (.cells #[.int .i64 ((rd_T34 l0 x9_1).f0),.int .i64 ((rd_T34 l0 x9_1).f1)] 34 (0,0))):=⟨by (with_reducible repeat (first|refine blk_drewN ?_ _|refine Ze ?_|refine blk_alloc ?_ _));refine Zx (cs:=#[.int .i64 ((rd_T34 l0 x9_1).f0),.int .i64 0]) ?_ 1 _ rfl;(with_reducible repeat (first|refine blk_drewN ?_ _|refine Ze ?_|refine blk_alloc ?_ _));refine Zx (cs:=#[.int .i64 0,.int .i64 0]) ?_ 0 _ rfl;(with_reducible repeat (first|refine blk_drewN ?_ _|refine Ze ?_|refine blk_alloc ?_ _));exact BK267.out⟩
      have n5_:Zz (Below w.heap.size w ((w15.setCell ⟨gb267,0,none⟩ (.int .i64 ((rd_T34 l0 x9_1).f0))).setCell ⟨gb267,1,none⟩ (.int .i64 ((rd_T34 l0 x9_1).f1)))):=⟨by repeat (first|(with_reducible first|exact HB.out|apply Zb|apply Za|apply Zc|refine Zd ?_ GE258.out|refine Zd ?_ GE265.out|refine Zd ?_ GE267.out)|exact HB.out)⟩
      (try clear HO_266000)
      (try clear HO_266001)
      (try clear BK258)
      (try clear BK265)
      (try clear BK267)
      (try clear HB)
      generalize ((w15.setCell ⟨gb267,0,none⟩ (.int .i64 ((rd_T34 l0 x9_1).f0))).setCell ⟨gb267,1,none⟩ (.int .i64 ((rd_T34 l0 x9_1).f1)))=w19 at n0_ n1_ n2_ n3_ n4_ n5_ ⊢
      have HO_266000:=n0_
      have HO_266001:=n1_
      have BK258:=n2_
      have BK265:=n3_
      have BK267:=n4_
      have HB:=n5_
      clear n0_ n1_ n2_ n3_ n4_ n5_
      have n0_:=Zz.mk (Kd.V_drew HO_266000.out)
      have n1_:=Zz.mk (Kd.V_drew HO_266001.out)
      have n2_:=Zz.mk (Ze BK258.out)
      have n3_:=Zz.mk (Ze BK265.out)
      have n4_:=Zz.mk (Ze BK267.out)
      have n5_:=Zz.mk (Zc HB.out)
      clear HO_266000
      clear HO_266001
      clear BK258
      clear BK265
      clear BK267
      clear HB
      have HO_266000:=n0_
      have HO_266001:=n1_
      have BK258:=n2_
      have BK265:=n3_
      have BK267:=n4_
      have HB:=n5_
      clear n0_ n1_ n2_ n3_ n4_ n5_
      refine start_ (n:=5) (S:=fun w'=>w'.cell? ⟨gb265,0,none⟩=some (u266000)/\w'.cell? ⟨gb265,1,none⟩=some (u266001)/\w'.cell? ⟨gb267,0,none⟩=some (.int .i64 ((rd_T34 l0 x9_1).f0))/\w'.cell? ⟨gb267,1,none⟩=some (.int .i64 ((rd_T34 l0 x9_1).f1))) (ds:=[4]) #[false,false,false,false,false] (by kernel_rfl) rfl rfl ⟨(Zh BK265.out 0).trans rfl,(Zh BK265.out 1).trans rfl,(Zh BK267.out 0).trans rfl,(Zh BK267.out 1).trans rfl⟩ (fun hHeld=>?_)
      generalize w19.drew=w20 at HO_266000 HO_266001 BK258 BK265 BK267 HB hHeld ⊢
      refine take_ (i:=0) (N:=some 13) (v:=?_) (a':=?_) #[true,false,false,false,false] rfl rfl (by kernel_rfl) (fun _ _ _ h=>h) (Or.inl ⟨by rfl,?_⟩) hHeld ?_ ?_
      rotate_left
      ·rintro w' ⟨s0,s1,s2,s3⟩
       go_simp
       with_reducible rfl
      rotate_left
      ·simp only [Act.put,List.setIfInBounds_toArray,List.set_cons_zero,List.set_cons_succ,Z6,Z7]
       rfl
      refine take_ (i:=1) (N:=some 14) (v:=?_) (a':=?_) #[true,true,false,false,false] rfl rfl (by kernel_rfl) (fun _ _ _ h=>h) (Or.inl ⟨by rfl,?_⟩) hHeld ?_ ?_
      rotate_left
      ·rintro w' ⟨s0,s1,s2,s3⟩
       go_simp
       with_reducible rfl
      rotate_left
      ·simp only [Act.put,List.setIfInBounds_toArray,List.set_cons_zero,List.set_cons_succ,Z6,Z7]
       rfl
      refine one_ (i:=2) (N:=some 15) #[true,true,true,false,false] rfl rfl (by kernel_rfl) (by decide) (fun K hK=>?_)
      refine goes_ Try.func71 (by kernel_rfl) rfl #[.agg #[.int .i64 ((rd_T34 l0 x9_1).f0),.int .i64 ((rd_T34 l0 x9_1).f1)]] (by rfl) rfl rfl (by (try simp only [List.map_toArray,List.map_cons,List.map_nil]);first|done|rfl|(simp only [List.length_drop,List.length_take];rfl)) ?_
      with_reducible refine (ratio_Of.calls ((rd_T34 l0 x9_1).f0) ((rd_T34 l0 x9_1).f1) t268 t271 _ A13.out).mono ?_
      rintro e w21 ⟨v269,v272,rfl,ho0,ho1,hb⟩
      refine ⟨_,rfl,?_⟩
      have n0_:=Zz.mk (Kd.V_below (by (with_reducible repeat (first|apply Kd.V_alloc|apply Kd.V_drewN|apply Kd.V_drew));exact HO_266000.out) hb)
      have n1_:=Zz.mk (Kd.V_below (by (with_reducible repeat (first|apply Kd.V_alloc|apply Kd.V_drewN|apply Kd.V_drew));exact HO_266001.out) hb)
      have n2_:=Zz.mk (Kd.V_lower (Kd.V_mono (ok':=fun k_=>(w.heap.size<=k_)/\k_≠gb258/\k_≠gb265/\k_≠gb267) ho0 (fun k_ hk_=>⟨(Nat.le_trans (Zf (by repeat (first|(with_reducible first|exact HB.out|apply Zb|apply Za|apply Zc|refine Zd ?_ GE258.out|refine Zd ?_ GE265.out|refine Zd ?_ GE267.out)|exact HB.out))) hk_),(Kd.freshB (g:=gb258) (o:=.cells #[.slice none 0 0,.slice none 0 0] 28 (0,0)) (by (with_reducible repeat (first|refine blk_drewN ?_ _|refine Ze ?_|refine blk_alloc ?_ _));exact BK258.out) k_ hk_),(Kd.freshB (g:=gb265) (o:=.cells #[u266000,u266001] 28 (0,0)) (by (with_reducible repeat (first|refine blk_drewN ?_ _|refine Ze ?_|refine blk_alloc ?_ _));exact BK265.out) k_ hk_),(Kd.freshB (g:=gb267) (o:=.cells #[.int .i64 ((rd_T34 l0 x9_1).f0),.int .i64 ((rd_T34 l0 x9_1).f1)] 34 (0,0)) (by (with_reducible repeat (first|refine blk_drewN ?_ _|refine Ze ?_|refine blk_alloc ?_ _));exact BK267.out) k_ hk_)⟩)) (Zf (by repeat (first|(with_reducible first|exact HB.out|apply Zb|apply Za|apply Zc|refine Zd ?_ GE258.out|refine Zd ?_ GE265.out|refine Zd ?_ GE267.out)|exact HB.out))))
      have n3_:=Zz.mk (Kd.V_lower (Kd.V_mono (ok':=fun k_=>(w.heap.size<=k_)/\k_≠gb258/\k_≠gb265/\k_≠gb267) ho1 (fun k_ hk_=>⟨(Nat.le_trans (Zf (by repeat (first|(with_reducible first|exact HB.out|apply Zb|apply Za|apply Zc|refine Zd ?_ GE258.out|refine Zd ?_ GE265.out|refine Zd ?_ GE267.out)|exact HB.out))) hk_),(Kd.freshB (g:=gb258) (o:=.cells #[.slice none 0 0,.slice none 0 0] 28 (0,0)) (by (with_reducible repeat (first|refine blk_drewN ?_ _|refine Ze ?_|refine blk_alloc ?_ _));exact BK258.out) k_ hk_),(Kd.freshB (g:=gb265) (o:=.cells #[u266000,u266001] 28 (0,0)) (by (with_reducible repeat (first|refine blk_drewN ?_ _|refine Ze ?_|refine blk_alloc ?_ _));exact BK265.out) k_ hk_),(Kd.freshB (g:=gb267) (o:=.cells #[.int .i64 ((rd_T34 l0 x9_1).f0),.int .i64 ((rd_T34 l0 x9_1).f1)] 34 (0,0)) (by (with_reducible repeat (first|refine blk_drewN ?_ _|refine Ze ?_|refine blk_alloc ?_ _));exact BK267.out) k_ hk_)⟩)) (Zf (by repeat (first|(with_reducible first|exact HB.out|apply Zb|apply Za|apply Zc|refine Zd ?_ GE258.out|refine Zd ?_ GE265.out|refine Zd ?_ GE267.out)|exact HB.out))))
      have n4_:=Zz.mk (Zk (g:=gb258) (o:=.cells #[.slice none 0 0,.slice none 0 0] 28 (0,0)) (by (with_reducible repeat (first|refine blk_drewN ?_ _|refine Ze ?_|refine blk_alloc ?_ _));exact BK258.out) hb)
      have n5_:=Zz.mk (Zk (g:=gb265) (o:=.cells #[u266000,u266001] 28 (0,0)) (by (with_reducible repeat (first|refine blk_drewN ?_ _|refine Ze ?_|refine blk_alloc ?_ _));exact BK265.out) hb)
      have n6_:=Zz.mk (Zk (g:=gb267) (o:=.cells #[.int .i64 ((rd_T34 l0 x9_1).f0),.int .i64 ((rd_T34 l0 x9_1).f1)] 34 (0,0)) (by (with_reducible repeat (first|refine blk_drewN ?_ _|refine Ze ?_|refine blk_alloc ?_ _));exact BK267.out) hb)
      have n7_:=Zz.mk (Zi (by repeat (first|(with_reducible first|exact HB.out|apply Zb|apply Za|apply Zc|refine Zd ?_ GE258.out|refine Zd ?_ GE265.out|refine Zd ?_ GE267.out)|exact HB.out)) hb)
      clear HO_266000
      clear HO_266001
      clear BK258
      clear BK265
      clear BK267
      clear HB
      have HO_266000:=n0_
      have HO_266001:=n1_
      have HO270:=n2_
      have HO273:=n3_
      have BK258:=n4_
      have BK265:=n5_
      have BK267:=n6_
      have HB:=n7_
      clear n0_ n1_ n2_ n3_ n4_ n5_ n6_ n7_
      (try clear hb)
      (try clear hb2)
      (try clear hk)
      (try clear hi)
      (try clear ho0)
      (try clear ho1)
      obtain ⟨Ao22,co22,eo22⟩:=Kd.V_slice HO_266000.out
      (first|subst eo22|(injection eo22 with f1_ f2_ f3_;have f4_:=f1_.symm;have f5_:=f3_.symm;clear f1_ f2_ f3_;subst f4_;subst f5_))
      obtain ⟨Ao23,co23,eo23⟩:=Kd.V_slice HO_266001.out
      (first|subst eo23|(injection eo23 with f1_ f2_ f3_;have f4_:=f1_.symm;have f5_:=f3_.symm;clear f1_ f2_ f3_;subst f4_;subst f5_))
      obtain ⟨Ao24,co24,eo24⟩:=Kd.V_slice HO270.out
      (first|subst eo24|(injection eo24 with f1_ f2_ f3_;have f4_:=f1_.symm;have f5_:=f3_.symm;clear f1_ f2_ f3_;subst f4_;subst f5_))
      obtain ⟨Ao25,co25,eo25⟩:=Kd.V_slice HO273.out
      (first|subst eo25|(injection eo25 with f1_ f2_ f3_;have f4_:=f1_.symm;have f5_:=f3_.symm;clear f1_ f2_ f3_;subst f4_;subst f5_))
      refine hK.out _ _ ⟨(Zh BK265.out 0).trans rfl,(Zh BK265.out 1).trans rfl,(Zh BK267.out 0).trans rfl,(Zh BK267.out 1).trans rfl⟩ (fun hHeld=>?_)
      clear hK K
      refine norm_ (a':=?_) ?_ ?_
      rotate_left
      ·show Act.put _ (some 15) _=_
       simp only [Act.put,List.setIfInBounds_toArray,List.set_cons_zero,List.set_cons_succ,Z6,Z7]
       rfl
      refine one_ (i:=3) (N:=some 16) #[true,true,true,true,false] rfl rfl (by kernel_rfl) (by decide) (fun K hK=>?_)
      refine goes_ Try.func105 (by kernel_rfl) rfl #[.agg #[.slice Ao22 x266000_1.length co22,.slice Ao23 x266001_1.length co23],.agg #[.slice Ao24 t268.length co24,.slice Ao25 t271.length co25]] (by rfl) rfl rfl (by (try simp only [List.map_toArray,List.map_cons,List.map_nil]);first|done|rfl|(simp only [List.length_drop,List.length_take];rfl)) ?_
      with_reducible refine (ratio_Add.calls k1 _ _ x266000_1 _ _ x266001_1 _ _ t268 _ _ t271 t274 t277 _ ?side1 ?side2 ?side3 ?side4 ?side5 ?side6 ?side7 ?side8 A14.out).mono ?_
      (case side1=>repeat (first|exact (Kd.V_reads' HO_266000.out).2.2|(with_reducible refine Kd.C_alloc ?_ _)|(with_reducible refine Kd.C_drewN ?_ _)|(with_reducible refine Kd.C_drew ?_)))
      (case side2=>exact (Kd.V_reads' HO_266000.out).2.1)
      (case side3=>repeat (first|exact (Kd.V_reads' HO_266001.out).2.2|(with_reducible refine Kd.C_alloc ?_ _)|(with_reducible refine Kd.C_drewN ?_ _)|(with_reducible refine Kd.C_drew ?_)))
      (case side4=>exact (Kd.V_reads' HO_266001.out).2.1)
      (case side5=>repeat (first|exact (Kd.V_reads' HO270.out).2.2|(with_reducible refine Kd.C_alloc ?_ _)|(with_reducible refine Kd.C_drewN ?_ _)|(with_reducible refine Kd.C_drew ?_)))
      (case side6=>exact (Kd.V_reads' HO270.out).2.1)
      (case side7=>repeat (first|exact (Kd.V_reads' HO273.out).2.2|(with_reducible refine Kd.C_alloc ?_ _)|(with_reducible refine Kd.C_drewN ?_ _)|(with_reducible refine Kd.C_drew ?_)))
      (case side8=>exact (Kd.V_reads' HO273.out).2.1)
      rintro e w26 ⟨v275,v278,rfl,ho0,ho1,hb⟩
      refine ⟨_,rfl,?_⟩
      have n0_:=Zz.mk (Kd.V_below (by (with_reducible repeat (first|apply Kd.V_alloc|apply Kd.V_drewN|apply Kd.V_drew));exact HO_266000.out) hb)
      have n1_:=Zz.mk (Kd.V_below (by (with_reducible repeat (first|apply Kd.V_alloc|apply Kd.V_drewN|apply Kd.V_drew));exact HO_266001.out) hb)
      have n2_:=Zz.mk (Kd.V_below (by (with_reducible repeat (first|apply Kd.V_alloc|apply Kd.V_drewN|apply Kd.V_drew));exact HO270.out) hb)
      have n3_:=Zz.mk (Kd.V_below (by (with_reducible repeat (first|apply Kd.V_alloc|apply Kd.V_drewN|apply Kd.V_drew));exact HO273.out) hb)
      have n4_:=Zz.mk (Kd.V_lower (Kd.V_mono (ok':=fun k_=>(w.heap.size<=k_)/\k_≠gb258/\k_≠gb265/\k_≠gb267) ho0 (fun k_ hk_=>⟨(Nat.le_trans (Zf (by repeat (first|(with_reducible first|exact HB.out|apply Zb|apply Za|apply Zc|refine Zd ?_ GE258.out|refine Zd ?_ GE265.out|refine Zd ?_ GE267.out)|exact HB.out))) hk_),(Kd.freshB (g:=gb258) (o:=.cells #[.slice none 0 0,.slice none 0 0] 28 (0,0)) (by (with_reducible repeat (first|refine blk_drewN ?_ _|refine Ze ?_|refine blk_alloc ?_ _));exact BK258.out) k_ hk_),(Kd.freshB (g:=gb265) (o:=.cells #[.slice Ao22 x266000_1.length co22,.slice Ao23 x266001_1.length co23] 28 (0,0)) (by (with_reducible repeat (first|refine blk_drewN ?_ _|refine Ze ?_|refine blk_alloc ?_ _));exact BK265.out) k_ hk_),(Kd.freshB (g:=gb267) (o:=.cells #[.int .i64 ((rd_T34 l0 x9_1).f0),.int .i64 ((rd_T34 l0 x9_1).f1)] 34 (0,0)) (by (with_reducible repeat (first|refine blk_drewN ?_ _|refine Ze ?_|refine blk_alloc ?_ _));exact BK267.out) k_ hk_)⟩)) (Zf (by repeat (first|(with_reducible first|exact HB.out|apply Zb|apply Za|apply Zc|refine Zd ?_ GE258.out|refine Zd ?_ GE265.out|refine Zd ?_ GE267.out)|exact HB.out))))
      have n5_:=Zz.mk (Kd.V_lower (Kd.V_mono (ok':=fun k_=>(w.heap.size<=k_)/\k_≠gb258/\k_≠gb265/\k_≠gb267) ho1 (fun k_ hk_=>⟨(Nat.le_trans (Zf (by repeat (first|(with_reducible first|exact HB.out|apply Zb|apply Za|apply Zc|refine Zd ?_ GE258.out|refine Zd ?_ GE265.out|refine Zd ?_ GE267.out)|exact HB.out))) hk_),(Kd.freshB (g:=gb258) (o:=.cells #[.slice none 0 0,.slice none 0 0] 28 (0,0)) (by (with_reducible repeat (first|refine blk_drewN ?_ _|refine Ze ?_|refine blk_alloc ?_ _));exact BK258.out) k_ hk_),(Kd.freshB (g:=gb265) (o:=.cells #[.slice Ao22 x266000_1.length co22,.slice Ao23 x266001_1.length co23] 28 (0,0)) (by (with_reducible repeat (first|refine blk_drewN ?_ _|refine Ze ?_|refine blk_alloc ?_ _));exact BK265.out) k_ hk_),(Kd.freshB (g:=gb267) (o:=.cells #[.int .i64 ((rd_T34 l0 x9_1).f0),.int .i64 ((rd_T34 l0 x9_1).f1)] 34 (0,0)) (by (with_reducible repeat (first|refine blk_drewN ?_ _|refine Ze ?_|refine blk_alloc ?_ _));exact BK267.out) k_ hk_)⟩)) (Zf (by repeat (first|(with_reducible first|exact HB.out|apply Zb|apply Za|apply Zc|refine Zd ?_ GE258.out|refine Zd ?_ GE265.out|refine Zd ?_ GE267.out)|exact HB.out))))
      have n6_:=Zz.mk (Zk (g:=gb258) (o:=.cells #[.slice none 0 0,.slice none 0 0] 28 (0,0)) (by (with_reducible repeat (first|refine blk_drewN ?_ _|refine Ze ?_|refine blk_alloc ?_ _));exact BK258.out) hb)
      have n7_:=Zz.mk (Zk (g:=gb265) (o:=.cells #[.slice Ao22 x266000_1.length co22,.slice Ao23 x266001_1.length co23] 28 (0,0)) (by (with_reducible repeat (first|refine blk_drewN ?_ _|refine Ze ?_|refine blk_alloc ?_ _));exact BK265.out) hb)
      have n8_:=Zz.mk (Zk (g:=gb267) (o:=.cells #[.int .i64 ((rd_T34 l0 x9_1).f0),.int .i64 ((rd_T34 l0 x9_1).f1)] 34 (0,0)) (by (with_reducible repeat (first|refine blk_drewN ?_ _|refine Ze ?_|refine blk_alloc ?_ _));exact BK267.out) hb)
      have n9_:=Zz.mk (Zi (by repeat (first|(with_reducible first|exact HB.out|apply Zb|apply Za|apply Zc|refine Zd ?_ GE258.out|refine Zd ?_ GE265.out|refine Zd ?_ GE267.out)|exact HB.out)) hb)
      clear HO_266000
      clear HO_266001
      clear HO270
      clear HO273
      clear BK258
      clear BK265
      clear BK267
      clear HB
      have HO_266000:=n0_
      have HO_266001:=n1_
      have HO270:=n2_
      have HO273:=n3_
      have HO276:=n4_
      have HO279:=n5_
      have BK258:=n6_
      have BK265:=n7_
      have BK267:=n8_
      have HB:=n9_
      clear n0_ n1_ n2_ n3_ n4_ n5_ n6_ n7_ n8_ n9_
      (try clear hb)
      (try clear hb2)
      (try clear hk)
      (try clear hi)
      (try clear ho0)
      (try clear ho1)
      obtain ⟨Ao27,co27,eo27⟩:=Kd.V_slice HO276.out
      (first|subst eo27|(injection eo27 with f1_ f2_ f3_;have f4_:=f1_.symm;have f5_:=f3_.symm;clear f1_ f2_ f3_;subst f4_;subst f5_))
      obtain ⟨Ao29,co29,eo29⟩:=Kd.V_slice HO279.out
      (first|subst eo29|(injection eo29 with f1_ f2_ f3_;have f4_:=f1_.symm;have f5_:=f3_.symm;clear f1_ f2_ f3_;subst f4_;subst f5_))
      refine hK.out _ _ ⟨(Zh BK265.out 0).trans rfl,(Zh BK265.out 1).trans rfl,(Zh BK267.out 0).trans rfl,(Zh BK267.out 1).trans rfl⟩ (fun hHeld=>?_)
      clear hK K
      refine norm_ (a':=?_) ?_ ?_
      rotate_left
      ·show Act.put _ (some 16) _=_
       simp only [Act.put,List.setIfInBounds_toArray,List.set_cons_zero,List.set_cons_succ,Z6,Z7]
       rfl
      refine last_ (i:=4) (N:=none) #[true,true,true,true,true] rfl rfl (by kernel_rfl) (by decide) (fun K hK=>?_)
      have hs28:w26.cell? ⟨gb265,0,none⟩=some (.slice Ao22 x266000_1.length co22):=(Zh BK265.out 0).trans rfl
      have hfs28:=Zj BK265.out 0
      have hns28_0:=NB258_265.out
      have hns28_2:=NB267_265.out
      have hms28_0:=NB265_258.out
      have hms28_2:=NB265_267.out
      have hs30:w26.cell? ⟨gb265,1,none⟩=some (.slice Ao23 x266001_1.length co23):=(Zh BK265.out 1).trans rfl
      have hfs30:=Zj BK265.out 1
      have hns30_0:=NB258_265.out
      have hns30_2:=NB267_265.out
      have hms30_0:=NB265_258.out
      have hms30_2:=NB265_267.out
      refine skip_ (w1:=?_) (by rfl) rfl ?_ ?_
      rotate_left
      ·go_simp
       rfl
      refine hK.out _ _ ?_
      clear hK K
      refine done_ (by kernel_rfl) ?_
      try go_wp2
      go_roundg k1
      case measure=>have:=HK1.out;omega
      case rel=>exact ⟨(wrap64 (x9_1+1)),(t274),(t277),(.slice Ao27 t274.length co27),(.slice Ao29 t277.length co29),(by first|rfl|(simp;done)|(simp [*];done)),H',⟨by have:=HK1.out;omega⟩,⟨by (with_reducible repeat (first|apply Kd.V_alloc|apply Kd.V_drewN|apply Kd.V_drew));exact Kd.V_mono (Kd.V_far (p:=⟨gb265,1,none⟩) (Kd.V_far (p:=⟨gb265,0,none⟩) (Kd.V_mono HO276.out (fun k_ hk=>(⟨hk,hk.2.2.1⟩:_/\k_≠gb265))) (fun _ hk=>hk.2) (.slice Ao27 t274.length co27)) (fun _ hk=>hk.2) (.slice Ao29 t277.length co29)) (fun _ hk=>⟨hk.1.1,⟨hk.1.2.1,hk.1.2.2.1⟩⟩)⟩,⟨by (with_reducible repeat (first|apply Kd.V_alloc|apply Kd.V_drewN|apply Kd.V_drew));exact Kd.V_mono (Kd.V_far (p:=⟨gb265,1,none⟩) (Kd.V_far (p:=⟨gb265,0,none⟩) (Kd.V_mono HO279.out (fun k_ hk=>(⟨hk,hk.2.2.1⟩:_/\k_≠gb265))) (fun _ hk=>hk.2) (.slice Ao27 t274.length co27)) (fun _ hk=>hk.2) (.slice Ao29 t277.length co29)) (fun _ hk=>⟨hk.1.1,⟨hk.1.2.1,hk.1.2.2.1⟩⟩)⟩,⟨by (with_reducible repeat (first|refine blk_drewN ?_ _|refine Ze ?_|refine blk_alloc ?_ _));refine blk_far ?_ NB258_265.out _;(with_reducible repeat (first|refine blk_drewN ?_ _|refine Ze ?_|refine blk_alloc ?_ _));refine blk_far ?_ NB258_265.out _;(with_reducible repeat (first|refine blk_drewN ?_ _|refine Ze ?_|refine blk_alloc ?_ _));exact BK258.out⟩,⟨by (with_reducible repeat (first|refine blk_drewN ?_ _|refine Ze ?_|refine blk_alloc ?_ _));refine Zx (cs:=#[.slice Ao27 t274.length co27,.slice Ao23 x266001_1.length co23]) ?_ 1 _ rfl;(with_reducible repeat (first|refine blk_drewN ?_ _|refine Ze ?_|refine blk_alloc ?_ _));refine Zx (cs:=#[.slice Ao22 x266000_1.length co22,.slice Ao23 x266001_1.length co23]) ?_ 0 _ rfl;(with_reducible repeat (first|refine blk_drewN ?_ _|refine Ze ?_|refine blk_alloc ?_ _));exact BK265.out⟩,⟨by repeat (first|(with_reducible first|exact HB.out|apply Zb|apply Za|apply Zc|refine Zd ?_ GE258.out|refine Zd ?_ GE265.out|refine Zd ?_ GE267.out)|exact HB.out)⟩⟩
     ·rw [if_neg c12] at H
      exact absurd H (by simp)
    ·rw [if_neg c11] at H
     exact absurd H (by simp)
   ·rw [if_neg c10] at H
    have c10b0:decide (x9_1<(l0.length:Int))=false:=decide_eq_false c10
    clear c10
    simp only [Option.some.injEq,Prod.mk.injEq] at H
    obtain ⟨rfl,rfl⟩:=H
    have hnb31:=NB265_258.out
    have hnc31:=NB258_265.out
    have hcz32_0:wr.cell? ⟨gb265,0,none⟩=some (u266000):=(Zh BK265.out 0).trans rfl
    have hcz32_1:wr.cell? ⟨gb265,1,none⟩=some (u266001):=(Zh BK265.out 1).trans rfl
    have hfz32_0:=Zj BK265.out 0
    have hfz32_1:=Zj BK265.out 1
    obtain ⟨Ao33,co33,eo33⟩:=Kd.V_slice HO_266000.out
    subst eo33
    have hcz34_0:wr.cell? ⟨gb258,0,none⟩=some (.slice none 0 0):=(Zh BK258.out 0).trans rfl
    have hcz34_1:wr.cell? ⟨gb258,1,none⟩=some (.slice none 0 0):=(Zh BK258.out 1).trans rfl
    have hfz34_0:=Zj BK258.out 0
    have hfz34_1:=Zj BK258.out 1
    obtain ⟨Ao35,co35,eo35⟩:=Kd.V_slice HO_266001.out
    subst eo35
    go_wp2
    refine bodyPost_ret (results_cell_row rfl _ _ gb258 28 #[.slice Ao33 x266000_1.length co33,.slice Ao35 x266001_1.length co35] (0,0) _ rfl (by (with_reducible repeat (first|refine blk_drewN ?_ _|refine Ze ?_|refine blk_alloc ?_ _));refine Zx (cs:=#[.slice Ao33 x266000_1.length co33,.slice none 0 0]) ?_ 1 _ rfl;(with_reducible repeat (first|refine blk_drewN ?_ _|refine Ze ?_|refine blk_alloc ?_ _));refine Zx (cs:=#[.slice none 0 0,.slice none 0 0]) ?_ 0 _ rfl;(with_reducible repeat (first|refine blk_drewN ?_ _|refine Ze ?_|refine blk_alloc ?_ _));exact BK258.out) Try.underlying28 rfl (by kernel_rfl)) rfl ?_
    exact ⟨_,_,by first|rfl|(simp [Zm,Zl]<;>rfl)|(simp [*,Zm,Zl]<;>rfl),by (with_reducible repeat (first|apply Kd.V_alloc|apply Kd.V_drewN|apply Kd.V_drew));exact Kd.V_mono (Kd.V_far (p:=⟨gb258,1,none⟩) (Kd.V_far (p:=⟨gb258,0,none⟩) (Kd.V_mono HO_266000.out (fun k_ hk=>(⟨hk,hk.2.1⟩:_/\k_≠gb258))) (fun _ hk=>hk.2) (.slice Ao33 x266000_1.length co33)) (fun _ hk=>hk.2) (.slice Ao35 x266001_1.length co35)) (fun _ hk=>hk.1.1),by (with_reducible repeat (first|apply Kd.V_alloc|apply Kd.V_drewN|apply Kd.V_drew));exact Kd.V_mono (Kd.V_far (p:=⟨gb258,1,none⟩) (Kd.V_far (p:=⟨gb258,0,none⟩) (Kd.V_mono HO_266001.out (fun k_ hk=>(⟨hk,hk.2.1⟩:_/\k_≠gb258))) (fun _ hk=>hk.2) (.slice Ao33 x266000_1.length co33)) (fun _ hk=>hk.2) (.slice Ao35 x266001_1.length co35)) (fun _ hk=>hk.1.1),by repeat (first|(with_reducible first|exact HB.out|apply Zb|apply Za|apply Zc|refine Zd ?_ GE258.out|refine Zd ?_ GE265.out)|exact HB.out)⟩
end Go.Proofs.Ytfldklimlcnnnaa.PHq
end

section
namespace Go.Proofs.Ytfldklimlcnnnaa.PHq
open Go.RowKit YtfldklimlcnnnaaW.PrintWords YtfldklimlcnnnaaW.PrintLast YtfldklimlcnnnaaW.PrintMore MWords
attribute [local go_sem] max2_int min2_int max_two min_two max_three min_three max_four min_four   -- for this text's walks alone
def r02_Of.l0:Nat->Int->List Int->Option (List Int)
 | 0,_,_=>none
 | k+1,x0,x3=>if x0>0 then (if x3.length<35184372088832 then (r02_Of.l0 k (IntKind.u64.wrap (Int.tdiv x0 4294967296)) (x3++[(Int.tmod x0 4294967296) % 4294967296])) else (none)) else (some x3)
def r02_Of.f (k:Nat) (a0:Int):Option (List Int):=r02_Of.l0 k a0 ([]:List Int)
set_option maxHeartbeats 8000000 in
set_option maxRecDepth 100000 in
theorem r02_Of.calls (k:Nat) (a0:Int) (r:List Int) (w:World) (h:r02_Of.f k a0=some r) :
  Calls Try.prog 65 #[.int .u64 a0] w fun e w'=>∃v0_:Value,e=.returned (v0_)/\Kd.R (Kd.int .u32) 89 w' w.heap.size (fun _=>True) v0_ r/\Below w.heap.size w w':=by
 have HB:=Zz.mk (Below.refl w.heap.size w)
 have H:(r02_Of.l0 k a0 ([]:List Int))=some r:=h
 clear h
 have H':=Zz.mk H
 clear H
 go_enter Try.func65,Try.ntmps65
 go_wp2
 go_loopg [0,3] k (fun kq v0 v3 w'=>∃ (x0_1:Int) (x3_1:List Int),v0=.int .u64 x0_1/\Zz (r02_Of.l0 kq x0_1 x3_1=some r)/\Zz (kq<=k)/\Zz (Kd.R (Kd.int .u32) 89 w' w.heap.size (fun _=>True) v3 x3_1)/\Zz (Below w.heap.size w w'))
 case atStart=>exact ⟨(a0),(([]:List Int)),(by first|rfl|(simp;done)|(simp [*];done)),H',⟨Nat.le_refl _⟩,⟨by first|exact Kd.R_nil _ _ _ _ _|exact Kd.N_nil _ _ _ _ _|exact Kd.V_nil _ _ _ _ _|exact Kd.Q_nil _ _ _ _ _|exact Kd.S_nil _ _ _ _ _⟩,⟨by repeat (first|(with_reducible first|exact HB.out|apply Zb|apply Za|apply Zc)|exact HB.out)⟩⟩
 case round =>
  clear H'
  obtain ⟨x0_1,x3_1,rfl,HA,HK1,HO_3,HB⟩:=hrel
  cases gk with
  | zero=>exact absurd HA.out (by simp [r02_Of.l0])
  | succ k1 =>
   have H:=HA.out
   clear HA
   simp only [r02_Of.l0] at H
   by_cases c2:x0_1>0
   ·rw [if_pos c2] at H
    have c2b0:decide (0<x0_1)=true:=decide_eq_true c2
    clear c2
    by_cases c3:x3_1.length<35184372088832
    ·rw [if_pos c3] at H
     have LMc3:=Zz.mk c3
     clear c3
     obtain ⟨y187,hy187⟩:∃y_:List Int,y_=(x3_1++[(Int.tmod x0_1 4294967296) % 4294967296]):=⟨_,rfl⟩
     replace H:(r02_Of.l0 k1 (IntKind.u64.wrap (Int.tdiv x0_1 4294967296)) y187)=some r:=by first|(rw [hy187];with_reducible exact H)|(have H2_:=(Option.bind_some _ _).symm.trans H;rw [hy187];with_reducible exact H2_)|(have H2_:=(Option.bind_some _ _).symm.trans H;with_reducible exact H2_)|with_reducible exact H|(rw [hy187];exact H)|exact H
     have Ny187:=Zz.mk hy187
     clear hy187
     have H':=Zz.mk H
     clear H
     go_wp2_with (first|((with_reducible refine gate_builtin (b:=.append) (xs:=#[.tmp 8,.tmp 12]) rfl ?_);at_builtin;refine Kd.R_append (Kd.int .u32) (w0:=w) w.heap.size rfl (.tmp 8) (.tmp 12) 26 89 (.int .u32 0) 4 rfl Try.underlying26 info89 rfl (by decide) (by omega) u3 x3_1 ((Int.tmod x0_1 4294967296) % 4294967296) [.int .u32 ((Int.tmod x0_1 4294967296) % 4294967296)] (fun _=>True) (fun _=>False) rfl rfl ?aP (fun _ hk=>hk.elim) ?aF ?aO ?aB ?aS ?aL ?_;(case aP=>exact rfl);(case aB=>exact (by repeat (first|(with_reducible first|exact HB.out|apply Zb|apply Za|apply Zc)|exact HB.out)));(case aF=>exact (fun _ _=>trivial));(case aO=>exact (by (with_reducible repeat (first|apply Kd.R_alloc|apply Kd.R_drewN|apply Kd.R_drew));exact HO_3.out));(case aS=>exact (Zf (by repeat (first|(with_reducible first|exact HB.out|apply Zb|apply Za|apply Zc)|exact HB.out))));(case aL=>have:=LMc3.out;omega);intro v188 w4 ho hb hg hat;rw [<-Ny187.out] at ho;have n0_:=Zz.mk (hb);have n1_:=Zz.mk (ho);clear HB;clear HO_3;have HB:=n0_;have HO189:=n1_;clear n0_ n1_;clear ho hb hg hat))
     go_roundg k1
     case measure=>have:=HK1.out;omega
     case rel=>exact ⟨(IntKind.u64.wrap (Int.tdiv x0_1 4294967296)),(y187),(by first|rfl|(simp;done)|(simp [*];done)),H',⟨by have:=HK1.out;omega⟩,⟨by (with_reducible repeat (first|apply Kd.R_alloc|apply Kd.R_drewN|apply Kd.R_drew));exact HO189.out⟩,⟨by repeat (first|(with_reducible first|exact HB.out|apply Zb|apply Za|apply Zc)|exact HB.out)⟩⟩
    ·rw [if_neg c3] at H
     exact absurd H (by simp)
   ·rw [if_neg c2] at H
    have c2b0:decide (0<x0_1)=false:=decide_eq_false c2
    clear c2
    obtain rfl:=Option.some.inj H
    go_wp2
    go_ret
    exact ⟨_,by first|rfl|(simp [Zm,Zl]<;>rfl)|(simp [*,Zm,Zl]<;>rfl),by (with_reducible repeat (first|apply Kd.R_alloc|apply Kd.R_drewN|apply Kd.R_drew));exact HO_3.out,by repeat (first|(with_reducible first|exact HB.out|apply Zb|apply Za|apply Zc)|exact HB.out)⟩
end Go.Proofs.Ytfldklimlcnnnaa.PHq
end

section
namespace Go.Proofs.Ytfldklimlcnnnaa.PHq
open Go.RowKit YtfldklimlcnnnaaW.PrintWords YtfldklimlcnnnaaW.PrintLast YtfldklimlcnnnaaW.PrintMore MWords
attribute [local go_sem] max2_int min2_int max_two min_two max_three min_three max_four min_four   -- for this text's walks alone
def r02_cut.l0:Nat->List Int->Option (List Int)
 | 0,_=>none
 | k+1,x0=>if (x0.length:Int)>0 then (if 0<=(wrap64 ((x0.length:Int)-1)) then (if (wrap64 ((x0.length:Int)-1))<(x0.length:Int) then (if (rd x0 (wrap64 ((x0.length:Int)-1)))=0 then (if (wrap64 ((x0.length:Int)-1))<=(x0.length:Int) then (r02_cut.l0 k (x0.take ((wrap64 ((x0.length:Int)-1)):Int).toNat)) else (none)) else (some x0)) else (none)) else (none)) else (some x0)
def r02_cut.f (k:Nat) (l0:List Int):Option (List Int):=r02_cut.l0 k l0
set_option maxHeartbeats 8000000 in
set_option maxRecDepth 100000 in
theorem r02_cut.calls (k:Nat) (P0_:Nat->Prop) (A0:Option Addr) (c0:Nat) (l0:List Int) (r:List Int) (w:World) (hs0:Kd.V (Kd.int .i64) 3 w w.heap.size (fun k_=>P0_ k_) (.slice A0 l0.length c0) l0) (h:r02_cut.f k l0=some r) :
  Calls Try.prog 123 #[.slice A0 l0.length c0] w fun e w'=>∃v0_:Value,e=.returned (v0_)/\Kd.V (Kd.int .i64) 3 w' w.heap.size (fun k_=>(P0_ k_∨w.heap.size<=k_)) v0_ r/\Below w.heap.size w w':=by
 have HO0:=Zz.mk (show Kd.V (Kd.int .i64) 3 w w.heap.size (fun k_=>(P0_ k_∨w.heap.size<=k_)) (.slice A0 l0.length c0) l0 from Kd.V_mono hs0 (fun k_ hk=>.inl hk))
 have HB:=Zz.mk (Below.refl w.heap.size w)
 have H:(r02_cut.l0 k l0)=some r:=h
 clear h
 have H':=Zz.mk H
 clear H
 go_enter Try.func123,Try.ntmps123
 go_wp2
 go_loopg [0] k (fun kq v0 w'=>∃ (x0_1:List Int),Zz (r02_cut.l0 kq x0_1=some r)/\Zz (kq<=k)/\Zz (Kd.V (Kd.int .i64) 3 w' w.heap.size (fun k_=>(P0_ k_∨w.heap.size<=k_)) v0 x0_1)/\Zz (Below w.heap.size w w'))
 case atStart=>exact ⟨(l0),H',⟨Nat.le_refl _⟩,⟨by (with_reducible repeat (first|apply Kd.V_alloc|apply Kd.V_drewN|apply Kd.V_drew));exact HO0.out⟩,⟨by repeat (first|(with_reducible first|exact HB.out|apply Zb|apply Za|apply Zc)|exact HB.out)⟩⟩
 case round =>
  clear H'
  try clear c1
  obtain ⟨x0_1,HA,HK1,HO_0,HB⟩:=hrel
  cases gk with
  | zero=>exact absurd HA.out (by simp [r02_cut.l0])
  | succ k1 =>
   have H:=HA.out
   clear HA
   simp only [r02_cut.l0] at H
   by_cases c2:(x0_1.length:Int)>0
   ·rw [if_pos c2] at H
    have c2b0:decide (0<(x0_1.length:Int))=true:=decide_eq_true c2
    have c2b1:decide (0<x0_1.length)=true:=decide_eq_true (by omega)
    clear c2
    obtain ⟨ji3,hji3⟩:∃j_:Int,(wrap64 ((x0_1.length:Int)-1))=j_:=⟨_,rfl⟩
    replace H:(if 0<=(ji3) then (if (ji3)<(x0_1.length:Int) then (if (rd x0_1 (ji3))=0 then (if (ji3)<=(x0_1.length:Int) then (r02_cut.l0 k1 (x0_1.take ((ji3):Int).toNat)) else (none)) else (some x0_1)) else (none)) else (none))=some r:=by first|(rw [hji3] at H;exact H)|(simp only [hji3] at H ⊢;exact H)
    have hji3w:(IntKind.i64.wrap ((x0_1.length:Int)-1))=ji3:=(Z6 _).trans hji3
    by_cases c4:0<=(ji3)
    ·rw [if_pos c4] at H
     have c4b0:decide (0<=(ji3))=true:=decide_eq_true c4
     clear c4
     by_cases c5:(ji3)<(x0_1.length:Int)
     ·rw [if_pos c5] at H
      have c5b0:decide ((ji3)<(x0_1.length:Int))=true:=decide_eq_true c5
      clear c5
      by_cases c6:(rd x0_1 (ji3))=0
      ·rw [if_pos c6] at H
       have c6b0:((rd x0_1 (ji3)) == 0)=true:=beq_iff_eq.mpr c6
       have c6b1:((rd x0_1 (ji3)) != 0)=false:=bne_eq_false_iff_eq.mpr c6
       clear c6
       have c7b0:=eq_true (of_decide_eq_true (by first|(with_reducible assumption)|assumption):0<=(ji3))
       by_cases c8:(ji3)<=(x0_1.length:Int)
       ·rw [if_pos c8] at H
        have c8b0:=eq_true c8
        have c8b1:decide ((ji3)<=(x0_1.length:Int))=true:=decide_eq_true c8
        clear c8
        obtain ⟨y306,hy306⟩:∃y_:List Int,y_=(x0_1.take ((ji3):Int).toNat):=⟨_,rfl⟩
        replace H:(r02_cut.l0 k1 y306)=some r:=by first|(rw [hy306];with_reducible exact H)|(have H2_:=(Option.bind_some _ _).symm.trans H;rw [hy306];with_reducible exact H2_)|(have H2_:=(Option.bind_some _ _).symm.trans H;with_reducible exact H2_)|with_reducible exact H|(rw [hy306];exact H)|exact H
        have Ny306:=Zz.mk hy306
        clear hy306
        have H':=Zz.mk H
        clear H
        obtain ⟨Ao9,co9,eo9⟩:=Kd.V_slice HO_0.out
        subst eo9
        have p305:0<=((ji3):Int):=of_decide_eq_true (by first|(with_reducible assumption)|assumption)
        have q305:(ji3)<(x0_1.length:Int):=of_decide_eq_true (by first|(with_reducible assumption)|assumption)
        obtain ⟨ad305,e305,hx305_0⟩:=Kd.at_int (Kd.V_reads' HO_0.out).2.2 (ji3) p305 q305
        cases e305
        replace p305:=eq_true p305
        replace q305:=eq_true q305
        have q10:((ji3):Int)<=((x0_1.length:Int):Int):=of_decide_eq_true (by first|(with_reducible assumption)|assumption)
        obtain ⟨i010,hi010,_,hsz10,_⟩:=info_parts info3
        have hroom10:x0_1.length<=co9:=(Kd.V_reads' HO_0.out).2.1
        have hC10:Kd.F (Kd.int .i64) _ _ (some ad305) x0_1.length x0_1:=(Kd.V_at (base:=w.heap.size) HO_0.out).2.2
        have hcut10:=cut_to (P:=Try.prog) 135 3 .i64 Try.underlying135 hi010 (some ad305) x0_1.length co9 (ji3) (of_decide_eq_true (by first|(with_reducible assumption)|assumption)) q10 hroom10
        have hr10:=Kd.F_take (m:=((ji3):Int).toNat) hC10 (by omega)
        have hy10:y306.length=((ji3):Int).toNat:=(by rw [Ny306.out,List.length_take];omega)
        rw [<-Ny306.out] at hr10
        rw [<-hy10] at hcut10
        have HO310:=Zz.mk (show Kd.V (Kd.int .i64) 3 _ w.heap.size _ (.slice (some ad305) y306.length co9) y306 from Kd.V_mk (by omega) hr10)
        have HC310:=Zz.mk (show y306.length<=co9 from by omega)
        clear hr10 hC10 hroom10 hi010 hsz10
        have KY10:=Zz.mk hy10
        clear hy10
        replace q10:=eq_true q10
        go_wp2
        go_roundg k1
        case measure=>have:=HK1.out;omega
        case rel=>exact ⟨(y306),H',⟨by have:=HK1.out;omega⟩,⟨by (with_reducible repeat (first|apply Kd.V_alloc|apply Kd.V_drewN|apply Kd.V_drew));exact HO310.out⟩,⟨by repeat (first|(with_reducible first|exact HB.out|apply Zb|apply Za|apply Zc)|exact HB.out)⟩⟩
       ·rw [if_neg c8] at H
        exact absurd H (by simp)
      ·rw [if_neg c6] at H
       have c6b0:((rd x0_1 (ji3)) == 0)=false:=beq_eq_false_iff_ne.mpr c6
       have c6b1:((rd x0_1 (ji3)) != 0)=true:=bne_iff_ne.mpr c6
       obtain rfl:=Option.some.inj H
       obtain ⟨Ao11,co11,eo11⟩:=Kd.V_slice HO_0.out
       subst eo11
       have p305:0<=((ji3):Int):=of_decide_eq_true (by first|(with_reducible assumption)|assumption)
       have q305:(ji3)<(x0_1.length:Int):=of_decide_eq_true (by first|(with_reducible assumption)|assumption)
       obtain ⟨ad305,e305,hx305_0⟩:=Kd.at_int (Kd.V_reads' HO_0.out).2.2 (ji3) p305 q305
       cases e305
       replace p305:=eq_true p305
       replace q305:=eq_true q305
       go_wp2
       go_ret
       exact ⟨_,by first|rfl|(simp [Zm,Zl]<;>rfl)|(simp only [<-hji3];first|rfl|(simp [Zm,Zl]<;>rfl))|(simp [*,Zm,Zl]<;>rfl),by (with_reducible repeat (first|apply Kd.V_alloc|apply Kd.V_drewN|apply Kd.V_drew));exact HO_0.out,by repeat (first|(with_reducible first|exact HB.out|apply Zb|apply Za|apply Zc)|exact HB.out)⟩
     ·rw [if_neg c5] at H
      exact absurd H (by simp)
    ·rw [if_neg c4] at H
     exact absurd H (by simp)
   ·rw [if_neg c2] at H
    have c2b0:decide (0<(x0_1.length:Int))=false:=decide_eq_false c2
    have c2b1:decide (0<x0_1.length)=false:=decide_eq_false (by omega)
    clear c2
    obtain rfl:=Option.some.inj H
    obtain ⟨Ao12,co12,eo12⟩:=Kd.V_slice HO_0.out
    subst eo12
    go_wp2
    go_ret
    exact ⟨_,by first|rfl|(simp [Zm,Zl]<;>rfl)|(simp [*,Zm,Zl]<;>rfl),by (with_reducible repeat (first|apply Kd.V_alloc|apply Kd.V_drewN|apply Kd.V_drew));exact HO_0.out,by repeat (first|(with_reducible first|exact HB.out|apply Zb|apply Za|apply Zc)|exact HB.out)⟩
mutual
def r02_add.l0:Nat->List Int->List Int->List Int->Int->Int->Option (List Int)
 | 0,_,_,_,_,_=>none
 | k+1,x0,x1,x5,x6,x7=>if x7<(x0.length:Int) then (r02_add.j1 k x0 x1 x5 x6 x7 true) else (if x7<(x1.length:Int) then (r02_add.j1 k x0 x1 x5 x6 x7 true) else (r02_add.j1 k x0 x1 x5 x6 x7 (decide (x6>0))))
def r02_add.j1:Nat->List Int->List Int->List Int->Int->Int->Bool->Option (List Int)
 | 0,_,_,_,_,_,_=>none
 | k+1,x0,x1,x5,x6,x7,x22=>if x22=true then (if x7<(x0.length:Int) then (if 0<=x7 then (if x7<(x1.length:Int) then (if x5.length<17592186044416 then (r02_add.l0 k x0 x1 (x5++[Int.tmod (wrap64 ((wrap64 (x6+(rd x0 x7)))+(rd x1 x7))) 10]) (wrap64 (Int.tdiv (wrap64 ((wrap64 (x6+(rd x0 x7)))+(rd x1 x7))) 10)) (wrap64 (x7+1))) else (none)) else (if x5.length<17592186044416 then (r02_add.l0 k x0 x1 (x5++[Int.tmod (wrap64 (x6+(rd x0 x7))) 10]) (wrap64 (Int.tdiv (wrap64 (x6+(rd x0 x7))) 10)) (wrap64 (x7+1))) else (none))) else (none)) else (if x7<(x1.length:Int) then (if 0<=x7 then (if x5.length<17592186044416 then (r02_add.l0 k x0 x1 (x5++[Int.tmod (wrap64 (x6+(rd x1 x7))) 10]) (wrap64 (Int.tdiv (wrap64 (x6+(rd x1 x7))) 10)) (wrap64 (x7+1))) else (none)) else (none)) else (if x5.length<17592186044416 then (r02_add.l0 k x0 x1 (x5++[Int.tmod x6 10]) (wrap64 (Int.tdiv x6 10)) (wrap64 (x7+1))) else (none)))) else ((r02_cut.f k x5).bind fun t311=>(some t311))
end
def r02_add.f (k:Nat) (l0:List Int) (l1:List Int):Option (List Int):=r02_add.l0 k l0 l1 ([]:List Int) 0 0
set_option maxHeartbeats 8000000 in
set_option maxRecDepth 100000 in
theorem r02_add.calls (k:Nat) (A0:Option Addr) (c0:Nat) (l0:List Int) (A1:Option Addr) (c1:Nat) (l1:List Int) (r:List Int) (w:World) (hr0:Kd.C (Kd.int .i64) w A0 l0.length l0) (hc0:l0.length<=c0) (hr1:Kd.C (Kd.int .i64) w A1 l1.length l1) (hc1:l1.length<=c1) (h:r02_add.f k l0 l1=some r) :
  Calls Try.prog 111 #[.slice A0 l0.length c0,.slice A1 l1.length c1] w fun e w'=>∃v0_:Value,e=.returned (v0_)/\Kd.V (Kd.int .i64) 3 w' w.heap.size (fun k_=>(w.heap.size<=k_)) v0_ r/\Below w.heap.size w w':=by
 have HR0:=Zz.mk hr0
 have HC0:=Zz.mk hc0
 clear hr0 hc0
 have HR1:=Zz.mk hr1
 have HC1:=Zz.mk hc1
 clear hr1 hc1
 have HB:=Zz.mk (Below.refl w.heap.size w)
 have H:(r02_add.l0 k l0 l1 ([]:List Int) 0 0)=some r:=h
 clear h
 have H':=Zz.mk H
 clear H
 go_enter Try.func111,Try.ntmps111
 go_wp2
 go_loopg [5,6,7] k (fun kq v5 v6 v7 w'=>∃ (x5_1:List Int) (x6_1:Int) (x7_1:Int),v6=.int .i64 x6_1/\v7=.int .i64 x7_1/\Zz (r02_add.l0 kq l0 l1 x5_1 x6_1 x7_1=some r)/\Zz (kq<=k)/\Zz (Kd.R (Kd.int .i64) 3 w' w.heap.size (fun k_=>(w.heap.size<=k_)) v5 x5_1)/\Zz (Below w.heap.size w w'))
 case atStart=>exact ⟨(([]:List Int)),(0),(0),(by first|rfl|(simp;done)|(simp [*];done)),(by first|rfl|(simp;done)|(simp [*];done)),H',⟨Nat.le_refl _⟩,⟨by first|exact Kd.R_nil _ _ _ _ _|exact Kd.N_nil _ _ _ _ _|exact Kd.V_nil _ _ _ _ _|exact Kd.Q_nil _ _ _ _ _|exact Kd.S_nil _ _ _ _ _⟩,⟨by repeat (first|(with_reducible first|exact HB.out|apply Zb|apply Za|apply Zc)|exact HB.out)⟩⟩
 case round =>
  clear H'
  try clear c1
  try clear p2
  obtain ⟨x5_1,x6_1,x7_1,rfl,rfl,HA,HK1,HO_5,HB⟩:=hrel
  cases gk with
  | zero=>exact absurd HA.out (by simp [r02_add.l0])
  | succ k1 =>
   have H:=HA.out
   clear HA
   simp only [r02_add.l0] at H
   have HC3:=Zz.mk H
   clear H
   go_upto_region 4 with (fail)
   go_cut [22] (fun v22 wc=>∃ (kq:Nat) (x22_2:Bool),v22=.bool x22_2/\Zz (r02_add.j1 kq l0 l1 x5_1 x6_1 x7_1 x22_2=some r)/\Zz (kq<=k1)/\Zz (Kd.R (Kd.int .i64) 3 wc w.heap.size (fun k_=>(w.heap.size<=k_)) u5 x5_1)/\Zz (Below w.heap.size w wc))
   case first =>
    have H:=HC3.out
    clear HC3
    by_cases c4:x7_1<(l0.length:Int)
    ·rw [if_pos c4] at H
     have c4b0:decide (x7_1<(l0.length:Int))=true:=decide_eq_true c4
     clear c4
     (first|rw [c4b0]|rw [c4b1]|(simp only [Z6,Z7];rw [c4b0])|skip)
     have H':=Zz.mk H
     clear H
     go_wp2
     go_meet
     case rel=>exact ⟨_,(true),(by first|rfl|(simp;done)|(simp [*];done)),H',⟨by have:=HK1.out;first|omega|exact Nat.le_refl _⟩,⟨by (with_reducible repeat (first|apply Kd.R_alloc|apply Kd.R_drewN|apply Kd.R_drew));exact HO_5.out⟩,⟨by repeat (first|(with_reducible first|exact HB.out|apply Zb|apply Za|apply Zc)|exact HB.out)⟩⟩
    ·rw [if_neg c4] at H
     have c4b0:decide (x7_1<(l0.length:Int))=false:=decide_eq_false c4
     clear c4
     (first|rw [c4b0]|rw [c4b1]|(simp only [Z6,Z7];rw [c4b0])|skip)
     by_cases c5:x7_1<(l1.length:Int)
     ·rw [if_pos c5] at H
      have c5b0:decide (x7_1<(l1.length:Int))=true:=decide_eq_true c5
      clear c5
      have H':=Zz.mk H
      clear H
      go_wp2
      go_meet
      case rel=>exact ⟨_,(true),(by first|rfl|(simp;done)|(simp [*];done)),H',⟨by have:=HK1.out;first|omega|exact Nat.le_refl _⟩,⟨by (with_reducible repeat (first|apply Kd.R_alloc|apply Kd.R_drewN|apply Kd.R_drew));exact HO_5.out⟩,⟨by repeat (first|(with_reducible first|exact HB.out|apply Zb|apply Za|apply Zc)|exact HB.out)⟩⟩
     ·rw [if_neg c5] at H
      have c5b0:decide (x7_1<(l1.length:Int))=false:=decide_eq_false c5
      clear c5
      have H':=Zz.mk H
      clear H
      go_wp2
      go_meet
      case rel=>exact ⟨_,(decide (x6_1>0)),(by first|rfl|(simp;done)|(simp [*];done)),H',⟨by have:=HK1.out;first|omega|exact Nat.le_refl _⟩,⟨by (with_reducible repeat (first|apply Kd.R_alloc|apply Kd.R_drewN|apply Kd.R_drew));exact HO_5.out⟩,⟨by repeat (first|(with_reducible first|exact HB.out|apply Zb|apply Za|apply Zc)|exact HB.out)⟩⟩
   case rest =>
    clear HC3
    try clear c1
    try clear p2
    try clear c4
    try clear c4b0
    try clear c5
    try clear c5b0
    try clear p2
    obtain ⟨kq,x22_2,rfl,HA,HJ2,HO_5,HB⟩:=hcut
    cases kq with
    | zero=>exact absurd HA.out (by simp [r02_add.j1])
    | succ kj2 =>
     have H:=HA.out
     clear HA
     simp only [r02_add.j1] at H
     by_cases c6:x22_2=true
     ·subst c6
      have H1:(if x7_1<(l0.length:Int) then (if 0<=x7_1 then (if x7_1<(l1.length:Int) then (if x5_1.length<17592186044416 then (r02_add.l0 kj2 l0 l1 (x5_1++[Int.tmod (wrap64 ((wrap64 (x6_1+(rd l0 x7_1)))+(rd l1 x7_1))) 10]) (wrap64 (Int.tdiv (wrap64 ((wrap64 (x6_1+(rd l0 x7_1)))+(rd l1 x7_1))) 10)) (wrap64 (x7_1+1))) else (none)) else (if x5_1.length<17592186044416 then (r02_add.l0 kj2 l0 l1 (x5_1++[Int.tmod (wrap64 (x6_1+(rd l0 x7_1))) 10]) (wrap64 (Int.tdiv (wrap64 (x6_1+(rd l0 x7_1))) 10)) (wrap64 (x7_1+1))) else (none))) else (none)) else (if x7_1<(l1.length:Int) then (if 0<=x7_1 then (if x5_1.length<17592186044416 then (r02_add.l0 kj2 l0 l1 (x5_1++[Int.tmod (wrap64 (x6_1+(rd l1 x7_1))) 10]) (wrap64 (Int.tdiv (wrap64 (x6_1+(rd l1 x7_1))) 10)) (wrap64 (x7_1+1))) else (none)) else (none)) else (if x5_1.length<17592186044416 then (r02_add.l0 kj2 l0 l1 (x5_1++[Int.tmod x6_1 10]) (wrap64 (Int.tdiv x6_1 10)) (wrap64 (x7_1+1))) else (none))))=some r:=by rw [if_pos rfl] at H;exact H
      clear H
      have H:=H1
      clear H1
      by_cases c7:x7_1<(l0.length:Int)
      ·rw [if_pos c7] at H
       have c7b0:decide (x7_1<(l0.length:Int))=true:=decide_eq_true c7
       clear c7
       by_cases c8:0<=x7_1
       ·rw [if_pos c8] at H
        have c8b0:decide (0<=x7_1)=true:=decide_eq_true c8
        clear c8
        by_cases c9:x7_1<(l1.length:Int)
        ·rw [if_pos c9] at H
         have c9b0:decide (x7_1<(l1.length:Int))=true:=decide_eq_true c9
         clear c9
         by_cases c10:x5_1.length<17592186044416
         ·rw [if_pos c10] at H
          have LMc10:=Zz.mk c10
          clear c10
          obtain ⟨y316,hy316⟩:∃y_:List Int,y_=(x5_1++[Int.tmod (wrap64 ((wrap64 (x6_1+(rd l0 x7_1)))+(rd l1 x7_1))) 10]):=⟨_,rfl⟩
          replace H:(r02_add.l0 kj2 l0 l1 y316 (wrap64 (Int.tdiv (wrap64 ((wrap64 (x6_1+(rd l0 x7_1)))+(rd l1 x7_1))) 10)) (wrap64 (x7_1+1)))=some r:=by first|(rw [hy316];with_reducible exact H)|(have H2_:=(Option.bind_some _ _).symm.trans H;rw [hy316];with_reducible exact H2_)|(have H2_:=(Option.bind_some _ _).symm.trans H;with_reducible exact H2_)|with_reducible exact H|(rw [hy316];exact H)|exact H
          have Ny316:=Zz.mk hy316
          clear hy316
          have H':=Zz.mk H
          clear H
          have p314:0<=(x7_1:Int):=of_decide_eq_true (by first|(with_reducible assumption)|assumption)
          have q314:x7_1<(l0.length:Int):=of_decide_eq_true (by first|(with_reducible assumption)|assumption)
          obtain ⟨ad314,e314,hx314_0⟩:=Kd.at_int HR0.out x7_1 p314 q314
          cases e314
          replace hx314_0:=(HB.out.cell (World.block_lt_of_cell? w _ hx314_0)).trans hx314_0
          replace p314:=eq_true p314
          replace q314:=eq_true q314
          have p315:0<=(x7_1:Int):=of_decide_eq_true (by first|(with_reducible assumption)|assumption)
          have q315:x7_1<(l1.length:Int):=of_decide_eq_true (by first|(with_reducible assumption)|assumption)
          obtain ⟨ad315,e315,hx315_0⟩:=Kd.at_int HR1.out x7_1 p315 q315
          cases e315
          replace hx315_0:=(HB.out.cell (World.block_lt_of_cell? w _ hx315_0)).trans hx315_0
          replace p315:=eq_true p315
          replace q315:=eq_true q315
          go_wp2_with (first|((with_reducible refine gate_builtin (b:=.append) (xs:=#[.tmp 46,.tmp 49]) rfl ?_);(try (refine gate_guard (by rfl) ?_;dsimp only));at_builtin;refine Kd.R_append (Kd.int .i64) (w0:=w) w.heap.size rfl (.tmp 46) (.tmp 49) 135 3 (.int .i64 0) 8 rfl Try.underlying135 info3 rfl (by decide) (by omega) u5 x5_1 (Int.tmod (wrap64 ((wrap64 (x6_1+(rd l0 x7_1)))+(rd l1 x7_1))) 10) [.int .i64 (Int.tmod (wrap64 ((wrap64 (x6_1+(rd l0 x7_1)))+(rd l1 x7_1))) 10)] (fun k_=>(w.heap.size<=k_)) (fun _=>False) rfl rfl ?aP (fun _ hk=>hk.elim) ?aF ?aO ?aB ?aS ?aL ?_;(case aP=>exact rfl);(case aB=>exact (by repeat (first|(with_reducible first|exact HB.out|apply Zb|apply Za|apply Zc)|exact HB.out)));(case aF=>exact (fun k_ hk=>(Nat.le_trans (Zf (by repeat (first|(with_reducible first|exact HB.out|apply Zb|apply Za|apply Zc)|exact HB.out))) hk)));(case aO=>exact (by (with_reducible repeat (first|apply Kd.R_alloc|apply Kd.R_drewN|apply Kd.R_drew));exact HO_5.out));(case aS=>exact (Zf (by repeat (first|(with_reducible first|exact HB.out|apply Zb|apply Za|apply Zc)|exact HB.out))));(case aL=>have:=LMc10.out;omega);intro v317 w11 ho hb hg hat;rw [<-Ny316.out] at ho;have n0_:=Zz.mk (hb);have n1_:=Zz.mk (ho);clear HB;clear HO_5;have HB:=n0_;have HO318:=n1_;clear n0_ n1_;clear ho hb hg hat))
          go_roundg kj2
          case measure=>have:=HK1.out;have:=HJ2.out;omega
          case rel=>exact ⟨(y316),(wrap64 (Int.tdiv (wrap64 ((wrap64 (x6_1+(rd l0 x7_1)))+(rd l1 x7_1))) 10)),(wrap64 (x7_1+1)),(by first|rfl|(simp;done)|(simp [*];done)),(by first|rfl|(simp;done)|(simp [*];done)),H',⟨by have:=HK1.out;have:=HJ2.out;omega⟩,⟨by (with_reducible repeat (first|apply Kd.R_alloc|apply Kd.R_drewN|apply Kd.R_drew));exact HO318.out⟩,⟨by repeat (first|(with_reducible first|exact HB.out|apply Zb|apply Za|apply Zc)|exact HB.out)⟩⟩
         ·rw [if_neg c10] at H
          exact absurd H (by simp)
        ·rw [if_neg c9] at H
         have c9b0:decide (x7_1<(l1.length:Int))=false:=decide_eq_false c9
         clear c9
         by_cases c12:x5_1.length<17592186044416
         ·rw [if_pos c12] at H
          have LMc12:=Zz.mk c12
          clear c12
          obtain ⟨y319,hy319⟩:∃y_:List Int,y_=(x5_1++[Int.tmod (wrap64 (x6_1+(rd l0 x7_1))) 10]):=⟨_,rfl⟩
          replace H:(r02_add.l0 kj2 l0 l1 y319 (wrap64 (Int.tdiv (wrap64 (x6_1+(rd l0 x7_1))) 10)) (wrap64 (x7_1+1)))=some r:=by first|(rw [hy319];with_reducible exact H)|(have H2_:=(Option.bind_some _ _).symm.trans H;rw [hy319];with_reducible exact H2_)|(have H2_:=(Option.bind_some _ _).symm.trans H;with_reducible exact H2_)|with_reducible exact H|(rw [hy319];exact H)|exact H
          have Ny319:=Zz.mk hy319
          clear hy319
          have H':=Zz.mk H
          clear H
          have p314:0<=(x7_1:Int):=of_decide_eq_true (by first|(with_reducible assumption)|assumption)
          have q314:x7_1<(l0.length:Int):=of_decide_eq_true (by first|(with_reducible assumption)|assumption)
          obtain ⟨ad314,e314,hx314_0⟩:=Kd.at_int HR0.out x7_1 p314 q314
          cases e314
          replace hx314_0:=(HB.out.cell (World.block_lt_of_cell? w _ hx314_0)).trans hx314_0
          replace p314:=eq_true p314
          replace q314:=eq_true q314
          go_wp2_with (first|((with_reducible refine gate_builtin (b:=.append) (xs:=#[.tmp 46,.tmp 49]) rfl ?_);(try (refine gate_guard (by rfl) ?_;dsimp only));at_builtin;refine Kd.R_append (Kd.int .i64) (w0:=w) w.heap.size rfl (.tmp 46) (.tmp 49) 135 3 (.int .i64 0) 8 rfl Try.underlying135 info3 rfl (by decide) (by omega) u5 x5_1 (Int.tmod (wrap64 (x6_1+(rd l0 x7_1))) 10) [.int .i64 (Int.tmod (wrap64 (x6_1+(rd l0 x7_1))) 10)] (fun k_=>(w.heap.size<=k_)) (fun _=>False) rfl rfl ?aP (fun _ hk=>hk.elim) ?aF ?aO ?aB ?aS ?aL ?_;(case aP=>exact rfl);(case aB=>exact (by repeat (first|(with_reducible first|exact HB.out|apply Zb|apply Za|apply Zc)|exact HB.out)));(case aF=>exact (fun k_ hk=>(Nat.le_trans (Zf (by repeat (first|(with_reducible first|exact HB.out|apply Zb|apply Za|apply Zc)|exact HB.out))) hk)));(case aO=>exact (by (with_reducible repeat (first|apply Kd.R_alloc|apply Kd.R_drewN|apply Kd.R_drew));exact HO_5.out));(case aS=>exact (Zf (by repeat (first|(with_reducible first|exact HB.out|apply Zb|apply Za|apply Zc)|exact HB.out))));(case aL=>have:=LMc12.out;omega);intro v320 w13 ho hb hg hat;rw [<-Ny319.out] at ho;have n0_:=Zz.mk (hb);have n1_:=Zz.mk (ho);clear HB;clear HO_5;have HB:=n0_;have HO321:=n1_;clear n0_ n1_;clear ho hb hg hat))
          go_roundg kj2
          case measure=>have:=HK1.out;have:=HJ2.out;omega
          case rel=>exact ⟨(y319),(wrap64 (Int.tdiv (wrap64 (x6_1+(rd l0 x7_1))) 10)),(wrap64 (x7_1+1)),(by first|rfl|(simp;done)|(simp [*];done)),(by first|rfl|(simp;done)|(simp [*];done)),H',⟨by have:=HK1.out;have:=HJ2.out;omega⟩,⟨by (with_reducible repeat (first|apply Kd.R_alloc|apply Kd.R_drewN|apply Kd.R_drew));exact HO321.out⟩,⟨by repeat (first|(with_reducible first|exact HB.out|apply Zb|apply Za|apply Zc)|exact HB.out)⟩⟩
         ·rw [if_neg c12] at H
          exact absurd H (by simp)
       ·rw [if_neg c8] at H
        exact absurd H (by simp)
      ·rw [if_neg c7] at H
       have c7b0:decide (x7_1<(l0.length:Int))=false:=decide_eq_false c7
       clear c7
       by_cases c14:x7_1<(l1.length:Int)
       ·rw [if_pos c14] at H
        have c14b0:decide (x7_1<(l1.length:Int))=true:=decide_eq_true c14
        clear c14
        by_cases c15:0<=x7_1
        ·rw [if_pos c15] at H
         have c15b0:decide (0<=x7_1)=true:=decide_eq_true c15
         clear c15
         by_cases c16:x5_1.length<17592186044416
         ·rw [if_pos c16] at H
          have LMc16:=Zz.mk c16
          clear c16
          obtain ⟨y323,hy323⟩:∃y_:List Int,y_=(x5_1++[Int.tmod (wrap64 (x6_1+(rd l1 x7_1))) 10]):=⟨_,rfl⟩
          replace H:(r02_add.l0 kj2 l0 l1 y323 (wrap64 (Int.tdiv (wrap64 (x6_1+(rd l1 x7_1))) 10)) (wrap64 (x7_1+1)))=some r:=by first|(rw [hy323];with_reducible exact H)|(have H2_:=(Option.bind_some _ _).symm.trans H;rw [hy323];with_reducible exact H2_)|(have H2_:=(Option.bind_some _ _).symm.trans H;with_reducible exact H2_)|with_reducible exact H|(rw [hy323];exact H)|exact H
          have Ny323:=Zz.mk hy323
          clear hy323
          have H':=Zz.mk H
          clear H
          have p322:0<=(x7_1:Int):=of_decide_eq_true (by first|(with_reducible assumption)|assumption)
          have q322:x7_1<(l1.length:Int):=of_decide_eq_true (by first|(with_reducible assumption)|assumption)
          obtain ⟨ad322,e322,hx322_0⟩:=Kd.at_int HR1.out x7_1 p322 q322
          cases e322
          replace hx322_0:=(HB.out.cell (World.block_lt_of_cell? w _ hx322_0)).trans hx322_0
          replace p322:=eq_true p322
          replace q322:=eq_true q322
          go_wp2_with (first|((with_reducible refine gate_builtin (b:=.append) (xs:=#[.tmp 46,.tmp 49]) rfl ?_);(try (refine gate_guard (by rfl) ?_;dsimp only));at_builtin;refine Kd.R_append (Kd.int .i64) (w0:=w) w.heap.size rfl (.tmp 46) (.tmp 49) 135 3 (.int .i64 0) 8 rfl Try.underlying135 info3 rfl (by decide) (by omega) u5 x5_1 (Int.tmod (wrap64 (x6_1+(rd l1 x7_1))) 10) [.int .i64 (Int.tmod (wrap64 (x6_1+(rd l1 x7_1))) 10)] (fun k_=>(w.heap.size<=k_)) (fun _=>False) rfl rfl ?aP (fun _ hk=>hk.elim) ?aF ?aO ?aB ?aS ?aL ?_;(case aP=>exact rfl);(case aB=>exact (by repeat (first|(with_reducible first|exact HB.out|apply Zb|apply Za|apply Zc)|exact HB.out)));(case aF=>exact (fun k_ hk=>(Nat.le_trans (Zf (by repeat (first|(with_reducible first|exact HB.out|apply Zb|apply Za|apply Zc)|exact HB.out))) hk)));(case aO=>exact (by (with_reducible repeat (first|apply Kd.R_alloc|apply Kd.R_drewN|apply Kd.R_drew));exact HO_5.out));(case aS=>exact (Zf (by repeat (first|(with_reducible first|exact HB.out|apply Zb|apply Za|apply Zc)|exact HB.out))));(case aL=>have:=LMc16.out;omega);intro v324 w17 ho hb hg hat;rw [<-Ny323.out] at ho;have n0_:=Zz.mk (hb);have n1_:=Zz.mk (ho);clear HB;clear HO_5;have HB:=n0_;have HO325:=n1_;clear n0_ n1_;clear ho hb hg hat))
          go_roundg kj2
          case measure=>have:=HK1.out;have:=HJ2.out;omega
          case rel=>exact ⟨(y323),(wrap64 (Int.tdiv (wrap64 (x6_1+(rd l1 x7_1))) 10)),(wrap64 (x7_1+1)),(by first|rfl|(simp;done)|(simp [*];done)),(by first|rfl|(simp;done)|(simp [*];done)),H',⟨by have:=HK1.out;have:=HJ2.out;omega⟩,⟨by (with_reducible repeat (first|apply Kd.R_alloc|apply Kd.R_drewN|apply Kd.R_drew));exact HO325.out⟩,⟨by repeat (first|(with_reducible first|exact HB.out|apply Zb|apply Za|apply Zc)|exact HB.out)⟩⟩
         ·rw [if_neg c16] at H
          exact absurd H (by simp)
        ·rw [if_neg c15] at H
         exact absurd H (by simp)
       ·rw [if_neg c14] at H
        have c14b0:decide (x7_1<(l1.length:Int))=false:=decide_eq_false c14
        clear c14
        by_cases c18:x5_1.length<17592186044416
        ·rw [if_pos c18] at H
         have LMc18:=Zz.mk c18
         clear c18
         obtain ⟨y326,hy326⟩:∃y_:List Int,y_=(x5_1++[Int.tmod x6_1 10]):=⟨_,rfl⟩
         replace H:(r02_add.l0 kj2 l0 l1 y326 (wrap64 (Int.tdiv x6_1 10)) (wrap64 (x7_1+1)))=some r:=by first|(rw [hy326];with_reducible exact H)|(have H2_:=(Option.bind_some _ _).symm.trans H;rw [hy326];with_reducible exact H2_)|(have H2_:=(Option.bind_some _ _).symm.trans H;with_reducible exact H2_)|with_reducible exact H|(rw [hy326];exact H)|exact H
         have Ny326:=Zz.mk hy326
         clear hy326
         have H':=Zz.mk H
         clear H
         go_wp2_with (first|((with_reducible refine gate_builtin (b:=.append) (xs:=#[.tmp 46,.tmp 49]) rfl ?_);(try (refine gate_guard (by rfl) ?_;dsimp only));at_builtin;refine Kd.R_append (Kd.int .i64) (w0:=w) w.heap.size rfl (.tmp 46) (.tmp 49) 135 3 (.int .i64 0) 8 rfl Try.underlying135 info3 rfl (by decide) (by omega) u5 x5_1 (Int.tmod x6_1 10) [.int .i64 (Int.tmod x6_1 10)] (fun k_=>(w.heap.size<=k_)) (fun _=>False) rfl rfl ?aP (fun _ hk=>hk.elim) ?aF ?aO ?aB ?aS ?aL ?_;(case aP=>exact rfl);(case aB=>exact (by repeat (first|(with_reducible first|exact HB.out|apply Zb|apply Za|apply Zc)|exact HB.out)));(case aF=>exact (fun k_ hk=>(Nat.le_trans (Zf (by repeat (first|(with_reducible first|exact HB.out|apply Zb|apply Za|apply Zc)|exact HB.out))) hk)));(case aO=>exact (by (with_reducible repeat (first|apply Kd.R_alloc|apply Kd.R_drewN|apply Kd.R_drew));exact HO_5.out));(case aS=>exact (Zf (by repeat (first|(with_reducible first|exact HB.out|apply Zb|apply Za|apply Zc)|exact HB.out))));(case aL=>have:=LMc18.out;omega);intro v327 w19 ho hb hg hat;rw [<-Ny326.out] at ho;have n0_:=Zz.mk (hb);have n1_:=Zz.mk (ho);clear HB;clear HO_5;have HB:=n0_;have HO328:=n1_;clear n0_ n1_;clear ho hb hg hat))
         go_roundg kj2
         case measure=>have:=HK1.out;have:=HJ2.out;omega
         case rel=>exact ⟨(y326),(wrap64 (Int.tdiv x6_1 10)),(wrap64 (x7_1+1)),(by first|rfl|(simp;done)|(simp [*];done)),(by first|rfl|(simp;done)|(simp [*];done)),H',⟨by have:=HK1.out;have:=HJ2.out;omega⟩,⟨by (with_reducible repeat (first|apply Kd.R_alloc|apply Kd.R_drewN|apply Kd.R_drew));exact HO328.out⟩,⟨by repeat (first|(with_reducible first|exact HB.out|apply Zb|apply Za|apply Zc)|exact HB.out)⟩⟩
        ·rw [if_neg c18] at H
         exact absurd H (by simp)
     ·replace c6:=Bool.eq_false_iff.mpr c6
      subst c6
      have H1:((r02_cut.f kj2 x5_1).bind fun t311=>(some t311))=some r:=by rw [if_neg (show ¬ (false=true) by decide)] at H;exact H
      clear H
      have H:=H1
      clear H1
      replace H:=Option.bind_eq_some_iff.mp H
      obtain ⟨t311,A200,H⟩:=H
      replace H:(some t311)=some r:=H
      have A20:=Zz.mk A200
      clear A200
      obtain rfl:=Option.some.inj H
      obtain ⟨Ao21,co21,eo21⟩:=Kd.R_slice HO_5.out
      subst eo21
      go_wp2_with (first|((with_reducible refine Zs (f:=123) rfl ?_);refine Zv (some 54) rfl rfl Try.func123 (by kernel_rfl) rfl #[.slice Ao21 x5_1.length co21] rfl (by (try simp only [List.map_toArray,List.map_cons,List.map_nil]);first|done|rfl|(simp only [List.length_drop,List.length_take];rfl)) ?_;(with_reducible refine (r02_cut.calls kj2 (fun k_=>some k_=(.slice Ao21 x5_1.length co21:Value).ownBlock) _ _ x5_1 t311 _ ?side1 A20.out).mono ?_);(case side1=>exact Kd.R_V (Kd.R_tight rfl (HO_5.out)));rintro e w22 ⟨v312,rfl,ho0,hb⟩;refine ⟨_,rfl,?_⟩;have n0_:=Zz.mk (Kd.R_below (by (with_reducible repeat (first|apply Kd.R_alloc|apply Kd.R_drewN|apply Kd.R_drew));exact HO_5.out) hb);have n1_:=Zz.mk (Kd.V_lower (Kd.V_mono (ok':=fun k_=>(w.heap.size<=k_)) ho0 (fun k_ hk_=>Or.elim hk_ (fun hs_=>((HO_5.out).1 k_ hs_.symm)) (fun hn_=>(Nat.le_trans (Zf (by repeat (first|(with_reducible first|exact HB.out|apply Zb|apply Za|apply Zc)|exact HB.out))) hn_)))) (Zf (by repeat (first|(with_reducible first|exact HB.out|apply Zb|apply Za|apply Zc)|exact HB.out))));have n2_:=Zz.mk (Zi (by repeat (first|(with_reducible first|exact HB.out|apply Zb|apply Za|apply Zc)|exact HB.out)) hb);clear HO_5;clear HB;have HO_5:=n0_;have HO313:=n1_;have HB:=n2_;clear n0_ n1_ n2_;(try clear hb);(try clear hb2);(try clear hk);(try clear hi);(try clear ho0)))
      go_ret
      exact ⟨_,by first|rfl|(simp [Zm,Zl]<;>rfl)|(simp [*,Zm,Zl]<;>rfl),by (with_reducible repeat (first|apply Kd.V_alloc|apply Kd.V_drewN|apply Kd.V_drew));exact HO313.out,by repeat (first|(with_reducible first|exact HB.out|apply Zb|apply Za|apply Zc)|exact HB.out)⟩
mutual
def r02_times.l0:Nat->List Int->Int->List Int->Int->Int->Option (List Int)
 | 0,_,_,_,_,_=>none
 | k+1,x0,x1,x5,x6,x7=>if x7<(x0.length:Int) then (r02_times.j1 k x0 x1 x5 x6 x7 true) else (r02_times.j1 k x0 x1 x5 x6 x7 (decide (x6>0)))
def r02_times.j1:Nat->List Int->Int->List Int->Int->Int->Bool->Option (List Int)
 | 0,_,_,_,_,_,_=>none
 | k+1,x0,x1,x5,x6,x7,x16=>if x16=true then (if x7<(x0.length:Int) then (if 0<=x7 then (if x5.length<17592186044416 then (r02_times.l0 k x0 x1 (x5++[Int.tmod (wrap64 (x6+(wrap64 ((rd x0 x7)*x1)))) 10]) (wrap64 (Int.tdiv (wrap64 (x6+(wrap64 ((rd x0 x7)*x1)))) 10)) (wrap64 (x7+1))) else (none)) else (none)) else (if x5.length<17592186044416 then (r02_times.l0 k x0 x1 (x5++[Int.tmod x6 10]) (wrap64 (Int.tdiv x6 10)) (wrap64 (x7+1))) else (none))) else ((r02_cut.f k x5).bind fun t336=>(some t336))
end
def r02_times.f (k:Nat) (l0:List Int) (a1:Int):Option (List Int):=r02_times.l0 k l0 a1 ([]:List Int) 0 0
set_option maxHeartbeats 8000000 in
set_option maxRecDepth 100000 in
theorem r02_times.calls (k:Nat) (A0:Option Addr) (c0:Nat) (l0:List Int) (a1:Int) (r:List Int) (w:World) (hr0:Kd.C (Kd.int .i64) w A0 l0.length l0) (hc0:l0.length<=c0) (h:r02_times.f k l0 a1=some r) :
  Calls Try.prog 120 #[.slice A0 l0.length c0,.int .i64 a1] w fun e w'=>∃v0_:Value,e=.returned (v0_)/\Kd.V (Kd.int .i64) 3 w' w.heap.size (fun k_=>(w.heap.size<=k_)) v0_ r/\Below w.heap.size w w':=by
 have HR0:=Zz.mk hr0
 have HC0:=Zz.mk hc0
 clear hr0 hc0
 have HB:=Zz.mk (Below.refl w.heap.size w)
 have H:(r02_times.l0 k l0 a1 ([]:List Int) 0 0)=some r:=h
 clear h
 have H':=Zz.mk H
 clear H
 go_enter Try.func120,Try.ntmps120
 go_wp2
 go_loopg [5,6,7] k (fun kq v5 v6 v7 w'=>∃ (x5_1:List Int) (x6_1:Int) (x7_1:Int),v6=.int .i64 x6_1/\v7=.int .i64 x7_1/\Zz (r02_times.l0 kq l0 a1 x5_1 x6_1 x7_1=some r)/\Zz (kq<=k)/\Zz (Kd.R (Kd.int .i64) 3 w' w.heap.size (fun k_=>(w.heap.size<=k_)) v5 x5_1)/\Zz (Below w.heap.size w w'))
 case atStart=>exact ⟨(([]:List Int)),(0),(0),(by first|rfl|(simp;done)|(simp [*];done)),(by first|rfl|(simp;done)|(simp [*];done)),H',⟨Nat.le_refl _⟩,⟨by first|exact Kd.R_nil _ _ _ _ _|exact Kd.N_nil _ _ _ _ _|exact Kd.V_nil _ _ _ _ _|exact Kd.Q_nil _ _ _ _ _|exact Kd.S_nil _ _ _ _ _⟩,⟨by repeat (first|(with_reducible first|exact HB.out|apply Zb|apply Za|apply Zc)|exact HB.out)⟩⟩
 case round =>
  clear H'
  try clear c1
  try clear p2
  obtain ⟨x5_1,x6_1,x7_1,rfl,rfl,HA,HK1,HO_5,HB⟩:=hrel
  cases gk with
  | zero=>exact absurd HA.out (by simp [r02_times.l0])
  | succ k1 =>
   have H:=HA.out
   clear HA
   simp only [r02_times.l0] at H
   have HC3:=Zz.mk H
   clear H
   go_upto_region 4 with (fail)
   go_cut [16] (fun v16 wc=>∃ (kq:Nat) (x16_2:Bool),v16=.bool x16_2/\Zz (r02_times.j1 kq l0 a1 x5_1 x6_1 x7_1 x16_2=some r)/\Zz (kq<=k1)/\Zz (Kd.R (Kd.int .i64) 3 wc w.heap.size (fun k_=>(w.heap.size<=k_)) u5 x5_1)/\Zz (Below w.heap.size w wc))
   case first =>
    have H:=HC3.out
    clear HC3
    by_cases c4:x7_1<(l0.length:Int)
    ·rw [if_pos c4] at H
     have c4b0:decide (x7_1<(l0.length:Int))=true:=decide_eq_true c4
     clear c4
     (first|rw [c4b0]|rw [c4b1]|(simp only [Z6,Z7];rw [c4b0])|skip)
     have H':=Zz.mk H
     clear H
     go_wp2
     go_meet
     case rel=>exact ⟨_,(true),(by first|rfl|(simp;done)|(simp [*];done)),H',⟨by have:=HK1.out;first|omega|exact Nat.le_refl _⟩,⟨by (with_reducible repeat (first|apply Kd.R_alloc|apply Kd.R_drewN|apply Kd.R_drew));exact HO_5.out⟩,⟨by repeat (first|(with_reducible first|exact HB.out|apply Zb|apply Za|apply Zc)|exact HB.out)⟩⟩
    ·rw [if_neg c4] at H
     have c4b0:decide (x7_1<(l0.length:Int))=false:=decide_eq_false c4
     clear c4
     (first|rw [c4b0]|rw [c4b1]|(simp only [Z6,Z7];rw [c4b0])|skip)
     have H':=Zz.mk H
     clear H
     go_wp2
     go_meet
     case rel=>exact ⟨_,(decide (x6_1>0)),(by first|rfl|(simp;done)|(simp [*];done)),H',⟨by have:=HK1.out;first|omega|exact Nat.le_refl _⟩,⟨by (with_reducible repeat (first|apply Kd.R_alloc|apply Kd.R_drewN|apply Kd.R_drew));exact HO_5.out⟩,⟨by repeat (first|(with_reducible first|exact HB.out|apply Zb|apply Za|apply Zc)|exact HB.out)⟩⟩
   case rest =>
    clear HC3
    try clear c1
    try clear p2
    try clear c4
    try clear c4b0
    try clear p2
    obtain ⟨kq,x16_2,rfl,HA,HJ2,HO_5,HB⟩:=hcut
    cases kq with
    | zero=>exact absurd HA.out (by simp [r02_times.j1])
    | succ kj2 =>
     have H:=HA.out
     clear HA
     simp only [r02_times.j1] at H
     by_cases c5:x16_2=true
     ·subst c5
      have H1:(if x7_1<(l0.length:Int) then (if 0<=x7_1 then (if x5_1.length<17592186044416 then (r02_times.l0 kj2 l0 a1 (x5_1++[Int.tmod (wrap64 (x6_1+(wrap64 ((rd l0 x7_1)*a1)))) 10]) (wrap64 (Int.tdiv (wrap64 (x6_1+(wrap64 ((rd l0 x7_1)*a1)))) 10)) (wrap64 (x7_1+1))) else (none)) else (none)) else (if x5_1.length<17592186044416 then (r02_times.l0 kj2 l0 a1 (x5_1++[Int.tmod x6_1 10]) (wrap64 (Int.tdiv x6_1 10)) (wrap64 (x7_1+1))) else (none)))=some r:=by rw [if_pos rfl] at H;exact H
      clear H
      have H:=H1
      clear H1
      by_cases c6:x7_1<(l0.length:Int)
      ·rw [if_pos c6] at H
       have c6b0:decide (x7_1<(l0.length:Int))=true:=decide_eq_true c6
       clear c6
       by_cases c7:0<=x7_1
       ·rw [if_pos c7] at H
        have c7b0:decide (0<=x7_1)=true:=decide_eq_true c7
        clear c7
        by_cases c8:x5_1.length<17592186044416
        ·rw [if_pos c8] at H
         have LMc8:=Zz.mk c8
         clear c8
         obtain ⟨y330,hy330⟩:∃y_:List Int,y_=(x5_1++[Int.tmod (wrap64 (x6_1+(wrap64 ((rd l0 x7_1)*a1)))) 10]):=⟨_,rfl⟩
         replace H:(r02_times.l0 kj2 l0 a1 y330 (wrap64 (Int.tdiv (wrap64 (x6_1+(wrap64 ((rd l0 x7_1)*a1)))) 10)) (wrap64 (x7_1+1)))=some r:=by first|(rw [hy330];with_reducible exact H)|(have H2_:=(Option.bind_some _ _).symm.trans H;rw [hy330];with_reducible exact H2_)|(have H2_:=(Option.bind_some _ _).symm.trans H;with_reducible exact H2_)|with_reducible exact H|(rw [hy330];exact H)|exact H
         have Ny330:=Zz.mk hy330
         clear hy330
         have H':=Zz.mk H
         clear H
         have p329:0<=(x7_1:Int):=of_decide_eq_true (by first|(with_reducible assumption)|assumption)
         have q329:x7_1<(l0.length:Int):=of_decide_eq_true (by first|(with_reducible assumption)|assumption)
         obtain ⟨ad329,e329,hx329_0⟩:=Kd.at_int HR0.out x7_1 p329 q329
         cases e329
         replace hx329_0:=(HB.out.cell (World.block_lt_of_cell? w _ hx329_0)).trans hx329_0
         replace p329:=eq_true p329
         replace q329:=eq_true q329
         go_wp2_with (first|((with_reducible refine gate_builtin (b:=.append) (xs:=#[.tmp 32,.tmp 35]) rfl ?_);at_builtin;refine Kd.R_append (Kd.int .i64) (w0:=w) w.heap.size rfl (.tmp 32) (.tmp 35) 135 3 (.int .i64 0) 8 rfl Try.underlying135 info3 rfl (by decide) (by omega) u5 x5_1 (Int.tmod (wrap64 (x6_1+(wrap64 ((rd l0 x7_1)*a1)))) 10) [.int .i64 (Int.tmod (wrap64 (x6_1+(wrap64 ((rd l0 x7_1)*a1)))) 10)] (fun k_=>(w.heap.size<=k_)) (fun _=>False) rfl rfl ?aP (fun _ hk=>hk.elim) ?aF ?aO ?aB ?aS ?aL ?_;(case aP=>exact rfl);(case aB=>exact (by repeat (first|(with_reducible first|exact HB.out|apply Zb|apply Za|apply Zc)|exact HB.out)));(case aF=>exact (fun k_ hk=>(Nat.le_trans (Zf (by repeat (first|(with_reducible first|exact HB.out|apply Zb|apply Za|apply Zc)|exact HB.out))) hk)));(case aO=>exact (by (with_reducible repeat (first|apply Kd.R_alloc|apply Kd.R_drewN|apply Kd.R_drew));exact HO_5.out));(case aS=>exact (Zf (by repeat (first|(with_reducible first|exact HB.out|apply Zb|apply Za|apply Zc)|exact HB.out))));(case aL=>have:=LMc8.out;omega);intro v331 w9 ho hb hg hat;rw [<-Ny330.out] at ho;have n0_:=Zz.mk (hb);have n1_:=Zz.mk (ho);clear HB;clear HO_5;have HB:=n0_;have HO332:=n1_;clear n0_ n1_;clear ho hb hg hat))
         go_roundg kj2
         case measure=>have:=HK1.out;have:=HJ2.out;omega
         case rel=>exact ⟨(y330),(wrap64 (Int.tdiv (wrap64 (x6_1+(wrap64 ((rd l0 x7_1)*a1)))) 10)),(wrap64 (x7_1+1)),(by first|rfl|(simp;done)|(simp [*];done)),(by first|rfl|(simp;done)|(simp [*];done)),H',⟨by have:=HK1.out;have:=HJ2.out;omega⟩,⟨by (with_reducible repeat (first|apply Kd.R_alloc|apply Kd.R_drewN|apply Kd.R_drew));exact HO332.out⟩,⟨by repeat (first|(with_reducible first|exact HB.out|apply Zb|apply Za|apply Zc)|exact HB.out)⟩⟩
        ·rw [if_neg c8] at H
         exact absurd H (by simp)
       ·rw [if_neg c7] at H
        exact absurd H (by simp)
      ·rw [if_neg c6] at H
       have c6b0:decide (x7_1<(l0.length:Int))=false:=decide_eq_false c6
       clear c6
       by_cases c10:x5_1.length<17592186044416
       ·rw [if_pos c10] at H
        have LMc10:=Zz.mk c10
        clear c10
        obtain ⟨y333,hy333⟩:∃y_:List Int,y_=(x5_1++[Int.tmod x6_1 10]):=⟨_,rfl⟩
        replace H:(r02_times.l0 kj2 l0 a1 y333 (wrap64 (Int.tdiv x6_1 10)) (wrap64 (x7_1+1)))=some r:=by first|(rw [hy333];with_reducible exact H)|(have H2_:=(Option.bind_some _ _).symm.trans H;rw [hy333];with_reducible exact H2_)|(have H2_:=(Option.bind_some _ _).symm.trans H;with_reducible exact H2_)|with_reducible exact H|(rw [hy333];exact H)|exact H
        have Ny333:=Zz.mk hy333
        clear hy333
        have H':=Zz.mk H
        clear H
        go_wp2_with (first|((with_reducible refine gate_builtin (b:=.append) (xs:=#[.tmp 32,.tmp 35]) rfl ?_);at_builtin;refine Kd.R_append (Kd.int .i64) (w0:=w) w.heap.size rfl (.tmp 32) (.tmp 35) 135 3 (.int .i64 0) 8 rfl Try.underlying135 info3 rfl (by decide) (by omega) u5 x5_1 (Int.tmod x6_1 10) [.int .i64 (Int.tmod x6_1 10)] (fun k_=>(w.heap.size<=k_)) (fun _=>False) rfl rfl ?aP (fun _ hk=>hk.elim) ?aF ?aO ?aB ?aS ?aL ?_;(case aP=>exact rfl);(case aB=>exact (by repeat (first|(with_reducible first|exact HB.out|apply Zb|apply Za|apply Zc)|exact HB.out)));(case aF=>exact (fun k_ hk=>(Nat.le_trans (Zf (by repeat (first|(with_reducible first|exact HB.out|apply Zb|apply Za|apply Zc)|exact HB.out))) hk)));(case aO=>exact (by (with_reducible repeat (first|apply Kd.R_alloc|apply Kd.R_drewN|apply Kd.R_drew));exact HO_5.out));(case aS=>exact (Zf (by repeat (first|(with_reducible first|exact HB.out|apply Zb|apply Za|apply Zc)|exact HB.out))));(case aL=>have:=LMc10.out;omega);intro v334 w11 ho hb hg hat;rw [<-Ny333.out] at ho;have n0_:=Zz.mk (hb);have n1_:=Zz.mk (ho);clear HB;clear HO_5;have HB:=n0_;have HO335:=n1_;clear n0_ n1_;clear ho hb hg hat))
        go_roundg kj2
        case measure=>have:=HK1.out;have:=HJ2.out;omega
        case rel=>exact ⟨(y333),(wrap64 (Int.tdiv x6_1 10)),(wrap64 (x7_1+1)),(by first|rfl|(simp;done)|(simp [*];done)),(by first|rfl|(simp;done)|(simp [*];done)),H',⟨by have:=HK1.out;have:=HJ2.out;omega⟩,⟨by (with_reducible repeat (first|apply Kd.R_alloc|apply Kd.R_drewN|apply Kd.R_drew));exact HO335.out⟩,⟨by repeat (first|(with_reducible first|exact HB.out|apply Zb|apply Za|apply Zc)|exact HB.out)⟩⟩
       ·rw [if_neg c10] at H
        exact absurd H (by simp)
     ·replace c5:=Bool.eq_false_iff.mpr c5
      subst c5
      have H1:((r02_cut.f kj2 x5_1).bind fun t336=>(some t336))=some r:=by rw [if_neg (show ¬ (false=true) by decide)] at H;exact H
      clear H
      have H:=H1
      clear H1
      replace H:=Option.bind_eq_some_iff.mp H
      obtain ⟨t336,A120,H⟩:=H
      replace H:(some t336)=some r:=H
      have A12:=Zz.mk A120
      clear A120
      obtain rfl:=Option.some.inj H
      obtain ⟨Ao13,co13,eo13⟩:=Kd.R_slice HO_5.out
      subst eo13
      go_wp2_with (first|((with_reducible refine Zs (f:=123) rfl ?_);refine Zv (some 40) rfl rfl Try.func123 (by kernel_rfl) rfl #[.slice Ao13 x5_1.length co13] rfl (by (try simp only [List.map_toArray,List.map_cons,List.map_nil]);first|done|rfl|(simp only [List.length_drop,List.length_take];rfl)) ?_;(with_reducible refine (r02_cut.calls kj2 (fun k_=>some k_=(.slice Ao13 x5_1.length co13:Value).ownBlock) _ _ x5_1 t336 _ ?side1 A12.out).mono ?_);(case side1=>exact Kd.R_V (Kd.R_tight rfl (HO_5.out)));rintro e w14 ⟨v337,rfl,ho0,hb⟩;refine ⟨_,rfl,?_⟩;have n0_:=Zz.mk (Kd.R_below (by (with_reducible repeat (first|apply Kd.R_alloc|apply Kd.R_drewN|apply Kd.R_drew));exact HO_5.out) hb);have n1_:=Zz.mk (Kd.V_lower (Kd.V_mono (ok':=fun k_=>(w.heap.size<=k_)) ho0 (fun k_ hk_=>Or.elim hk_ (fun hs_=>((HO_5.out).1 k_ hs_.symm)) (fun hn_=>(Nat.le_trans (Zf (by repeat (first|(with_reducible first|exact HB.out|apply Zb|apply Za|apply Zc)|exact HB.out))) hn_)))) (Zf (by repeat (first|(with_reducible first|exact HB.out|apply Zb|apply Za|apply Zc)|exact HB.out))));have n2_:=Zz.mk (Zi (by repeat (first|(with_reducible first|exact HB.out|apply Zb|apply Za|apply Zc)|exact HB.out)) hb);clear HO_5;clear HB;have HO_5:=n0_;have HO338:=n1_;have HB:=n2_;clear n0_ n1_ n2_;(try clear hb);(try clear hb2);(try clear hk);(try clear hi);(try clear ho0)))
      go_ret
      exact ⟨_,by first|rfl|(simp [Zm,Zl]<;>rfl)|(simp [*,Zm,Zl]<;>rfl),by (with_reducible repeat (first|apply Kd.V_alloc|apply Kd.V_drewN|apply Kd.V_drew));exact HO338.out,by repeat (first|(with_reducible first|exact HB.out|apply Zb|apply Za|apply Zc)|exact HB.out)⟩
def r02_small.l0:Nat->Int->List Int->Option (List Int)
 | 0,_,_=>none
 | k+1,x0,x3=>if x0>0 then (if x3.length<17592186044416 then (r02_small.l0 k (wrap64 (Int.tdiv x0 10)) (x3++[Int.tmod x0 10])) else (none)) else (some x3)
def r02_small.f (k:Nat) (a0:Int):Option (List Int):=r02_small.l0 k a0 ([]:List Int)
set_option maxHeartbeats 8000000 in
set_option maxRecDepth 100000 in
theorem r02_small.calls (k:Nat) (a0:Int) (r:List Int) (w:World) (h:r02_small.f k a0=some r) :
  Calls Try.prog 121 #[.int .i64 a0] w fun e w'=>∃v0_:Value,e=.returned (v0_)/\Kd.R (Kd.int .i64) 3 w' w.heap.size (fun _=>True) v0_ r/\Below w.heap.size w w':=by
 have HB:=Zz.mk (Below.refl w.heap.size w)
 have H:(r02_small.l0 k a0 ([]:List Int))=some r:=h
 clear h
 have H':=Zz.mk H
 clear H
 go_enter Try.func121,Try.ntmps121
 go_wp2
 go_loopg [0,3] k (fun kq v0 v3 w'=>∃ (x0_1:Int) (x3_1:List Int),v0=.int .i64 x0_1/\Zz (r02_small.l0 kq x0_1 x3_1=some r)/\Zz (kq<=k)/\Zz (Kd.R (Kd.int .i64) 3 w' w.heap.size (fun _=>True) v3 x3_1)/\Zz (Below w.heap.size w w'))
 case atStart=>exact ⟨(a0),(([]:List Int)),(by first|rfl|(simp;done)|(simp [*];done)),H',⟨Nat.le_refl _⟩,⟨by first|exact Kd.R_nil _ _ _ _ _|exact Kd.N_nil _ _ _ _ _|exact Kd.V_nil _ _ _ _ _|exact Kd.Q_nil _ _ _ _ _|exact Kd.S_nil _ _ _ _ _⟩,⟨by repeat (first|(with_reducible first|exact HB.out|apply Zb|apply Za|apply Zc)|exact HB.out)⟩⟩
 case round =>
  clear H'
  try clear c1
  obtain ⟨x0_1,x3_1,rfl,HA,HK1,HO_3,HB⟩:=hrel
  cases gk with
  | zero=>exact absurd HA.out (by simp [r02_small.l0])
  | succ k1 =>
   have H:=HA.out
   clear HA
   simp only [r02_small.l0] at H
   by_cases c2:x0_1>0
   ·rw [if_pos c2] at H
    have c2b0:decide (0<x0_1)=true:=decide_eq_true c2
    clear c2
    by_cases c3:x3_1.length<17592186044416
    ·rw [if_pos c3] at H
     have LMc3:=Zz.mk c3
     clear c3
     obtain ⟨y339,hy339⟩:∃y_:List Int,y_=(x3_1++[Int.tmod x0_1 10]):=⟨_,rfl⟩
     replace H:(r02_small.l0 k1 (wrap64 (Int.tdiv x0_1 10)) y339)=some r:=by first|(rw [hy339];with_reducible exact H)|(have H2_:=(Option.bind_some _ _).symm.trans H;rw [hy339];with_reducible exact H2_)|(have H2_:=(Option.bind_some _ _).symm.trans H;with_reducible exact H2_)|with_reducible exact H|(rw [hy339];exact H)|exact H
     have Ny339:=Zz.mk hy339
     clear hy339
     have H':=Zz.mk H
     clear H
     go_wp2_with (first|((with_reducible refine gate_builtin (b:=.append) (xs:=#[.tmp 8,.tmp 11]) rfl ?_);at_builtin;refine Kd.R_append (Kd.int .i64) (w0:=w) w.heap.size rfl (.tmp 8) (.tmp 11) 135 3 (.int .i64 0) 8 rfl Try.underlying135 info3 rfl (by decide) (by omega) u3 x3_1 (Int.tmod x0_1 10) [.int .i64 (Int.tmod x0_1 10)] (fun _=>True) (fun _=>False) rfl rfl ?aP (fun _ hk=>hk.elim) ?aF ?aO ?aB ?aS ?aL ?_;(case aP=>exact rfl);(case aB=>exact (by repeat (first|(with_reducible first|exact HB.out|apply Zb|apply Za|apply Zc)|exact HB.out)));(case aF=>exact (fun _ _=>trivial));(case aO=>exact (by (with_reducible repeat (first|apply Kd.R_alloc|apply Kd.R_drewN|apply Kd.R_drew));exact HO_3.out));(case aS=>exact (Zf (by repeat (first|(with_reducible first|exact HB.out|apply Zb|apply Za|apply Zc)|exact HB.out))));(case aL=>have:=LMc3.out;omega);intro v340 w4 ho hb hg hat;rw [<-Ny339.out] at ho;have n0_:=Zz.mk (hb);have n1_:=Zz.mk (ho);clear HB;clear HO_3;have HB:=n0_;have HO341:=n1_;clear n0_ n1_;clear ho hb hg hat))
     go_roundg k1
     case measure=>have:=HK1.out;omega
     case rel=>exact ⟨(wrap64 (Int.tdiv x0_1 10)),(y339),(by first|rfl|(simp;done)|(simp [*];done)),H',⟨by have:=HK1.out;omega⟩,⟨by (with_reducible repeat (first|apply Kd.R_alloc|apply Kd.R_drewN|apply Kd.R_drew));exact HO341.out⟩,⟨by repeat (first|(with_reducible first|exact HB.out|apply Zb|apply Za|apply Zc)|exact HB.out)⟩⟩
    ·rw [if_neg c3] at H
     exact absurd H (by simp)
   ·rw [if_neg c2] at H
    have c2b0:decide (0<x0_1)=false:=decide_eq_false c2
    clear c2
    obtain rfl:=Option.some.inj H
    go_wp2
    go_ret
    exact ⟨_,by first|rfl|(simp [Zm,Zl]<;>rfl)|(simp [*,Zm,Zl]<;>rfl),by (with_reducible repeat (first|apply Kd.R_alloc|apply Kd.R_drewN|apply Kd.R_drew));exact HO_3.out,by repeat (first|(with_reducible first|exact HB.out|apply Zb|apply Za|apply Zc)|exact HB.out)⟩
def r02_FromLimbs.l0:Nat->List Int->List Int->Int->Option (List Int)
 | 0,_,_,_=>none
 | k+1,x0,x3,x4=>if x4 ≥ 0 then ((r02_times.f k x3 4294967296).bind fun t342=>(if 0<=x4 then (if x4<(x0.length:Int) then ((r02_small.f k (wrap64 (rd x0 x4))).bind fun t346=>((r02_add.f k t342 t346).bind fun t349=>(r02_FromLimbs.l0 k x0 t349 (wrap64 (x4-1))))) else (none)) else (none))) else (some x3)
def r02_FromLimbs.f (k:Nat) (l0:List Int):Option (List Int):=r02_FromLimbs.l0 k l0 ([]:List Int) (wrap64 ((l0.length:Int)-1))
def r02_FromLimbs.T5:Bool × List (List Nat × List Nat):=(true,[([],[]),([0],[0]),([],[]),([],[]),([2,3],[2,3]),([4],[4]),([5],[5]),([6,1],[6]),([1,7,7],[1,7]),([8,8,0,1,2,3,4,5,6,7,8],[0,8])])
def r02_FromLimbs.B5:List Nat:=[0,1,0,0,12,28,60,127,255,511]
theorem r02_FromLimbs.tab5:rtab .any (opsOf Try.f102 5)=r02_FromLimbs.T5:=by kernel_rfl
theorem r02_FromLimbs.bits5:waitsOk r02_FromLimbs.T5.2 r02_FromLimbs.B5=true:=by kernel_rfl
set_option maxHeartbeats 8000000 in
set_option maxRecDepth 100000 in
theorem r02_FromLimbs.calls (k:Nat) (A0:Option Addr) (c0:Nat) (l0:List Int) (r:List Int) (w:World) (hr0:Kd.C (Kd.int .u32) w A0 l0.length l0) (hc0:l0.length<=c0) (h:r02_FromLimbs.f k l0=some r) :
  Calls Try.prog 102 #[.slice A0 l0.length c0] w fun e w'=>∃v0_:Value,e=.returned (v0_)/\Kd.V (Kd.int .i64) 3 w' w.heap.size (fun k_=>(w.heap.size<=k_)) v0_ r/\Below w.heap.size w w':=by
 have HR0:=Zz.mk hr0
 have HC0:=Zz.mk hc0
 clear hr0 hc0
 have HB:=Zz.mk (Below.refl w.heap.size w)
 have H:(r02_FromLimbs.l0 k l0 ([]:List Int) (wrap64 ((l0.length:Int)-1)))=some r:=h
 clear h
 have H':=Zz.mk H
 clear H
 go_enter Try.func102,Try.ntmps102
 go_wp2
 go_loopg [3,4] k (fun kq v3 v4 w'=>∃ (x3_1:List Int) (x4_1:Int),v4=.int .i64 x4_1/\Zz (r02_FromLimbs.l0 kq l0 x3_1 x4_1=some r)/\Zz (kq<=k)/\Zz (Kd.V (Kd.int .i64) 3 w' w.heap.size (fun k_=>(w.heap.size<=k_)) v3 x3_1)/\Zz (Below w.heap.size w w'))
 case atStart=>exact ⟨(([]:List Int)),(wrap64 ((l0.length:Int)-1)),(by first|rfl|(simp;done)|(simp [*];done)),H',⟨Nat.le_refl _⟩,⟨Kd.V_nil _ _ _ _ _⟩,⟨by repeat (first|(with_reducible first|exact HB.out|apply Zb|apply Za|apply Zc)|exact HB.out)⟩⟩
 case round =>
  clear H'
  try clear c1
  obtain ⟨x3_1,x4_1,rfl,HA,HK1,HO_3,HB⟩:=hrel
  cases gk with
  | zero=>exact absurd HA.out (by simp [r02_FromLimbs.l0])
  | succ k1 =>
   have H:=HA.out
   clear HA
   simp only [r02_FromLimbs.l0] at H
   by_cases c2:x4_1 ≥ 0
   ·rw [if_pos c2] at H
    have c2b0:decide (0<=x4_1)=true:=decide_eq_true c2
    clear c2
    replace H:=Option.bind_eq_some_iff.mp H
    obtain ⟨t342,A30,H⟩:=H
    replace H:(if 0<=x4_1 then (if x4_1<(l0.length:Int) then ((r02_small.f k1 (wrap64 (rd l0 x4_1))).bind fun t346=>((r02_add.f k1 t342 t346).bind fun t349=>(r02_FromLimbs.l0 k1 l0 t349 (wrap64 (x4_1-1))))) else (none)) else (none))=some r:=H
    have A3:=Zz.mk A30
    clear A30
    by_cases c4:0<=x4_1
    ·rw [if_pos c4] at H
     have c4b0:decide (0<=x4_1)=true:=decide_eq_true c4
     clear c4
     by_cases c5:x4_1<(l0.length:Int)
     ·rw [if_pos c5] at H
      have c5b0:decide (x4_1<(l0.length:Int))=true:=decide_eq_true c5
      clear c5
      replace H:=Option.bind_eq_some_iff.mp H
      obtain ⟨t346,A60,H⟩:=H
      replace H:((r02_add.f k1 t342 t346).bind fun t349=>(r02_FromLimbs.l0 k1 l0 t349 (wrap64 (x4_1-1))))=some r:=H
      have A6:=Zz.mk A60
      clear A60
      replace H:=Option.bind_eq_some_iff.mp H
      obtain ⟨t349,A70,H⟩:=H
      replace H:(r02_FromLimbs.l0 k1 l0 t349 (wrap64 (x4_1-1)))=some r:=H
      have A7:=Zz.mk A70
      clear A70
      have H':=Zz.mk H
      clear H
      try go_wp2
      have n0_:=Zz.mk (Kd.V_drew HO_3.out)
      have n1_:=Zz.mk (Zc HB.out)
      clear HO_3
      clear HB
      have HO_3:=n0_
      have HB:=n1_
      clear n0_ n1_
      have p345:0<=(x4_1:Int):=of_decide_eq_true (by first|(with_reducible assumption)|assumption)
      have q345:x4_1<(l0.length:Int):=of_decide_eq_true (by first|(with_reducible assumption)|assumption)
      obtain ⟨ad345,e345,hx345_0⟩:=Kd.at_int HR0.out x4_1 p345 q345
      have hw345_0:=hx345_0
      cases e345
      replace hx345_0:=(HB.out.cell (World.block_lt_of_cell? w _ hx345_0)).trans hx345_0
      replace p345:=eq_true p345
      replace q345:=eq_true q345
      obtain ⟨Ao9,co9,eo9⟩:=Kd.V_slice HO_3.out
      (first|subst eo9|(injection eo9 with f1_ f2_ f3_;have f4_:=f1_.symm;have f5_:=f3_.symm;clear f1_ f2_ f3_;subst f4_;subst f5_))
      refine start_ (n:=10) (S:=fun w'=>w'.cell? (ad345.add (x4_1).toNat)=some (.int .u32 (rd l0 x4_1))) (ds:=[]) #[false,false,false,false,false,false,false,false,false,false] (by kernel_rfl) rfl rfl (((HB.out.cell (World.block_lt_of_cell? w _ hw345_0)).trans hw345_0)) (fun hHeld=>?_);refine with_tabW r02_FromLimbs.tab5 r02_FromLimbs.bits5 (fun HT_ HW_=>?_)
      generalize wr.drew=w8 at HO_3 HB hx345_0 hHeld ⊢
      refine pure_ (i:=0) (N:=some 12) (v:=?_) (a':=?_) #[true,false,false,false,false,false,false,false,false,false] rfl rfl (Z3 HT_.out (by kernel_rfl)) (fun _ _ _ h=>h) (Or.inl ⟨by rfl,?_⟩) ?_ ?_
      rotate_left
      ·intro w'
       go_simp
       with_reducible rfl
      rotate_left
      ·simp only [Act.put,List.setIfInBounds_toArray,List.set_cons_zero,List.set_cons_succ,Z6,Z7]
       rfl
      refine pure_ (i:=2) (N:=some 14) (v:=?_) (a':=?_) #[true,false,true,false,false,false,false,false,false,false] rfl rfl (Z3 HT_.out (by kernel_rfl)) (fun _ _ _ h=>h) (Or.inl ⟨by rfl,?_⟩) ?_ ?_
      rotate_left
      ·intro w'
       go_simp
       with_reducible rfl
      rotate_left
      ·simp only [Act.put,List.setIfInBounds_toArray,List.set_cons_zero,List.set_cons_succ,Z6,Z7]
       rfl
      refine pure_ (i:=3) (N:=some 15) (v:=?_) (a':=?_) #[true,false,true,true,false,false,false,false,false,false] rfl rfl (Z3 HT_.out (by kernel_rfl)) (fun _ _ _ h=>h) (Or.inl ⟨by rfl,?_⟩) ?_ ?_
      rotate_left
      ·intro w'
       go_simp
       with_reducible rfl
      rotate_left
      ·simp only [Act.put,List.setIfInBounds_toArray,List.set_cons_zero,List.set_cons_succ,Z6,Z7]
       rfl
      refine pure_ (i:=4) (N:=some 16) (v:=?_) (a':=?_) #[true,false,true,true,true,false,false,false,false,false] rfl rfl (Z3 HT_.out (by kernel_rfl)) (fun _ _ _ h=>h) (Or.inl ⟨by rfl,?_⟩) ?_ ?_
      rotate_left
      ·intro w'
       go_simp
       with_reducible rfl
      rotate_left
      ·simp only [Act.put,List.setIfInBounds_toArray,List.set_cons_zero,List.set_cons_succ,Z6,Z7]
       rfl
      refine take_ (i:=5) (N:=some 17) (v:=?_) (a':=?_) #[true,false,true,true,true,true,false,false,false,false] rfl rfl (Zw HT_.out HW_.out (by kernel_rfl)) (fun _ _ _ h=>h) (Or.inl ⟨by rfl,?_⟩) hHeld ?_ ?_
      rotate_left
      ·intro w' s0
       go_simp
       with_reducible rfl
      rotate_left
      ·simp only [Act.put,List.setIfInBounds_toArray,List.set_cons_zero,List.set_cons_succ,Z6,Z7]
       rfl
      refine pure_ (i:=6) (N:=some 18) (v:=?_) (a':=?_) #[true,false,true,true,true,true,true,false,false,false] rfl rfl (Z3 HT_.out (by kernel_rfl)) (fun _ _ _ h=>h) (Or.inl ⟨by rfl,?_⟩) ?_ ?_
      rotate_left
      ·intro w'
       go_simp
       with_reducible rfl
      rotate_left
      ·simp only [Act.put,List.setIfInBounds_toArray,List.set_cons_zero,List.set_cons_succ,Z6,Z7]
       rfl
      refine one_ (i:=1) (N:=some 13) #[true,true,true,true,true,true,true,false,false,false] rfl rfl (one_of HT_.out (by kernel_rfl)) (by decide) (fun K hK=>?_)
      refine goes_ Try.func120 (by kernel_rfl) rfl #[.slice Ao9 x3_1.length co9,.int .i64 4294967296] (by rfl) rfl rfl (by (try simp only [List.map_toArray,List.map_cons,List.map_nil]);first|done|rfl|(simp only [List.length_drop,List.length_take];rfl)) ?_
      with_reducible refine (r02_times.calls k1 _ _ x3_1 4294967296 t342 _ ?side1 ?side2 A3.out).mono ?_
      (case side1=>repeat (first|exact (Kd.V_reads' HO_3.out).2.2|(with_reducible refine Kd.C_alloc ?_ _)|(with_reducible refine Kd.C_drewN ?_ _)|(with_reducible refine Kd.C_drew ?_)))
      (case side2=>exact (Kd.V_reads' HO_3.out).2.1)
      rintro e w10 ⟨v343,rfl,ho0,hb⟩
      refine ⟨_,rfl,?_⟩
      have n0_:=Zz.mk (Kd.V_below (by (with_reducible repeat (first|apply Kd.V_alloc|apply Kd.V_drewN|apply Kd.V_drew));exact HO_3.out) hb)
      have n1_:=Zz.mk (Kd.V_lower (Kd.V_mono (ok':=fun k_=>(w.heap.size<=k_)) ho0 (fun k_ hk_=>(Nat.le_trans (Zf (by repeat (first|(with_reducible first|exact HB.out|apply Zb|apply Za|apply Zc)|exact HB.out))) hk_))) (Zf (by repeat (first|(with_reducible first|exact HB.out|apply Zb|apply Za|apply Zc)|exact HB.out))))
      have n2_:=Zz.mk (Zi (by repeat (first|(with_reducible first|exact HB.out|apply Zb|apply Za|apply Zc)|exact HB.out)) hb)
      clear HO_3
      clear HB
      have HO_3:=n0_
      have HO344:=n1_
      have HB:=n2_
      clear n0_ n1_ n2_
      (try clear hb)
      (try clear hb2)
      (try clear hk)
      (try clear hi)
      (try clear ho0)
      refine hK.out _ _ (((HB.out.cell (World.block_lt_of_cell? w _ hw345_0)).trans hw345_0)) (fun hHeld=>?_)
      clear hK K
      refine norm_ (a':=?_) ?_ ?_
      rotate_left
      ·show Act.put _ (some 13) _=_
       simp only [Act.put,List.setIfInBounds_toArray,List.set_cons_zero,List.set_cons_succ,Z6,Z7]
       rfl
      refine one_ (i:=7) (N:=some 19) #[true,true,true,true,true,true,true,true,false,false] rfl rfl (one_of HT_.out (by kernel_rfl)) (by decide) (fun K hK=>?_)
      refine goes_ Try.func121 (by kernel_rfl) rfl #[.int .i64 (wrap64 (rd l0 x4_1))] (by rfl) rfl rfl (by (try simp only [List.map_toArray,List.map_cons,List.map_nil]);first|done|rfl|(simp only [List.length_drop,List.length_take];rfl)) ?_
      with_reducible refine (r02_small.calls k1 (wrap64 (rd l0 x4_1)) t346 _ A6.out).mono ?_
      rintro e w11 ⟨v347,rfl,ho0,hb⟩
      refine ⟨_,rfl,?_⟩
      have n0_:=Zz.mk (Kd.V_elder' (by (with_reducible repeat (first|apply Kd.V_alloc|apply Kd.V_drewN|apply Kd.V_drew));exact HO_3.out) (Kd.R_base ho0) hb)
      have n1_:=Zz.mk (Kd.V_elder' (by (with_reducible repeat (first|apply Kd.V_alloc|apply Kd.V_drewN|apply Kd.V_drew));exact HO344.out) (Kd.R_base ho0) hb)
      have n2_:=Zz.mk (Kd.R_lower (Kd.R_newM (M:=fun k_=>(w.heap.size<=k_)) ho0 (Zf (by repeat (first|(with_reducible first|exact HB.out|apply Zb|apply Za|apply Zc)|exact HB.out))) (fun k_ h_=>h_)) (Zf (by repeat (first|(with_reducible first|exact HB.out|apply Zb|apply Za|apply Zc)|exact HB.out))))
      have n3_:=Zz.mk (Zi (by repeat (first|(with_reducible first|exact HB.out|apply Zb|apply Za|apply Zc)|exact HB.out)) hb)
      clear HO_3
      clear HO344
      clear HB
      have HO_3:=n0_
      have HO344:=n1_
      have HO348:=n2_
      have HB:=n3_
      clear n0_ n1_ n2_ n3_
      (try clear hb)
      (try clear hb2)
      (try clear hk)
      (try clear hi)
      (try clear ho0)
      obtain ⟨Ao12,co12,eo12⟩:=Kd.V_slice HO344.out
      (first|subst eo12|(injection eo12 with f1_ f2_ f3_;have f4_:=f1_.symm;have f5_:=f3_.symm;clear f1_ f2_ f3_;subst f4_;subst f5_))
      obtain ⟨Ao13,co13,eo13⟩:=Kd.R_slice HO348.out
      (first|subst eo13|(injection eo13 with f1_ f2_ f3_;have f4_:=f1_.symm;have f5_:=f3_.symm;clear f1_ f2_ f3_;subst f4_;subst f5_))
      refine hK.out _ _ (((HB.out.cell (World.block_lt_of_cell? w _ hw345_0)).trans hw345_0)) (fun hHeld=>?_)
      clear hK K
      refine norm_ (a':=?_) ?_ ?_
      rotate_left
      ·show Act.put _ (some 19) _=_
       simp only [Act.put,List.setIfInBounds_toArray,List.set_cons_zero,List.set_cons_succ,Z6,Z7]
       rfl
      refine one_ (i:=8) (N:=some 20) #[true,true,true,true,true,true,true,true,true,false] rfl rfl (one_of HT_.out (by kernel_rfl)) (by decide) (fun K hK=>?_)
      refine goes_ Try.func111 (by kernel_rfl) rfl #[.slice Ao12 t342.length co12,.slice Ao13 t346.length co13] (by rfl) rfl rfl (by (try simp only [List.map_toArray,List.map_cons,List.map_nil]);first|done|rfl|(simp only [List.length_drop,List.length_take];rfl)) ?_
      with_reducible refine (r02_add.calls k1 _ _ t342 _ _ t346 t349 _ ?side1 ?side2 ?side3 ?side4 A7.out).mono ?_
      (case side1=>repeat (first|exact (Kd.V_reads' HO344.out).2.2|(with_reducible refine Kd.C_alloc ?_ _)|(with_reducible refine Kd.C_drewN ?_ _)|(with_reducible refine Kd.C_drew ?_)))
      (case side2=>exact (Kd.V_reads' HO344.out).2.1)
      (case side3=>repeat (first|exact (Kd.R_reads' HO348.out).2.2|(with_reducible refine Kd.C_alloc ?_ _)|(with_reducible refine Kd.C_drewN ?_ _)|(with_reducible refine Kd.C_drew ?_)))
      (case side4=>exact (Kd.R_reads' HO348.out).2.1)
      rintro e w14 ⟨v350,rfl,ho0,hb⟩
      refine ⟨_,rfl,?_⟩
      have n0_:=Zz.mk (Kd.V_below (by (with_reducible repeat (first|apply Kd.V_alloc|apply Kd.V_drewN|apply Kd.V_drew));exact HO_3.out) hb)
      have n1_:=Zz.mk (Kd.V_below (by (with_reducible repeat (first|apply Kd.V_alloc|apply Kd.V_drewN|apply Kd.V_drew));exact HO344.out) hb)
      have n2_:=Zz.mk (Kd.R_below (by (with_reducible repeat (first|apply Kd.R_alloc|apply Kd.R_drewN|apply Kd.R_drew));exact HO348.out) hb)
      have n3_:=Zz.mk (Kd.V_lower (Kd.V_mono (ok':=fun k_=>(w.heap.size<=k_)/\some k_≠(.slice Ao13 t346.length co13:Value).ownBlock) ho0 (fun k_ hk_=>⟨(Nat.le_trans (Zf (by repeat (first|(with_reducible first|exact HB.out|apply Zb|apply Za|apply Zc)|exact HB.out))) hk_),(Kd.fresh' (Kd.R_lt (by (with_reducible repeat (first|apply Kd.R_alloc|apply Kd.R_drewN|apply Kd.R_drew));exact HO348.out)) k_ hk_)⟩)) (Zf (by repeat (first|(with_reducible first|exact HB.out|apply Zb|apply Za|apply Zc)|exact HB.out))))
      have n4_:=Zz.mk (Zi (by repeat (first|(with_reducible first|exact HB.out|apply Zb|apply Za|apply Zc)|exact HB.out)) hb)
      clear HO_3
      clear HO344
      clear HO348
      clear HB
      have HO_3:=n0_
      have HO344:=n1_
      have HO348:=n2_
      have HO351:=n3_
      have HB:=n4_
      clear n0_ n1_ n2_ n3_ n4_
      (try clear hb)
      (try clear hb2)
      (try clear hk)
      (try clear hi)
      (try clear ho0)
      refine hK.out _ _ (((HB.out.cell (World.block_lt_of_cell? w _ hw345_0)).trans hw345_0)) (fun hHeld=>?_)
      clear hK K
      refine norm_ (a':=?_) ?_ ?_
      rotate_left
      ·show Act.put _ (some 20) _=_
       simp only [Act.put,List.setIfInBounds_toArray,List.set_cons_zero,List.set_cons_succ,Z6,Z7]
       rfl
      refine pure_ (i:=9) (N:=some 3) (v:=?_) (a':=?_) #[true,true,true,true,true,true,true,true,true,true] rfl rfl (Z3 HT_.out (by kernel_rfl)) (fun _ _ _ h=>h) (Or.inl ⟨by rfl,?_⟩) ?_ ?_
      rotate_left
      ·intro w'
       go_simp
       with_reducible rfl
      rotate_left
      ·simp only [Act.put,List.setIfInBounds_toArray,List.set_cons_zero,List.set_cons_succ,Z6,Z7]
       rfl
      refine done_ (done_of HT_.out (by kernel_rfl)) ?_
      try go_wp2
      go_roundg k1
      case measure=>have:=HK1.out;omega
      case rel=>exact ⟨(t349),(wrap64 (x4_1-1)),(by first|rfl|(simp;done)|(simp [*];done)),H',⟨by have:=HK1.out;omega⟩,⟨by (with_reducible repeat (first|apply Kd.V_alloc|apply Kd.V_drewN|apply Kd.V_drew));exact Kd.V_mono HO351.out (fun _ hk=>hk.1)⟩,⟨by repeat (first|(with_reducible first|exact HB.out|apply Zb|apply Za|apply Zc)|exact HB.out)⟩⟩
     ·rw [if_neg c5] at H
      exact absurd H (by simp)
    ·rw [if_neg c4] at H
     exact absurd H (by simp)
   ·rw [if_neg c2] at H
    have c2b0:decide (0<=x4_1)=false:=decide_eq_false c2
    clear c2
    obtain rfl:=Option.some.inj H
    go_wp2
    go_ret
    exact ⟨_,by first|rfl|(simp [Zm,Zl]<;>rfl)|(simp [*,Zm,Zl]<;>rfl),by (with_reducible repeat (first|apply Kd.V_alloc|apply Kd.V_drewN|apply Kd.V_drew));exact HO_3.out,by repeat (first|(with_reducible first|exact HB.out|apply Zb|apply Za|apply Zc)|exact HB.out)⟩
end Go.Proofs.Ytfldklimlcnnnaa.PHq
end

section
namespace Go.Proofs.Ytfldklimlcnnnaa.PHq
open Go.RowKit YtfldklimlcnnnaaW.PrintWords YtfldklimlcnnnaaW.PrintLast YtfldklimlcnnnaaW.PrintMore MWords
attribute [local go_sem] max2_int min2_int max_two min_two max_three min_three max_four min_four   -- for this text's walks alone
def r02_cmp.l0:Nat->List Int->List Int->Int->Option (Int)
 | 0,_,_,_=>none
 | k+1,x0,x1,x5=>if x5 ≥ 0 then (if 0<=x5 then (if x5<(x0.length:Int) then (if x5<(x1.length:Int) then (if (rd x0 x5)<(rd x1 x5) then (some (-1)) else (if (rd x0 x5)>(rd x1 x5) then (some 1) else (r02_cmp.l0 k x0 x1 (wrap64 (x5-1))))) else (none)) else (none)) else (none)) else (some 0)
def r02_cmp.f (k:Nat) (l0:List Int) (l1:List Int):Option (Int):=if (l0.length:Int)=(l1.length:Int) then (r02_cmp.l0 k l0 l1 (wrap64 ((l0.length:Int)-1))) else (if (l0.length:Int)<(l1.length:Int) then (some (-1)) else (some 1))
set_option maxHeartbeats 8000000 in
set_option maxRecDepth 100000 in
theorem r02_cmp.calls (k:Nat) (A0:Option Addr) (c0:Nat) (l0:List Int) (A1:Option Addr) (c1:Nat) (l1:List Int) (r:Int) (w:World) (hr0:Kd.C (Kd.int .i64) w A0 l0.length l0) (hc0:l0.length<=c0) (hr1:Kd.C (Kd.int .i64) w A1 l1.length l1) (hc1:l1.length<=c1) (h:r02_cmp.f k l0 l1=some r) :
  Calls Try.prog 101 #[.slice A0 l0.length c0,.slice A1 l1.length c1] w fun e w'=>e=.returned (.int .i64 r)/\Drawn0 w w':=by
 have HR0:=Zz.mk hr0
 have HC0:=Zz.mk hc0
 clear hr0 hc0
 have HR1:=Zz.mk hr1
 have HC1:=Zz.mk hc1
 clear hr1 hc1
 have H:(if (l0.length:Int)=(l1.length:Int) then (r02_cmp.l0 k l0 l1 (wrap64 ((l0.length:Int)-1))) else (if (l0.length:Int)<(l1.length:Int) then (some (-1)) else (some 1)))=some r:=h
 clear h
 by_cases c3:(l0.length:Int)=(l1.length:Int)
 ·rw [if_pos c3] at H
  have c3b0:((l0.length:Int) == (l1.length:Int))=true:=beq_iff_eq.mpr c3
  have c3b1:((l0.length:Int) != (l1.length:Int))=false:=bne_eq_false_iff_eq.mpr c3
  have c3b2:(l0.length == l1.length)=true:=by first|simpa using c3|(simp at c3 ⊢;omega)
  clear c3
  have H':=Zz.mk H
  clear H
  go_enter Try.func101,Try.ntmps101
  go_wp2
  repeat (go_quiet (fail);try go_wp2)
  go_loopg [5] k (fun kq v5 w'=>∃ (x5_1:Int),v5=.int .i64 x5_1/\Zz (r02_cmp.l0 kq l0 l1 x5_1=some r)/\Zz (kq<=k)/\Drawn0 w w')
  case atStart=>exact ⟨(wrap64 ((l0.length:Int)-1)),(by first|rfl|(simp;done)|(simp [*];done)),H',⟨Nat.le_refl _⟩,by repeat (first|exact Drawn0.refl _|apply Drawn0.step)⟩
  case round =>
   clear H'
   try clear c1
   try clear p2
   try clear c3
   try clear c3b0
   try clear c3b1
   try clear c3b2
   obtain ⟨x5_1,rfl,HA,HK1,⟨m1,rfl⟩⟩:=hrel
   cases gk with
   | zero=>exact absurd HA.out (by simp [r02_cmp.l0])
   | succ k1 =>
    have H:=HA.out
    clear HA
    simp only [r02_cmp.l0] at H
    by_cases c4:x5_1 ≥ 0
    ·rw [if_pos c4] at H
     have c4b0:decide (0<=x5_1)=true:=decide_eq_true c4
     clear c4
     by_cases c5:0<=x5_1
     ·rw [if_pos c5] at H
      have c5b0:decide (0<=x5_1)=true:=decide_eq_true c5
      clear c5
      by_cases c6:x5_1<(l0.length:Int)
      ·rw [if_pos c6] at H
       have c6b0:decide (x5_1<(l0.length:Int))=true:=decide_eq_true c6
       clear c6
       by_cases c7:x5_1<(l1.length:Int)
       ·rw [if_pos c7] at H
        have c7b0:decide (x5_1<(l1.length:Int))=true:=decide_eq_true c7
        clear c7
        by_cases c8:(rd l0 x5_1)<(rd l1 x5_1)
        ·rw [if_pos c8] at H
         have c8b0:decide ((rd l0 x5_1)<(rd l1 x5_1))=true:=decide_eq_true c8
         clear c8
         obtain rfl:=Option.some.inj H
         have p301:0<=(x5_1:Int):=of_decide_eq_true (by first|(with_reducible assumption)|assumption)
         have q301:x5_1<(l0.length:Int):=of_decide_eq_true (by first|(with_reducible assumption)|assumption)
         obtain ⟨ad301,e301,hx301_0⟩:=Kd.at_int HR0.out x5_1 p301 q301
         cases e301
         replace p301:=eq_true p301
         replace q301:=eq_true q301
         have p302:0<=(x5_1:Int):=of_decide_eq_true (by first|(with_reducible assumption)|assumption)
         have q302:x5_1<(l1.length:Int):=of_decide_eq_true (by first|(with_reducible assumption)|assumption)
         obtain ⟨ad302,e302,hx302_0⟩:=Kd.at_int HR1.out x5_1 p302 q302
         cases e302
         replace p302:=eq_true p302
         replace q302:=eq_true q302
         go_wp2
         repeat (go_quiet (fail);try go_wp2)
         go_ret
         exact ⟨by first|rfl|(simp;done)|(simp [*];done),by repeat (first|exact Drawn0.refl _|apply Drawn0.step)⟩
        ·rw [if_neg c8] at H
         have c8b0:decide ((rd l0 x5_1)<(rd l1 x5_1))=false:=decide_eq_false c8
         clear c8
         by_cases c9:(rd l0 x5_1)>(rd l1 x5_1)
         ·rw [if_pos c9] at H
          have c9b0:decide ((rd l1 x5_1)<(rd l0 x5_1))=true:=decide_eq_true c9
          clear c9
          obtain rfl:=Option.some.inj H
          have p301:0<=(x5_1:Int):=of_decide_eq_true (by first|(with_reducible assumption)|assumption)
          have q301:x5_1<(l0.length:Int):=of_decide_eq_true (by first|(with_reducible assumption)|assumption)
          obtain ⟨ad301,e301,hx301_0⟩:=Kd.at_int HR0.out x5_1 p301 q301
          cases e301
          replace p301:=eq_true p301
          replace q301:=eq_true q301
          have p302:0<=(x5_1:Int):=of_decide_eq_true (by first|(with_reducible assumption)|assumption)
          have q302:x5_1<(l1.length:Int):=of_decide_eq_true (by first|(with_reducible assumption)|assumption)
          obtain ⟨ad302,e302,hx302_0⟩:=Kd.at_int HR1.out x5_1 p302 q302
          cases e302
          replace p302:=eq_true p302
          replace q302:=eq_true q302
          have p303:0<=(x5_1:Int):=of_decide_eq_true (by first|(with_reducible assumption)|assumption)
          have q303:x5_1<(l0.length:Int):=of_decide_eq_true (by first|(with_reducible assumption)|assumption)
          obtain ⟨ad303,e303,hx303_0⟩:=Kd.at_int HR0.out x5_1 p303 q303
          obtain rfl:ad301=ad303:=(by injection e303)
          replace p303:=eq_true p303
          replace q303:=eq_true q303
          have p304:0<=(x5_1:Int):=of_decide_eq_true (by first|(with_reducible assumption)|assumption)
          have q304:x5_1<(l1.length:Int):=of_decide_eq_true (by first|(with_reducible assumption)|assumption)
          obtain ⟨ad304,e304,hx304_0⟩:=Kd.at_int HR1.out x5_1 p304 q304
          obtain rfl:ad302=ad304:=(by injection e304)
          replace p304:=eq_true p304
          replace q304:=eq_true q304
          go_wp2
          repeat (go_quiet (fail);try go_wp2)
          go_ret
          exact ⟨by first|rfl|(simp;done)|(simp [*];done),by repeat (first|exact Drawn0.refl _|apply Drawn0.step)⟩
         ·rw [if_neg c9] at H
          have c9b0:decide ((rd l1 x5_1)<(rd l0 x5_1))=false:=decide_eq_false c9
          clear c9
          have H':=Zz.mk H
          clear H
          have p301:0<=(x5_1:Int):=of_decide_eq_true (by first|(with_reducible assumption)|assumption)
          have q301:x5_1<(l0.length:Int):=of_decide_eq_true (by first|(with_reducible assumption)|assumption)
          obtain ⟨ad301,e301,hx301_0⟩:=Kd.at_int HR0.out x5_1 p301 q301
          cases e301
          replace p301:=eq_true p301
          replace q301:=eq_true q301
          have p302:0<=(x5_1:Int):=of_decide_eq_true (by first|(with_reducible assumption)|assumption)
          have q302:x5_1<(l1.length:Int):=of_decide_eq_true (by first|(with_reducible assumption)|assumption)
          obtain ⟨ad302,e302,hx302_0⟩:=Kd.at_int HR1.out x5_1 p302 q302
          cases e302
          replace p302:=eq_true p302
          replace q302:=eq_true q302
          have p303:0<=(x5_1:Int):=of_decide_eq_true (by first|(with_reducible assumption)|assumption)
          have q303:x5_1<(l0.length:Int):=of_decide_eq_true (by first|(with_reducible assumption)|assumption)
          obtain ⟨ad303,e303,hx303_0⟩:=Kd.at_int HR0.out x5_1 p303 q303
          obtain rfl:ad301=ad303:=(by injection e303)
          replace p303:=eq_true p303
          replace q303:=eq_true q303
          have p304:0<=(x5_1:Int):=of_decide_eq_true (by first|(with_reducible assumption)|assumption)
          have q304:x5_1<(l1.length:Int):=of_decide_eq_true (by first|(with_reducible assumption)|assumption)
          obtain ⟨ad304,e304,hx304_0⟩:=Kd.at_int HR1.out x5_1 p304 q304
          obtain rfl:ad302=ad304:=(by injection e304)
          replace p304:=eq_true p304
          replace q304:=eq_true q304
          go_wp2
          repeat (go_quiet (fail);try go_wp2)
          go_roundg k1
          case measure=>have:=HK1.out;omega
          case rel=>exact ⟨(wrap64 (x5_1-1)),(by first|rfl|(simp;done)|(simp [*];done)),H',⟨by have:=HK1.out;omega⟩,by repeat (first|exact Drawn0.refl _|apply Drawn0.step)⟩
       ·rw [if_neg c7] at H
        exact absurd H (by simp)
      ·rw [if_neg c6] at H
       exact absurd H (by simp)
     ·rw [if_neg c5] at H
      exact absurd H (by simp)
    ·rw [if_neg c4] at H
     have c4b0:decide (0<=x5_1)=false:=decide_eq_false c4
     clear c4
     obtain rfl:=Option.some.inj H
     go_wp2
     repeat (go_quiet (fail);try go_wp2)
     go_ret
     exact ⟨by first|rfl|(simp;done)|(simp [*];done),by repeat (first|exact Drawn0.refl _|apply Drawn0.step)⟩
 ·rw [if_neg c3] at H
  have c3b0:((l0.length:Int) == (l1.length:Int))=false:=beq_eq_false_iff_ne.mpr c3
  have c3b1:((l0.length:Int) != (l1.length:Int))=true:=bne_iff_ne.mpr c3
  have c3b2:(l0.length == l1.length)=false:=by first|simpa using c3|(simp at c3 ⊢;omega)
  by_cases c10:(l0.length:Int)<(l1.length:Int)
  ·rw [if_pos c10] at H
   have c10b0:decide ((l0.length:Int)<(l1.length:Int))=true:=decide_eq_true c10
   have c10b1:decide (l0.length<l1.length)=true:=decide_eq_true (Int.ofNat_lt.mp c10)
   clear c10
   obtain rfl:=Option.some.inj H
   go_enter Try.func101,Try.ntmps101
   go_wp2
   repeat (go_quiet (fail);try go_wp2)
   go_ret
   exact ⟨by first|rfl|(simp;done)|(simp [*];done),by repeat (first|exact Drawn0.refl _|apply Drawn0.step)⟩
  ·rw [if_neg c10] at H
   have c10b0:decide ((l0.length:Int)<(l1.length:Int))=false:=decide_eq_false c10
   have c10b1:decide (l0.length<l1.length)=false:=decide_eq_false (fun h=>c10 (Int.ofNat_lt.mpr h))
   clear c10
   obtain rfl:=Option.some.inj H
   go_enter Try.func101,Try.ntmps101
   go_wp2
   repeat (go_quiet (fail);try go_wp2)
   go_ret
   exact ⟨by first|rfl|(simp;done)|(simp [*];done),by repeat (first|exact Drawn0.refl _|apply Drawn0.step)⟩
def r02_Cmp.f (k:Nat) (l0:List Int) (l1:List Int):Option (Int):=(r02_FromLimbs.f k l0).bind fun t352=>((r02_FromLimbs.f k l1).bind fun t355=>((r02_cmp.f k t352 t355).bind fun t358=>(some t358)))
set_option maxHeartbeats 8000000 in
set_option maxRecDepth 100000 in
theorem r02_Cmp.calls (k:Nat) (A0:Option Addr) (c0:Nat) (l0:List Int) (A1:Option Addr) (c1:Nat) (l1:List Int) (r:Int) (w:World) (hr0:Kd.C (Kd.int .u32) w A0 l0.length l0) (hc0:l0.length<=c0) (hr1:Kd.C (Kd.int .u32) w A1 l1.length l1) (hc1:l1.length<=c1) (h:r02_Cmp.f k l0 l1=some r) :
  Calls Try.prog 68 #[.slice A0 l0.length c0,.slice A1 l1.length c1] w fun e w'=>e=.returned (.int .i64 r)/\Below w.heap.size w w':=by
 have HR0:=Zz.mk hr0
 have HC0:=Zz.mk hc0
 clear hr0 hc0
 have HR1:=Zz.mk hr1
 have HC1:=Zz.mk hc1
 clear hr1 hc1
 have HB:=Zz.mk (Below.refl w.heap.size w)
 have H:((r02_FromLimbs.f k l0).bind fun t352=>((r02_FromLimbs.f k l1).bind fun t355=>((r02_cmp.f k t352 t355).bind fun t358=>(some t358))))=some r:=h
 clear h
 replace H:=Option.bind_eq_some_iff.mp H
 obtain ⟨t352,A30,H⟩:=H
 replace H:((r02_FromLimbs.f k l1).bind fun t355=>((r02_cmp.f k t352 t355).bind fun t358=>(some t358)))=some r:=H
 have A3:=Zz.mk A30
 clear A30
 replace H:=Option.bind_eq_some_iff.mp H
 obtain ⟨t355,A40,H⟩:=H
 replace H:((r02_cmp.f k t352 t355).bind fun t358=>(some t358))=some r:=H
 have A4:=Zz.mk A40
 clear A40
 replace H:=Option.bind_eq_some_iff.mp H
 obtain ⟨t358,A50,H⟩:=H
 replace H:(some t358)=some r:=H
 have A5:=Zz.mk A50
 clear A50
 obtain rfl:=Option.some.inj H
 go_enter Try.func68,Try.ntmps68
 go_wp2_with (first|((with_reducible refine Zs (f:=102) rfl ?_);refine Zv (some 6) rfl rfl Try.func102 (by kernel_rfl) rfl #[.slice A0 l0.length c0] rfl (by (try simp only [List.map_toArray,List.map_cons,List.map_nil]);first|done|rfl|(simp only [List.length_drop,List.length_take];rfl)) ?_;(with_reducible refine (r02_FromLimbs.calls k _ _ l0 t352 _ ?side1 ?side2 A3.out).mono ?_);(case side1=>repeat (first|exact HR0.out|(with_reducible refine Kd.C_alloc ?_ _)|(with_reducible refine Kd.C_drewN ?_ _)|(with_reducible refine Kd.C_drew ?_)));(case side2=>exact HC0.out);rintro e w6 ⟨v353,rfl,ho0,hb⟩;refine ⟨_,rfl,?_⟩;have n0_:=Zz.mk (Kd.V_lower (Kd.V_mono (ok':=fun k_=>True) ho0 (fun k_ hk_=>trivial)) (Zf (by repeat (first|(with_reducible first|exact HB.out|apply Zb|apply Za|apply Zc)|exact HB.out))));have n1_:=Zz.mk (Zi (by repeat (first|(with_reducible first|exact HB.out|apply Zb|apply Za|apply Zc)|exact HB.out)) hb);clear HB;have HO354:=n0_;have HB:=n1_;clear n0_ n1_;(try clear hb);(try clear hb2);(try clear hk);(try clear hi);(try clear ho0);(try clear A3))|((with_reducible refine Zs (f:=102) rfl ?_);refine Zv (some 8) rfl rfl Try.func102 (by kernel_rfl) rfl #[.slice A1 l1.length c1] rfl (by (try simp only [List.map_toArray,List.map_cons,List.map_nil]);first|done|rfl|(simp only [List.length_drop,List.length_take];rfl)) ?_;(with_reducible refine (r02_FromLimbs.calls k _ _ l1 t355 _ ?side1 ?side2 A4.out).mono ?_);(case side1=>repeat (first|exact (Kd.C_below HR1.out HB.out)|(with_reducible refine Kd.C_alloc ?_ _)|(with_reducible refine Kd.C_drewN ?_ _)|(with_reducible refine Kd.C_drew ?_)));(case side2=>exact HC1.out);rintro e w7 ⟨v356,rfl,ho0,hb⟩;refine ⟨_,rfl,?_⟩;have n0_:=Zz.mk (Kd.V_below (by (with_reducible repeat (first|apply Kd.V_alloc|apply Kd.V_drewN|apply Kd.V_drew));exact HO354.out) hb);have n1_:=Zz.mk (Kd.V_lower (Kd.V_mono (ok':=fun k_=>True) ho0 (fun k_ hk_=>trivial)) (Zf (by repeat (first|(with_reducible first|exact HB.out|apply Zb|apply Za|apply Zc)|exact HB.out))));have n2_:=Zz.mk (Zi (by repeat (first|(with_reducible first|exact HB.out|apply Zb|apply Za|apply Zc)|exact HB.out)) hb);clear HO354;clear HB;have HO354:=n0_;have HO357:=n1_;have HB:=n2_;clear n0_ n1_ n2_;(try clear hb);(try clear hb2);(try clear hk);(try clear hi);(try clear ho0);obtain ⟨Ao8,co8,eo8⟩:=Kd.V_slice HO354.out;subst eo8;obtain ⟨Ao9,co9,eo9⟩:=Kd.V_slice HO357.out;subst eo9;(try clear A4))|((with_reducible refine Zs (f:=101) rfl ?_);refine Zv (some 9) rfl rfl Try.func101 (by kernel_rfl) rfl #[.slice Ao8 t352.length co8,.slice Ao9 t355.length co9] rfl (by (try simp only [List.map_toArray,List.map_cons,List.map_nil]);first|done|rfl|(simp only [List.length_drop,List.length_take];rfl)) ?_;(with_reducible refine (r02_cmp.calls k _ _ t352 _ _ t355 t358 _ ?side1 ?side2 ?side3 ?side4 A5.out).mono ?_);(case side1=>repeat (first|exact (Kd.V_reads' HO354.out).2.2|(with_reducible refine Kd.C_alloc ?_ _)|(with_reducible refine Kd.C_drewN ?_ _)|(with_reducible refine Kd.C_drew ?_)));(case side2=>exact (Kd.V_reads' HO354.out).2.1);(case side3=>repeat (first|exact (Kd.V_reads' HO357.out).2.2|(with_reducible refine Kd.C_alloc ?_ _)|(with_reducible refine Kd.C_drewN ?_ _)|(with_reducible refine Kd.C_drew ?_)));(case side4=>exact (Kd.V_reads' HO357.out).2.1);rintro e w' ⟨rfl,⟨nd,rfl⟩⟩;refine ⟨_,rfl,?_⟩))
 go_ret
 exact ⟨by first|rfl|(simp [Zm,Zl]<;>rfl)|(simp [*,Zm,Zl]<;>rfl),by repeat (first|(with_reducible first|exact HB.out|apply Zb|apply Za|apply Zc)|exact HB.out)⟩
def r02_div.l0:Nat->List Int->Int->List Int->Int->Int->Option (List Int × Int)
 | 0,_,_,_,_,_=>none
 | k+1,x0,x1,x6,x7,x8=>if x8 ≥ 0 then (if 0<=x8 then (if x8<(x0.length:Int) then (if x1=0 then (none) else (if x8<(x6.length:Int) then (r02_div.l0 k x0 x1 (x6.set (x8:Int).toNat (wrap64 (Int.tdiv (wrap64 ((wrap64 (x7*10))+(rd x0 x8))) x1))) (Int.tmod (wrap64 ((wrap64 (x7*10))+(rd x0 x8))) x1) (wrap64 (x8-1))) else (none))) else (none)) else (none)) else ((r02_cut.f k x6).bind fun t364=>(some (t364,x7)))
def r02_div.f (k:Nat) (l0:List Int) (a1:Int):Option (List Int × Int):=if 0<=(l0.length:Int) then (if ((l0.length:Int):Int).toNat<=35184372088832 then (r02_div.l0 k l0 a1 (List.replicate ((l0.length:Int):Int).toNat 0) 0 (wrap64 ((l0.length:Int)-1))) else (none)) else (none)
set_option maxHeartbeats 8000000 in
set_option maxRecDepth 100000 in
theorem r02_div.calls (k:Nat) (A0:Option Addr) (c0:Nat) (l0:List Int) (a1:Int) (r1:List Int) (r2:Int) (w:World) (hr0:Kd.C (Kd.int .i64) w A0 l0.length l0) (hc0:l0.length<=c0) (h:r02_div.f k l0 a1=some (r1,r2)) :
  Calls Try.prog 122 #[.slice A0 l0.length c0,.int .i64 a1] w fun e w'=>∃v0_:Value,e=.returned (.tuple #[v0_,.int .i64 r2])/\Kd.V (Kd.int .i64) 3 w' w.heap.size (fun k_=>(w.heap.size<=k_)) v0_ r1/\Below w.heap.size w w':=by
 have HR0:=Zz.mk hr0
 have HC0:=Zz.mk hc0
 clear hr0 hc0
 have HB:=Zz.mk (Below.refl w.heap.size w)
 have H:(if 0<=(l0.length:Int) then (if ((l0.length:Int):Int).toNat<=35184372088832 then (r02_div.l0 k l0 a1 (List.replicate ((l0.length:Int):Int).toNat 0) 0 (wrap64 ((l0.length:Int)-1))) else (none)) else (none))=some (r1,r2):=h
 clear h
 by_cases c3:0<=(l0.length:Int)
 ·rw [if_pos c3] at H
  have c3b0:=eq_true c3
  have c3b1:decide (0<=(l0.length:Int))=true:=decide_eq_true c3
  clear c3
  by_cases c4:((l0.length:Int):Int).toNat<=35184372088832
  ·rw [if_pos c4] at H
   have c4b0:=eq_true c4
   have c4b1:decide (((l0.length:Int):Int).toNat<=35184372088832)=true:=decide_eq_true c4
   clear c4
   obtain ⟨y359,hy359⟩:∃y_:List Int,y_=(List.replicate ((l0.length:Int):Int).toNat 0):=⟨_,rfl⟩
   replace H:(r02_div.l0 k l0 a1 y359 0 (wrap64 ((l0.length:Int)-1)))=some (r1,r2):=by first|(rw [hy359];with_reducible exact H)|(have H2_:=(Option.bind_some _ _).symm.trans H;rw [hy359];with_reducible exact H2_)|(have H2_:=(Option.bind_some _ _).symm.trans H;with_reducible exact H2_)|with_reducible exact H|(rw [hy359];exact H)|exact H
   have Ny359:=Zz.mk hy359
   clear hy359
   have H':=Zz.mk H
   clear H
   go_enter Try.func122,Try.ntmps122
   go_wp2_with (first|((with_reducible refine Zt (N:=11) rfl ?_);refine Kd.R_make (Kd.int .i64) _ 3 rfl (N:=11) rfl 135 _ _ rfl (l0.length:Int) rfl rfl Try.underlying135 (.int .i64 0) 8 info3 rfl (by decide) (by omega) 0 (ok:=fun _=>True) (okp:=fun _=>True) rfl (fun _ hk=>hk) trivial (of_decide_eq_true (by first|(with_reducible assumption)|assumption)) (Nat.le_trans (Nat.mul_le_mul_right _ (of_decide_eq_true (by first|(with_reducible assumption)|assumption):(l0.length:Int).toNat<=35184372088832)) (by omega)) (Below.refl _ _) (Nat.le_refl _) ?_;intro v360 w5 ho6 hb hg_ hnew_;clear hg_ hnew_;(first|rw [<-Ny359.out] at ho6|(simp only [Int.reduceToNat] at ho6;rw [<-Ny359.out] at ho6));have n0_:=Zz.mk (Kd.R_lower (Kd.R_newM (M:=fun k_=>(w.heap.size<=k_)) ho6 (Zf (by repeat (first|(with_reducible first|exact HB.out|apply Zb|apply Za|apply Zc)|exact HB.out))) (fun k_ h_=>h_)) (Zf (by repeat (first|(with_reducible first|exact HB.out|apply Zb|apply Za|apply Zc)|exact HB.out))));have n1_:=Zz.mk (Zi (by repeat (first|(with_reducible first|exact HB.out|apply Zb|apply Za|apply Zc)|exact HB.out)) hb);clear HB;have HO361:=n0_;have HB:=n1_;clear n0_ n1_;clear hb ho6))
   go_loopg [7,8] k (fun kq v7 v8 w'=>∃ (x6_1:List Int) (x7_1:Int) (x8_1:Int),v7=.int .i64 x7_1/\v8=.int .i64 x8_1/\Zz (r02_div.l0 kq l0 a1 x6_1 x7_1 x8_1=some (r1,r2))/\Zz (kq<=k)/\Zz (Kd.R (Kd.int .i64) 3 w' w.heap.size (fun k_=>(w.heap.size<=k_)) v360 x6_1)/\Zz (Below w.heap.size w w'))
   case atStart=>exact ⟨(y359),(0),(wrap64 ((l0.length:Int)-1)),(by first|rfl|(simp;done)|(simp [*];done)),(by first|rfl|(simp;done)|(simp [*];done)),H',⟨Nat.le_refl _⟩,⟨by (with_reducible repeat (first|apply Kd.R_alloc|apply Kd.R_drewN|apply Kd.R_drew));exact Kd.R_mono HO361.out (fun _ hk=>hk.1)⟩,⟨by repeat (first|(with_reducible first|exact HB.out|apply Zb|apply Za|apply Zc)|exact HB.out)⟩⟩
   case round =>
    clear H'
    try clear c1
    try clear p2
    try clear c3
    try clear c3b0
    try clear c3b1
    try clear c4
    try clear c4b0
    try clear c4b1
    try clear p6
    obtain ⟨x6_1,x7_1,x8_1,rfl,rfl,HA,HK1,HO_6,HB⟩:=hrel
    cases gk with
    | zero=>exact absurd HA.out (by simp [r02_div.l0])
    | succ k1 =>
     have H:=HA.out
     clear HA
     simp only [r02_div.l0] at H
     by_cases c7:x8_1 ≥ 0
     ·rw [if_pos c7] at H
      have c7b0:decide (0<=x8_1)=true:=decide_eq_true c7
      clear c7
      by_cases c8:0<=x8_1
      ·rw [if_pos c8] at H
       have c8b0:decide (0<=x8_1)=true:=decide_eq_true c8
       clear c8
       by_cases c9:x8_1<(l0.length:Int)
       ·rw [if_pos c9] at H
        have c9b0:decide (x8_1<(l0.length:Int))=true:=decide_eq_true c9
        clear c9
        by_cases c10:a1=0
        ·rw [if_pos c10] at H
         exact absurd H (by simp)
        ·rw [if_neg c10] at H
         have c10b0:(a1 == 0)=false:=beq_eq_false_iff_ne.mpr c10
         have c10b1:(a1 != 0)=true:=bne_iff_ne.mpr c10
         by_cases c11:x8_1<(x6_1.length:Int)
         ·rw [if_pos c11] at H
          have c11b0:decide (x8_1<(x6_1.length:Int))=true:=decide_eq_true c11
          clear c11
          obtain ⟨y363,hy363⟩:∃y_:List Int,y_=(x6_1.set (x8_1:Int).toNat (wrap64 (Int.tdiv (wrap64 ((wrap64 (x7_1*10))+(rd l0 x8_1))) a1))):=⟨_,rfl⟩
          replace H:(r02_div.l0 k1 l0 a1 y363 (Int.tmod (wrap64 ((wrap64 (x7_1*10))+(rd l0 x8_1))) a1) (wrap64 (x8_1-1)))=some (r1,r2):=by first|(rw [hy363];with_reducible exact H)|(have H2_:=(Option.bind_some _ _).symm.trans H;rw [hy363];with_reducible exact H2_)|(have H2_:=(Option.bind_some _ _).symm.trans H;with_reducible exact H2_)|with_reducible exact H|(rw [hy363];exact H)|exact H
          have Ny363:=Zz.mk hy363
          clear hy363
          have H':=Zz.mk H
          clear H
          have p362:0<=(x8_1:Int):=of_decide_eq_true (by first|(with_reducible assumption)|assumption)
          have q362:x8_1<(l0.length:Int):=of_decide_eq_true (by first|(with_reducible assumption)|assumption)
          obtain ⟨ad362,e362,hx362_0⟩:=Kd.at_int HR0.out x8_1 p362 q362
          cases e362
          replace hx362_0:=(HB.out.cell (World.block_lt_of_cell? w _ hx362_0)).trans hx362_0
          replace p362:=eq_true p362
          replace q362:=eq_true q362
          have p12:0<=(x8_1:Int):=of_decide_eq_true (by first|(with_reducible assumption)|assumption)
          have q12:(x8_1:Int)<((x6_1.length:Int):Int):=of_decide_eq_true (by first|(with_reducible assumption)|assumption)
          obtain ⟨go12,co12,eo12,gb12,gl12,cl12,HG12⟩:=Kd.R_form HO_6.out (by omega)
          (first|cases eo12|(injection eo12 with ea_ en_ ec_;(first|subst ea_|(injection ea_ with ea_;subst ea_));subst ec_;clear en_))
          have GB12:=Zz.mk gb12
          have GG12:=Zz.mk HG12
          clear gb12 gl12 HG12
          obtain ⟨hx12_0,hf12_0⟩:=Kd.R_celln 0 HO_6.out (x8_1:Int) p12 q12
          replace p12:=eq_true p12
          replace q12:=eq_true q12
          have HP13:=Kd.R_putg HO_6.out (x8_1:Int) (wrap64 (Int.tdiv (wrap64 ((wrap64 (x7_1*10))+(rd l0 x8_1))) a1))
          go_wp2_with (first|((with_reducible refine gate_store (t:=3) (p:=31) rfl ?_);refine store_event (t:=3) (p:=31) (v:=?vo_w14) (w1:=(wr.setCell ⟨go12,(x8_1:Int).toNat,none⟩ (.int .i64 (wrap64 (Int.tdiv (wrap64 ((wrap64 (x7_1*10))+(rd l0 x8_1))) a1))))) ?hg ?ho ?hn ?hr ?_;(case ho=>rfl);(case hg=>rfl);(case hn=>rfl);(case hr=>first|(go_simp;done)|(go_simp;rfl));intro w14 hw;have hg:wr.grownBy w14 (some go12):=(by rw [hw];exact HP13.2);have hp_:Kd.R (Kd.int .i64) 3 w14 w.heap.size (fun k_=>(w.heap.size<=k_)) (.slice (some ⟨go12,0,none⟩) x6_1.length co12) y363:=(by rw [hw,Ny363.out];exact HP13.1);clear HP13;have n0_:=Zz.mk (hp_);have n1_:=Zz.mk ((by rw [hw];exact Zd (HB.out) GB12.out:Below w.heap.size w w14));clear HO_6;clear HB;have HO_6:=n0_;have HB:=n1_;clear n0_ n1_;clear hg hw hp_))
          go_roundg k1
          case measure=>have:=HK1.out;omega
          case rel=>exact ⟨(y363),(Int.tmod (wrap64 ((wrap64 (x7_1*10))+(rd l0 x8_1))) a1),(wrap64 (x8_1-1)),(by first|rfl|(simp;done)|(simp [*];done)),(by first|rfl|(simp;done)|(simp [*];done)),H',⟨by have:=HK1.out;omega⟩,⟨by (with_reducible repeat (first|apply Kd.R_alloc|apply Kd.R_drewN|apply Kd.R_drew));exact HO_6.out⟩,⟨by repeat (first|(with_reducible first|exact HB.out|apply Zb|apply Za|apply Zc)|exact HB.out)⟩⟩
         ·rw [if_neg c11] at H
          exact absurd H (by simp)
       ·rw [if_neg c9] at H
        exact absurd H (by simp)
      ·rw [if_neg c8] at H
       exact absurd H (by simp)
     ·rw [if_neg c7] at H
      have c7b0:decide (0<=x8_1)=false:=decide_eq_false c7
      clear c7
      replace H:=Option.bind_eq_some_iff.mp H
      obtain ⟨t364,A150,H⟩:=H
      replace H:(some (t364,x7_1))=some (r1,r2):=H
      have A15:=Zz.mk A150
      clear A150
      simp only [Option.some.injEq,Prod.mk.injEq] at H
      obtain ⟨rfl,rfl⟩:=H
      obtain ⟨Ao16,co16,eo16⟩:=Kd.R_slice HO_6.out
      subst eo16
      go_wp2_with (first|((with_reducible refine Zs (f:=123) rfl ?_);refine Zv (some 36) rfl rfl Try.func123 (by kernel_rfl) rfl #[.slice Ao16 x6_1.length co16] rfl (by (try simp only [List.map_toArray,List.map_cons,List.map_nil]);first|done|rfl|(simp only [List.length_drop,List.length_take];rfl)) ?_;(with_reducible refine (r02_cut.calls k1 (fun k_=>some k_=(.slice Ao16 x6_1.length co16:Value).ownBlock) _ _ x6_1 t364 _ ?side1 A15.out).mono ?_);(case side1=>exact Kd.R_V (Kd.R_tight rfl (HO_6.out)));rintro e w17 ⟨v365,rfl,ho0,hb⟩;refine ⟨_,rfl,?_⟩;have n0_:=Zz.mk (Kd.R_below (by (with_reducible repeat (first|apply Kd.R_alloc|apply Kd.R_drewN|apply Kd.R_drew));exact HO_6.out) hb);have n1_:=Zz.mk (Kd.V_lower (Kd.V_mono (ok':=fun k_=>(w.heap.size<=k_)) ho0 (fun k_ hk_=>Or.elim hk_ (fun hs_=>((HO_6.out).1 k_ hs_.symm)) (fun hn_=>(Nat.le_trans (Zf (by repeat (first|(with_reducible first|exact HB.out|apply Zb|apply Za|apply Zc)|exact HB.out))) hn_)))) (Zf (by repeat (first|(with_reducible first|exact HB.out|apply Zb|apply Za|apply Zc)|exact HB.out))));have n2_:=Zz.mk (Zi (by repeat (first|(with_reducible first|exact HB.out|apply Zb|apply Za|apply Zc)|exact HB.out)) hb);clear HO_6;clear HB;have HO_6:=n0_;have HO366:=n1_;have HB:=n2_;clear n0_ n1_ n2_;(try clear hb);(try clear hb2);(try clear hk);(try clear hi);(try clear ho0)))
      go_ret2
      exact ⟨_,by first|rfl|(simp [Zm,Zl]<;>rfl)|(simp [*,Zm,Zl]<;>rfl),by (with_reducible repeat (first|apply Kd.V_alloc|apply Kd.V_drewN|apply Kd.V_drew));exact HO366.out,by repeat (first|(with_reducible first|exact HB.out|apply Zb|apply Za|apply Zc)|exact HB.out)⟩
  ·rw [if_neg c4] at H
   exact absurd H (by simp)
 ·rw [if_neg c3] at H
  exact absurd H (by simp)
def r02_Limbs.l0:Nat->List Int->List Int->Option (List Int)
 | 0,_,_=>none
 | k+1,x0,x3=>if (x0.length:Int)>0 then ((r02_div.f k x0 4294967296).bind fun bt367=>(if x3.length<35184372088832 then (r02_Limbs.l0 k bt367.1 (x3++[(bt367.2) % 4294967296])) else (none))) else (some x3)
def r02_Limbs.f (k:Nat) (l0:List Int):Option (List Int):=r02_Limbs.l0 k l0 ([]:List Int)
set_option maxHeartbeats 8000000 in
set_option maxRecDepth 100000 in
theorem r02_Limbs.calls (k:Nat) (P0_:Nat->Prop) (A0:Option Addr) (c0:Nat) (l0:List Int) (r:List Int) (w:World) (hs0:Kd.V (Kd.int .i64) 3 w w.heap.size (fun k_=>P0_ k_) (.slice A0 l0.length c0) l0) (h:r02_Limbs.f k l0=some r) :
  Calls Try.prog 103 #[.slice A0 l0.length c0] w fun e w'=>∃v0_:Value,e=.returned (v0_)/\Kd.R (Kd.int .u32) 89 w' w.heap.size (fun k_=>(w.heap.size<=k_)) v0_ r/\Below w.heap.size w w':=by
 have HO0:=Zz.mk (show Kd.V (Kd.int .i64) 3 w w.heap.size (fun k_=>(P0_ k_∨w.heap.size<=k_)) (.slice A0 l0.length c0) l0 from Kd.V_mono hs0 (fun k_ hk=>.inl hk))
 have HB:=Zz.mk (Below.refl w.heap.size w)
 have H:(r02_Limbs.l0 k l0 ([]:List Int))=some r:=h
 clear h
 have H':=Zz.mk H
 clear H
 go_enter Try.func103,Try.ntmps103
 go_wp2
 go_loopg [0,3] k (fun kq v0 v3 w'=>∃ (x0_1:List Int) (x3_1:List Int),Zz (r02_Limbs.l0 kq x0_1 x3_1=some r)/\Zz (kq<=k)/\Zz (Kd.V (Kd.int .i64) 3 w' w.heap.size (fun k_=>(P0_ k_∨w.heap.size<=k_)/\some k_≠(v3:Value).ownBlock) v0 x0_1)/\Zz (Kd.R (Kd.int .u32) 89 w' w.heap.size (fun k_=>(w.heap.size<=k_)) v3 x3_1)/\Zz (Below w.heap.size w w'))
 case atStart=>exact ⟨(l0),(([]:List Int)),H',⟨Nat.le_refl _⟩,⟨by (with_reducible repeat (first|apply Kd.V_alloc|apply Kd.V_drewN|apply Kd.V_drew));exact Kd.V_mono HO0.out (fun _ hk=>⟨hk,(by simp [Value.ownBlock])⟩)⟩,⟨by first|exact Kd.R_nil _ _ _ _ _|exact Kd.N_nil _ _ _ _ _|exact Kd.V_nil _ _ _ _ _|exact Kd.Q_nil _ _ _ _ _|exact Kd.S_nil _ _ _ _ _⟩,⟨by repeat (first|(with_reducible first|exact HB.out|apply Zb|apply Za|apply Zc)|exact HB.out)⟩⟩
 case round =>
  clear H'
  try clear c1
  obtain ⟨x0_1,x3_1,HA,HK1,HO_0,HO_3,HB⟩:=hrel
  cases gk with
  | zero=>exact absurd HA.out (by simp [r02_Limbs.l0])
  | succ k1 =>
   have H:=HA.out
   clear HA
   simp only [r02_Limbs.l0] at H
   by_cases c2:(x0_1.length:Int)>0
   ·rw [if_pos c2] at H
    have c2b0:decide (0<(x0_1.length:Int))=true:=decide_eq_true c2
    have c2b1:decide (0<x0_1.length)=true:=decide_eq_true (by omega)
    clear c2
    replace H:=Option.bind_eq_some_iff.mp H
    obtain ⟨⟨t367,t370⟩,A30,H⟩:=H
    replace H:(if x3_1.length<35184372088832 then (r02_Limbs.l0 k1 t367 (x3_1++[(t370) % 4294967296])) else (none))=some r:=H
    have A3:=Zz.mk A30
    clear A30
    by_cases c4:x3_1.length<35184372088832
    ·rw [if_pos c4] at H
     have LMc4:=Zz.mk c4
     clear c4
     obtain ⟨y371,hy371⟩:∃y_:List Int,y_=(x3_1++[(t370) % 4294967296]):=⟨_,rfl⟩
     replace H:(r02_Limbs.l0 k1 t367 y371)=some r:=by first|(rw [hy371];with_reducible exact H)|(have H2_:=(Option.bind_some _ _).symm.trans H;rw [hy371];with_reducible exact H2_)|(have H2_:=(Option.bind_some _ _).symm.trans H;with_reducible exact H2_)|with_reducible exact H|(rw [hy371];exact H)|exact H
     have Ny371:=Zz.mk hy371
     clear hy371
     have H':=Zz.mk H
     clear H
     obtain ⟨Ao5,co5,eo5⟩:=Kd.V_slice HO_0.out
     subst eo5
     go_wp2_with (first|((with_reducible refine Zs (f:=122) rfl ?_);refine Zv (some 11) rfl rfl Try.func122 (by kernel_rfl) rfl #[.slice Ao5 x0_1.length co5,.int .i64 4294967296] rfl (by (try simp only [List.map_toArray,List.map_cons,List.map_nil]);first|done|rfl|(simp only [List.length_drop,List.length_take];rfl)) ?_;(with_reducible refine (r02_div.calls k1 _ _ x0_1 4294967296 t367 t370 _ ?side1 ?side2 A3.out).mono ?_);(case side1=>repeat (first|exact (Kd.V_reads' HO_0.out).2.2|(with_reducible refine Kd.C_alloc ?_ _)|(with_reducible refine Kd.C_drewN ?_ _)|(with_reducible refine Kd.C_drew ?_)));(case side2=>exact (Kd.V_reads' HO_0.out).2.1);rintro e w6 ⟨v368,rfl,ho0,hb⟩;refine ⟨_,rfl,?_⟩;have n0_:=Zz.mk (Kd.V_below (by (with_reducible repeat (first|apply Kd.V_alloc|apply Kd.V_drewN|apply Kd.V_drew));exact HO_0.out) hb);have n1_:=Zz.mk (Kd.R_below (by (with_reducible repeat (first|apply Kd.R_alloc|apply Kd.R_drewN|apply Kd.R_drew));exact HO_3.out) hb);have n2_:=Zz.mk (Kd.V_lower (Kd.V_mono (ok':=fun k_=>(P0_ k_∨w.heap.size<=k_)/\some k_≠(u3:Value).ownBlock) ho0 (fun k_ hk_=>⟨(.inr (Nat.le_trans (Zf (by repeat (first|(with_reducible first|exact HB.out|apply Zb|apply Za|apply Zc)|exact HB.out))) hk_)),(Kd.fresh' (Kd.R_lt (by (with_reducible repeat (first|apply Kd.R_alloc|apply Kd.R_drewN|apply Kd.R_drew));exact HO_3.out)) k_ hk_)⟩)) (Zf (by repeat (first|(with_reducible first|exact HB.out|apply Zb|apply Za|apply Zc)|exact HB.out))));have n3_:=Zz.mk (Zi (by repeat (first|(with_reducible first|exact HB.out|apply Zb|apply Za|apply Zc)|exact HB.out)) hb);clear HO_0;clear HO_3;clear HB;have HO_0:=n0_;have HO_3:=n1_;have HO369:=n2_;have HB:=n3_;clear n0_ n1_ n2_ n3_;(try clear hb);(try clear hb2);(try clear hk);(try clear hi);(try clear ho0))|((with_reducible refine gate_builtin (b:=.append) (xs:=#[.tmp 14,.tmp 17]) rfl ?_);at_builtin;refine Kd.R_append (Kd.int .u32) (w0:=w) w.heap.size rfl (.tmp 14) (.tmp 17) 26 89 (.int .u32 0) 4 rfl Try.underlying26 info89 rfl (by decide) (by omega) u3 x3_1 ((t370) % 4294967296) [.int .u32 ((t370) % 4294967296)] (fun k_=>(w.heap.size<=k_)) (fun _=>False) rfl rfl ?aP (fun _ hk=>hk.elim) ?aF ?aO ?aB ?aS ?aL ?_;(case aP=>exact rfl);(case aB=>exact (by repeat (first|(with_reducible first|exact HB.out|apply Zb|apply Za|apply Zc)|exact HB.out)));(case aF=>exact (fun k_ hk=>(Nat.le_trans (Zf (by repeat (first|(with_reducible first|exact HB.out|apply Zb|apply Za|apply Zc)|exact HB.out))) hk)));(case aO=>exact (by (with_reducible repeat (first|apply Kd.R_alloc|apply Kd.R_drewN|apply Kd.R_drew));exact HO_3.out));(case aS=>exact (Zf (by repeat (first|(with_reducible first|exact HB.out|apply Zb|apply Za|apply Zc)|exact HB.out))));(case aL=>have:=LMc4.out;omega);intro v372 w7 ho hb hg hat;rw [<-Ny371.out] at ho;have n0_:=Zz.mk (Kd.V_afterv (ok:=(fun k_=>(P0_ k_∨w.heap.size<=k_))) (by (with_reducible repeat (first|apply Kd.V_alloc|apply Kd.V_drewN|apply Kd.V_drew));exact HO_0.out) hg hat);have n1_:=Zz.mk (Kd.V_afterv (ok:=(fun k_=>(P0_ k_∨w.heap.size<=k_))) (by (with_reducible repeat (first|apply Kd.V_alloc|apply Kd.V_drewN|apply Kd.V_drew));exact HO369.out) hg hat);have n2_:=Zz.mk (hb);have n3_:=Zz.mk (ho);clear HO_0;clear HO369;clear HB;clear HO_3;have HO_0:=n0_;have HO369:=n1_;have HB:=n2_;have HO373:=n3_;clear n0_ n1_ n2_ n3_;clear ho hb hg hat))
     go_roundg k1
     case measure=>have:=HK1.out;omega
     case rel=>exact ⟨(t367),(y371),H',⟨by have:=HK1.out;omega⟩,⟨by (with_reducible repeat (first|apply Kd.V_alloc|apply Kd.V_drewN|apply Kd.V_drew));exact HO369.out⟩,⟨by (with_reducible repeat (first|apply Kd.R_alloc|apply Kd.R_drewN|apply Kd.R_drew));exact HO373.out⟩,⟨by repeat (first|(with_reducible first|exact HB.out|apply Zb|apply Za|apply Zc)|exact HB.out)⟩⟩
    ·rw [if_neg c4] at H
     exact absurd H (by simp)
   ·rw [if_neg c2] at H
    have c2b0:decide (0<(x0_1.length:Int))=false:=decide_eq_false c2
    have c2b1:decide (0<x0_1.length)=false:=decide_eq_false (by omega)
    clear c2
    obtain rfl:=Option.some.inj H
    obtain ⟨Ao8,co8,eo8⟩:=Kd.V_slice HO_0.out
    subst eo8
    go_wp2
    go_ret
    exact ⟨_,by first|rfl|(simp [Zm,Zl]<;>rfl)|(simp [*,Zm,Zl]<;>rfl),by (with_reducible repeat (first|apply Kd.R_alloc|apply Kd.R_drewN|apply Kd.R_drew));exact HO_3.out,by repeat (first|(with_reducible first|exact HB.out|apply Zb|apply Za|apply Zc)|exact HB.out)⟩
end Go.Proofs.Ytfldklimlcnnnaa.PHq
end

section
namespace Go.Proofs.Ytfldklimlcnnnaa.PHq
open Go.RowKit YtfldklimlcnnnaaW.PrintWords YtfldklimlcnnnaaW.PrintLast YtfldklimlcnnnaaW.PrintMore MWords
attribute [local go_sem] max2_int min2_int max_two min_two max_three min_three max_four min_four   -- for this text's walks alone
def r02_mul.l0:Nat->List Int->List Int->List Int->Int->Option (List Int)
 | 0,_,_,_,_=>none
 | k+1,x0,x1,x5,x6=>if x6 ≥ 0 then ((some (([0]:List Int):List Int)).bind fun y374=>(if y374.length+x5.length<17592186044416 then ((r02_cut.f k (y374++x5)).bind fun t380=>(if 0<=x6 then (if x6<(x1.length:Int) then ((r02_times.f k x0 (rd x1 x6)).bind fun t384=>((r02_add.f k t380 t384).bind fun t387=>(r02_mul.l0 k x0 x1 t387 (wrap64 (x6-1))))) else (none)) else (none))) else (none))) else ((r02_cut.f k x5).bind fun t390=>(some t390))
def r02_mul.f (k:Nat) (l0:List Int) (l1:List Int):Option (List Int):=r02_mul.l0 k l0 l1 ([]:List Int) (wrap64 ((l1.length:Int)-1))
def r02_mul.T6:Bool × List (List Nat × List Nat):=(true,[([],[]),([0],[0]),([],[]),([],[]),([],[]),([3,4],[3,4]),([5],[5]),([2,6,1],[2,6]),([1,7,7],[1,7]),([8,8,0,1,2,3,4,5,6,7,8],[0,8])])
def r02_mul.B6:List Nat:=[0,1,0,0,0,24,56,127,255,511]
theorem r02_mul.tab6:rtab .any (opsOf Try.f104 6)=r02_mul.T6:=by kernel_rfl
theorem r02_mul.bits6:waitsOk r02_mul.T6.2 r02_mul.B6=true:=by kernel_rfl
set_option maxHeartbeats 8000000 in
set_option maxRecDepth 100000 in
theorem r02_mul.calls (k:Nat) (A0:Option Addr) (c0:Nat) (l0:List Int) (A1:Option Addr) (c1:Nat) (l1:List Int) (r:List Int) (w:World) (hr0:Kd.C (Kd.int .i64) w A0 l0.length l0) (hc0:l0.length<=c0) (hr1:Kd.C (Kd.int .i64) w A1 l1.length l1) (hc1:l1.length<=c1) (h:r02_mul.f k l0 l1=some r) :
  Calls Try.prog 104 #[.slice A0 l0.length c0,.slice A1 l1.length c1] w fun e w'=>∃v0_:Value,e=.returned (v0_)/\Kd.V (Kd.int .i64) 3 w' w.heap.size (fun k_=>(w.heap.size<=k_)) v0_ r/\Below w.heap.size w w':=by
 have HR0:=Zz.mk hr0
 have HC0:=Zz.mk hc0
 clear hr0 hc0
 have HR1:=Zz.mk hr1
 have HC1:=Zz.mk hc1
 clear hr1 hc1
 have HB:=Zz.mk (Below.refl w.heap.size w)
 have H:(r02_mul.l0 k l0 l1 ([]:List Int) (wrap64 ((l1.length:Int)-1)))=some r:=h
 clear h
 have H':=Zz.mk H
 clear H
 go_enter Try.func104,Try.ntmps104
 go_wp2
 go_loopg [5,6] k (fun kq v5 v6 w'=>∃ (x5_1:List Int) (x6_1:Int),v6=.int .i64 x6_1/\Zz (r02_mul.l0 kq l0 l1 x5_1 x6_1=some r)/\Zz (kq<=k)/\Zz (Kd.V (Kd.int .i64) 3 w' w.heap.size (fun k_=>(w.heap.size<=k_)) v5 x5_1)/\Zz (Below w.heap.size w w'))
 case atStart=>exact ⟨(([]:List Int)),(wrap64 ((l1.length:Int)-1)),(by first|rfl|(simp;done)|(simp [*];done)),H',⟨Nat.le_refl _⟩,⟨Kd.V_nil _ _ _ _ _⟩,⟨by repeat (first|(with_reducible first|exact HB.out|apply Zb|apply Za|apply Zc)|exact HB.out)⟩⟩
 case round =>
  clear H'
  try clear c1
  try clear p2
  obtain ⟨x5_1,x6_1,rfl,HA,HK1,HO_5,HB⟩:=hrel
  cases gk with
  | zero=>exact absurd HA.out (by simp [r02_mul.l0])
  | succ k1 =>
   have H:=HA.out
   clear HA
   simp only [r02_mul.l0] at H
   by_cases c3:x6_1 ≥ 0
   ·rw [if_pos c3] at H
    have c3b0:decide (0<=x6_1)=true:=decide_eq_true c3
    clear c3
    obtain ⟨y374,hy374⟩:∃y_:List Int,y_=(([0]:List Int)):=⟨_,rfl⟩
    replace H:(if y374.length+x5_1.length<17592186044416 then ((r02_cut.f k1 (y374++x5_1)).bind fun t380=>(if 0<=x6_1 then (if x6_1<(l1.length:Int) then ((r02_times.f k1 l0 (rd l1 x6_1)).bind fun t384=>((r02_add.f k1 t380 t384).bind fun t387=>(r02_mul.l0 k1 l0 l1 t387 (wrap64 (x6_1-1))))) else (none)) else (none))) else (none))=some r:=by first|(rw [hy374];with_reducible exact H)|(have H2_:=(Option.bind_some _ _).symm.trans H;rw [hy374];with_reducible exact H2_)|(have H2_:=(Option.bind_some _ _).symm.trans H;with_reducible exact H2_)|with_reducible exact H|(rw [hy374];exact H)|exact H
    have Ny374:=Zz.mk hy374
    clear hy374
    by_cases c4:y374.length+x5_1.length<17592186044416
    ·rw [if_pos c4] at H
     have LMc4:=Zz.mk c4
     clear c4
     obtain ⟨y377,hy377⟩:∃y_:List Int,y_=(y374++x5_1):=⟨_,rfl⟩
     replace H:((r02_cut.f k1 y377).bind fun t380=>(if 0<=x6_1 then (if x6_1<(l1.length:Int) then ((r02_times.f k1 l0 (rd l1 x6_1)).bind fun t384=>((r02_add.f k1 t380 t384).bind fun t387=>(r02_mul.l0 k1 l0 l1 t387 (wrap64 (x6_1-1))))) else (none)) else (none)))=some r:=by first|(rw [hy377];with_reducible exact H)|(have H2_:=(Option.bind_some _ _).symm.trans H;rw [hy377];with_reducible exact H2_)|(have H2_:=(Option.bind_some _ _).symm.trans H;with_reducible exact H2_)|with_reducible exact H|(rw [hy377];exact H)|exact H
     have Ny377:=Zz.mk hy377
     clear hy377
     replace H:=Option.bind_eq_some_iff.mp H
     obtain ⟨t380,A50,H⟩:=H
     replace H:(if 0<=x6_1 then (if x6_1<(l1.length:Int) then ((r02_times.f k1 l0 (rd l1 x6_1)).bind fun t384=>((r02_add.f k1 t380 t384).bind fun t387=>(r02_mul.l0 k1 l0 l1 t387 (wrap64 (x6_1-1))))) else (none)) else (none))=some r:=H
     have A5:=Zz.mk A50
     clear A50
     by_cases c6:0<=x6_1
     ·rw [if_pos c6] at H
      have c6b0:decide (0<=x6_1)=true:=decide_eq_true c6
      clear c6
      by_cases c7:x6_1<(l1.length:Int)
      ·rw [if_pos c7] at H
       have c7b0:decide (x6_1<(l1.length:Int))=true:=decide_eq_true c7
       clear c7
       replace H:=Option.bind_eq_some_iff.mp H
       obtain ⟨t384,A80,H⟩:=H
       replace H:((r02_add.f k1 t380 t384).bind fun t387=>(r02_mul.l0 k1 l0 l1 t387 (wrap64 (x6_1-1))))=some r:=H
       have A8:=Zz.mk A80
       clear A80
       replace H:=Option.bind_eq_some_iff.mp H
       obtain ⟨t387,A90,H⟩:=H
       replace H:(r02_mul.l0 k1 l0 l1 t387 (wrap64 (x6_1-1)))=some r:=H
       have A9:=Zz.mk A90
       clear A90
       have H':=Zz.mk H
       clear H
       try go_wp2_with (first|((with_reducible refine Zt (N:=14) rfl ?_);refine Kd.R_lit (Kd.int .i64) _ 3 ?hg (N:=14) ?hd (xs:=([0]:List Int)) (inner:=[.int .i64 0]) (ok:=fun _=>True) (okp:=fun _=>True) ?hr ?hp (fun _ hk=>hk) trivial (Below.refl _ _) (Nat.le_refl _) (by simp) ?_;(case hd=>rfl);(case hg=>rfl);(case hr=>first|(go_simp;done)|(go_simp;rfl));(case hp=>exact (Reps.one (show Kd.M (Kd.int .i64) _ _ _ 0 [.int .i64 0] from rfl) (Reps.none _ _)));intro v375 w10 ho11 hb hg_ hnew_;clear hg_ hnew_;(first|rw [<-Ny374.out] at ho11|(simp only [Int.reduceToNat] at ho11;rw [<-Ny374.out] at ho11));have n0_:=Zz.mk (Kd.V_elder' (by (with_reducible repeat (first|apply Kd.V_alloc|apply Kd.V_drewN|apply Kd.V_drew));exact HO_5.out) (Kd.R_base ho11) hb);have n1_:=Zz.mk (Kd.R_lower (Kd.R_newM (M:=fun k_=>(w.heap.size<=k_)) ho11 (Zf (by repeat (first|(with_reducible first|exact HB.out|apply Zb|apply Za|apply Zc)|exact HB.out))) (fun k_ h_=>h_)) (Zf (by repeat (first|(with_reducible first|exact HB.out|apply Zb|apply Za|apply Zc)|exact HB.out))));have n2_:=Zz.mk (Zi (by repeat (first|(with_reducible first|exact HB.out|apply Zb|apply Za|apply Zc)|exact HB.out)) hb);clear HO_5;clear HB;have HO_5:=n0_;have HO376:=n1_;have HB:=n2_;clear n0_ n1_ n2_;clear hb ho11;obtain ⟨Ao13,co13,eo13⟩:=Kd.V_slice HO_5.out;subst eo13)|((with_reducible refine gate_builtin (b:=.append) (xs:=#[.tmp 14,.tmp 15]) rfl ?_);at_builtin;refine Kd.R_append_rows (Kd.int .i64) (w0:=w) w.heap.size rfl (.tmp 14) (.tmp 15) 135 3 (.int .i64 0) 8 rfl Try.underlying135 info3 rfl (by decide) (by omega) v375 y374 x5_1 _ _ _ (fun k_=>(w.heap.size<=k_)) (fun _=>False) rfl rfl ?aO ?aR (fun _ _ h=>h) (fun _ h=>h.elim) ?aF ?aB ?aS ?aL ?_;(case aR=>repeat (first|exact (Kd.V_reads' HO_5.out).2.2|(with_reducible refine Kd.C_alloc ?_ _)|(with_reducible refine Kd.C_drewN ?_ _)|(with_reducible refine Kd.C_drew ?_)));(case aB=>exact (by repeat (first|(with_reducible first|exact HB.out|apply Zb|apply Za|apply Zc)|exact HB.out)));(case aF=>exact (fun k_ hk=>(Nat.le_trans (Zf (by repeat (first|(with_reducible first|exact HB.out|apply Zb|apply Za|apply Zc)|exact HB.out))) hk)));(case aO=>exact (by (with_reducible repeat (first|apply Kd.R_alloc|apply Kd.R_drewN|apply Kd.R_drew));exact Kd.R_mono HO376.out (fun _ hk=>hk.1)));(case aS=>exact (Zf (by repeat (first|(with_reducible first|exact HB.out|apply Zb|apply Za|apply Zc)|exact HB.out))));(case aL=>have:=LMc4.out;omega);intro v378 w12 ho hb hg hat;rw [<-Ny377.out] at ho;have n0_:=Zz.mk (Kd.V_afterv (ok:=(fun k_=>(w.heap.size<=k_))) (by (with_reducible repeat (first|apply Kd.V_alloc|apply Kd.V_drewN|apply Kd.V_drew));exact HO_5.out) hg hat);have n1_:=Zz.mk (hb);have n2_:=Zz.mk (ho);clear HO_5;clear HB;clear HO376;have HO_5:=n0_;have HB:=n1_;have HO379:=n2_;clear n0_ n1_ n2_;clear ho hb hg hat))
       have n0_:=Zz.mk (Kd.V_drew HO_5.out)
       have n1_:=Zz.mk (Kd.R_drew HO379.out)
       have n2_:=Zz.mk (Zc HB.out)
       clear HO_5
       clear HO379
       clear HB
       have HO_5:=n0_
       have HO379:=n1_
       have HB:=n2_
       clear n0_ n1_ n2_
       have p383:0<=(x6_1:Int):=of_decide_eq_true (by first|(with_reducible assumption)|assumption)
       have q383:x6_1<(l1.length:Int):=of_decide_eq_true (by first|(with_reducible assumption)|assumption)
       obtain ⟨ad383,e383,hx383_0⟩:=Kd.at_int HR1.out x6_1 p383 q383
       have hw383_0:=hx383_0
       cases e383
       replace hx383_0:=(HB.out.cell (World.block_lt_of_cell? w _ hx383_0)).trans hx383_0
       replace p383:=eq_true p383
       replace q383:=eq_true q383
       obtain ⟨Ao15,co15,eo15⟩:=Kd.R_slice HO379.out
       (first|subst eo15|(injection eo15 with f1_ f2_ f3_;have f4_:=f1_.symm;have f5_:=f3_.symm;clear f1_ f2_ f3_;subst f4_;subst f5_))
       refine start_ (n:=10) (S:=fun w'=>w'.cell? (ad383.add (x6_1).toNat)=some (.int .i64 (rd l1 x6_1))) (ds:=[]) #[false,false,false,false,false,false,false,false,false,false] (by kernel_rfl) rfl rfl (((HB.out.cell (World.block_lt_of_cell? w _ hw383_0)).trans hw383_0)) (fun hHeld=>?_);refine with_tabW r02_mul.tab6 r02_mul.bits6 (fun HT_ HW_=>?_)
       generalize w12.drew=w14 at HO_5 HO379 HB hx383_0 hHeld ⊢
       refine pure_ (i:=0) (N:=some 17) (v:=?_) (a':=?_) #[true,false,false,false,false,false,false,false,false,false] rfl rfl (Z3 HT_.out (by kernel_rfl)) (fun _ _ _ h=>h) (Or.inl ⟨by rfl,?_⟩) ?_ ?_
       rotate_left
       ·intro w'
        go_simp
        with_reducible rfl
       rotate_left
       ·simp only [Act.put,List.setIfInBounds_toArray,List.set_cons_zero,List.set_cons_succ,Z6,Z7]
        rfl
       refine pure_ (i:=2) (N:=some 19) (v:=?_) (a':=?_) #[true,false,true,false,false,false,false,false,false,false] rfl rfl (Z3 HT_.out (by kernel_rfl)) (fun _ _ _ h=>h) (Or.inl ⟨by rfl,?_⟩) ?_ ?_
       rotate_left
       ·intro w'
        go_simp
        with_reducible rfl
       rotate_left
       ·simp only [Act.put,List.setIfInBounds_toArray,List.set_cons_zero,List.set_cons_succ,Z6,Z7]
        rfl
       refine pure_ (i:=3) (N:=some 20) (v:=?_) (a':=?_) #[true,false,true,true,false,false,false,false,false,false] rfl rfl (Z3 HT_.out (by kernel_rfl)) (fun _ _ _ h=>h) (Or.inl ⟨by rfl,?_⟩) ?_ ?_
       rotate_left
       ·intro w'
        go_simp
        with_reducible rfl
       rotate_left
       ·simp only [Act.put,List.setIfInBounds_toArray,List.set_cons_zero,List.set_cons_succ,Z6,Z7]
        rfl
       refine pure_ (i:=4) (N:=some 21) (v:=?_) (a':=?_) #[true,false,true,true,true,false,false,false,false,false] rfl rfl (Z3 HT_.out (by kernel_rfl)) (fun _ _ _ h=>h) (Or.inl ⟨by rfl,?_⟩) ?_ ?_
       rotate_left
       ·intro w'
        go_simp
        with_reducible rfl
       rotate_left
       ·simp only [Act.put,List.setIfInBounds_toArray,List.set_cons_zero,List.set_cons_succ,Z6,Z7]
        rfl
       refine pure_ (i:=5) (N:=some 22) (v:=?_) (a':=?_) #[true,false,true,true,true,true,false,false,false,false] rfl rfl (Z3 HT_.out (by kernel_rfl)) (fun _ _ _ h=>h) (Or.inl ⟨by rfl,?_⟩) ?_ ?_
       rotate_left
       ·intro w'
        go_simp
        with_reducible rfl
       rotate_left
       ·simp only [Act.put,List.setIfInBounds_toArray,List.set_cons_zero,List.set_cons_succ,Z6,Z7]
        rfl
       refine take_ (i:=6) (N:=some 23) (v:=?_) (a':=?_) #[true,false,true,true,true,true,true,false,false,false] rfl rfl (Zw HT_.out HW_.out (by kernel_rfl)) (fun _ _ _ h=>h) (Or.inl ⟨by rfl,?_⟩) hHeld ?_ ?_
       rotate_left
       ·intro w' s0
        go_simp
        with_reducible rfl
       rotate_left
       ·simp only [Act.put,List.setIfInBounds_toArray,List.set_cons_zero,List.set_cons_succ,Z6,Z7]
        rfl
       refine one_ (i:=1) (N:=some 18) #[true,true,true,true,true,true,true,false,false,false] rfl rfl (one_of HT_.out (by kernel_rfl)) (by decide) (fun K hK=>?_)
       refine goes_ Try.func123 (by kernel_rfl) rfl #[.slice Ao15 y377.length co15] (by rfl) rfl rfl (by (try simp only [List.map_toArray,List.map_cons,List.map_nil]);first|done|rfl|(simp only [List.length_drop,List.length_take];rfl)) ?_
       with_reducible refine (r02_cut.calls k1 (fun k_=>some k_=(.slice Ao15 y377.length co15:Value).ownBlock) _ _ y377 t380 _ ?side1 A5.out).mono ?_
       (case side1=>exact Kd.R_V (Kd.R_tight rfl (HO379.out)))
       rintro e w16 ⟨v381,rfl,ho0,hb⟩
       refine ⟨_,rfl,?_⟩
       have n0_:=Zz.mk (Kd.V_below (by (with_reducible repeat (first|apply Kd.V_alloc|apply Kd.V_drewN|apply Kd.V_drew));exact HO_5.out) hb)
       have n1_:=Zz.mk (Kd.R_below (by (with_reducible repeat (first|apply Kd.R_alloc|apply Kd.R_drewN|apply Kd.R_drew));exact HO379.out) hb)
       have n2_:=Zz.mk (Kd.V_lower (Kd.V_mono (ok':=fun k_=>(w.heap.size<=k_)) ho0 (fun k_ hk_=>Or.elim hk_ (fun hs_=>((HO379.out).1 k_ hs_.symm)) (fun hn_=>(Nat.le_trans (Zf (by repeat (first|(with_reducible first|exact HB.out|apply Zb|apply Za|apply Zc)|exact HB.out))) hn_)))) (Zf (by repeat (first|(with_reducible first|exact HB.out|apply Zb|apply Za|apply Zc)|exact HB.out))))
       have n3_:=Zz.mk (Zi (by repeat (first|(with_reducible first|exact HB.out|apply Zb|apply Za|apply Zc)|exact HB.out)) hb)
       clear HO_5
       clear HO379
       clear HB
       have HO_5:=n0_
       have HO379:=n1_
       have HO382:=n2_
       have HB:=n3_
       clear n0_ n1_ n2_ n3_
       (try clear hb)
       (try clear hb2)
       (try clear hk)
       (try clear hi)
       (try clear ho0)
       refine hK.out _ _ (((HB.out.cell (World.block_lt_of_cell? w _ hw383_0)).trans hw383_0)) (fun hHeld=>?_)
       clear hK K
       refine norm_ (a':=?_) ?_ ?_
       rotate_left
       ·show Act.put _ (some 18) _=_
        simp only [Act.put,List.setIfInBounds_toArray,List.set_cons_zero,List.set_cons_succ,Z6,Z7]
        rfl
       refine one_ (i:=7) (N:=some 24) #[true,true,true,true,true,true,true,true,false,false] rfl rfl (one_of HT_.out (by kernel_rfl)) (by decide) (fun K hK=>?_)
       refine goes_ Try.func120 (by kernel_rfl) rfl #[.slice A0 l0.length c0,.int .i64 (rd l1 x6_1)] (by rfl) rfl rfl (by (try simp only [List.map_toArray,List.map_cons,List.map_nil]);first|done|rfl|(simp only [List.length_drop,List.length_take];rfl)) ?_
       with_reducible refine (r02_times.calls k1 _ _ l0 (rd l1 x6_1) t384 _ ?side1 ?side2 A8.out).mono ?_
       (case side1=>repeat (first|exact (Kd.C_below HR0.out HB.out)|(with_reducible refine Kd.C_alloc ?_ _)|(with_reducible refine Kd.C_drewN ?_ _)|(with_reducible refine Kd.C_drew ?_)))
       (case side2=>exact HC0.out)
       rintro e w17 ⟨v385,rfl,ho0,hb⟩
       refine ⟨_,rfl,?_⟩
       have n0_:=Zz.mk (Kd.V_below (by (with_reducible repeat (first|apply Kd.V_alloc|apply Kd.V_drewN|apply Kd.V_drew));exact HO_5.out) hb)
       have n1_:=Zz.mk (Kd.R_below (by (with_reducible repeat (first|apply Kd.R_alloc|apply Kd.R_drewN|apply Kd.R_drew));exact HO379.out) hb)
       have n2_:=Zz.mk (Kd.V_below (by (with_reducible repeat (first|apply Kd.V_alloc|apply Kd.V_drewN|apply Kd.V_drew));exact HO382.out) hb)
       have n3_:=Zz.mk (Kd.V_lower (Kd.V_mono (ok':=fun k_=>(w.heap.size<=k_)/\some k_≠(.slice Ao15 y377.length co15:Value).ownBlock) ho0 (fun k_ hk_=>⟨(Nat.le_trans (Zf (by repeat (first|(with_reducible first|exact HB.out|apply Zb|apply Za|apply Zc)|exact HB.out))) hk_),(Kd.fresh' (Kd.R_lt (by (with_reducible repeat (first|apply Kd.R_alloc|apply Kd.R_drewN|apply Kd.R_drew));exact HO379.out)) k_ hk_)⟩)) (Zf (by repeat (first|(with_reducible first|exact HB.out|apply Zb|apply Za|apply Zc)|exact HB.out))))
       have n4_:=Zz.mk (Zi (by repeat (first|(with_reducible first|exact HB.out|apply Zb|apply Za|apply Zc)|exact HB.out)) hb)
       clear HO_5
       clear HO379
       clear HO382
       clear HB
       have HO_5:=n0_
       have HO379:=n1_
       have HO382:=n2_
       have HO386:=n3_
       have HB:=n4_
       clear n0_ n1_ n2_ n3_ n4_
       (try clear hb)
       (try clear hb2)
       (try clear hk)
       (try clear hi)
       (try clear ho0)
       obtain ⟨Ao18,co18,eo18⟩:=Kd.V_slice HO382.out
       (first|subst eo18|(injection eo18 with f1_ f2_ f3_;have f4_:=f1_.symm;have f5_:=f3_.symm;clear f1_ f2_ f3_;subst f4_;subst f5_))
       obtain ⟨Ao19,co19,eo19⟩:=Kd.V_slice HO386.out
       (first|subst eo19|(injection eo19 with f1_ f2_ f3_;have f4_:=f1_.symm;have f5_:=f3_.symm;clear f1_ f2_ f3_;subst f4_;subst f5_))
       refine hK.out _ _ (((HB.out.cell (World.block_lt_of_cell? w _ hw383_0)).trans hw383_0)) (fun hHeld=>?_)
       clear hK K
       refine norm_ (a':=?_) ?_ ?_
       rotate_left
       ·show Act.put _ (some 24) _=_
        simp only [Act.put,List.setIfInBounds_toArray,List.set_cons_zero,List.set_cons_succ,Z6,Z7]
        rfl
       refine one_ (i:=8) (N:=some 25) #[true,true,true,true,true,true,true,true,true,false] rfl rfl (one_of HT_.out (by kernel_rfl)) (by decide) (fun K hK=>?_)
       refine goes_ Try.func111 (by kernel_rfl) rfl #[.slice Ao18 t380.length co18,.slice Ao19 t384.length co19] (by rfl) rfl rfl (by (try simp only [List.map_toArray,List.map_cons,List.map_nil]);first|done|rfl|(simp only [List.length_drop,List.length_take];rfl)) ?_
       with_reducible refine (r02_add.calls k1 _ _ t380 _ _ t384 t387 _ ?side1 ?side2 ?side3 ?side4 A9.out).mono ?_
       (case side1=>repeat (first|exact (Kd.V_reads' HO382.out).2.2|(with_reducible refine Kd.C_alloc ?_ _)|(with_reducible refine Kd.C_drewN ?_ _)|(with_reducible refine Kd.C_drew ?_)))
       (case side2=>exact (Kd.V_reads' HO382.out).2.1)
       (case side3=>repeat (first|exact (Kd.V_reads' HO386.out).2.2|(with_reducible refine Kd.C_alloc ?_ _)|(with_reducible refine Kd.C_drewN ?_ _)|(with_reducible refine Kd.C_drew ?_)))
       (case side4=>exact (Kd.V_reads' HO386.out).2.1)
       rintro e w20 ⟨v388,rfl,ho0,hb⟩
       refine ⟨_,rfl,?_⟩
       have n0_:=Zz.mk (Kd.V_below (by (with_reducible repeat (first|apply Kd.V_alloc|apply Kd.V_drewN|apply Kd.V_drew));exact HO_5.out) hb)
       have n1_:=Zz.mk (Kd.R_below (by (with_reducible repeat (first|apply Kd.R_alloc|apply Kd.R_drewN|apply Kd.R_drew));exact HO379.out) hb)
       have n2_:=Zz.mk (Kd.V_below (by (with_reducible repeat (first|apply Kd.V_alloc|apply Kd.V_drewN|apply Kd.V_drew));exact HO382.out) hb)
       have n3_:=Zz.mk (Kd.V_below (by (with_reducible repeat (first|apply Kd.V_alloc|apply Kd.V_drewN|apply Kd.V_drew));exact HO386.out) hb)
       have n4_:=Zz.mk (Kd.V_lower (Kd.V_mono (ok':=fun k_=>(w.heap.size<=k_)/\some k_≠(.slice Ao15 y377.length co15:Value).ownBlock) ho0 (fun k_ hk_=>⟨(Nat.le_trans (Zf (by repeat (first|(with_reducible first|exact HB.out|apply Zb|apply Za|apply Zc)|exact HB.out))) hk_),(Kd.fresh' (Kd.R_lt (by (with_reducible repeat (first|apply Kd.R_alloc|apply Kd.R_drewN|apply Kd.R_drew));exact HO379.out)) k_ hk_)⟩)) (Zf (by repeat (first|(with_reducible first|exact HB.out|apply Zb|apply Za|apply Zc)|exact HB.out))))
       have n5_:=Zz.mk (Zi (by repeat (first|(with_reducible first|exact HB.out|apply Zb|apply Za|apply Zc)|exact HB.out)) hb)
       clear HO_5
       clear HO379
       clear HO382
       clear HO386
       clear HB
       have HO_5:=n0_
       have HO379:=n1_
       have HO382:=n2_
       have HO386:=n3_
       have HO389:=n4_
       have HB:=n5_
       clear n0_ n1_ n2_ n3_ n4_ n5_
       (try clear hb)
       (try clear hb2)
       (try clear hk)
       (try clear hi)
       (try clear ho0)
       refine hK.out _ _ (((HB.out.cell (World.block_lt_of_cell? w _ hw383_0)).trans hw383_0)) (fun hHeld=>?_)
       clear hK K
       refine norm_ (a':=?_) ?_ ?_
       rotate_left
       ·show Act.put _ (some 25) _=_
        simp only [Act.put,List.setIfInBounds_toArray,List.set_cons_zero,List.set_cons_succ,Z6,Z7]
        rfl
       refine pure_ (i:=9) (N:=some 5) (v:=?_) (a':=?_) #[true,true,true,true,true,true,true,true,true,true] rfl rfl (Z3 HT_.out (by kernel_rfl)) (fun _ _ _ h=>h) (Or.inl ⟨by rfl,?_⟩) ?_ ?_
       rotate_left
       ·intro w'
        go_simp
        with_reducible rfl
       rotate_left
       ·simp only [Act.put,List.setIfInBounds_toArray,List.set_cons_zero,List.set_cons_succ,Z6,Z7]
        rfl
       refine done_ (done_of HT_.out (by kernel_rfl)) ?_
       try go_wp2
       go_roundg k1
       case measure=>have:=HK1.out;omega
       case rel=>exact ⟨(t387),(wrap64 (x6_1-1)),(by first|rfl|(simp;done)|(simp [*];done)),H',⟨by have:=HK1.out;omega⟩,⟨by (with_reducible repeat (first|apply Kd.V_alloc|apply Kd.V_drewN|apply Kd.V_drew));exact Kd.V_mono HO389.out (fun _ hk=>hk.1)⟩,⟨by repeat (first|(with_reducible first|exact HB.out|apply Zb|apply Za|apply Zc)|exact HB.out)⟩⟩
      ·rw [if_neg c7] at H
       exact absurd H (by simp)
     ·rw [if_neg c6] at H
      exact absurd H (by simp)
    ·rw [if_neg c4] at H
     exact absurd H (by simp)
   ·rw [if_neg c3] at H
    have c3b0:decide (0<=x6_1)=false:=decide_eq_false c3
    clear c3
    replace H:=Option.bind_eq_some_iff.mp H
    obtain ⟨t390,A210,H⟩:=H
    replace H:(some t390)=some r:=H
    have A21:=Zz.mk A210
    clear A210
    obtain rfl:=Option.some.inj H
    obtain ⟨Ao22,co22,eo22⟩:=Kd.V_slice HO_5.out
    subst eo22
    go_wp2_with (first|((with_reducible refine Zs (f:=123) rfl ?_);refine Zv (some 27) rfl rfl Try.func123 (by kernel_rfl) rfl #[.slice Ao22 x5_1.length co22] rfl (by (try simp only [List.map_toArray,List.map_cons,List.map_nil]);first|done|rfl|(simp only [List.length_drop,List.length_take];rfl)) ?_;(with_reducible refine (r02_cut.calls k1 (fun k_=>(w.heap.size<=k_)) _ _ x5_1 t390 _ ?side1 A21.out).mono ?_);(case side1=>exact HO_5.out);rintro e w23 ⟨v391,rfl,ho0,hb⟩;refine ⟨_,rfl,?_⟩;have n0_:=Zz.mk (Kd.V_below (by (with_reducible repeat (first|apply Kd.V_alloc|apply Kd.V_drewN|apply Kd.V_drew));exact HO_5.out) hb);have n1_:=Zz.mk (Kd.V_lower (Kd.V_mono (ok':=fun k_=>(w.heap.size<=k_)) ho0 (fun k_ hk_=>Or.elim hk_ (fun hs_=>hs_) (fun hn_=>(Nat.le_trans (Zf (by repeat (first|(with_reducible first|exact HB.out|apply Zb|apply Za|apply Zc)|exact HB.out))) hn_)))) (Zf (by repeat (first|(with_reducible first|exact HB.out|apply Zb|apply Za|apply Zc)|exact HB.out))));have n2_:=Zz.mk (Zi (by repeat (first|(with_reducible first|exact HB.out|apply Zb|apply Za|apply Zc)|exact HB.out)) hb);clear HO_5;clear HB;have HO_5:=n0_;have HO392:=n1_;have HB:=n2_;clear n0_ n1_ n2_;(try clear hb);(try clear hb2);(try clear hk);(try clear hi);(try clear ho0)))
    go_ret
    exact ⟨_,by first|rfl|(simp [Zm,Zl]<;>rfl)|(simp [*,Zm,Zl]<;>rfl),by (with_reducible repeat (first|apply Kd.V_alloc|apply Kd.V_drewN|apply Kd.V_drew));exact HO392.out,by repeat (first|(with_reducible first|exact HB.out|apply Zb|apply Za|apply Zc)|exact HB.out)⟩
def r02_Mul.f (k:Nat) (l0:List Int) (l1:List Int):Option (List Int):=(r02_FromLimbs.f k l0).bind fun t393=>((r02_FromLimbs.f k l1).bind fun t396=>((r02_mul.f k t393 t396).bind fun t399=>((r02_Limbs.f k t399).bind fun t402=>(some t402))))
set_option maxHeartbeats 8000000 in
set_option maxRecDepth 100000 in
theorem r02_Mul.calls (k:Nat) (A0:Option Addr) (c0:Nat) (l0:List Int) (A1:Option Addr) (c1:Nat) (l1:List Int) (r:List Int) (w:World) (hr0:Kd.C (Kd.int .u32) w A0 l0.length l0) (hc0:l0.length<=c0) (hr1:Kd.C (Kd.int .u32) w A1 l1.length l1) (hc1:l1.length<=c1) (h:r02_Mul.f k l0 l1=some r) :
  Calls Try.prog 69 #[.slice A0 l0.length c0,.slice A1 l1.length c1] w fun e w'=>∃v0_:Value,e=.returned (v0_)/\Kd.R (Kd.int .u32) 89 w' w.heap.size (fun _=>True) v0_ r/\Below w.heap.size w w':=by
 have HR0:=Zz.mk hr0
 have HC0:=Zz.mk hc0
 clear hr0 hc0
 have HR1:=Zz.mk hr1
 have HC1:=Zz.mk hc1
 clear hr1 hc1
 have HB:=Zz.mk (Below.refl w.heap.size w)
 have H:((r02_FromLimbs.f k l0).bind fun t393=>((r02_FromLimbs.f k l1).bind fun t396=>((r02_mul.f k t393 t396).bind fun t399=>((r02_Limbs.f k t399).bind fun t402=>(some t402)))))=some r:=h
 clear h
 replace H:=Option.bind_eq_some_iff.mp H
 obtain ⟨t393,A30,H⟩:=H
 replace H:((r02_FromLimbs.f k l1).bind fun t396=>((r02_mul.f k t393 t396).bind fun t399=>((r02_Limbs.f k t399).bind fun t402=>(some t402))))=some r:=H
 have A3:=Zz.mk A30
 clear A30
 replace H:=Option.bind_eq_some_iff.mp H
 obtain ⟨t396,A40,H⟩:=H
 replace H:((r02_mul.f k t393 t396).bind fun t399=>((r02_Limbs.f k t399).bind fun t402=>(some t402)))=some r:=H
 have A4:=Zz.mk A40
 clear A40
 replace H:=Option.bind_eq_some_iff.mp H
 obtain ⟨t399,A50,H⟩:=H
 replace H:((r02_Limbs.f k t399).bind fun t402=>(some t402))=some r:=H
 have A5:=Zz.mk A50
 clear A50
 replace H:=Option.bind_eq_some_iff.mp H
 obtain ⟨t402,A60,H⟩:=H
 replace H:(some t402)=some r:=H
 have A6:=Zz.mk A60
 clear A60
 obtain rfl:=Option.some.inj H
 go_enter Try.func69,Try.ntmps69
 go_wp2_with (first|((with_reducible refine Zs (f:=102) rfl ?_);refine Zv (some 6) rfl rfl Try.func102 (by kernel_rfl) rfl #[.slice A0 l0.length c0] rfl (by (try simp only [List.map_toArray,List.map_cons,List.map_nil]);first|done|rfl|(simp only [List.length_drop,List.length_take];rfl)) ?_;(with_reducible refine (r02_FromLimbs.calls k _ _ l0 t393 _ ?side1 ?side2 A3.out).mono ?_);(case side1=>repeat (first|exact HR0.out|(with_reducible refine Kd.C_alloc ?_ _)|(with_reducible refine Kd.C_drewN ?_ _)|(with_reducible refine Kd.C_drew ?_)));(case side2=>exact HC0.out);rintro e w7 ⟨v394,rfl,ho0,hb⟩;refine ⟨_,rfl,?_⟩;have n0_:=Zz.mk (Kd.V_lower (Kd.V_mono (ok':=fun k_=>True) ho0 (fun k_ hk_=>trivial)) (Zf (by repeat (first|(with_reducible first|exact HB.out|apply Zb|apply Za|apply Zc)|exact HB.out))));have n1_:=Zz.mk (Zi (by repeat (first|(with_reducible first|exact HB.out|apply Zb|apply Za|apply Zc)|exact HB.out)) hb);clear HB;have HO395:=n0_;have HB:=n1_;clear n0_ n1_;(try clear hb);(try clear hb2);(try clear hk);(try clear hi);(try clear ho0);(try clear A3))|((with_reducible refine Zs (f:=102) rfl ?_);refine Zv (some 8) rfl rfl Try.func102 (by kernel_rfl) rfl #[.slice A1 l1.length c1] rfl (by (try simp only [List.map_toArray,List.map_cons,List.map_nil]);first|done|rfl|(simp only [List.length_drop,List.length_take];rfl)) ?_;(with_reducible refine (r02_FromLimbs.calls k _ _ l1 t396 _ ?side1 ?side2 A4.out).mono ?_);(case side1=>repeat (first|exact (Kd.C_below HR1.out HB.out)|(with_reducible refine Kd.C_alloc ?_ _)|(with_reducible refine Kd.C_drewN ?_ _)|(with_reducible refine Kd.C_drew ?_)));(case side2=>exact HC1.out);rintro e w8 ⟨v397,rfl,ho0,hb⟩;refine ⟨_,rfl,?_⟩;have n0_:=Zz.mk (Kd.V_below (by (with_reducible repeat (first|apply Kd.V_alloc|apply Kd.V_drewN|apply Kd.V_drew));exact HO395.out) hb);have n1_:=Zz.mk (Kd.V_lower (Kd.V_mono (ok':=fun k_=>True) ho0 (fun k_ hk_=>trivial)) (Zf (by repeat (first|(with_reducible first|exact HB.out|apply Zb|apply Za|apply Zc)|exact HB.out))));have n2_:=Zz.mk (Zi (by repeat (first|(with_reducible first|exact HB.out|apply Zb|apply Za|apply Zc)|exact HB.out)) hb);clear HO395;clear HB;have HO395:=n0_;have HO398:=n1_;have HB:=n2_;clear n0_ n1_ n2_;(try clear hb);(try clear hb2);(try clear hk);(try clear hi);(try clear ho0);obtain ⟨Ao9,co9,eo9⟩:=Kd.V_slice HO395.out;subst eo9;obtain ⟨Ao10,co10,eo10⟩:=Kd.V_slice HO398.out;subst eo10;(try clear A4))|((with_reducible refine Zs (f:=104) rfl ?_);refine Zv (some 9) rfl rfl Try.func104 (by kernel_rfl) rfl #[.slice Ao9 t393.length co9,.slice Ao10 t396.length co10] rfl (by (try simp only [List.map_toArray,List.map_cons,List.map_nil]);first|done|rfl|(simp only [List.length_drop,List.length_take];rfl)) ?_;(with_reducible refine (r02_mul.calls k _ _ t393 _ _ t396 t399 _ ?side1 ?side2 ?side3 ?side4 A5.out).mono ?_);(case side1=>repeat (first|exact (Kd.V_reads' HO395.out).2.2|(with_reducible refine Kd.C_alloc ?_ _)|(with_reducible refine Kd.C_drewN ?_ _)|(with_reducible refine Kd.C_drew ?_)));(case side2=>exact (Kd.V_reads' HO395.out).2.1);(case side3=>repeat (first|exact (Kd.V_reads' HO398.out).2.2|(with_reducible refine Kd.C_alloc ?_ _)|(with_reducible refine Kd.C_drewN ?_ _)|(with_reducible refine Kd.C_drew ?_)));(case side4=>exact (Kd.V_reads' HO398.out).2.1);rintro e w11 ⟨v400,rfl,ho0,hb⟩;refine ⟨_,rfl,?_⟩;have n0_:=Zz.mk (Kd.V_below (by (with_reducible repeat (first|apply Kd.V_alloc|apply Kd.V_drewN|apply Kd.V_drew));exact HO395.out) hb);have n1_:=Zz.mk (Kd.V_below (by (with_reducible repeat (first|apply Kd.V_alloc|apply Kd.V_drewN|apply Kd.V_drew));exact HO398.out) hb);have n2_:=Zz.mk (Kd.V_lower (Kd.V_mono (ok':=fun k_=>True) ho0 (fun k_ hk_=>trivial)) (Zf (by repeat (first|(with_reducible first|exact HB.out|apply Zb|apply Za|apply Zc)|exact HB.out))));have n3_:=Zz.mk (Zi (by repeat (first|(with_reducible first|exact HB.out|apply Zb|apply Za|apply Zc)|exact HB.out)) hb);clear HO395;clear HO398;clear HB;have HO395:=n0_;have HO398:=n1_;have HO401:=n2_;have HB:=n3_;clear n0_ n1_ n2_ n3_;(try clear hb);(try clear hb2);(try clear hk);(try clear hi);(try clear ho0);obtain ⟨Ao12,co12,eo12⟩:=Kd.V_slice HO401.out;subst eo12)|((with_reducible refine Zs (f:=103) rfl ?_);refine Zv (some 10) rfl rfl Try.func103 (by kernel_rfl) rfl #[.slice Ao12 t399.length co12] rfl (by (try simp only [List.map_toArray,List.map_cons,List.map_nil]);first|done|rfl|(simp only [List.length_drop,List.length_take];rfl)) ?_;(with_reducible refine (r02_Limbs.calls k (fun k_=>True) _ _ t399 t402 _ ?side1 A6.out).mono ?_);(case side1=>exact HO401.out);rintro e w13 ⟨v403,rfl,ho0,hb⟩;refine ⟨_,rfl,?_⟩;have n0_:=Zz.mk (Kd.V_elder' (by (with_reducible repeat (first|apply Kd.V_alloc|apply Kd.V_drewN|apply Kd.V_drew));exact HO395.out) (Kd.R_base ho0) hb);have n1_:=Zz.mk (Kd.V_elder' (by (with_reducible repeat (first|apply Kd.V_alloc|apply Kd.V_drewN|apply Kd.V_drew));exact HO398.out) (Kd.R_base ho0) hb);have n2_:=Zz.mk (Kd.V_elder' (by (with_reducible repeat (first|apply Kd.V_alloc|apply Kd.V_drewN|apply Kd.V_drew));exact HO401.out) (Kd.R_base ho0) hb);have n3_:=Zz.mk (Kd.R_lower (Kd.R_mono (ok':=fun k_=>True) ho0 (fun _ hk_=>trivial)) (Zf (by repeat (first|(with_reducible first|exact HB.out|apply Zb|apply Za|apply Zc)|exact HB.out))));have n4_:=Zz.mk (Zi (by repeat (first|(with_reducible first|exact HB.out|apply Zb|apply Za|apply Zc)|exact HB.out)) hb);clear HO395;clear HO398;clear HO401;clear HB;have HO395:=n0_;have HO398:=n1_;have HO401:=n2_;have HO404:=n3_;have HB:=n4_;clear n0_ n1_ n2_ n3_ n4_;(try clear hb);(try clear hb2);(try clear hk);(try clear hi);(try clear ho0)))
 go_ret
 exact ⟨_,by first|rfl|(simp [Zm,Zl]<;>rfl)|(simp [*,Zm,Zl]<;>rfl),by (with_reducible repeat (first|apply Kd.R_alloc|apply Kd.R_drewN|apply Kd.R_drew));exact HO404.out,by repeat (first|(with_reducible first|exact HB.out|apply Zb|apply Za|apply Zc)|exact HB.out)⟩
def r02_Add.f (k:Nat) (l0:List Int) (l1:List Int):Option (List Int):=(r02_FromLimbs.f k l0).bind fun t422=>((r02_FromLimbs.f k l1).bind fun t425=>((r02_add.f k t422 t425).bind fun t428=>((r02_Limbs.f k t428).bind fun t431=>(some t431))))
set_option maxHeartbeats 8000000 in
set_option maxRecDepth 100000 in
theorem r02_Add.calls (k:Nat) (A0:Option Addr) (c0:Nat) (l0:List Int) (A1:Option Addr) (c1:Nat) (l1:List Int) (r:List Int) (w:World) (hr0:Kd.C (Kd.int .u32) w A0 l0.length l0) (hc0:l0.length<=c0) (hr1:Kd.C (Kd.int .u32) w A1 l1.length l1) (hc1:l1.length<=c1) (h:r02_Add.f k l0 l1=some r) :
  Calls Try.prog 75 #[.slice A0 l0.length c0,.slice A1 l1.length c1] w fun e w'=>∃v0_:Value,e=.returned (v0_)/\Kd.R (Kd.int .u32) 89 w' w.heap.size (fun _=>True) v0_ r/\Below w.heap.size w w':=by
 have HR0:=Zz.mk hr0
 have HC0:=Zz.mk hc0
 clear hr0 hc0
 have HR1:=Zz.mk hr1
 have HC1:=Zz.mk hc1
 clear hr1 hc1
 have HB:=Zz.mk (Below.refl w.heap.size w)
 have H:((r02_FromLimbs.f k l0).bind fun t422=>((r02_FromLimbs.f k l1).bind fun t425=>((r02_add.f k t422 t425).bind fun t428=>((r02_Limbs.f k t428).bind fun t431=>(some t431)))))=some r:=h
 clear h
 replace H:=Option.bind_eq_some_iff.mp H
 obtain ⟨t422,A30,H⟩:=H
 replace H:((r02_FromLimbs.f k l1).bind fun t425=>((r02_add.f k t422 t425).bind fun t428=>((r02_Limbs.f k t428).bind fun t431=>(some t431))))=some r:=H
 have A3:=Zz.mk A30
 clear A30
 replace H:=Option.bind_eq_some_iff.mp H
 obtain ⟨t425,A40,H⟩:=H
 replace H:((r02_add.f k t422 t425).bind fun t428=>((r02_Limbs.f k t428).bind fun t431=>(some t431)))=some r:=H
 have A4:=Zz.mk A40
 clear A40
 replace H:=Option.bind_eq_some_iff.mp H
 obtain ⟨t428,A50,H⟩:=H
 replace H:((r02_Limbs.f k t428).bind fun t431=>(some t431))=some r:=H
 have A5:=Zz.mk A50
 clear A50
 replace H:=Option.bind_eq_some_iff.mp H
 obtain ⟨t431,A60,H⟩:=H
 replace H:(some t431)=some r:=H
 have A6:=Zz.mk A60
 clear A60
 obtain rfl:=Option.some.inj H
 go_enter Try.func75,Try.ntmps75
 go_wp2_with (first|((with_reducible refine Zs (f:=102) rfl ?_);refine Zv (some 6) rfl rfl Try.func102 (by kernel_rfl) rfl #[.slice A0 l0.length c0] rfl (by (try simp only [List.map_toArray,List.map_cons,List.map_nil]);first|done|rfl|(simp only [List.length_drop,List.length_take];rfl)) ?_;(with_reducible refine (r02_FromLimbs.calls k _ _ l0 t422 _ ?side1 ?side2 A3.out).mono ?_);(case side1=>repeat (first|exact HR0.out|(with_reducible refine Kd.C_alloc ?_ _)|(with_reducible refine Kd.C_drewN ?_ _)|(with_reducible refine Kd.C_drew ?_)));(case side2=>exact HC0.out);rintro e w7 ⟨v423,rfl,ho0,hb⟩;refine ⟨_,rfl,?_⟩;have n0_:=Zz.mk (Kd.V_lower (Kd.V_mono (ok':=fun k_=>True) ho0 (fun k_ hk_=>trivial)) (Zf (by repeat (first|(with_reducible first|exact HB.out|apply Zb|apply Za|apply Zc)|exact HB.out))));have n1_:=Zz.mk (Zi (by repeat (first|(with_reducible first|exact HB.out|apply Zb|apply Za|apply Zc)|exact HB.out)) hb);clear HB;have HO424:=n0_;have HB:=n1_;clear n0_ n1_;(try clear hb);(try clear hb2);(try clear hk);(try clear hi);(try clear ho0);(try clear A3))|((with_reducible refine Zs (f:=102) rfl ?_);refine Zv (some 8) rfl rfl Try.func102 (by kernel_rfl) rfl #[.slice A1 l1.length c1] rfl (by (try simp only [List.map_toArray,List.map_cons,List.map_nil]);first|done|rfl|(simp only [List.length_drop,List.length_take];rfl)) ?_;(with_reducible refine (r02_FromLimbs.calls k _ _ l1 t425 _ ?side1 ?side2 A4.out).mono ?_);(case side1=>repeat (first|exact (Kd.C_below HR1.out HB.out)|(with_reducible refine Kd.C_alloc ?_ _)|(with_reducible refine Kd.C_drewN ?_ _)|(with_reducible refine Kd.C_drew ?_)));(case side2=>exact HC1.out);rintro e w8 ⟨v426,rfl,ho0,hb⟩;refine ⟨_,rfl,?_⟩;have n0_:=Zz.mk (Kd.V_below (by (with_reducible repeat (first|apply Kd.V_alloc|apply Kd.V_drewN|apply Kd.V_drew));exact HO424.out) hb);have n1_:=Zz.mk (Kd.V_lower (Kd.V_mono (ok':=fun k_=>True) ho0 (fun k_ hk_=>trivial)) (Zf (by repeat (first|(with_reducible first|exact HB.out|apply Zb|apply Za|apply Zc)|exact HB.out))));have n2_:=Zz.mk (Zi (by repeat (first|(with_reducible first|exact HB.out|apply Zb|apply Za|apply Zc)|exact HB.out)) hb);clear HO424;clear HB;have HO424:=n0_;have HO427:=n1_;have HB:=n2_;clear n0_ n1_ n2_;(try clear hb);(try clear hb2);(try clear hk);(try clear hi);(try clear ho0);obtain ⟨Ao9,co9,eo9⟩:=Kd.V_slice HO424.out;subst eo9;obtain ⟨Ao10,co10,eo10⟩:=Kd.V_slice HO427.out;subst eo10;(try clear A4))|((with_reducible refine Zs (f:=111) rfl ?_);refine Zv (some 9) rfl rfl Try.func111 (by kernel_rfl) rfl #[.slice Ao9 t422.length co9,.slice Ao10 t425.length co10] rfl (by (try simp only [List.map_toArray,List.map_cons,List.map_nil]);first|done|rfl|(simp only [List.length_drop,List.length_take];rfl)) ?_;(with_reducible refine (r02_add.calls k _ _ t422 _ _ t425 t428 _ ?side1 ?side2 ?side3 ?side4 A5.out).mono ?_);(case side1=>repeat (first|exact (Kd.V_reads' HO424.out).2.2|(with_reducible refine Kd.C_alloc ?_ _)|(with_reducible refine Kd.C_drewN ?_ _)|(with_reducible refine Kd.C_drew ?_)));(case side2=>exact (Kd.V_reads' HO424.out).2.1);(case side3=>repeat (first|exact (Kd.V_reads' HO427.out).2.2|(with_reducible refine Kd.C_alloc ?_ _)|(with_reducible refine Kd.C_drewN ?_ _)|(with_reducible refine Kd.C_drew ?_)));(case side4=>exact (Kd.V_reads' HO427.out).2.1);rintro e w11 ⟨v429,rfl,ho0,hb⟩;refine ⟨_,rfl,?_⟩;have n0_:=Zz.mk (Kd.V_below (by (with_reducible repeat (first|apply Kd.V_alloc|apply Kd.V_drewN|apply Kd.V_drew));exact HO424.out) hb);have n1_:=Zz.mk (Kd.V_below (by (with_reducible repeat (first|apply Kd.V_alloc|apply Kd.V_drewN|apply Kd.V_drew));exact HO427.out) hb);have n2_:=Zz.mk (Kd.V_lower (Kd.V_mono (ok':=fun k_=>True) ho0 (fun k_ hk_=>trivial)) (Zf (by repeat (first|(with_reducible first|exact HB.out|apply Zb|apply Za|apply Zc)|exact HB.out))));have n3_:=Zz.mk (Zi (by repeat (first|(with_reducible first|exact HB.out|apply Zb|apply Za|apply Zc)|exact HB.out)) hb);clear HO424;clear HO427;clear HB;have HO424:=n0_;have HO427:=n1_;have HO430:=n2_;have HB:=n3_;clear n0_ n1_ n2_ n3_;(try clear hb);(try clear hb2);(try clear hk);(try clear hi);(try clear ho0);obtain ⟨Ao12,co12,eo12⟩:=Kd.V_slice HO430.out;subst eo12)|((with_reducible refine Zs (f:=103) rfl ?_);refine Zv (some 10) rfl rfl Try.func103 (by kernel_rfl) rfl #[.slice Ao12 t428.length co12] rfl (by (try simp only [List.map_toArray,List.map_cons,List.map_nil]);first|done|rfl|(simp only [List.length_drop,List.length_take];rfl)) ?_;(with_reducible refine (r02_Limbs.calls k (fun k_=>True) _ _ t428 t431 _ ?side1 A6.out).mono ?_);(case side1=>exact HO430.out);rintro e w13 ⟨v432,rfl,ho0,hb⟩;refine ⟨_,rfl,?_⟩;have n0_:=Zz.mk (Kd.V_elder' (by (with_reducible repeat (first|apply Kd.V_alloc|apply Kd.V_drewN|apply Kd.V_drew));exact HO424.out) (Kd.R_base ho0) hb);have n1_:=Zz.mk (Kd.V_elder' (by (with_reducible repeat (first|apply Kd.V_alloc|apply Kd.V_drewN|apply Kd.V_drew));exact HO427.out) (Kd.R_base ho0) hb);have n2_:=Zz.mk (Kd.V_elder' (by (with_reducible repeat (first|apply Kd.V_alloc|apply Kd.V_drewN|apply Kd.V_drew));exact HO430.out) (Kd.R_base ho0) hb);have n3_:=Zz.mk (Kd.R_lower (Kd.R_mono (ok':=fun k_=>True) ho0 (fun _ hk_=>trivial)) (Zf (by repeat (first|(with_reducible first|exact HB.out|apply Zb|apply Za|apply Zc)|exact HB.out))));have n4_:=Zz.mk (Zi (by repeat (first|(with_reducible first|exact HB.out|apply Zb|apply Za|apply Zc)|exact HB.out)) hb);clear HO424;clear HO427;clear HO430;clear HB;have HO424:=n0_;have HO427:=n1_;have HO430:=n2_;have HO433:=n3_;have HB:=n4_;clear n0_ n1_ n2_ n3_ n4_;(try clear hb);(try clear hb2);(try clear hk);(try clear hi);(try clear ho0)))
 go_ret
 exact ⟨_,by first|rfl|(simp [Zm,Zl]<;>rfl)|(simp [*,Zm,Zl]<;>rfl),by (with_reducible repeat (first|apply Kd.R_alloc|apply Kd.R_drewN|apply Kd.R_drew));exact HO433.out,by repeat (first|(with_reducible first|exact HB.out|apply Zb|apply Za|apply Zc)|exact HB.out)⟩
end Go.Proofs.Ytfldklimlcnnnaa.PHq
end

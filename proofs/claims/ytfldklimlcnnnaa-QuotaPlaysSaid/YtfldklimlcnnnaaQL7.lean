/- The words and walks that the law QuotaPlays is proved by, part 7: each text in a section of its own. -/
import Derived.Test.YtfldklimlcnnnaaQL6
import Derived.Laws.IdiomStrings
import Derived.Deep.DrawnRows
import Derived.Deep.DeepCutAuto
import Derived.Deep.RegionHeld3
import Derived.Deep.CutBlock
set_option linter.unusedVariables false
set_option linter.unusedSimpArgs false
section
namespace Go.Proofs.Ytfldklimlcnnnaa.PureQuotaPlays
open Go.RowKit PHq YtfldklimlcnnnaaW.PrintWords YtfldklimlcnnnaaW.PrintLast YtfldklimlcnnnaaW.PrintMore MWords
open MNat QNat QEv QRatio XRV XHold XWts XLed XNew XFits XJoin QHold XOp XTree QTree XOf QTr XTHeld XTJoin XTAsk XTSettle QTChk XTNew2 XTMade QServ XQAwake XTKt XQOp XCollect QRef13 XRef13 XRPath XRHeld XRFit QEq13 XRJn XRAk XRSt XRFr XTwo
theorem tpathH {W:World} {M:Tm} {sv:List S71} {al:Int->Rat} {H:List Hol} {m:Nat} (h:TH W M sv al H m) (s:Int) :
  Calls Try.prog 43 #[.pointer (some ⟨M.t,0,none⟩),.int .i64 s] W fun e w'=>∃A c,e=.returned (.slice A (XCollect.pathT sv s).length c)/\(XCollect.pathT sv s).length<=c/\Kd.C (Kd.int .i64) w' A (XCollect.pathT sv s).length (XCollect.pathT sv s)/\Below W.heap.size W w':=by
 obtain ⟨_,_,h1,_,h3⟩:=h
 exact XCollect.Path_calls h1 h3 s
set_option maxRecDepth 100000 in
set_option maxHeartbeats 8000000 in
theorem plays_law (A0 A1 A2:Option Addr) (c0 c1 c2:Nat) (ps:List Int) (qs:List S39) (a b:Int) (xs:List OpW) (w:World) (h0:Kd.C (Kd.int .i64) w A0 ps.length ps) (l0:ps.length<=c0) (h1:Kd.C k39 w A1 qs.length qs) (l1:qs.length<=c1) (h2:Kd.C kOpW w A2 xs.length xs) (l2:xs.length<=c2) :
  Calls Try.prog 11 #[.agg #[.slice A0 ps.length c0,.slice A1 qs.length c1,.int .i64 a,.int .i64 b],.slice A2 xs.length c2] w fun e w'=>e=.returned (.bool true)/\Below w.heap.size w w':=by
 obtain ⟨sv,hsv,hS,hl8⟩:=servers_f ps qs a b
 obtain ⟨n,d,hn,hd1,hd2,hall⟩:=all_f ps qs a b
 obtain ⟨gs,hgs⟩:∃gs,gs=w.heap.size:=⟨_,rfl⟩
 obtain ⟨w0,vj⟩:∃w0,w0=w.alloc (.cells #[.slice A0 ps.length c0,.slice A1 qs.length c1,.int .i64 a,.int .i64 b] 64):=⟨_,rfl⟩
 have hb0:Below w.heap.size w w0:=by rw [vj];exact Zb (Below.refl _ _) _
 have HB0:=Zz.mk hb0
 have vt:=Zz.mk (show MBlk w0 gs 64 #[.slice A0 ps.length c0,.slice A1 qs.length c1,.int .i64 a,.int .i64 b] by rw [vj,hgs];exact Zo _ _ _)
 have HQ:=Zz.mk (And.intro (And.intro h0 l0) (And.intro h1 l1))
 have HX:=Zz.mk (And.intro h2 l2)
 have qx:=Zz.mk (And.intro hsv (And.intro hS hl8))
 have qu:=Zz.mk (And.intro hall (And.intro hn (And.intro hd1 hd2)))
 clear hsv hS hl8 hall hn hd1 hd2 h0 l0 h1 l1 h2 l2 hb0
 go_enter Try.func11,Try.ntmps11
 go_upto_region 1 with fail
 rw [<-vj,<-hgs]
 have HGS:=Zz.mk hgs
 clear vj hgs
 go_upto_region 2 with (go_at_call 39;refine (awake_calls _).mono ?_;rintro e w1 ⟨rfl,hb⟩;have vb:=Zz.mk (Zi HB0.out hb);have qy:=Zz.mk ((hb.block _ (Zn vt.out)).trans vt.out);clear hb)
 have a0:w1.cell? ⟨gs,0,none⟩=some (.slice A0 ps.length c0):=(Zg qy.out 0).trans rfl
 have a1:w1.cell? ⟨gs,1,none⟩=some (.slice A1 qs.length c1):=(Zg qy.out 1).trans rfl
 have a2:w1.cell? ⟨gs,2,none⟩=some (.int .i64 a):=(Zg qy.out 2).trans rfl
 have a3:w1.cell? ⟨gs,3,none⟩=some (.int .i64 b):=(Zg qy.out 3).trans rfl
 clear vt HB0
 go_wp2_with fail
 refine (l13_Spec_servers.calls 20 A0 c0 ps A1 c1 qs a b sv _ (Kd.C_below HQ.out.1.1 vb.out) HQ.out.1.2 (Kd.C_below HQ.out.2.1 vb.out) HQ.out.2.2 qx.out.1).mono ?_
 rintro e w2 ⟨v,rfl,hR,hb⟩
 obtain ⟨A,c,rfl⟩:=Kd.R_slice hR
 have HL2:=Zz.mk (Kd.R_lower hR vb.out.size)
 have vk:=Zz.mk (Zi vb.out hb)
 have qz:=Zz.mk ((hb.block _ (Zn qy.out)).trans qy.out)
 clear hR hb a0 a1 a2 a3 vb qy
 have a0:w2.cell? ⟨gs,0,none⟩=some (.slice A0 ps.length c0):=(Zg qz.out 0).trans rfl
 have a1:w2.cell? ⟨gs,1,none⟩=some (.slice A1 qs.length c1):=(Zg qz.out 1).trans rfl
 have a2:w2.cell? ⟨gs,2,none⟩=some (.int .i64 a):=(Zg qz.out 2).trans rfl
 have a3:w2.cell? ⟨gs,3,none⟩=some (.int .i64 b):=(Zg qz.out 3).trans rfl
 go_wp2_with fail
 refine (l13_Spec_all.calls 5 A0 c0 ps A1 c1 qs a b _ _ _ (Kd.C_below HQ.out.1.1 vk.out) HQ.out.1.2 (Kd.C_below HQ.out.2.1 vk.out) HQ.out.2.2 qu.out.1).mono ?_
 rintro e w3 ⟨v0,v1,rfl,h1,h2,hb⟩
 have vu:=Zz.mk (RV.ofR h1 h2)
 obtain ⟨P1,p1,P2,p2,rfl,rfl⟩:=vu.out.shape
 have vw:=Zz.mk (Zi vk.out hb)
 have vl:=Zz.mk (Kd.R_below HL2.out hb)
 have vx:=Zz.mk ((hb.block _ (Zn qz.out)).trans qz.out)
 clear h1 h2 hb a0 a1 a2 a3 vk qz HL2
 go_wp2_with fail
 have hnew:=new_tree (.slice P1 (limbs n).length p1) (.slice P2 (limbs d).length p2) n d 2 A c sv w3 vu.out (show n<4294967296 ^ 2 by have:=qu.out;omega) (show d<4294967296 ^ 2 by have:=qu.out;omega) (by decide) (by have:=qu.out;omega) (Kd.R_reads' vl.out).2.2 (Kd.R_reads' vl.out).2.1 qx.out.2.1
 refine hnew.mono ?_
 clear hnew
 rintro e w4 ⟨M,rfl,hT,hwr,hb⟩
 have vy:=Zz.mk hT
 have vm:=Zz.mk (show ∀k,M.wr sv.length k->w.heap.size<=k from fun k hk=>Nat.le_trans vw.out.size (hwr k hk))
 have vc:=Zz.mk (Zi vw.out hb)
 have HL4:=Zz.mk (Kd.R_below vl.out hb)
 have vd:=Zz.mk ((hb.block _ (Zn vx.out)).trans vx.out)
 clear hT hwr hb vw vl vx vu
 obtain ⟨al,hal⟩:∃al,al=alT sv (mkRat (n:Int) d):=⟨_,rfl⟩
 rw [<-hal] at vy
 have HAT:=Zz.mk hal
 clear hal
 have a0:w4.cell? ⟨gs,0,none⟩=some (.slice A0 ps.length c0):=(Zg vd.out 0).trans rfl
 have a1:w4.cell? ⟨gs,1,none⟩=some (.slice A1 qs.length c1):=(Zg vd.out 1).trans rfl
 have a2:w4.cell? ⟨gs,2,none⟩=some (.int .i64 a):=(Zg vd.out 2).trans rfl
 have a3:w4.cell? ⟨gs,3,none⟩=some (.int .i64 b):=(Zg vd.out 3).trans rfl
 go_upto_region 7 with (go_at_call 42;refine (l13_Spec_all.calls 5 A0 c0 ps A1 c1 qs a b _ _ _ (Kd.C_below HQ.out.1.1 vc.out) HQ.out.1.2 (Kd.C_below HQ.out.2.1 vc.out) HQ.out.2.2 qu.out.1).mono ?_;rintro e w5 ⟨v0,v1,rfl,h1,h2,hb⟩;have hv:=RV.ofR h1 h2;obtain ⟨T1,t1,T2,t2,rfl,rfl⟩:=hv.shape;have HV5:=Zz.mk hv;have vz:=Zz.mk hb;clear h1 h2 hb hv)
 obtain ⟨gt,hgt⟩:∃gt,gt=w5.heap.size:=⟨_,rfl⟩
 obtain ⟨w6,vn⟩:∃w6,w6=w5.alloc (.cells #[.slice T1 (limbs n).length t1,.slice T2 (limbs d).length t2,.slice A sv.length c,.slice none 0 0] 81):=⟨_,rfl⟩
 have ja:Below w5.heap.size w5 w6:=by rw [vn];exact Zb (Below.refl _ _) _
 have qt:=Zi vz.out ja
 have HR6:=Zz.mk (show RT w6 gt gt (.slice T1 (limbs n).length t1) (.slice T2 (limbs d).length t2) A c w.heap.size sv [] from ⟨⟨.slice none 0 0,by rw [vn,hgt];exact Zo _ _ _,Kd.R_nil _ _ _ _ _⟩,Kd.R_below HL4.out qt,⟨_,_,_,rfl⟩,_,_,_,rfl⟩)
 have HV6:=Zz.mk (HV5.out.below ja)
 have HT6:=Zz.mk (vy.out.below qt)
 have HB6:=Zz.mk (Zi vc.out qt)
 have qw:=Zz.mk (show w.heap.size<=gt by rw [hgt];exact Nat.le_trans vc.out.size vz.out.size)
 have va:=Zz.mk (show n<18446744073709551616/\d<18446744073709551616/\0<d from ⟨by have:=qu.out;omega,by have:=qu.out;omega,by have:=qu.out;omega⟩)
 rw [<-vn,<-hgt]
 clear vn hgt ja qt vy vc HL4 vd HV5 vz a0 a1 a2 a3
 go_wp2_with fail
 go_loopw [9] (fun v9 wr=>∃ (i:Nat) (H:List Hol),v9=.int .i64 i/\i<=40/\i<=xs.length/\Zz (TH wr M sv al H i)/\Zz (RT wr gt gt (.slice T1 (limbs n).length t1) (.slice T2 (limbs d).length t2) A c w.heap.size sv H)/\Zz (RV wr (.slice T1 (limbs n).length t1) (.slice T2 (limbs d).length t2) (limbs n) (limbs d))/\Zz (Below w.heap.size w wr)) (fun v9 _=>40-(intOf v9).toNat)
 case atStart=>exact ⟨0,[],rfl,by omega,by omega,HT6,HR6,HV6,HB6⟩
 case round =>
  clear HT6 HR6 HV6 HB6
  obtain ⟨i,H,rfl,hi,hix,HT,HR,HV,HB⟩:=hrel
  by_cases hlt:i<xs.length/\i<40
  case neg =>
   by_cases h1:i<xs.length
   ·have dd:decide ((i:Int)<(xs.length:Int))=true:=decide_eq_true (by omega)
    have dd':decide ((i:Int)<40)=false:=decide_eq_false (by omega)
    clear hlt hi hix
    go_wp2_with fail
    first
     | exact bodyPost_ret (results_tmp rfl _ _ _) rfl ⟨rfl,HB.out⟩
     | (go_ret;exact ⟨rfl,HB.out⟩)
   ·have dd:decide ((i:Int)<(xs.length:Int))=false:=decide_eq_false (by omega)
    clear hlt hi hix
    go_wp2_with fail
    first
     | exact bodyPost_ret (results_tmp rfl _ _ _) rfl ⟨rfl,HB.out⟩
     | (go_ret;exact ⟨rfl,HB.out⟩)
  obtain ⟨hlx,hl40⟩:=hlt
  have dd1:decide ((i:Int)<(xs.length:Int))=true:=decide_eq_true (by omega)
  have dd2:decide ((i:Int)<40)=true:=decide_eq_true (by omega)
  obtain ⟨ad,e,a0,a1,a2,a3,a4⟩:=at_OpW (Kd.C_below HX.out.1 HB.out) i hlx
  have HXC:=Zz.mk HX.out.2
  subst e
  generalize xs.getD i opwZ=o at a0 a1 a2 a3 a4
  obtain ⟨o0,o1,o2,o3,o4⟩:=o
  simp only at a0 a1 a2 a3 a4
  have f1:(0:Int)<=(i:Int):=by omega
  go_upto_region 11 with fail
  obtain ⟨go,hgo⟩:∃go,go=wr.heap.size:=⟨_,rfl⟩
  obtain ⟨w7,vo⟩:∃w7,w7=wr.alloc (.cells #[.int .i64 o0,.int .i64 o1,.int .i64 o2,.int .i64 o3,.int .i64 o4] 83):=⟨_,rfl⟩
  have ve:Below wr.heap.size wr w7:=by rw [vo];exact Zb (Below.refl _ _) _
  have qa:=Zz.mk (show MBlk w7 go 83 #[.int .i64 o0,.int .i64 o1,.int .i64 o2,.int .i64 o3,.int .i64 o4] by rw [vo,hgo];exact Zo _ _ _)
  have qb:=Zz.mk (HT.out.below ve)
  have qc:=Zz.mk (HR.out.below ve)
  have qd:=Zz.mk (HV.out.below ve)
  have qe:=Zz.mk (Zi HB.out ve)
  rw [<-vo,<-hgo]
  clear vo hgo ve HT HR HV HB a0 a1 a2 a3 a4 f1 dd1 dd2
  obtain ⟨z,hz,z15⟩:=and_mask_nat 4 (by omega) o1 15 rfl
  obtain ⟨kd,hkd,kd7⟩:=and_mask_nat 3 (by omega) o0 7 rfl
  have HZ:=Zz.mk (wfI_of (x:=(z:Int)) (by omega) (by omega))
  have ql:=Zz.mk (And.intro hlx hl40)
  obtain ⟨X,hX⟩:∃X,X=madeW o3 o4:=⟨_,rfl⟩
  have vp:=Zz.mk hX
  have vf:=Zz.mk (TH.ho qb.out)
  have vg:=Zz.mk qx.out.2.1
  have hkd8:kd<=7:=by omega
  have qm:w7.cell? ⟨go,0,none⟩=some (.int .i64 o0):=(Zg qa.out 0).trans rfl
  have qn:w7.cell? ⟨go,1,none⟩=some (.int .i64 o1):=(Zg qa.out 1).trans rfl
  have qo:w7.cell? ⟨go,2,none⟩=some (.int .i64 o2):=(Zg qa.out 2).trans rfl
  clear hX z15 hi hix hlx hl40 kd7
  go_upto_region 12 with fail
  go_cut [12] (fun v12 wc=>∃s:Int,v12=.int .i64 s/\wc=w7)
  case first =>
   go_wp2_with fail
   go_meet
   case rel=>exact ⟨_,rfl,rfl⟩
  case rest =>
  obtain ⟨s,rfl,hwc⟩:=hcut
  subst hwc
  go_upto_block 2 with fail
  clear qm qn qo hz hkd
  go_cut [13] (fun v13 wc=>∃H':List Hol,v13=.bool true/\Zz (TH wc M sv al H' (i+1))/\Zz (RT wc gt gt (.slice T1 (limbs n).length t1) (.slice T2 (limbs d).length t2) A c w.heap.size sv H')/\Zz (RV wc (.slice T1 (limbs n).length t1) (.slice T2 (limbs d).length t2) (limbs n) (limbs d))/\Zz (Below w.heap.size w wc))
  case first =>
   have qm:wc.cell? ⟨go,0,none⟩=some (.int .i64 o0):=(Zg qa.out 0).trans rfl
   have qn:wc.cell? ⟨go,1,none⟩=some (.int .i64 o1):=(Zg qa.out 1).trans rfl
   have qo:wc.cell? ⟨go,2,none⟩=some (.int .i64 o2):=(Zg qa.out 2).trans rfl
   have qp:wc.cell? ⟨go,3,none⟩=some (.int .i64 o3):=(Zg qa.out 3).trans rfl
   have qr:wc.cell? ⟨go,4,none⟩=some (.int .i64 o4):=(Zg qa.out 4).trans rfl
   by_cases k4:kd=4
   ·subst k4
    obtain ⟨E,hE⟩:∃E,E=askTE sv al H z X:=⟨_,rfl⟩
    have HE:=Zz.mk hE
    clear hE
    go_upto_region 17 with fail
    go_region_held3 (fun w'=>w'.cell? ⟨go,0,none⟩=some (.int .i64 o0)/\w'.cell? ⟨go,1,none⟩=some (.int .i64 o1)/\w'.cell? ⟨go,2,none⟩=some (.int .i64 o2)/\w'.cell? ⟨go,3,none⟩=some (.int .i64 o3)/\w'.cell? ⟨go,4,none⟩=some (.int .i64 o4))
     (first|(exact ⟨qm,qn,qo,qp,qr⟩)|go_keep)
     (first
      | (go_at_call 48;refine (weight_calls o0 o1 o2 o3 o4 _).mono ?_;rw [<-vp.out];rintro e w14 ⟨rfl,hb⟩;obtain ⟨qj⟩:Zz (Below w12.heap.size w12 w14):=⟨by first|exact hb|exact Zi (Zr (Below.refl _ _)) hb⟩;have qh:=Zz.mk (qb.out.below qj);have qi:=Zz.mk (qc.out.below qj);have qf:=Zz.mk (qd.out.below qj);have qk:=Zz.mk (show MBlk w14 go 83 #[.int .i64 o0,.int .i64 o1,.int .i64 o2,.int .i64 o3,.int .i64 o4] from (qj.block _ (Zn qa.out)).trans qa.out);have qg:=Zz.mk (Zi qe.out qj);clear qb qc qd qa qe;have qb:=qh;have qc:=qi;have qd:=qf;have qa:=qk;have qe:=qg;clear qh qi qf qk qg;have qm:=(Zg qa.out 0).trans (show _=some (Value.int .i64 o0) from rfl);have qn:=(Zg qa.out 1).trans (show _=some (Value.int .i64 o1) from rfl);have qo:=(Zg qa.out 2).trans (show _=some (Value.int .i64 o2) from rfl);have qp:=(Zg qa.out 3).trans (show _=some (Value.int .i64 o3) from rfl);have qr:=(Zg qa.out 4).trans (show _=some (Value.int .i64 o4) from rfl);clear hb qj)
      | (go_at_call 48;refine (weight_calls o0 o1 o2 o3 o4 _).mono ?_;rw [<-vp.out];rintro e w11 ⟨rfl,hb⟩;obtain ⟨qj⟩:Zz (Below wc.heap.size wc w11):=⟨by first|exact hb|exact Zi (Zr (Below.refl _ _)) hb⟩;have qh:=Zz.mk (qb.out.below qj);have qi:=Zz.mk (qc.out.below qj);have qf:=Zz.mk (qd.out.below qj);have qk:=Zz.mk (show MBlk w11 go 83 #[.int .i64 o0,.int .i64 o1,.int .i64 o2,.int .i64 o3,.int .i64 o4] from (qj.block _ (Zn qa.out)).trans qa.out);have qg:=Zz.mk (Zi qe.out qj);clear qb qc qd qa qe;have qb:=qh;have qc:=qi;have qd:=qf;have qa:=qk;have qe:=qg;clear qh qi qf qk qg;have qm:=(Zg qa.out 0).trans (show _=some (Value.int .i64 o0) from rfl);have qn:=(Zg qa.out 1).trans (show _=some (Value.int .i64 o1) from rfl);have qo:=(Zg qa.out 2).trans (show _=some (Value.int .i64 o2) from rfl);have qp:=(Zg qa.out 3).trans (show _=some (Value.int .i64 o3) from rfl);have qr:=(Zg qa.out 4).trans (show _=some (Value.int .i64 o4) from rfl);clear hb qj)
      | (go_at_call 47;refine (task_calls qb.out (by have:=ql.out;omega) (z:Int) X HZ.out).mono ?_;rw [<-HE.out];rintro e w12 ⟨rfl,hl,hk⟩;have qh:=Zz.mk hl;have qi:=Zz.mk (XTwo.RT.kt qc.out qb.out hk);have qf:=Zz.mk (RV_kt qb.out hk qd.out);have qk:=Zz.mk (show MBlk w12 go 83 #[.int .i64 o0,.int .i64 o1,.int .i64 o2,.int .i64 o3,.int .i64 o4] from mblk_kt qb.out hk qa.out (by decide));have qg:=Zz.mk (below_kt qe.out vm.out hk);clear qb qc qd qa qe;have qb:=qh;have qc:=qi;have qd:=qf;have qa:=qk;have qe:=qg;clear qh qi qf qk qg;have qm:=(Zg qa.out 0).trans (show _=some (Value.int .i64 o0) from rfl);have qn:=(Zg qa.out 1).trans (show _=some (Value.int .i64 o1) from rfl);have qo:=(Zg qa.out 2).trans (show _=some (Value.int .i64 o2) from rfl);have qp:=(Zg qa.out 3).trans (show _=some (Value.int .i64 o3) from rfl);have qr:=(Zg qa.out 4).trans (show _=some (Value.int .i64 o4) from rfl);clear hl hk)
      | (go_at_call 49;refine (rask_calls gt gt (.slice T1 (limbs n).length t1) (.slice T2 (limbs d).length t2) A c w.heap.size sv H i z X n d al _ qc.out qd.out va.out.1 va.out.2.1 va.out.2.2 HAT.out vg.out vf.out (by have:=ql.out;omega) (by obtain ⟨_,h1,_⟩:=qc.out.out;exact Nat.le_of_lt (Zn h1))).mono ?_;rw [<-HE.out];rintro e w13 ⟨rfl,hr,hk⟩;have qh:=Zz.mk (TH.kr qb.out qc.out hk);have qi:=Zz.mk hr;have qf:=Zz.mk (XTwo.RV.kr qd.out hk);have qk:=Zz.mk (show MBlk w13 go 83 #[.int .i64 o0,.int .i64 o1,.int .i64 o2,.int .i64 o3,.int .i64 o4] from XTwo.RT.keep qc.out hk qa.out (by decide) (by decide));have qg:=Zz.mk (KR.below qe.out qw.out qw.out hk);clear qb qc qd qa qe;have qb:=qh;have qc:=qi;have qd:=qf;have qa:=qk;have qe:=qg;clear qh qi qf qk qg;have qm:=(Zg qa.out 0).trans (show _=some (Value.int .i64 o0) from rfl);have qn:=(Zg qa.out 1).trans (show _=some (Value.int .i64 o1) from rfl);have qo:=(Zg qa.out 2).trans (show _=some (Value.int .i64 o2) from rfl);have qp:=(Zg qa.out 3).trans (show _=some (Value.int .i64 o3) from rfl);have qr:=(Zg qa.out 4).trans (show _=some (Value.int .i64 o4) from rfl);clear hr hk))
    all_goals
     go_wp2_with fail
     go_meet
     case rel=>exact ⟨_,by first|rfl|simp,qb,qc,qd,qe⟩
   by_cases k5:kd=5
   ·subst k5
    obtain ⟨E,hE⟩:∃E,E=settleTE H z:=⟨_,rfl⟩
    have HE:=Zz.mk hE
    clear hE qm qn qo qp qr
    go_wp2_with (first
     | (go_at_call 50;refine (tsettle_calls qb.out (by have:=ql.out;omega) (z:Int) HZ.out).mono ?_;rw [<-HE.out];rintro e w12 ⟨rfl,hl,hk⟩;have qi:=Zz.mk (XTwo.RT.kt qc.out qb.out hk);have qf:=Zz.mk (RV_kt qb.out hk qd.out);have qg:=Zz.mk (below_kt qe.out vm.out hk);clear qb qc qd qe;have qb:=Zz.mk hl;have qc:=qi;have qd:=qf;have qe:=qg;clear qi qf qg hl hk)
     | (go_at_call 51;refine (rsettle_calls gt gt (.slice T1 (limbs n).length t1) (.slice T2 (limbs d).length t2) A c w.heap.size sv H i z _ qc.out vf.out (by have:=ql.out;omega)).mono ?_;rw [<-HE.out];rintro e w13 ⟨rfl,hr,hk⟩;have qh:=Zz.mk (TH.kr qb.out qc.out hk);have qf:=Zz.mk (XTwo.RV.kr qd.out hk);have qg:=Zz.mk (KR.below qe.out qw.out qw.out hk);clear qb qc qd qe;have qb:=qh;have qc:=Zz.mk hr;have qd:=qf;have qe:=qg;clear qh qf qg hr hk))
    go_meet
    case rel=>exact ⟨_,by first|rfl|simp,qb,qc,qd,qe⟩
   by_cases k6:kd=6
   ·subst k6
    obtain ⟨E,hE⟩:∃E,E=freeTE H z:=⟨_,rfl⟩
    have HE:=Zz.mk hE
    clear hE qm qn qo qp qr
    go_wp2_with (first
     | (go_at_call 52;refine (tfree_calls qb.out (by have:=ql.out;omega) (z:Int) HZ.out).mono ?_;rw [<-HE.out];rintro e w12 ⟨rfl,hl,hk⟩;have qi:=Zz.mk (XTwo.RT.kt qc.out qb.out hk);have qf:=Zz.mk (RV_kt qb.out hk qd.out);have qg:=Zz.mk (below_kt qe.out vm.out hk);clear qb qc qd qe;have qb:=Zz.mk hl;have qc:=qi;have qd:=qf;have qe:=qg;clear qi qf qg hl hk)
     | (go_at_call 53;refine (rfree_calls gt gt (.slice T1 (limbs n).length t1) (.slice T2 (limbs d).length t2) A c w.heap.size sv H i z _ qc.out vf.out (by have:=ql.out;omega) (by obtain ⟨_,h1,_⟩:=qc.out.out;exact Nat.le_of_lt (Zn h1))).mono ?_;rw [<-HE.out];rintro e w13 ⟨rfl,hr,hk⟩;have qh:=Zz.mk (TH.kr qb.out qc.out hk);have qf:=Zz.mk (XTwo.RV.kr qd.out hk);have qg:=Zz.mk (KR.below qe.out qw.out qw.out hk);clear qb qc qd qe;have qb:=qh;have qc:=Zz.mk hr;have qd:=qf;have qe:=qg;clear qh qf qg hr hk))
    go_meet
    case rel=>exact ⟨_,by first|rfl|simp,qb,qc,qd,qe⟩
   by_cases k7:kd=7
   ·subst k7
    clear qm qn qo qp qr
    have HPL:=Zz.mk (show (pathT sv s).length<=1000 by
     cases ht:thereB sv.length s with
     | false=>rw [path_out ht];exact Nat.zero_le _
     | true =>
      have h1:=path_len vg.out.good s (there_in.1 ht)
      rw [XRPath.path_is (there_in.1 ht)]
      have:=qx.out.2.2
      omega)
    go_wp2_with (first
     | (go_at_call 43;refine (tpathH qb.out s).mono ?_;rintro e w12 ⟨Ap,cp,rfl,hl,hC,hb⟩;have HC1:=Zz.mk (And.intro hl hC);have qh:=Zz.mk (qb.out.below hb);have qi:=Zz.mk (qc.out.below hb);have qf:=Zz.mk (qd.out.below hb);have qg:=Zz.mk (Zi qe.out hb);clear qb qc qd qe;have qb:=qh;have qc:=qi;have qd:=qf;have qe:=qg;clear qh qi qf qg hl hC hb)
     | (go_at_call 55;refine (rpath_calls gt gt (.slice T1 (limbs n).length t1) (.slice T2 (limbs d).length t2) A c w.heap.size sv H s _ qc.out vg.out.good (by have:=qx.out.2.2;omega)).mono ?_;rintro e w13 ⟨Aq,cq,rfl,hl,hC,hb⟩;have HC2:=Zz.mk (And.intro hl hC);have HC3:=Zz.mk (Kd.C_below HC1.out.2 hb);have qh:=Zz.mk (qb.out.below hb);have qi:=Zz.mk (qc.out.below hb);have qf:=Zz.mk (qd.out.below hb);have qg:=Zz.mk (Zi qe.out hb);clear qb qc qd qe;have qb:=qh;have qc:=qi;have qd:=qf;have qe:=qg;clear qh qi qf qg hl hC hb)
     | (go_at_call 54;refine (r07_Same.calls _ Ap cp (pathT sv s) Aq cq (pathT sv s) true _ HC3.out HC1.out.1 HC2.out.2 HC2.out.1 (same_f _ HPL.out)).mono ?_;rintro e w14 ⟨rfl,hd⟩;have hb:=hd.below;have qh:=Zz.mk (qb.out.below hb);have qi:=Zz.mk (qc.out.below hb);have qf:=Zz.mk (qd.out.below hb);have qg:=Zz.mk (Zi qe.out hb);clear qb qc qd qe;have qb:=qh;have qc:=qi;have qd:=qf;have qe:=qg;clear qh qi qf qg hb hd))
    go_meet
    case rel=>exact ⟨H,rfl,⟨qb.out.mono (Nat.le_succ _)⟩,qc,qd,qe⟩
   have n4:((kd:Int) == 4)=false:=beq_eq_false_iff_ne.2 (by omega)
   have n5:((kd:Int) == 5)=false:=beq_eq_false_iff_ne.2 (by omega)
   have n6:((kd:Int) == 6)=false:=beq_eq_false_iff_ne.2 (by omega)
   have n7:((kd:Int) == 7)=false:=beq_eq_false_iff_ne.2 (by omega)
   clear k4 k5 k6 k7
   obtain ⟨E,hE⟩:∃E,E=joinTE sv al H z s X:=⟨_,rfl⟩
   have HE:=Zz.mk hE
   clear hE
   go_upto_region 15 with fail
   clear n4 n5 n6 n7
   go_region_held3 (fun w'=>w'.cell? ⟨go,0,none⟩=some (.int .i64 o0)/\w'.cell? ⟨go,1,none⟩=some (.int .i64 o1)/\w'.cell? ⟨go,2,none⟩=some (.int .i64 o2)/\w'.cell? ⟨go,3,none⟩=some (.int .i64 o3)/\w'.cell? ⟨go,4,none⟩=some (.int .i64 o4))
    (first|(exact ⟨qm,qn,qo,qp,qr⟩)|go_keep)
    (first
     | (go_at_call 48;refine (weight_calls o0 o1 o2 o3 o4 _).mono ?_;rw [<-vp.out];rintro e w14 ⟨rfl,hb⟩;obtain ⟨qj⟩:Zz (Below w12.heap.size w12 w14):=⟨by first|exact hb|exact Zi (Zr (Below.refl _ _)) hb⟩;have qh:=Zz.mk (qb.out.below qj);have qi:=Zz.mk (qc.out.below qj);have qf:=Zz.mk (qd.out.below qj);have qk:=Zz.mk (show MBlk w14 go 83 #[.int .i64 o0,.int .i64 o1,.int .i64 o2,.int .i64 o3,.int .i64 o4] from (qj.block _ (Zn qa.out)).trans qa.out);have qg:=Zz.mk (Zi qe.out qj);clear qb qc qd qa qe;have qb:=qh;have qc:=qi;have qd:=qf;have qa:=qk;have qe:=qg;clear qh qi qf qk qg;have qm:=(Zg qa.out 0).trans (show _=some (Value.int .i64 o0) from rfl);have qn:=(Zg qa.out 1).trans (show _=some (Value.int .i64 o1) from rfl);have qo:=(Zg qa.out 2).trans (show _=some (Value.int .i64 o2) from rfl);have qp:=(Zg qa.out 3).trans (show _=some (Value.int .i64 o3) from rfl);have qr:=(Zg qa.out 4).trans (show _=some (Value.int .i64 o4) from rfl);clear hb qj)
     | (go_at_call 48;refine (weight_calls o0 o1 o2 o3 o4 _).mono ?_;rw [<-vp.out];rintro e w11 ⟨rfl,hb⟩;obtain ⟨qj⟩:Zz (Below wc.heap.size wc w11):=⟨by first|exact hb|exact Zi (Zr (Below.refl _ _)) hb⟩;have qh:=Zz.mk (qb.out.below qj);have qi:=Zz.mk (qc.out.below qj);have qf:=Zz.mk (qd.out.below qj);have qk:=Zz.mk (show MBlk w11 go 83 #[.int .i64 o0,.int .i64 o1,.int .i64 o2,.int .i64 o3,.int .i64 o4] from (qj.block _ (Zn qa.out)).trans qa.out);have qg:=Zz.mk (Zi qe.out qj);clear qb qc qd qa qe;have qb:=qh;have qc:=qi;have qd:=qf;have qa:=qk;have qe:=qg;clear qh qi qf qk qg;have qm:=(Zg qa.out 0).trans (show _=some (Value.int .i64 o0) from rfl);have qn:=(Zg qa.out 1).trans (show _=some (Value.int .i64 o1) from rfl);have qo:=(Zg qa.out 2).trans (show _=some (Value.int .i64 o2) from rfl);have qp:=(Zg qa.out 3).trans (show _=some (Value.int .i64 o3) from rfl);have qr:=(Zg qa.out 4).trans (show _=some (Value.int .i64 o4) from rfl);clear hb qj)
     | (go_at_call 45;refine (tjoin_calls qb.out (by have:=ql.out;omega) (z:Int) s X HZ.out).mono ?_;rw [<-HE.out];rintro e w12 ⟨rfl,hl,hk⟩;have qh:=Zz.mk hl;have qi:=Zz.mk (XTwo.RT.kt qc.out qb.out hk);have qf:=Zz.mk (RV_kt qb.out hk qd.out);have qk:=Zz.mk (show MBlk w12 go 83 #[.int .i64 o0,.int .i64 o1,.int .i64 o2,.int .i64 o3,.int .i64 o4] from mblk_kt qb.out hk qa.out (by decide));have qg:=Zz.mk (below_kt qe.out vm.out hk);clear qb qc qd qa qe;have qb:=qh;have qc:=qi;have qd:=qf;have qa:=qk;have qe:=qg;clear qh qi qf qk qg;have qm:=(Zg qa.out 0).trans (show _=some (Value.int .i64 o0) from rfl);have qn:=(Zg qa.out 1).trans (show _=some (Value.int .i64 o1) from rfl);have qo:=(Zg qa.out 2).trans (show _=some (Value.int .i64 o2) from rfl);have qp:=(Zg qa.out 3).trans (show _=some (Value.int .i64 o3) from rfl);have qr:=(Zg qa.out 4).trans (show _=some (Value.int .i64 o4) from rfl);clear hl hk)
     | (go_at_call 56;refine (rjoin_calls gt gt (.slice T1 (limbs n).length t1) (.slice T2 (limbs d).length t2) A c w.heap.size sv H i z s X n d al _ qc.out qd.out va.out.1 va.out.2.1 va.out.2.2 HAT.out vg.out vf.out (by have:=ql.out;omega) HZ.out (by obtain ⟨_,h1,_⟩:=qc.out.out;exact Nat.le_of_lt (Zn h1))).mono ?_;rw [<-HE.out];rintro e w13 ⟨rfl,hr,hk⟩;have qh:=Zz.mk (TH.kr qb.out qc.out hk);have qi:=Zz.mk hr;have qf:=Zz.mk (XTwo.RV.kr qd.out hk);have qk:=Zz.mk (show MBlk w13 go 83 #[.int .i64 o0,.int .i64 o1,.int .i64 o2,.int .i64 o3,.int .i64 o4] from XTwo.RT.keep qc.out hk qa.out (by decide) (by decide));have qg:=Zz.mk (KR.below qe.out qw.out qw.out hk);clear qb qc qd qa qe;have qb:=qh;have qc:=qi;have qd:=qf;have qa:=qk;have qe:=qg;clear qh qi qf qk qg;have qm:=(Zg qa.out 0).trans (show _=some (Value.int .i64 o0) from rfl);have qn:=(Zg qa.out 1).trans (show _=some (Value.int .i64 o1) from rfl);have qo:=(Zg qa.out 2).trans (show _=some (Value.int .i64 o2) from rfl);have qp:=(Zg qa.out 3).trans (show _=some (Value.int .i64 o3) from rfl);have qr:=(Zg qa.out 4).trans (show _=some (Value.int .i64 o4) from rfl);clear hr hk))
   all_goals
    go_wp2_with fail
    go_meet
    case rel=>exact ⟨_,by first|rfl|simp,qb,qc,qd,qe⟩
  case rest =>
   obtain ⟨H',rfl,vh,vr,HV9,HB9⟩:=hcut
   obtain ⟨w9,jb⟩:∃w9,w9=wc:=⟨_,rfl⟩
   subst jb
   clear qb qc qd qa qe vf
   have vi:=Zz.mk (TH.ho vh.out)
   have hl9:H'.length<=41:=by have h1:=vi.out.len;have:=ql.out;omega
   have jc:=Zz.mk hl9
   obtain ⟨k,hk⟩:∃k,k=atP H' z:=⟨_,rfl⟩
   have HK9:=Zz.mk hk.symm
   have HS9:=Zz.mk (srv_at (z:=(z:Int)) vi.out)
   rw [<-hk] at HS9
   clear hk hl9
   go_upto_if 114 with (go_at_call 57;refine (at_calls gt gt (.slice T1 (limbs n).length t1) (.slice T2 (limbs d).length t2) A c w.heap.size sv H' z _ vr.out (by have:=jc.out;omega)).mono ?_;rw [HK9.out];rintro e w10 ⟨rfl,rfl⟩)
   obtain ⟨w9,jb⟩:∃w9,w9=w10:=⟨_,rfl⟩
   subst jb
   go_cut [14] (fun v14 wc=>v14=.int .i64 (srvH H' z)/\wc=w9)
   case first =>
    rcases HS9.out with ⟨_,hk,hs⟩|⟨la,lb,x,hL,hk,hs⟩
    ·have jd:=Zz.mk hs
     have d1:decide (k ≥ 0)=false:=decide_eq_false (by omega)
     have d2:decide (0<=k)=false:=decide_eq_false (by omega)
     have d3:¬ 0<=k:=by omega
     clear hk hs
     go_wp2_with fail
     go_meet
     case rel=>exact ⟨by rw [jd.out],rfl⟩
    ·have jd:=Zz.mk hs
     have hal:la.length<H'.length:=by rw [hL];simp
     have hx:H'[la.length]=x:=by subst hL;simp
     obtain ⟨v,hM,hR⟩:=vr.out.out
     obtain ⟨A3,c3,rfl,hc,hC⟩:=Kd.R_reads hR
     rw [List.length_map] at hC hc hM hR
     have f1:0<=k:=by omega
     have f2:k<(H'.length:Int):=by omega
     obtain ⟨ad4,e4,_,r1,_⟩:=at_T86 hC k f1 f2
     have hrx:(rd_T86 (H'.map rowT) k).f1=x.srv:=by rw [hk,rdT _ _ hal,hx];rfl
     rw [hrx] at r1
     have k3:w9.cell? ⟨gt,3,none⟩=some (.slice A3 H'.length c3):=(Zg hM 3).trans (by simp)
     have d1:decide (k ≥ 0)=true:=decide_eq_true f1
     have d2:decide (0<=k)=true:=decide_eq_true f1
     have HCC:=Zz.mk hc
     clear hM hR hC hc hL hk hs hx hrx
     go_wp2_with fail
     go_meet
     case rel=>exact ⟨by rw [jd.out],rfl⟩
   case rest =>
    obtain ⟨rfl,hwc⟩:=hcut
    subst hwc
    obtain ⟨q,hq⟩:∃q,q=srvH H' z:=⟨_,rfl⟩
    rw [<-hq]
    have HQ9:=Zz.mk hq.symm
    clear hq
    go_wp2_with (go_at_call 58;refine (tserverH vh.out HZ.out).mono ?_;rw [HQ9.out];rintro e w11 ⟨rfl,rfl⟩)
    go_loopw [16] (fun v16 wq=>∃k:Nat,v16=.int .i64 ((k:Int)-2)/\k<=sv.length+3/\Zz (Below w11.heap.size w11 wq)) (fun v _=>(sv.length+1-intOf v).toNat)
    case atStart=>exact ⟨0,rfl,by omega,⟨Below.refl _ _⟩⟩
    case round =>
     obtain ⟨k,rfl,hk,HW⟩:=hrel
     by_cases hlt:k<sv.length+3
     case neg =>
      have d1:decide ((k:Int)-2<=(sv.length:Int))=false:=decide_eq_false (by omega)
      have d2:¬ ((k:Int)-2<=(sv.length:Int)):=by omega
      have HE1:Zz (wrap64 ((i:Int)+1)=((i+1:Nat):Int)):=⟨by
       have h1:=ql.out
       rw [w64 (by omega) (by omega)]
       rfl⟩
      clear hlt hk
      go_wp2_with fail
      rw [HE1.out]
      refine ⟨⟨i+1,H',rfl,by have:=ql.out;omega,by have:=ql.out;omega,⟨vh.out.below HW.out⟩,⟨vr.out.below HW.out⟩,⟨HV9.out.below HW.out⟩,⟨Zi HB9.out HW.out⟩⟩,?_⟩
      have h1:=ql.out
      simp only [intOf]
      omega
     case pos =>
      have hl8:sv.length<=8:=qx.out.2.2
      obtain ⟨y,hy⟩:∃y,y=(k:Int)-2:=⟨_,rfl⟩
      have d1:decide (y<=(sv.length:Int))=true:=decide_eq_true (by omega)
      obtain ⟨N,E,⟨ks,hks⟩,fN,fE,hE,hsum⟩:=rsum_t (wsA sv H' y) (Nat.le_trans (wsA_len sv H' y) (by have:=jc.out;omega)) (wsA_ok vi.out.ok y)
      rw [wsA_sum] at hsum
      obtain ⟨kc,hkc⟩:=same_held vh.out (by have:=ql.out;omega) y fN fE hE hsum
      obtain ⟨Q,hQ⟩:∃Q:List Int × List Int,Q=L (heldA sv H' y):=⟨_,rfl⟩
      rw [<-hQ] at hkc
      generalize limbs N=lN at hks hkc
      generalize limbs E=lE at hks hkc
      have HKS:=Zz.mk hks
      have HKC:=Zz.mk hkc
      have HQQ:=Zz.mk hQ.symm
      have HLT:=Zz.mk (And.intro hlt (And.intro hy hl8))
      have HG5:Zz (wrap64 (y+1)=((k+1:Nat):Int)-2):=⟨by
       have h1:y+1=((k+1:Nat):Int)-2:=by omega
       rw [w64 (by omega) (by omega),h1]⟩
      rw [<-hy] at ⊢
      clear hy hks hkc hQ fN fE hE hsum hlt hk hl8
      go_wp2_with (first
       | (go_at_call 46;refine (theldH (vh.out.below HW.out) (by have:=ql.out;omega) y).mono ?_;rw [HQQ.out];rintro e w12 ⟨t,t',rfl,h,hb⟩;obtain ⟨R1,r1,R2,r2,rfl,rfl⟩:=h.shape;have HB12:=Zz.mk (Zi HW.out hb);have HU12:=Zz.mk h;clear h hb)
       | (go_at_call 59;refine (rHeld_calls gt gt (.slice T1 (limbs n).length t1) (.slice T2 (limbs d).length t2) A c w.heap.size sv H' y lN lE ks _ (vr.out.below HB12.out) vg.out.good (by have:=qx.out.2.2;omega) (by have:=jc.out;omega) vi.out.ok vi.out.srv HKS.out).mono ?_;rintro e w13 ⟨t,t',rfl,h,hb⟩;obtain ⟨S1,s1,S2,s2,rfl,rfl⟩:=h.shape;have HB13:=Zz.mk (Zi HB12.out hb);have HU13:=Zz.mk (HU12.out.below hb);have HS13:=Zz.mk h;clear h hb)
       | (go_at_call 19;refine (rcmp_rv HU13.out HS13.out HKC.out).mono ?_;rintro e w14 ⟨rfl,hb⟩;have HB14:=Zz.mk (Zi HB13.out hb);clear hb))
      rw [HG5.out]
      refine ⟨⟨k+1,rfl,by have:=HLT.out;omega,HB14⟩,?_⟩
      have h1:=HLT.out
      simp only [intOf]
      omega
end Go.Proofs.Ytfldklimlcnnnaa.PureQuotaPlays
end

/- The words and walks that the law QuotaPlays is proved by, part 6: each text in a section of its own. -/
import Derived.Test.YtfldklimlcnnnaaQL5
import Derived.Deep.RegionLaw
import Derived.WalkMore
import Derived.Deep.CutBlock
import Derived.Shelf.RegionOpen
import Derived.Deep.RegionHeld3
import Derived.Deep.DrawnRows
import Derived.Deep.DeepCutAuto
set_option linter.unusedVariables false
set_option linter.unusedSimpArgs false
section
namespace Go.Proofs.Ytfldklimlcnnnaa.XTNew
open Go.RowKit PHq YtfldklimlcnnnaaW.PrintWords YtfldklimlcnnnaaW.PrintLast YtfldklimlcnnnaaW.PrintMore MWords
open MNat QNat QRatio XRV XHold XWts XLed XFits XTree QTree XRowP XAllW QTr XTJoin
theorem nil_ne (ad:Addr) (n c:Nat) (w:World):(binOp BinOp.eql 65 (.slice (some ad) n c) (.slice none 0 0)).run Try.prog w=.ok (.bool false) w:=by
 kernel_rfl
theorem nil_eq (n c:Nat) (w:World):(binOp BinOp.eql 65 (.slice none n c) (.slice none 0 0)).run Try.prog w=.ok (.bool true) w:=by
 kernel_rfl
set_option maxRecDepth 100000 in
set_option maxHeartbeats 4000000 in
theorem clone_calls (A:Option Addr) (c:Nat) (xs:List S71) (w:World) (hC:Kd.C k71 w A xs.length xs) (hc:xs.length<=c) (hl:xs.length<=1000000) :
  Calls Try.prog 82 #[.slice A xs.length c] w fun e w'=>∃A' c',e=.returned (.slice A' xs.length c')/\Kd.R k71 71 w' w.heap.size (fun _=>True) (.slice A' xs.length c') xs/\Below w.heap.size w w':=by
 have HC:=Zz.mk hC
 have HL:=Zz.mk hl
 clear hC
 go_enter Try.func82,Try.ntmps82
 cases A with
 | none =>
  have h0:xs = []:=by
   cases xs with
   | nil=>rfl
   | cons x xs=>obtain ⟨ad,h,_⟩:=HC.out.2.2 (by simp);cases h
  subst h0
  have q0:=nil_eq 0 c
  go_wp2_with fail
  exact bodyPost_ret (results_tmp rfl _ _ _) rfl ⟨none,0,rfl,Kd.R_nil _ _ _ _ _,Below.refl _ _⟩
 | some ad =>
  have q0:=nil_ne ad xs.length c
  go_wp2_with (first
   | ((with_reducible refine Zt (N:=5) rfl ?_);refine Kd.R_lit k71 (w0:=w) w.heap.size 71 rfl (N:=5) rfl (xs:=([]:List S71)) (inner:=[]) (ok:=fun _=>True) (okp:=fun _=>True) (by first|(go_simp;done)|(go_simp;rfl)) (Reps.none _ _) (fun _ hk=>hk) trivial (Below.refl _ _) (Nat.le_refl _) (by simp) ?_;intro v1 w1 hR1 hb1 _ _;have HR1:=Zz.mk hR1;have HB1:=Zz.mk hb1;have HS1:=Zz.mk hb1.size;clear hR1 hb1)
   | ((with_reducible refine gate_builtin (b:=.append) (xs:=#[.tmp 5,.tmp 6]) rfl ?_);at_builtin;refine Kd.R_append_rows k71 (w0:=w) w.heap.size rfl (.tmp 5) (.tmp 6) 65 71 (.agg #[.int .i64 0,.int .i64 0,.int .i64 0]) 24 rfl Try.underlying65 info71 rfl (by decide) (by omega) v1 [] xs (some ad) xs.length c (fun _=>True) (fun _=>False) rfl rfl HR1.out (Kd.C_below HC.out HB1.out) (fun x cs hx=>by obtain rfl:=k71_open hx;exact k71_mkM _ _ _ x) (fun _ hk=>hk.elim) (fun _ _=>trivial) HB1.out HS1.out (by have:=HL.out;simp;omega) ?_;intro v2 w2 hR2 hb2 _ _;have HR2:=Zz.mk hR2;have HB2:=Zz.mk hb2;clear hR2 hb2))
  obtain ⟨A2,c2,rfl⟩:=Kd.R_slice HR2.out
  exact bodyPost_ret (results_tmp rfl _ _ _) rfl ⟨A2,c2,rfl,HR2.out,HB2.out⟩
structure Con (w:World) (t:Nat) (A:Option Addr) (c m:Nat) (sv:List S71) (g b:Nat->Nat) (qs:Nat->Rat) (i:Nat) (W:World):Prop where
 cells:∃A1 c1,MBlk W t 119 #[.slice A sv.length c,.slice A1 i c1,.map (some m)]/\VRow W w.heap.size 24 (.slice A1 i c1) ((List.range i).map fun j=>.pointer (some ⟨g j,0,none⟩))
 row:Kd.C k71 W A sv.length sv
 rowt:0<sv.length->∀ad,A=some ad->∃cs,W.heap[ad.block]? = some (.cells cs 71 (0,0))
 map:XAt.MapIs W m []
 led:∀j,j<i->Led W (g j) (b j) (qs j) 0 []
 ne:∀j k,j<i->k<i->j≠k->g j≠g k/\b j≠b k
 mb:∀j,j<i->b j≠m
 base:w.heap.size<=t/\w.heap.size<=m/\∀j,j<i->w.heap.size<=g j/\w.heap.size<=b j
 keep:Below w.heap.size w W
section
variable {w W W':World} {t:Nat} {A:Option Addr} {c m:Nat} {sv:List S71} {g b:Nat->Nat} {qs:Nat->Rat} {i:Nat}
theorem Con.below (h:Con w t A c m sv g b qs i W) (hb:Below W.heap.size W W'):Con w t A c m sv g b qs i W':=by
 obtain ⟨A1,c1,h1,h2⟩:=h.cells
 exact ⟨⟨A1,c1,(hb.block _ (Zn h1)).trans h1,h2.same fun k cs _ hc=>hb.block _ (Array.getElem?_eq_some_iff.1 hc).1⟩,Kd.C_below h.row hb,
  fun h0 ad e=>by obtain ⟨cs,hc⟩:=h.rowt h0 ad e;exact ⟨cs,(hb.block _ (Array.getElem?_eq_some_iff.1 hc).1).trans hc⟩,h.map.kept (hb.block _ h.map.lt),fun j hj=>(h.led j hj).below hb,h.ne,h.mb,h.base,Zi h.keep hb⟩
theorem noLimb_tree {X:World} {k:Nat} {o1 o2:Option Addr} {n1 n2 m1 m2:Nat} {mm:Option Nat} {T:TypeId} (hG:MBlk X k T #[.slice o1 n1 m1,.slice o2 n2 m2,.map mm]):NoLimb X k:=by
 intro p hp n hc
 unfold World.cell? at hc
 rw [hp,show X.heap[k]? = _ from hG] at hc
 simp only at hc
 split at hc
 ·cases hc
 ·match ho:p.off,hc with
  | 0,hc=>simp at hc
  | 1,hc=>simp at hc
  | 2,hc=>simp at hc
  | k+3,hc=>simp at hc
def ext {β:Type} (f:Nat->β) (i:Nat) (x:β):Nat->β:=fun j=>if j=i then x else f j
theorem ext_same {β:Type} (f:Nat->β) (i:Nat) (x:β):ext f i x i=x:=if_pos rfl
theorem ext_lt {β:Type} (f:Nat->β) {i j:Nat} (x:β) (h:j<i):ext f i x j=f j:=if_neg (by omega)
theorem range_ext (g:Nat->Nat) (i x:Nat):((List.range (i+1)).map fun j=>(Value.pointer (some ⟨ext g i x j,0,none⟩)))=((List.range i).map fun j=>(Value.pointer (some ⟨g j,0,none⟩)))++[.pointer (some ⟨x,0,none⟩)]:=by
 rw [List.range_succ,List.map_append]
 congr 1
 ·refine List.map_congr_left fun j hj=>?_
  rw [ext_lt g x (List.mem_range.1 hj)]
 ·rw [List.map_cons,ext_same];rfl
theorem Con.step (h:Con w t A c m sv g b qs i W) {gi bi:Nat} {q:Rat} (hL:Led W gi bi q 0 []) (hn:∀j,j<i->gi≠g j/\bi≠b j) (hm:bi≠m) (hb:w.heap.size<=gi/\w.heap.size<=bi)
  {A1 A2:Option Addr} {c1 c2:Nat} {w5:World} (h1:MBlk W t 119 #[.slice A sv.length c,.slice A1 i c1,.map (some m)]) (h2:VRow W w.heap.size 24 (.slice A1 i c1) ((List.range i).map fun j=>.pointer (some ⟨g j,0,none⟩)))
  (hv:VRow w5 w.heap.size 24 (.slice A2 (i+1) c2) (((List.range i).map fun j=>.pointer (some ⟨g j,0,none⟩))++[.pointer (some ⟨gi,0,none⟩)])) (hg:W.grownBy w5 (Value.slice A1 i c1).ownBlock) :
  Con w t A c m sv (ext g i gi) (ext b i bi) (ext qs i q) (i+1) (w5.setCell ⟨t,1,none⟩ (.slice A2 (i+1) c2)):=by
 have hty:∀k,(Value.slice A1 i c1).ownBlock=some k->w.heap.size<=k/\∃cs,W.heap[k]? = some (.cells cs 24 (0,0)):=h2.typed
 have hs:∀k o,W.heap[k]? = some o->(∀cs,o≠Obj.cells cs 24 (0,0))->w5.heap[k]? = some o:=fun k o hk ho=>(hg.block k (Array.getElem?_eq_some_iff.1 hk).1 (fun e=>by
  obtain ⟨_,cs,hc⟩:=hty k e.symm
  rw [hk] at hc
  exact ho cs (Option.some.inj hc))).trans hk
 have ht5:MBlk w5 t 119 #[.slice A sv.length c,.slice A1 i c1,.map (some m)]:=hs t _ h1 (fun cs e=>by cases e)
 have hne:∀k,k≠t->(w5.setCell ⟨t,1,none⟩ (.slice A2 (i+1) c2)).heap[k]? = w5.heap[k]?:=fun k hk=>Below.heap_setCell _ ⟨t,1,none⟩ _ k hk
 have hs6:∀k o,W.heap[k]? = some o->(∀cs T,o=Obj.cells cs T (0,0)->T≠24/\T≠119)->(w5.setCell ⟨t,1,none⟩ (.slice A2 (i+1) c2)).heap[k]? = some o:=fun k o hk ho=>(hne k (fun e=>by
  subst e
  rw [show W.heap[k]? = _ from h1] at hk
  cases hk
  exact (ho _ _ rfl).2 rfl)).trans (hs k o hk (fun cs e=>(ho cs _ e).1 rfl))
 have hlimb:∀k,k<W.heap.size->¬ NoLimb W k->(w5.setCell ⟨t,1,none⟩ (.slice A2 (i+1) c2)).heap[k]? = W.heap[k]?:=fun k hk hnl=>(hne k (fun e=>hnl (by rw [e];exact noLimb_tree h1))).trans (hg.block k hk (fun e=>hnl (h2.noLimb e.symm)))
 have hled:∀ {g' b':Nat} {q':Rat},Led W g' b' q' 0 []->Led (w5.setCell ⟨t,1,none⟩ (.slice A2 (i+1) c2)) g' b' q' 0 []:=fun hl=>by
  obtain ⟨⟨cg,hg1⟩,es,cc,hb1⟩:=Led.blk hl
  exact hl.near ((hs6 _ _ hg1 (fun cs T e=>by cases e;exact ⟨by decide,by decide⟩)).trans hg1.symm) ((hs6 _ _ hb1 (fun cs T e=>by cases e)).trans hb1.symm) hlimb
 obtain ⟨em,cm,hmap⟩:=h.map.obj
 refine ⟨⟨A2,c2,mblk_set ht5 1 _,?_⟩,C_blk h.row (fun h0 ad e=>?_),fun h0 ad e=>?_,h.map.kept ((hs6 _ _ hmap (fun cs T e=>by cases e)).trans hmap.symm),fun j hj=>?_,fun j k hj hk hjk=>?_,fun j hj=>?_,⟨h.base.1,h.base.2.1,fun j hj=>?_⟩,?_⟩
 ·rw [range_ext]
  exact hv.same fun k cs hk hc=>hne k (fun e=>by
   subst e
   rw [show w5.heap[k]? = _ from ht5] at hc
   cases hc)
 ·obtain ⟨cs,hc⟩:=h.rowt h0 ad e
  exact (hs6 _ _ hc (fun cs T e=>by cases e;exact ⟨by decide,by decide⟩)).trans hc.symm
 ·obtain ⟨cs,hc⟩:=h.rowt h0 ad e
  exact ⟨cs,hs6 _ _ hc (fun cs T e=>by cases e;exact ⟨by decide,by decide⟩)⟩
 ·by_cases e:j=i
  ·subst e
   rw [ext_same,ext_same,ext_same]
   exact hled hL
  ·have hj':j<i:=by omega
   rw [ext_lt g gi hj',ext_lt b bi hj',ext_lt qs q hj']
   exact hled (h.led j hj')
 ·by_cases e1:j=i
  ·subst e1
   have hk':k<j:=by omega
   rw [ext_same,ext_same,ext_lt g gi hk',ext_lt b bi hk']
   exact hn k hk'
  ·have hj':j<i:=by omega
   rw [ext_lt g gi hj',ext_lt b bi hj']
   by_cases e2:k=i
   ·subst e2
    rw [ext_same,ext_same]
    exact ⟨fun e=>(hn j hj').1 e.symm,fun e=>(hn j hj').2 e.symm⟩
   ·have hk':k<i:=by omega
    rw [ext_lt g gi hk',ext_lt b bi hk']
    exact h.ne j k hj' hk' hjk
 ·by_cases e:j=i
  ·subst e;rw [ext_same];exact hm
  ·rw [ext_lt b bi (by omega)];exact h.mb j (by omega)
 ·by_cases e:j=i
  ·subst e;rw [ext_same,ext_same];exact hb
  ·rw [ext_lt g gi (by omega),ext_lt b bi (by omega)];exact h.base.2.2 j (by omega)
 ·have hk5:Below w.heap.size w w5:=h.keep.grown hg h.keep.size (fun k e=>(hty k e).1)
  exact hk5.setCell (p:=⟨t,1,none⟩) h.base.1 _
end
end Go.Proofs.Ytfldklimlcnnnaa.XTNew
end

section
namespace Go.Proofs.Ytfldklimlcnnnaa.QTChk
open Go.RowKit PHq YtfldklimlcnnnaaW.PrintWords YtfldklimlcnnnaaW.PrintLast YtfldklimlcnnnaaW.PrintMore MWords
open MNat QNat XTree QTree
def OkS (x:S71) (i:Nat):Prop:=-1<=x.f0/\x.f0<i/\0<=x.f1.f0/\x.f1.f0<=1073741824/\1<=x.f1.f1/\x.f1.f1<=1048576
structure SvOk (sv:List S71):Prop where
 ok:∀i:Nat,i<sv.length->OkS (rd_T71 sv (i:Int)) i
 len:sv.length<=16
theorem SvOk.good {sv:List S71} (h:SvOk sv):GoodSv sv:=fun s h0 h1=>by
 obtain ⟨i,rfl⟩:∃i:Nat,s=i:=⟨s.toNat,by omega⟩
 have:=h.ok i (by omega)
 exact ⟨this.1,this.2.1⟩
theorem chk_l {sv:List S71} (h:SvOk sv):∀ (d k i:Nat),i+d=sv.length->d<k->quota_Check.l0 k sv sv (sv.length:Int) (i:Int)=some true:=by
 intro d
 induction d with
 | zero =>
  intro k i hi hk
  obtain ⟨k,rfl⟩:∃j,k=j+1:=⟨k-1,by omega⟩
  simp only [quota_Check.l0]
  have:=h.len
  rw [if_neg (by omega),decide_eq_true (by omega)]
 | succ d ih =>
  intro k i hi hk
  obtain ⟨k,rfl⟩:∃j,k=j+1:=⟨k-1,by omega⟩
  simp only [quota_Check.l0]
  have hl:=h.len
  obtain ⟨h1,h2,h3,h4,h5,h6⟩:=h.ok i (by omega)
  rw [if_pos (by omega),if_pos (by omega),if_pos (by omega),if_neg (by omega),if_neg (by omega),if_neg (by omega),if_neg (by omega),if_neg (by omega),if_neg (by omega),w64 (by omega) (by omega)]
  exact ih k (i+1) (by omega) (by omega)
theorem chk_f {sv:List S71} (h:SvOk sv):quota_Check.f (sv.length+1) sv=some true:=by
 unfold quota_Check.f
 exact chk_l h sv.length _ 0 (by omega) (by omega)
end Go.Proofs.Ytfldklimlcnnnaa.QTChk
end

section
namespace Go.Proofs.Ytfldklimlcnnnaa.XTNew2
open Go.RowKit PHq YtfldklimlcnnnaaW.PrintWords YtfldklimlcnnnaaW.PrintLast YtfldklimlcnnnaaW.PrintMore MWords
open MNat QNat QRatio XRV XHold XWts XLed XFits XTree QTree XRowP XAllW QTr XTJoin XTNew QTChk
def quo (sv:List S71) (i:Nat):Rat:=wt (rd_T71 sv (i:Int)).f1
def alT (sv:List S71) (q:Rat):Int->Rat:=fun s=>if s = -1 then q else quo sv s.toNat
theorem ext_self {β:Type} (f:Nat->β) (i:Nat):ext f i (f i)=f:=by
 funext j
 unfold ext
 split
 ·rename_i e;rw [e]
 ·rfl
set_option maxRecDepth 100000 in
set_option maxHeartbeats 8000000 in
theorem tnew_calls (x y:Value) (n d j:Nat) (A0:Option Addr) (c0:Nat) (sv:List S71) (w:World) (hv:RV w x y (limbs n) (limbs d)) (hn:F j n) (hd:F j d) (hj:j<=1000) (h0:0<d) (hC:Kd.C k71 w A0 sv.length sv) (hc:sv.length<=c0) (hS:SvOk sv) :
    Calls Try.prog 41 #[.agg #[x,y],.slice A0 sv.length c0] w fun e w'=>∃ (t:Nat) (A:Option Addr) (c m:Nat) (g b:Nat->Nat),e=.returned (.pointer (some ⟨t,0,none⟩))/\sv.length<=c/\Con w t A c m sv g b (ext (quo sv) sv.length (mkRat (n:Int) d)) (sv.length+1) w':=by
  have mixed:Try.prog.follows Departure.mixedOrders=true:=by kernel_rfl
  have hC0:=check_n j n d hn hd (by omega) h0
  obtain ⟨A1,c1,A2,c2,rfl,rfl⟩:=hv.shape
  obtain ⟨W0,hW0⟩:∃W0,W0=w.alloc (.cells #[.slice A1 (limbs n).length c1,.slice A2 (limbs d).length c2] 28):=⟨_,rfl⟩
  have hb0:Below w.heap.size w W0:=by rw [hW0];exact Zb (Below.refl _ _) _
  have HB0:=Zz.mk hb0
  have HM0:=Zz.mk (show MBlk W0 w.heap.size 28 #[.slice A1 (limbs n).length c1,.slice A2 (limbs d).length c2] by rw [hW0];exact Zo _ _ _)
  have HV0:=Zz.mk (hv.below hb0)
  have HC:=Zz.mk (And.intro hC hc)
  have HS:=Zz.mk hS
  have HF:=Zz.mk (And.intro hn (And.intro hd (And.intro hj h0)))
  have HRC:=Zz.mk hC0
  have hmm:=@run_makeMap Try.prog
  clear hv hn hd hj h0 hC hc hS hb0 hC0
  obtain ⟨un,hun⟩:∃un,un=limbs n:=⟨_,rfl⟩
  obtain ⟨ud,hud⟩:∃ud,ud=limbs d:=⟨_,rfl⟩
  rw [<-hun,<-hud] at HM0 HV0 HRC hW0 ⊢
  have HU:=Zz.mk (And.intro hun hud)
  clear hun hud
  have k0:W0.cell? ⟨w.heap.size,0,none⟩=some (.slice A1 un.length c1):=(Zg HM0.out 0).trans rfl
  have k1:W0.cell? ⟨w.heap.size,1,none⟩=some (.slice A2 ud.length c2):=(Zg HM0.out 1).trans rfl
  go_enter Try.func41,Try.ntmps41
  go_upto_region 1 with fail
  rw [<-hW0]
  clear hW0
  go_upto_region 3 with (first
    | (go_at_call 61;refine (quota_Check.calls _ A0 c0 sv true _ (Kd.C_below HC.out.1 HB0.out) HC.out.2 (chk_f HS.out)).mono ?_;rintro e w1 ⟨rfl,hb⟩;have HB1:=Zz.mk (Zi HB0.out hb);have HV1:=Zz.mk (HV0.out.below hb);have HM1:=Zz.mk ((hb.block _ (Zn HM0.out)).trans HM0.out);have k2:w1.cell? ⟨w.heap.size,0,none⟩=some (.slice A1 un.length c1):=(Zg HM1.out 0).trans rfl;have k3:w1.cell? ⟨w.heap.size,1,none⟩=some (.slice A2 ud.length c2):=(Zg HM1.out 1).trans rfl;clear hb)
    | (go_at_call 62;refine (check_rv HV1.out HRC.out).mono ?_;rintro e w2 ⟨rfl,hb⟩;have HB2:=Zz.mk (Zi HB1.out hb);have HV2:=Zz.mk (HV1.out.below hb);have HM2:=Zz.mk ((hb.block _ (Zn HM1.out)).trans HM1.out);clear hb))
  clear k0 k1 k2 k3 HM0 HM1 HV0 HV1 HB0 HB1
  go_wp2_with fail
  refine (clone_calls A0 c0 sv _ (Kd.C_below HC.out.1 HB2.out) HC.out.2 (by have:=HS.out.len;omega)).mono ?_
  rintro e w3 ⟨A,c,rfl,hR,hb⟩
  have HB3:=Zz.mk (Zi HB2.out hb)
  have HV3:=Zz.mk (HV2.out.below hb)
  have HM3:=Zz.mk ((hb.block _ (Zn HM2.out)).trans HM2.out)
  have HR3:=Zz.mk hR
  have HSB:=Zz.mk (show w.heap.size<=w2.heap.size from HB2.out.size)
  clear hb hR HB2 HV2 HM2
  obtain ⟨m,hmd⟩:∃m,m=w3.heap.size:=⟨_,rfl⟩
  obtain ⟨t,htd⟩:∃t,t=w3.heap.size+1:=⟨_,rfl⟩
  obtain ⟨w5,hw5⟩:∃w5,w5=(w3.alloc (.map #[] 0)).alloc (.cells #[.slice A sv.length c,.slice none 0 0,.map (some w3.heap.size)] 119):=⟨_,rfl⟩
  have hz5:(w3.alloc (.map #[] 0)).heap.size=t:=by rw [htd];simp
  have ha5:Below w3.heap.size w3 w5:=by rw [hw5];exact Zb (Zb (Below.refl _ _) _) _
  have HCON:=Zz.mk (show Con w t A c m sv (fun _=>0) (fun _=>0) (quo sv) 0 w5 by
    have hRR:=Kd.R_reads' HR3.out
    refine ⟨⟨none,0,?_,VRow.nil _ _ _⟩,Kd.C_below hRR.2.2 ha5,fun h0 ad e=>?_,?_,fun j hj=>absurd hj (by omega),fun j k hj=>absurd hj (by omega),fun j hj=>absurd hj (by omega),⟨by rw [htd];have:=HB3.out.size;omega,by rw [hmd];exact HB3.out.size,fun j hj=>absurd hj (by omega)⟩,Zi HB3.out ha5⟩
    · rw [hw5,hmd,<-hz5];exact Zo _ _ _
    · subst e
      obtain ⟨cs,hcs⟩:=Kd.R_typed HR3.out ad.block rfl
      exact ⟨cs,(ha5.block _ (Array.getElem?_eq_some_iff.1 hcs).1).trans hcs⟩
    · have hm2:XAt.MapIs (w3.alloc (.map #[] 0)) m []:=⟨_,by rw [hmd];exact World.ownsMap_made _ _ _ _,XAt.View.nil⟩
      rw [hw5]
      exact hm2.kept ((Zb (Below.refl _ _) _).block m hm2.lt))
  have HAL:=Zz.mk (show MBlk w5 w.heap.size 28 #[.slice A1 un.length c1,.slice A2 ud.length c2]/\RV w5 (.slice A1 un.length c1) (.slice A2 ud.length c2) un ud from ⟨(ha5.block _ (Zn HM3.out)).trans HM3.out,HV3.out.below ha5⟩)
  have HCC:=Zz.mk (show sv.length<=c from (Kd.R_reads' HR3.out).2.1)
  go_upto_region 4 with fail
  rw [<-hw5]
  rw [<-htd]
  clear hw5 ha5 hz5 hmd htd HR3 HV3 HM3 HB3 HSB hmm
  go_wp2_with fail
  go_loopw [23] (fun v wr=>∃ (i:Nat) (g b:Nat->Nat),v=.int .i64 (i:Int)/\i<=sv.length/\Zz (Con w t A c m sv g b (quo sv) i wr)/\Zz (MBlk wr w.heap.size 28 #[.slice A1 un.length c1,.slice A2 ud.length c2]/\RV wr (.slice A1 un.length c1) (.slice A2 ud.length c2) un ud)) (fun v _=>sv.length-(intOf v).toNat)
  case atStart=>exact ⟨0,_,_,rfl,by omega,HCON,HAL⟩
  case round =>
    clear HCON HAL
    obtain ⟨i,g,b,rfl,hi,HCON,HAL⟩:=hrel
    by_cases hlt:i<sv.length
    · have d1:decide ((i:Int)<(sv.length:Int))=true:=decide_eq_true (by omega)
      have d2:decide (i<sv.length)=true:=decide_eq_true hlt
      have q1:(i<sv.length)=True:=eq_true hlt
      have HLT:=Zz.mk hlt
      have HLN:=Zz.mk (show i<16 by have:=HS.out.len;omega)
      obtain ⟨ad,hA0,l0,l1,l2⟩:=at_T71 (Kd.C_below HC.out.1 HCON.out.keep) (i:Int) (by omega) (by omega)
      rw [Int.toNat_natCast] at l0 l1 l2
      obtain ⟨s,hs⟩:∃s,s=rd_T71 sv (i:Int):=⟨_,rfl⟩
      rw [<-hs] at l0 l1 l2
      have hok:=HS.out.ok i hlt
      rw [<-hs] at hok
      have hquo:quo sv i=wt s.f1:=by unfold quo;rw [hs]
      have HQ:=Zz.mk (And.intro hquo (show okW s.f1 from ⟨by have:=hok.2.2.1;omega,by have:=hok.2.2.2.1;omega,hok.2.2.2.2.1,by have:=hok.2.2.2.2.2;omega⟩))
      subst hA0
      obtain ⟨u0,hu0⟩:∃u0,u0=wr.alloc (.cells #[.int .i64 s.f0,.int .i64 s.f1.f0,.int .i64 s.f1.f1] 71):=⟨_,rfl⟩
      have hb0:Below wr.heap.size wr u0:=by rw [hu0];exact Zb (Below.refl _ _) _
      have hM0:MBlk u0 wr.heap.size 71 #[.int .i64 s.f0,.int .i64 s.f1.f0,.int .i64 s.f1.f1]:=by rw [hu0];exact Zo _ _ _
      have x1:u0.cell? ⟨wr.heap.size,1,none⟩=some (.int .i64 s.f1.f0):=(Zg hM0 1).trans rfl
      have x2:u0.cell? ⟨wr.heap.size,2,none⟩=some (.int .i64 s.f1.f1):=(Zg hM0 2).trans rfl
      obtain ⟨B1,d1',hm,hv⟩:=HCON.out.cells
      have HCU:=Zz.mk (HCON.out.below (hb0.trans (Zr (Below.refl u0.heap.size u0) |>.mono hb0.size)))
      have HRW:=Zz.mk (And.intro hm hv)
      have y1:u0.cell? ⟨t,1,none⟩=some (.slice B1 i d1'):=(Zg ((hb0.block _ (Zn hm)).trans hm) 1).trans rfl
      have HBU:=Zz.mk hb0
      clear hi hlt hs hok hquo hm hv hM0 hb0
      go_upto_region 7 with fail
      rw [<-hu0]
      clear hu0 l0 l1 l2
      have HOF:=Zz.mk (of_w s.f1 HQ.out.2)
      have HALU:=Zz.mk (show RV u0.drew (.slice A1 un.length c1) (.slice A2 ud.length c2) un ud/\MBlk u0.drew w.heap.size 28 #[.slice A1 un.length c1,.slice A2 ud.length c2] from ⟨(HAL.out.2.below HBU.out).below (Zr (Below.refl _ _)),(HBU.out.block _ (Zn HAL.out.1)).trans HAL.out.1⟩)
      have HTB:=Zz.mk (show MBlk u0.drew t 119 #[.slice A sv.length c,.slice B1 i d1',.map (some m)] from (HBU.out.block _ (Zn HRW.out.1)).trans HRW.out.1)
      have HVB:=Zz.mk (show VRow u0.drew w.heap.size 24 (.slice B1 i d1') ((List.range i).map fun j=>.pointer (some ⟨g j,0,none⟩)) from HRW.out.2.same fun k cs _ hc=>HBU.out.block _ (Array.getElem?_eq_some_iff.1 hc).1)
      go_region_law
        (first
          | (go_simp
             go_at_call 71
             refine (of_rv HOF.out).mono ?_
             rintro e u1 ⟨p,q,rfl,hpq,hb⟩
             obtain ⟨P1,p1,P2,p2,rfl,rfl⟩:=hpq.shape
             have HPQ:=Zz.mk hpq
             have HB1:=Zz.mk hb
             have y2:u1.cell? ⟨t,1,none⟩=some (.slice B1 i d1'):=(Zg ((hb.block _ (Zn HTB.out)).trans HTB.out) 1).trans rfl
             clear hb hpq)
          | (go_simp
             go_at_call 16
             refine (new_calls (.slice P1 (limbs s.f1.f0.toNat).length p1) (.slice P2 (limbs s.f1.f1.toNat).length p2) s.f1.f0.toNat s.f1.f1.toNat 1 u1 HPQ.out (okW_F HQ.out.2).1 (okW_F HQ.out.2).2 (by omega) (okW_pos HQ.out.2)).mono ?_
             rintro e u2 ⟨gi,bi,rfl,hL,hb,hg1,hb1⟩
             have hbb:=Zi HB1.out hb
             have HB2:=Zz.mk hbb
             have HL2:=Zz.mk (And.intro hL (And.intro (Nat.le_trans HB1.out.size hg1) (Nat.le_trans HB1.out.size hb1)))
             have HT2:=Zz.mk ((hbb.block _ (Zn HTB.out)).trans HTB.out)
             have HV2:=Zz.mk (show VRow u2 w.heap.size 24 (.slice B1 i d1') ((List.range i).map fun j=>.pointer (some ⟨g j,0,none⟩)) from HVB.out.same fun k cs _ hc=>hbb.block _ (Array.getElem?_eq_some_iff.1 hc).1)
             have HS2:=Zz.mk (show w.heap.size<=u2.heap.size from Nat.le_trans HCU.out.keep.size hbb.size)
             have y3:u2.cell? ⟨t,1,none⟩=some (.slice B1 i d1'):=(Zg (show MBlk u2 t _ _ from HT2.out) 1).trans rfl
             have y4:∀o,(u2.alloc o).cell? ⟨t,1,none⟩=some (.slice B1 i d1'):=fun o=>(Zg (Zp (show MBlk u2 t _ _ from HT2.out) o) 1).trans rfl
             clear hb hL hbb hg1 hb1)
          | (refine V_append_step w.heap.size (by rfl) (.tmp 31) (.tmp 36) 117 24 (.pointer none) 8 (by rfl) Try.underlying117 (by kernel_rfl) rfl (fun _ h=>by cases h) (.slice B1 i d1') ((List.range i).map fun j=>.pointer (some ⟨g j,0,none⟩)) (.pointer (some ⟨gi,0,none⟩)) (by rfl) (by rfl) rfl (fun _ h=>by cases h) HV2.out HS2.out (by rw [List.length_map,List.length_range];have:=HLN.out;omega) (by rw [List.length_map,List.length_range];have:=HLN.out;omega) ?_
             intro v1 u5 hv hg
             obtain ⟨B2,d2',e2,_⟩:=hv.shape
             rw [List.length_append,List.length_map,List.length_range] at e2
             simp only [List.length_cons,List.length_nil,Nat.zero_add] at e2
             subst e2
             have HV5:=Zz.mk hv
             have HG5:=Zz.mk hg
             have hT5:MBlk u5 t 119 #[.slice A sv.length c,.slice B1 i d1',.map (some m)]:=(hg.block _ (Zn HT2.out) (fun e=>by
               obtain ⟨_,cs,hc⟩:=HV2.out.typed t e.symm
               rw [show u2.heap[t]? = _ from HT2.out] at hc
               cases hc)).trans HT2.out
             have z1:u5.cell? ⟨t,1,none⟩=some (.slice B1 i d1'):=(Zg hT5 1).trans rfl
             have zf:u5.frozen? ⟨t,1,none⟩=false:=Zq hT5 1
             clear hv hg hT5))
      all_goals
        have hcon:Con w t A c m sv (ext g i gi) (ext b i bi) (quo sv) (i+1) (u5.setCell ⟨t,1,none⟩ (.slice B2 (i+1) d2')):=by
          have hL:Led u2 gi bi (quo sv i) 0 []:=by rw [HQ.out.1];exact HL2.out.1
          have hlt':∀k,k<u0.drew.heap.size->k≠gi/\k≠bi:=fun k hk=>by
            have h1:=HL2.out.2.1
            have h2:=HL2.out.2.2
            omega
          have hst:=(HCU.out.below HB2.out).step hL (fun j hj=>by
              obtain ⟨⟨cs,h1⟩,es,cc,h2⟩:=Led.blk (HCU.out.led j hj)
              exact ⟨fun e=>(hlt' _ (Array.getElem?_eq_some_iff.1 h1).1).1 e.symm,fun e=>(hlt' _ (Array.getElem?_eq_some_iff.1 h2).1).2 e.symm⟩)
            (fun e=>(hlt' _ HCU.out.map.lt).2 e.symm) ⟨Nat.le_trans HCU.out.keep.size HL2.out.2.1,Nat.le_trans HCU.out.keep.size HL2.out.2.2⟩ HT2.out HV2.out HV5.out HG5.out
          rw [ext_self] at hst
          exact hst
        have hal:MBlk (u5.setCell ⟨t,1,none⟩ (.slice B2 (i+1) d2')) w.heap.size 28 #[.slice A1 un.length c1,.slice A2 ud.length c2]/\RV (u5.setCell ⟨t,1,none⟩ (.slice B2 (i+1) d2')) (.slice A1 un.length c1) (.slice A2 ud.length c2) un ud:=by
          have ha2:MBlk u2 w.heap.size 28 #[.slice A1 un.length c1,.slice A2 ud.length c2]:=(HB2.out.block _ (Zn HALU.out.2)).trans HALU.out.2
          have ht5:MBlk u5 t 119 #[.slice A sv.length c,.slice B1 i d1',.map (some m)]:=(HG5.out.block _ (Zn HT2.out) (fun e=>by
            obtain ⟨_,cs,hc⟩:=HV2.out.typed t e.symm
            rw [show u2.heap[t]? = _ from HT2.out] at hc
            cases hc)).trans HT2.out
          have hne:∀k,k≠t->(u5.setCell ⟨t,1,none⟩ (.slice B2 (i+1) d2')).heap[k]? = u5.heap[k]?:=fun k hk=>Below.heap_setCell _ ⟨t,1,none⟩ _ k hk
          have ha5:MBlk u5 w.heap.size 28 #[.slice A1 un.length c1,.slice A2 ud.length c2]:=(HG5.out.block _ (Zn ha2) (fun e=>by
            obtain ⟨_,cs,hc⟩:=HV2.out.typed _ e.symm
            rw [show u2.heap[w.heap.size]? = _ from ha2] at hc
            cases hc)).trans ha2
          refine ⟨(hne _ (fun e=>?_)).trans ha5,(HALU.out.1.below HB2.out).near fun k hk hn=>(hne k (fun e=>hn (by rw [e];exact noLimb_tree HT2.out))).trans (HG5.out.block k hk (fun e=>hn (HV2.out.noLimb e.symm)))⟩
          exact mblk_ne ha5 ht5 (by decide) e
        have HCN:=Zz.mk hcon
        have HAN:=Zz.mk hal
        clear hcon hal
        have hw:wrap64 ((i:Int)+1)=((i+1:Nat):Int):=by have:=HLN.out;rw [w64 (by omega) (by omega)];omega
        go_wp2_with fail
        go_roundw
        case rel=>exact ⟨i+1,_,_,by first|rw [hw]|rfl|(simp;done),by have:=HLT.out;omega,HCN,HAN⟩
        case measure =>
          rw [hw]
          show sv.length-(i+1)<sv.length-i
          have:=HLT.out
          omega
    · have d1:decide ((i:Int)<(sv.length:Int))=false:=decide_eq_false (by omega)
      have d2:decide (i<sv.length)=false:=decide_eq_false hlt
      obtain rfl:i=sv.length:=by omega
      obtain ⟨B1,d1',hm,hv⟩:=HCON.out.cells
      have HLN:=Zz.mk (show sv.length<17 by have:=HS.out.len;omega)
      have HCU:=Zz.mk (HCON.out.below (Zr (Below.refl wr.heap.size wr)))
      have HTB:=Zz.mk (show MBlk wr.drew t 119 #[.slice A sv.length c,.slice B1 sv.length d1',.map (some m)] from hm)
      have HVB:=Zz.mk (show VRow wr.drew w.heap.size 24 (.slice B1 sv.length d1') ((List.range sv.length).map fun j=>.pointer (some ⟨g j,0,none⟩)) from hv.same fun k cs _ hc=>rfl)
      have y1:wr.cell? ⟨t,1,none⟩=some (.slice B1 sv.length d1'):=(Zg hm 1).trans rfl
      have x1:wr.cell? ⟨w.heap.size,0,none⟩=some (.slice A1 un.length c1):=(Zg HAL.out.1 0).trans rfl
      have x2:wr.cell? ⟨w.heap.size,1,none⟩=some (.slice A2 ud.length c2):=(Zg HAL.out.1 1).trans rfl
      have HRA:=Zz.mk (show RV wr.drew (.slice A1 un.length c1) (.slice A2 ud.length c2) (limbs n) (limbs d) by rw [<-HU.out.1,<-HU.out.2];exact HAL.out.2.below (Zr (Below.refl _ _)))
      clear hlt hi hm hv
      go_upto_region 9 with fail
      go_region_law
        (first
          | (go_simp
             go_at_call 16
             refine (new_calls (.slice A1 un.length c1) (.slice A2 ud.length c2) n d j _ HRA.out HF.out.1 HF.out.2.1 (by have:=HF.out.2.2.1;omega) HF.out.2.2.2).mono ?_
             rintro e u2 ⟨gi,bi,rfl,hL,hb,hg1,hb1⟩
             have HB2:=Zz.mk hb
             have HL2:=Zz.mk (And.intro hL (And.intro hg1 hb1))
             have HT2:=Zz.mk ((hb.block _ (Zn HTB.out)).trans HTB.out)
             have HV2:=Zz.mk (show VRow u2 w.heap.size 24 (.slice B1 sv.length d1') ((List.range sv.length).map fun j=>.pointer (some ⟨g j,0,none⟩)) from HVB.out.same fun k cs _ hc=>hb.block _ (Array.getElem?_eq_some_iff.1 hc).1)
             have HS2:=Zz.mk (show w.heap.size<=u2.heap.size from Nat.le_trans HCU.out.keep.size hb.size)
             have y3:u2.cell? ⟨t,1,none⟩=some (.slice B1 sv.length d1'):=(Zg (show MBlk u2 t _ _ from HT2.out) 1).trans rfl
             have y4:∀o,(u2.alloc o).cell? ⟨t,1,none⟩=some (.slice B1 sv.length d1'):=fun o=>(Zg (Zp (show MBlk u2 t _ _ from HT2.out) o) 1).trans rfl
             clear hb hL hg1 hb1)
          | (refine V_append_step w.heap.size (by rfl) (.tmp 45) (.tmp 48) 117 24 (.pointer none) 8 (by rfl) Try.underlying117 (by kernel_rfl) rfl (fun _ h=>by cases h) (.slice B1 sv.length d1') ((List.range sv.length).map fun j=>.pointer (some ⟨g j,0,none⟩)) (.pointer (some ⟨gi,0,none⟩)) (by rfl) (by rfl) rfl (fun _ h=>by cases h) HV2.out HS2.out (by rw [List.length_map,List.length_range];have:=HLN.out;omega) (by rw [List.length_map,List.length_range];have:=HLN.out;omega) ?_
             intro v1 u5 hv hg
             obtain ⟨B2,d2',e2,_⟩:=hv.shape
             rw [List.length_append,List.length_map,List.length_range] at e2
             simp only [List.length_cons,List.length_nil,Nat.zero_add] at e2
             subst e2
             have HV5:=Zz.mk hv
             have HG5:=Zz.mk hg
             have hT5:MBlk u5 t 119 #[.slice A sv.length c,.slice B1 sv.length d1',.map (some m)]:=(hg.block _ (Zn HT2.out) (fun e=>by
               obtain ⟨_,cs,hc⟩:=HV2.out.typed t e.symm
               rw [show u2.heap[t]? = _ from HT2.out] at hc
               cases hc)).trans HT2.out
             have z1:u5.cell? ⟨t,1,none⟩=some (.slice B1 sv.length d1'):=(Zg hT5 1).trans rfl
             have zf:u5.frozen? ⟨t,1,none⟩=false:=Zq hT5 1
             clear hv hg hT5))
      all_goals
        have hlt':∀k,k<wr.drew.heap.size->k≠gi/\k≠bi:=fun k hk=>by
          have h1:=HL2.out.2.1
          have h2:=HL2.out.2.2
          omega
        have hst:=(HCU.out.below HB2.out).step HL2.out.1 (fun j hj=>by
            obtain ⟨⟨cs,h1⟩,es,cc,h2⟩:=Led.blk (HCU.out.led j hj)
            exact ⟨fun e=>(hlt' _ (Array.getElem?_eq_some_iff.1 h1).1).1 e.symm,fun e=>(hlt' _ (Array.getElem?_eq_some_iff.1 h2).1).2 e.symm⟩)
          (fun e=>(hlt' _ HCU.out.map.lt).2 e.symm) ⟨Nat.le_trans HCU.out.keep.size HL2.out.2.1,Nat.le_trans HCU.out.keep.size HL2.out.2.2⟩ HT2.out HV2.out HV5.out HG5.out
        have HST:=Zz.mk hst
        clear hlt' hst
        go_wp2_with fail
        go_ret
        exact ⟨t,A,c,m,_,_,rfl,HCC.out,HST.out⟩
end Go.Proofs.Ytfldklimlcnnnaa.XTNew2
end

section
namespace Go.Proofs.Ytfldklimlcnnnaa.XTMade
open Go.RowKit PHq YtfldklimlcnnnaaW.PrintWords YtfldklimlcnnnaaW.PrintLast YtfldklimlcnnnaaW.PrintMore MWords
open MNat QNat QRatio XRV XHold XWts XLed XFits QHold XTree QTree XRowP XAllW QTr XTJoin XTNew QTChk XTNew2
theorem quo_okW {sv:List S71} (h:SvOk sv) {i:Nat} (hi:i<sv.length):okW (rd_T71 sv (i:Int)).f1:=by
 have:=h.ok i hi
 unfold OkS at this
 unfold okW
 omega
theorem al_ext (sv:List S71) (q:Rat) {s:Int} (hs:inR sv.length s):ext (quo sv) sv.length q (ix sv.length s)=alT sv q s:=by
 unfold alT ix
 by_cases e:s = -1
 ·rw [if_pos e,if_pos e,ext_same]
 ·rw [if_neg e,if_neg e,ext_lt]
  have:=hs.1
  have:=hs.2
  omega
theorem ix_lt {n:Nat} {s:Int} (hs:inR n s):ix n s<n+1:=by
 unfold ix
 have:=hs.1
 have:=hs.2
 split<;>omega
theorem ix_inj {n:Nat} {s s':Int} (hs:inR n s) (hs':inR n s') (h:ix n s=ix n s'):s=s':=by
 unfold ix at h
 have:=hs.1
 have:=hs.2
 have:=hs'.1
 have:=hs'.2
 split at h<;>split at h<;>omega
theorem range_at (g:Nat->Nat) {n i:Nat} (hi:i<n):((List.range n).map fun j=>(Value.pointer (some ⟨g j,0,none⟩)))[i]? = some (.pointer (some ⟨g i,0,none⟩)):=by
 rw [List.getElem?_map,List.getElem?_range hi]
 rfl
theorem con_tree {w W:World} {t:Nat} {A:Option Addr} {c m:Nat} {sv:List S71} {g b:Nat->Nat} {q:Rat} (hS:SvOk sv) (h:Con w t A c m sv g b (ext (quo sv) sv.length q) (sv.length+1) W) (hq:Sz 3000 q) :
  ∃M:Tm,M.t=t/\TH W M sv (alT sv q) [] 0/\(∀k,M.wr sv.length k->w.heap.size<=k)/\Below w.heap.size w W:=by
 obtain ⟨A1,c1,h1,h2⟩:=h.cells
 rcases h2.own.2 with ⟨_,h0⟩|⟨Al,cap,cur,e,hb,hc,hcap,_,_,htake⟩
 ·rw [List.length_map,List.length_range] at h0
  omega
 rw [List.length_map,List.length_range] at e hcap
 injection e with e1 e2 e3
 subst e1
 have hcur:∀s,inR sv.length s->cur[ix sv.length s]? = some (.pointer (some ⟨g (ix sv.length s),0,none⟩)):=fun s hs=>by
  have h5:=range_at g (ix_lt hs)
  rw [<-htake,List.length_map,List.length_range,List.getElem?_take,if_pos (by have:=ix_lt hs;omega)] at h5
  simpa using h5
 have hin:∀s,inR sv.length s->ix sv.length s<sv.length+1:=fun s hs=>ix_lt hs
 refine ⟨⟨t,A,c,Al,c1,m,fun s=>g (ix sv.length s),fun s=>b (ix sv.length s)⟩,rfl,⟨[],fun _=>[],?_,?_,hS.good⟩,?_,h.keep⟩
 ·refine ⟨h1,by rw [e3];exact hcap,h.row,fun h0 ad e=>?_,⟨cur,_,hc,hcur⟩,h.map,fun s hs=>?_,fun s s' hs hs' hne=>h.ne _ _ (hin s hs) (hin s' hs') (fun e=>hne (ix_inj hs hs' e)),fun s hs=>h.mb _ (hin s hs),by have:=hS.len;omega⟩
  ·obtain ⟨cs,hcs⟩:=h.rowt h0 ad e
   exact ⟨cs,_,hcs⟩
  ·have:=h.led _ (hin s hs)
   rw [al_ext sv q hs] at this
   exact this
 ·refine ⟨List.Perm.refl _,fun s hs=>List.Perm.refl _,by simp,fun x hx=>(by cases hx),fun x hx=>(by cases hx),Nat.le_refl _,fun s hs=>?_,fun s hs=>?_⟩
  ·show (0:Rat)<=alT sv q s
   unfold alT
   split
   ·exact hq.1
   ·exact wt_nonneg _
  ·unfold alT
   split
   ·exact hq
   ·rename_i hne
    have hi:s.toNat<sv.length:=by have:=hs.1;have:=hs.2;omega
    have hw:=quo_okW hS hi
    exact sz_mono (mk_sz 1 _ _ (okW_F hw).1 (okW_F hw).2 (okW_pos hw)) (by omega)
 ·rintro k (rfl|⟨s,hs,rfl|rfl⟩)
  ·exact h.base.2.1
  ·exact (h.base.2.2 _ (hin s hs)).1
  ·exact (h.base.2.2 _ (hin s hs)).2
theorem new_tree (x y:Value) (n d j:Nat) (A0:Option Addr) (c0:Nat) (sv:List S71) (w:World) (hv:RV w x y (limbs n) (limbs d)) (hn:F j n) (hd:F j d) (hj:j<=1000) (h0:0<d) (hC:Kd.C k71 w A0 sv.length sv) (hc:sv.length<=c0) (hS:SvOk sv) :
  Calls Try.prog 41 #[.agg #[x,y],.slice A0 sv.length c0] w fun e w'=>∃M:Tm,e=.returned (.pointer (some ⟨M.t,0,none⟩))/\TH w' M sv (alT sv (mkRat (n:Int) d)) [] 0/\(∀k,M.wr sv.length k->w.heap.size<=k)/\Below w.heap.size w w':=by
 refine (tnew_calls x y n d j A0 c0 sv w hv hn hd hj h0 hC hc hS).mono ?_
 rintro e w' ⟨t,A,c,m,g,b,rfl,_,hcon⟩
 obtain ⟨M,rfl,h1,h2,h3⟩:=con_tree hS hcon (sz_mono (mk_sz j n d hn hd h0) (by omega))
 exact ⟨M,rfl,h1,h2,h3⟩
end Go.Proofs.Ytfldklimlcnnnaa.XTMade
end

section
namespace Go.Proofs.Ytfldklimlcnnnaa.QServ
open Go.RowKit PHq YtfldklimlcnnnaaW.PrintWords YtfldklimlcnnnaaW.PrintLast YtfldklimlcnnnaaW.PrintMore MWords
open MNat QNat QRef QBits XTree QTree QTChk
theorem one_f (k n d:Nat) (hn:n<18446744073709551616) (hd:d<18446744073709551616) (hk:5<=k):l13_one.f k (n:Int) (d:Int)=some (limbs n,limbs d):=by
 unfold l13_one.f
 rw [rof_f k n hn hk,rof_f k d hd hk]
 rfl
theorem and3 (x:Int):Go.bits .and .i64 x 3=x % 4:=and_mask 2 (by omega) x 3 rfl
theorem all_f (ps:List Int) (qs:List S39) (a b:Int):∃n d:Nat,n<8/\1<=d/\d<=4/\l13_Spec_all.f 5 ps qs a b=some (limbs n,limbs d):=by
 refine ⟨(a % 8).toNat,(1+b % 4).toNat,by omega,by omega,by omega,?_⟩
 unfold l13_Spec_all.f
 have h1:IntKind.u64.wrap (Go.bits .and .i64 a 7)=((a % 8).toNat:Int):=by rw [and7,IntKind.wrap_u64];omega
 have h2:IntKind.u64.wrap (wrap64 (1+(Go.bits .and .i64 b 3)))=((1+b % 4).toNat:Int):=by rw [and3,QBits.w64 (by omega) (by omega),IntKind.wrap_u64];omega
 rw [h1,h2,one_f 5 _ _ (by omega) (by omega) (Nat.le_refl _)]
 rfl
theorem tm_lo (a m:Int) (h:0<m) : -m<a.tmod m/\a.tmod m<m:=by
 refine ⟨?_,Int.tmod_lt_of_pos a h⟩
 have:=Int.lt_tmod_of_pos a h
 omega
theorem par_ok (p:Int) (i:Nat) (hi:i<=8) : -1<=wrap64 ((Int.tmod (wrap64 ((wrap64 ((Int.tmod p (wrap64 ((i:Int)+1)))+i))+1)) (wrap64 ((i:Int)+1)))-1)/\wrap64 ((Int.tmod (wrap64 ((wrap64 ((Int.tmod p (wrap64 ((i:Int)+1)))+i))+1)) (wrap64 ((i:Int)+1)))-1)<i:=by
 have e:wrap64 ((i:Int)+1)=(i:Int)+1:=QBits.w64 (by omega) (by omega)
 rw [e]
 have h1:=tm_lo p ((i:Int)+1) (by omega)
 generalize p.tmod ((i:Int)+1)=r at *
 have e1:wrap64 (r+i)=r+i:=QBits.w64 (by omega) (by omega)
 rw [e1]
 have e2:wrap64 (r+i+1)=r+i+1:=QBits.w64 (by omega) (by omega)
 rw [e2]
 have h2:=tm_lo (r+i+1) ((i:Int)+1) (by omega)
 have h3:0<=(r+i+1).tmod ((i:Int)+1):=Int.tmod_nonneg _ (by omega)
 generalize (r+i+1).tmod ((i:Int)+1)=r2 at *
 rw [QBits.w64 (by omega) (by omega)]
 omega
theorem ok_snoc {sv:List S71} {x:S71} (h:∀i:Nat,i<sv.length->OkS (rd_T71 sv (i:Int)) i) (hx:OkS x sv.length):∀i:Nat,i<(sv++[x]).length->OkS (rd_T71 (sv++[x]) (i:Int)) i:=by
 intro i hi
 rw [List.length_append,List.length_singleton] at hi
 unfold rd_T71
 rw [Int.toNat_natCast]
 by_cases e:i=sv.length
 ·subst e
  rw [List.getD_eq_getElem?_getD,List.getElem?_append_right (Nat.le_refl _),Nat.sub_self]
  exact hx
 ·have:=h i (by omega)
  unfold rd_T71 at this
  rw [Int.toNat_natCast] at this
  rw [List.getD_eq_getElem?_getD,List.getElem?_append_left (by omega),<-List.getD_eq_getElem?_getD]
  exact this
theorem serv_l (ps:List Int) (qs:List S39) (a b:Int):∀ (d k i:Nat) (acc:List S71),i+d=8->2*d+3<k->acc.length=i->(∀j:Nat,j<acc.length->OkS (rd_T71 acc (j:Int)) j) →
  ∃sv,l13_Spec_servers.l0 k acc (i:Int) ps qs a b=some sv/\sv.length<=8/\∀j:Nat,j<sv.length->OkS (rd_T71 sv (j:Int)) j:=by
 intro d
 induction d with
 | zero =>
  intro k i acc hi hk hl hok
  obtain ⟨k,rfl⟩:∃j,k=j+2:=⟨k-2,by omega⟩
  refine ⟨acc,?_,by omega,hok⟩
  simp only [l13_Spec_servers.l0]
  by_cases c:(i:Int)<(ps.length:Int)
  ·rw [if_pos c,decide_eq_false (by omega)]
   simp only [l13_Spec_servers.j1]
   rw [if_neg (by decide)]
  ·rw [if_neg c]
   simp only [l13_Spec_servers.j1]
   rw [if_neg (by decide)]
 | succ d ih =>
  intro k i acc hi hk hl hok
  obtain ⟨k,rfl⟩:∃j,k=j+2:=⟨k-2,by omega⟩
  simp only [l13_Spec_servers.l0]
  by_cases c:(i:Int)<(ps.length:Int)
  ·rw [if_pos c,decide_eq_true (by omega)]
   simp only [l13_Spec_servers.j1]
   have e:wrap64 ((i:Int)+1)=((i+1:Nat):Int):=by rw [QBits.w64 (by omega) (by omega)];omega
   have hp:=par_ok (rd ps (i:Int)) i (by omega)
   rw [if_pos trivial,if_pos (by omega),if_pos c,if_neg (by rw [e];omega)]
   by_cases c2:(i:Int)<(qs.length:Int)
   ·rw [if_pos c2,if_pos (by omega)]
    generalize wrap64 ((Int.tmod (wrap64 ((wrap64 ((Int.tmod (rd ps (i:Int)) (wrap64 ((i:Int)+1)))+i))+1)) (wrap64 ((i:Int)+1)))-1)=par at *
    rw [e]
    refine ih k (i+1) _ (by omega) (by omega) (by rw [List.length_append,hl];rfl) (ok_snoc hok ?_)
    rw [hl,and31,and15,QBits.w64 (by omega) (by omega)]
    exact ⟨hp.1,hp.2,by show 0<=_ % 32;omega,by show _ % 32<=1073741824;omega,by show 1<=1+_ % 16;omega,by show 1+_ % 16<=1048576;omega⟩
   ·rw [if_neg c2,if_pos (by omega)]
    generalize wrap64 ((Int.tmod (wrap64 ((wrap64 ((Int.tmod (rd ps (i:Int)) (wrap64 ((i:Int)+1)))+i))+1)) (wrap64 ((i:Int)+1)))-1)=par at *
    rw [e]
    refine ih k (i+1) _ (by omega) (by omega) (by rw [List.length_append,hl];rfl) (ok_snoc hok ?_)
    rw [hl]
    exact ⟨hp.1,hp.2,by show (0:Int)<=16;omega,by show (16:Int)<=1073741824;omega,by show (1:Int)<=16;omega,by show (16:Int)<=1048576;omega⟩
  ·rw [if_neg c]
   simp only [l13_Spec_servers.j1]
   rw [if_neg (by decide)]
   exact ⟨acc,rfl,by omega,hok⟩
theorem servers_f (ps:List Int) (qs:List S39) (a b:Int):∃sv,l13_Spec_servers.f 20 ps qs a b=some sv/\SvOk sv/\sv.length<=8:=by
 obtain ⟨sv,h1,h2,h3⟩:=serv_l ps qs a b 8 20 0 [] rfl (by omega) rfl (fun j hj=>absurd hj (by simp))
 exact ⟨sv,h1,⟨h3,by omega⟩,h2⟩
end Go.Proofs.Ytfldklimlcnnnaa.QServ
end

section
namespace Go.Proofs.Ytfldklimlcnnnaa.XQAwake
open Go.RowKit PHq YtfldklimlcnnnaaW.PrintWords YtfldklimlcnnnaaW.PrintLast YtfldklimlcnnnaaW.PrintMore MWords
open MNat QNat QRatio XRV XHold XJoin XTree QTree XOf XCollect QTr XTJoin QTChk XTNew2 XTMade QServ
def sv2:List S71:=[⟨-1,⟨1,2⟩⟩,⟨0,⟨1,3⟩⟩]
theorem sv2_ok:SvOk sv2:=⟨fun i hi=>by
 match i,hi with
 | 0,_=>exact ⟨by decide,by decide,by decide,by decide,by decide,by decide⟩
 | 1,_=>exact ⟨by decide,by decide,by decide,by decide,by decide,by decide⟩
 | i+2,hi=>exact absurd hi (by simp [sv2]),by decide⟩
theorem path2:Z0 sv2 1 = [1,0,-1]:=by decide
theorem join_a:joinTE sv2 (alT sv2 (mkRat 1 1)) [] 1 1 ⟨1,2⟩=18:=by
 have h:fitsP sv2 (alT sv2 (mkRat 1 1)) [] 1 (QRatio.wt ⟨1,2⟩)=false:=by
  unfold fitsP
  rw [path2,List.all_eq_false]
  refine ⟨1,by simp,?_⟩
  show ¬ decide ((0:Rat)+mkRat 1 2<=mkRat 1 3)=true
  rw [Rat.zero_add]
  decide +kernel
 unfold joinTE
 rw [h]
 decide
theorem join_b:joinTE sv2 (alT sv2 (mkRat 1 1)) [] 1 1 ⟨1,3⟩=0:=by
 have h:fitsP sv2 (alT sv2 (mkRat 1 1)) [] 1 (QRatio.wt ⟨1,3⟩)=true:=by
  unfold fitsP
  rw [path2,List.all_eq_true]
  intro y hy
  rcases List.mem_cons.1 hy with rfl|hy
  ·show decide ((0:Rat)+mkRat 1 3<=mkRat 1 3)=true
   rw [Rat.zero_add]
   decide +kernel
  rcases List.mem_cons.1 hy with rfl|hy
  ·show decide ((0:Rat)+mkRat 1 3<=mkRat 1 2)=true
   rw [Rat.zero_add]
   decide +kernel
  rw [List.mem_singleton.1 hy]
  show decide ((0:Rat)+mkRat 1 3<=mkRat 1 1)=true
  rw [Rat.zero_add]
  decide +kernel
 unfold joinTE
 rw [h]
 decide
theorem same_l (l:List Int) (hl:l.length<=1000):∀ (d k i:Nat),i+d=l.length->d<k->r07_Same.l0 k l l (i:Int)=some true:=by
 intro d
 induction d with
 | zero =>
  intro k i hi hk
  obtain ⟨k,rfl⟩:∃j,k=j+1:=⟨k-1,by omega⟩
  simp only [r07_Same.l0]
  rw [if_neg (by omega)]
 | succ d ih =>
  intro k i hi hk
  obtain ⟨k,rfl⟩:∃j,k=j+1:=⟨k-1,by omega⟩
  simp only [r07_Same.l0]
  rw [if_pos (by omega),if_pos (by omega),if_pos (by omega),if_pos trivial,w64 (by omega) (by omega)]
  exact ih k (i+1) (by omega) (by omega)
theorem same_f (l:List Int) (hl:l.length<=1000):r07_Same.f (l.length+1) l l=some true:=by
 unfold r07_Same.f
 rw [if_pos rfl]
 exact same_l l hl l.length _ 0 (by omega) (by omega)
theorem C_sv2 {W:World} {k:Nat} (h:MBlk W k 71 #[.int .i64 (-1),.int .i64 1,.int .i64 2,.int .i64 0,.int .i64 1,.int .i64 3]):Kd.C k71 W (some ⟨k,0,none⟩) sv2.length sv2:=by
 have ea:∀i:Nat,(⟨k,0,none⟩:Addr).add i=⟨k,i,none⟩:=fun i=>by
  unfold Addr.add
  split
  ·rename_i h;simp [h]
  ·simp
 refine ⟨rfl,by decide,fun _=>⟨⟨k,0,none⟩,rfl,fun j p hj=>?_⟩⟩
 match j,hj with
 | 0,hj =>
  obtain rfl:(⟨-1,⟨1,2⟩⟩:S71)=p:=Option.some.inj hj
  refine ⟨_,rfl,k71_mk W _,fun i u hu=>?_⟩
  rw [ea]
  match i,hu with
  | 0,hu=>exact (Zg h 0).trans hu
  | 1,hu=>exact (Zg h 1).trans hu
  | 2,hu=>exact (Zg h 2).trans hu
  | i+3,hu=>simp at hu
 | 1,hj =>
  obtain rfl:(⟨0,⟨1,3⟩⟩:S71)=p:=Option.some.inj hj
  refine ⟨_,rfl,k71_mk W _,fun i u hu=>?_⟩
  rw [ea]
  match i,hu with
  | 0,hu=>exact (Zg h 3).trans hu
  | 1,hu=>exact (Zg h 4).trans hu
  | 2,hu=>exact (Zg h 5).trans hu
  | i+3,hu=>simp at hu
 | j+2,hj=>simp [sv2] at hj
theorem C_p3 {W:World} {k:Nat} (h:MBlk W k 3 #[.int .i64 1,.int .i64 0,.int .i64 (-1)]):Kd.C (Kd.int .i64) W (some ⟨k,0,none⟩) ([1,0,-1]:List Int).length [1,0,-1]:=by
 have ea:∀i:Nat,(⟨k,0,none⟩:Addr).add i=⟨k,i,none⟩:=fun i=>by
  unfold Addr.add
  split
  ·rename_i h;simp [h]
  ·simp
 refine ⟨rfl,by decide,fun _=>⟨⟨k,0,none⟩,rfl,fun j p hj=>?_⟩⟩
 refine ⟨[.int .i64 p],rfl,rfl,fun i u hu=>?_⟩
 match i,hu with
 | 0,hu =>
  obtain rfl:Value.int .i64 p=u:=Option.some.inj hu
  rw [ea]
  match j,hj with
  | 0,hj=>obtain rfl:(1:Int)=p:=Option.some.inj hj;exact (Zg h 0).trans rfl
  | 1,hj=>obtain rfl:(0:Int)=p:=Option.some.inj hj;exact (Zg h 1).trans rfl
  | 2,hj=>obtain rfl:(-1:Int)=p:=Option.some.inj hj;exact (Zg h 2).trans rfl
  | j+3,hj=>simp at hj
 | i+1,hu=>simp at hu
set_option maxRecDepth 100000 in
set_option maxHeartbeats 4000000 in
theorem awake_calls (w:World):Calls Try.prog 39 #[] w fun e w'=>e=.returned (.bool true)/\Below w.heap.size w w':=by
 obtain ⟨w1,hw1⟩:∃w1,w1=w.alloc (.cells #[.int .i64 (-1),.int .i64 1,.int .i64 2,.int .i64 0,.int .i64 1,.int .i64 3] 71):=⟨_,rfl⟩
 have HB1:=Zz.mk (show Below w.heap.size w w1 by rw [hw1];exact Zb (Below.refl _ _) _)
 have HM1:=Zz.mk (show MBlk w1 w.heap.size 71 #[.int .i64 (-1),.int .i64 1,.int .i64 2,.int .i64 0,.int .i64 1,.int .i64 3] by rw [hw1];exact Zo _ _ _)
 have HJ:=Zz.mk (And.intro join_a join_b)
 go_enter Try.func39,Try.ntmps39
 go_upto_region 2 with fail
 rw [<-hw1]
 clear hw1
 go_wp2_with fail
 refine (l13_one.calls 5 ((1:Nat):Int) ((1:Nat):Int) _ _ _ (one_f 5 1 1 (by decide) (by decide) (Nat.le_refl _))).mono ?_
 rintro e w2 ⟨v0,v1,rfl,h1,h2,hb⟩
 have HV2:=Zz.mk (RV.ofR h1 h2)
 obtain ⟨P1,p1,P2,p2,rfl,rfl⟩:=HV2.out.shape
 have HB2:=Zz.mk (Zi HB1.out hb)
 have HM2:=Zz.mk ((hb.block _ (Zn HM1.out)).trans HM1.out)
 clear h1 h2 hb HM1 HB1
 go_wp2_with fail
 have hnew:=new_tree (.slice P1 (limbs 1).length p1) (.slice P2 (limbs 1).length p2) 1 1 2 (some ⟨w.heap.size,0,none⟩) 2 sv2 w2 HV2.out (show (1:Nat)<4294967296 ^ 2 by decide) (show (1:Nat)<4294967296 ^ 2 by decide) (by decide) (by decide) (C_sv2 HM2.out) (by decide) sv2_ok
 refine hnew.mono ?_
 clear hnew
 rintro e w3 ⟨M,rfl,hT,hwr,hb⟩
 have HT3:=Zz.mk hT
 have HWR:=Zz.mk hwr
 have HB3:=Zz.mk (Zi HB2.out hb)
 have HSZ:=Zz.mk HB2.out.size
 have HS3:=Zz.mk hb.size
 clear hT hwr hb
 go_wp2_with fail
 refine (tjoin_calls HT3.out (by decide) 1 1 ⟨1,2⟩ (wfI_of (by decide) (by decide))).mono ?_
 rintro e w4 ⟨rfl,hT,hk⟩
 have hja:joinTH sv2 (alT sv2 (mkRat ((1:Nat):Int) 1)) [] 1 1 ⟨1,2⟩ = []:=by
  unfold joinTH
  rw [if_neg (by rw [show joinTE sv2 (alT sv2 (mkRat ((1:Nat):Int) 1)) [] 1 1 ⟨1,2⟩=18 from HJ.out.1];decide)]
 rw [hja] at hT
 rw [show joinTE sv2 (alT sv2 (mkRat ((1:Nat):Int) 1)) [] 1 1 ⟨1,2⟩=18 from HJ.out.1]
 have HT4:=Zz.mk hT
 have HK4:=Zz.mk hk
 clear hT hk hja
 go_wp2_with fail
 refine (tjoin_calls HT4.out (by decide) 1 1 ⟨1,3⟩ (wfI_of (by decide) (by decide))).mono ?_
 rintro e w5 ⟨rfl,hT,hk⟩
 rw [show joinTE sv2 (alT sv2 (mkRat ((1:Nat):Int) 1)) [] 1 1 ⟨1,3⟩=0 from HJ.out.2]
 have HB5:=Zz.mk (show Below w.heap.size w w5 from by
  have hkk:=HK4.out.trans hk
  have h1:Below w.heap.size w3 w5:=hkk.below (fun k hk=>Nat.le_trans HSZ.out (HWR.out k hk)) HB3.out.size
  exact ⟨h1.os.trans HB3.out.os,h1.tape.trans HB3.out.tape,h1.output.trans HB3.out.output,Nat.le_trans HB3.out.size h1.size,fun k hk=>(h1.block k hk).trans (HB3.out.block k hk)⟩)
 obtain ⟨at_,ls,ht,hi,hg⟩:=hT
 have HT5:=Zz.mk (And.intro ht hg)
 clear ht hi hg hk
 go_wp2_with (first
  | (go_at_call 43;have hp:=Path_calls HT5.out.1 HT5.out.2 1;rw [show pathT sv2 1 = [1,0,-1] from path2] at hp;refine hp.mono ?_;clear hp;rintro e w6 ⟨A6,c6,rfl,hl,hC,hb⟩;have HC6:=Zz.mk (And.intro hl hC);have HB6:=Zz.mk (Zi HB5.out hb);clear hl hC hb)
  | (go_at_call 54;refine (r07_Same.calls 4 A6 c6 [1,0,-1] (some ⟨w6.heap.size,0,none⟩) 3 [1,0,-1] true _ (Kd.C_below HC6.out.2 (Zb (Below.refl _ _) _)) HC6.out.1 (C_p3 (Zo _ _ _)) (by decide) (same_f _ (by decide))).mono ?_;rintro e w7 ⟨rfl,hd⟩;have HB7:=Zz.mk (Zi (Zb HB6.out _) hd.below);clear hd))
 go_ret
 exact ⟨by simp,HB7.out⟩
end Go.Proofs.Ytfldklimlcnnnaa.XQAwake
end

section
namespace Go.Proofs.Ytfldklimlcnnnaa.QTr
open Go.RowKit PHq YtfldklimlcnnnaaW.PrintWords YtfldklimlcnnnaaW.PrintLast YtfldklimlcnnnaaW.PrintMore MWords
open MNat QRatio XRV XHold XWts XLed XFits XJoin XMeth XAsk XEnd QHold XTree QTree XTCl XAllW XOf
section
variable {sv:List S71} {al:Int->Rat} {at_:List (Int × Int)} {ls:Int->List (Int × Hd)} {H:List Hol} {m:Nat}
def askF (sv:List S71) (al:Int->Rat) (H:List Hol) (k:Hd) (x:S34) (y:Int):Bool:=fitsQ (al y) (heldH sv H y) (wt (hv (asks k x))) (wt (wN k))
theorem Inv.askE (h:Inv sv al at_ ls H m) {a:Hol} (ha:a∈H) {x:S34} (hm:mayW x=true) {y:Int} (hy:inR sv.length y) (hp:y∈Z0 sv a.srv) :
  askE (al y) (Zy (ls y)) (ls y) a.id x=if a.hd.a=true then 13 else if askF sv al H a.hd x y=true then 0 else 18:=by
 unfold XAsk.askE
 rw [if_neg (by simp [hm]),h.getL ha hy hp,h.held hy]
 show (if a.hd.a=true then (13:Int) else if fitsQ (al y) (heldH sv H y) (wt (hv (asks a.hd x))) (wt (wN a.hd))=false then 18 else 0)=_
 unfold askF
 by_cases c:a.hd.a=true
 ·rw [if_pos c,if_pos c]
 ·rw [if_neg c,if_neg c]
  cases fitsQ (al y) (heldH sv H y) (wt (hv (asks a.hd x))) (wt (wN a.hd))<;>rfl
theorem Inv.askL (h:Inv sv al at_ ls H m) {a:Hol} (ha:a∈H) {x:S34} (hm:mayW x=true) (hna:a.hd.a=false) {y:Int} (hy:inR sv.length y) (hp:y∈Z0 sv a.srv) (hf:askF sv al H a.hd x y=true) :
  XAsk.askL (al y) (Zy (ls y)) (ls y) a.id x=setL (ls y) a.id (asks a.hd x):=by
 have h1:=h.askE ha hm hy hp
 rw [if_neg (by rw [hna];decide),if_pos hf] at h1
 unfold XAsk.askL
 rw [if_pos h1,h.getL ha hy hp]
 rfl
theorem Inv.ask (h:Inv sv al at_ ls H m) (hG:GoodSv sv) {a:Hol} (ha:a∈H) {x:S34} (hm:mayW x=true) (hna:a.hd.a=false) (hf:∀y∈Z0 sv a.srv,askF sv al H a.hd x y=true) :
  Inv sv al at_ (stp (fun all l=>XAsk.askL all (Zy l) l a.id x) al ls (Z0 sv a.srv)) (setH H a.id (asks a.hd x)) m:=by
 have ho:=h.ok a ha
 refine h.set (k:=asks a.hd x) (A:=fun all l=>XAsk.askL all (Zy l) l a.id x) ha ⟨⟨ho.ok.1,fun _=>(may_okW hm).1⟩,fun c=>(by cases c),ho.now,fun _=>hm,ho.wf⟩ (fun y hp hy=>h.askL ha hm hna hy hp (hf y hp)) (fun y hp hy=>?_)
 have h1:=hf y hp
 unfold askF fitsQ at h1
 rw [Bool.and_eq_true,decide_eq_true_iff,decide_eq_true_iff] at h1
 rw [hv_plain hna]
 have h2:=h1.2
 unfold heldH at h2
 grind
theorem del_set (l:List (Int × Hd)) (z:Int) (k:Hd):delL (setL l z k) z=delL l z:=by
 unfold setL
 split
 ·unfold delL
  rename_i h
  clear h
  induction l with
  | nil=>rfl
  | cons y l ih =>
   rw [List.map_cons,List.filter_cons,List.filter_cons,ih]
   by_cases e:y.1=z
   ·rw [if_pos e,if_neg (by simp),if_neg (by simp [e])]
   ·rw [if_neg e]
 ·unfold delL
  rw [List.filter_append]
  simp
theorem now_new {k:Hd} (ha:k.a=false) (hc:k.e2=0/\k.p2=0):newH (wN k)=k:=by
 cases k
 simp only at ha hc
 obtain ⟨rfl,rfl⟩:=hc
 subst ha
 rfl
theorem Inv.unask (h:Inv sv al at_ ls H m) {a:Hol} (ha:a∈H) {x:S34} (hm:mayW x=true) (hna:a.hd.a=false) {pre:List Int} (hp:∀y∈pre,inR sv.length y/\y∈Z0 sv a.srv) (hE:∀y∈pre,XAsk.askE (al y) (Zy (ls y)) (ls y) a.id x=0) :
  Inv sv al at_ (stp (fun all l=>backL all ((fun all l=>XAsk.askL all (Zy l) l a.id x) all l) a.id (wN a.hd)) al ls pre) H m:=by
 refine ⟨h.at_,fun y hy=>?_,h.nod,h.srv,h.ok,h.len,h.le,h.sz⟩
 by_cases hyp:y∈pre
 ·obtain ⟨hy1,hy2⟩:=hp y hyp
  have h1:=hE y hyp
  rw [h.askE ha hm hy1 hy2,if_neg (by rw [hna];decide)] at h1
  have hf:askF sv al H a.hd x y=true:=by
   cases c:askF sv al H a.hd x y with
   | true=>rfl
   | false=>rw [c,if_neg (by decide)] at h1;cases h1
  have hgl:=h.getL ha hy1 hy2
  have hno:=h.ok a ha
  have hnk:NodK (ls y):=nodk_perm (h.ls y hy1) (sub_nod h.nod y)
  unfold stp
  rw [if_pos hyp]
  show (backL (al y) (XAsk.askL (al y) (Zy (ls y)) (ls y) a.id x) a.id (wN a.hd)).Perm _
  rw [h.askL ha hm hna hy1 hy2 hf]
  unfold backL
  rw [free_eq_del,del_set]
  have hgone:=held_gone hnk hgl
  rw [hv_plain hna] at hgone
  have hdn:hasL (delL (ls y) a.id) a.id=false:=by
   unfold hasL delL
   rw [List.any_eq_false]
   intro q hq
   simpa using (List.mem_filter.1 hq).2
  have hle:Zy (delL (ls y) a.id)+wt (wN a.hd)<=al y:=by
   rw [hgone,h.held hy1]
   exact h.le y hy1
  have hj:XMeth.joinE (al y) (Zy (delL (ls y) a.id)) (delL (ls y) a.id) a.id (wN a.hd)=0:=by rw [join_new (held_nonneg _) hno.now hdn,if_pos hle]
  have hjl:XMeth.joinL (al y) (Zy (delL (ls y) a.id)) (delL (ls y) a.id) a.id (wN a.hd)=delL (ls y) a.id++[(a.id,a.hd)]:=by
   unfold XMeth.joinL
   rw [if_pos hj,set_new hdn]
   show _++[(a.id,newH (wN a.hd))]=_
   rw [now_new hna (hno.cl hna)]
  rw [hjl]
  obtain ⟨b,c,e1,_,e3⟩:=set_split hnk hgl a.hd
  refine List.Perm.trans ?_ (h.ls y hy1)
  rw [e3,e1]
  have:=(List.perm_middle (a:=(a.id,a.hd)) (l₁:=b) (l₂:=c)).symm
  refine List.Perm.trans ?_ this
  exact List.perm_append_singleton _ _
 ·rw [stp_other hyp]
  exact h.ls y hy
theorem Inv.settleE (h:Inv sv al at_ ls H m) {a:Hol} (ha:a∈H) {y:Int} (hy:inR sv.length y) (hp:y∈Z0 sv a.srv):settleE (ls y) a.id=if a.hd.a=true then 0 else 13:=by
 unfold XEnd.settleE
 rw [h.getL ha hy hp]
theorem Inv.settleL (h:Inv sv al at_ ls H m) {a:Hol} (ha:a∈H) (hna:a.hd.a=true) {y:Int} (hy:inR sv.length y) (hp:y∈Z0 sv a.srv):XEnd.settleL (ls y) a.id=setL (ls y) a.id (settled a.hd):=by
 have h1:=h.settleE ha hy hp
 rw [if_pos hna] at h1
 unfold XEnd.settleL
 rw [if_pos h1,h.getL ha hy hp]
 rfl
theorem Inv.settle (h:Inv sv al at_ ls H m) (hG:GoodSv sv) {a:Hol} (ha:a∈H) (hna:a.hd.a=true) :
  Inv sv al at_ (stp (fun _ l=>XEnd.settleL l a.id) al ls (Z0 sv a.srv)) (setH H a.id (settled a.hd)) m:=by
 have ho:=h.ok a ha
 have hmx:=ho.nxt hna
 refine h.set (k:=settled a.hd) (A:=fun _ l=>XEnd.settleL l a.id) ha ⟨⟨(may_okW hmx).1,fun c=>by cases c⟩,fun _=>⟨rfl,rfl⟩,hmx,fun c=>(by cases c),ho.wf⟩ (fun y hp hy=>h.settleL ha hna hy hp) (fun y hp hy=>?_)
 have h1:=h.le y hy
 have h2:wt (hv (settled a.hd))<=wt (hv a.hd):=by
  rw [hv_plain (h:=settled a.hd) rfl]
  exact hv_next hna
 unfold heldH at h1
 grind
theorem Inv.unsettle (h:Inv sv al at_ ls H m) {a:Hol} (ha:a∈H) (hna:a.hd.a=false) (hG:GoodSv sv):stp (fun _ l=>XEnd.settleL l a.id) al ls (Z0 sv a.srv)=ls:=by
 funext y
 unfold stp
 split
 ·rename_i hy
  have hyi:=(path_in hG a.srv (h.srv a ha) y hy).1
  refine settleL_same ?_
  rw [h.settleE ha hyi hy,hna]
  decide
 ·rfl
theorem Inv.freeE (h:Inv sv al at_ ls H m) {a:Hol} (ha:a∈H) {y:Int} (hy:inR sv.length y) (hp:y∈Z0 sv a.srv):XEnd.freeE (ls y) a.id=0:=by
 unfold XEnd.freeE
 rw [if_pos]
 rw [hasL_perm (h.ls y hy)]
 exact sub_has.2 ⟨a,ha,rfl,onB_iff.2 hp⟩
end
end Go.Proofs.Ytfldklimlcnnnaa.QTr
end

section
namespace Go.Proofs.Ytfldklimlcnnnaa.XAllA
open Go.RowKit PHq YtfldklimlcnnnaaW.PrintWords YtfldklimlcnnnaaW.PrintLast YtfldklimlcnnnaaW.PrintMore MWords
open MNat XRV XHold XLed XTree QTree XPath XOf XGo XCollect XRowP XAllW
attribute [local go_sem] Oper.semAt_some
section
variable {w:World} {M:Tm} {sv:List S71} {at_:List (Int × Int)} {al:Int->Rat} {ls:Int->List (Int × Hd)} {bx:List (Nat × TypeId × Array Value)}
set_option maxRecDepth 100000 in
set_option maxHeartbeats 8000000 in
theorem all_calls (hT:Tre w M sv at_ al ls) (hG:GoodSv sv) {s:Int} (hs:inR sv.length s) {k1 k2 k3:Nat} (hb1:∀x∈bx,x.1<w.heap.size) (hb2:∀x∈bx,x.2.1≠97) (hok:OkB bx w)
  {E Eu:Rat->List (Int × Hd)->Int} {A U:Rat->List (Int × Hd)->List (Int × Hd)} {Pa Pu:Rat->List (Int × Hd)->Prop}
  (hca:LedCall 91 (fun p=>#[p,.pointer (some ⟨k1,0,none⟩),.pointer (some ⟨k2,0,none⟩)]) bx E A Pa) (hcu:LedCall 90 (fun p=>#[p,.pointer (some ⟨k1,0,none⟩),.pointer (some ⟨k3,0,none⟩)]) bx Eu U Pu)
  (hPa:∀x∈Z0 sv s,Pa (al x) (ls x)) (hPu:∀x∈Z0 sv s,E (al x) (ls x)=0->Pu (al x) (A (al x) (ls x))) (hA:∀x∈Z0 sv s,E (al x) (ls x)≠0->A (al x) (ls x)=ls x) :
  Calls Try.prog 86 #[.pointer (some ⟨M.t,0,none⟩),.int .i64 s,.func (.func 91) #[] #[.pointer (some ⟨k1,0,none⟩),.pointer (some ⟨k2,0,none⟩)],.func (.func 90) #[] #[.pointer (some ⟨k1,0,none⟩),.pointer (some ⟨k3,0,none⟩)]] w fun e w' =>
   ∃ls',Kt M sv.length w w'/\Tre w' M sv at_ al ls' ∧
    ((e=.returned (.int .i64 0)/\(∀x∈Z0 sv s,E (al x) (ls x)=0)/\ls'=stp A al ls (Z0 sv s)) ∨
     ∃pre x r,Z0 sv s=pre++x::r/\(∀y∈pre,E (al y) (ls y)=0)/\E (al x) (ls x)≠0/\e=.returned (.int .i64 (E (al x) (ls x)))/\ls'=stp (fun a l=>U a (A a l)) al ls pre):=by
 have HPN:=Zz.mk (And.intro (path_in hG s hs) (And.intro (path_nodup hG s hs) (path_len hG s hs)))
 have HG:=Zz.mk hG
 have HT:=Zz.mk hT
 have HSM:=Zz.mk hT.small
 have HS:=Zz.mk hs
 have HBX:=Zz.mk (And.intro hb1 (And.intro hb2 hok))
 have HCA:=Zz.mk hca
 have HCU:=Zz.mk hcu
 have HPA:=Zz.mk (And.intro hPa (And.intro hPu hA))
 obtain ⟨pa,hpa⟩:∃pa,pa=Z0 sv s:=⟨_,rfl⟩
 rw [<-hpa] at HPN HPA ⊢
 have HPE:=Zz.mk hpa
 clear hT hG hs hb1 hb2 hok hca hcu hPa hPu hA hpa
 obtain ⟨w1,hw1⟩:∃w1,w1=(((w.alloc (.cells #[.pointer (some ⟨M.t,0,none⟩)] 67)).alloc (.cells #[.func (.func 91) #[] #[.pointer (some ⟨k1,0,none⟩),.pointer (some ⟨k2,0,none⟩)]] 126)).alloc (.cells #[.slice none 0 0] 117)).alloc (.cells #[.int .i64 0] 31):=⟨_,rfl⟩
 have HW1:=Zz.mk (show Below w.heap.size w w1/\w1.heap.size=w.heap.size+4/\MBlk w1 w.heap.size 67 #[.pointer (some ⟨M.t,0,none⟩)]/\MBlk w1 (w.heap.size+1) 126 #[.func (.func 91) #[] #[.pointer (some ⟨k1,0,none⟩),.pointer (some ⟨k2,0,none⟩)]]/\MBlk w1 (w.heap.size+2) 117 #[.slice none 0 0]/\MBlk w1 (w.heap.size+3) 31 #[.int .i64 0] by
  rw [hw1]
  refine ⟨Zb (Zb (Zb (Zb (Below.refl _ _) _) _) _) _,by simp,Zp (Zp (Zp (Zo _ _ _) _) _) _,?_,?_,?_⟩
  ·have:=Zo (w.alloc (.cells #[.pointer (some ⟨M.t,0,none⟩)] 67)) 126 #[.func (.func 91) #[] #[.pointer (some ⟨k1,0,none⟩),.pointer (some ⟨k2,0,none⟩)]]
   rw [World.size_alloc] at this
   exact Zp (Zp this _) _
  ·have:=Zo ((w.alloc (.cells #[.pointer (some ⟨M.t,0,none⟩)] 67)).alloc (.cells #[.func (.func 91) #[] #[.pointer (some ⟨k1,0,none⟩),.pointer (some ⟨k2,0,none⟩)]] 126)) 117 #[.slice none 0 0]
   rw [World.size_alloc,World.size_alloc] at this
   exact Zp this _
  ·have:=Zo (((w.alloc (.cells #[.pointer (some ⟨M.t,0,none⟩)] 67)).alloc (.cells #[.func (.func 91) #[] #[.pointer (some ⟨k1,0,none⟩),.pointer (some ⟨k2,0,none⟩)]] 126)).alloc (.cells #[.slice none 0 0] 117)) 31 #[.int .i64 0]
   rw [World.size_alloc,World.size_alloc,World.size_alloc] at this
   exact this)
 refine (callsIn_wide (n:=6)).1 (callsIn_of_wp_marks Try.func86 rfl trivial (wpIn_wide.2 ?_) rfl)
 simp only [Try.ntmps86,List.size_toArray,List.length_cons,List.length_nil,Nat.reduceAdd,Nat.reduceSub,Array.replicate_succ,Array.replicate_zero,List.push_toArray,List.append_toArray,List.nil_append,List.cons_append]
 have k0:w1.cell? ⟨w.heap.size,0,none⟩=some (.pointer (some ⟨M.t,0,none⟩)):=(Zg HW1.out.2.2.1 0).trans rfl
 rw [hw1] at k0
 have HW:=Zz.mk hw1
 clear hw1
 go_wp2_with fail
 go_step3
 go_wp2_with fail
 go_step3
 go_wp2_with fail
 rw [<-HW.out]
 clear HW k0
 refine (path_calls M.t s _).mono ?_
 rintro e w2 ⟨rfl,hw2⟩
 have HB:=Zz.mk (show Below w.heap.size w w2/\w2.heap.size=w.heap.size+6 by
  rw [hw2]
  exact ⟨Zb (Zb HW1.out.1 _) _,by simp;have:=HW1.out.2.1;omega⟩)
 have HT2:=Zz.mk (HT.out.below HB.out.1)
 have HBX5:=Zz.mk (show MBlk w2 (w.heap.size+5) 3 #[.int .i64 s] by
  have:=Zo (w1.alloc (.cells #[.pointer (some ⟨M.t,0,none⟩)] 67)) 3 #[.int .i64 s]
  rw [World.size_alloc,HW1.out.2.1] at this
  rw [hw2]
  exact this)
 have HI2:=Zz.mk (show AInv w M sv at_ al bx (.func (.func 91) #[] #[.pointer (some ⟨k1,0,none⟩),.pointer (some ⟨k2,0,none⟩)]) ls 0 [] w2 by
  have hb:∀ {k:Nat} {cs:Array Value} {T:TypeId},MBlk w1 k T cs->MBlk w2 k T cs:=fun h=>by rw [hw2];exact Zp (Zp h _) _
  refine ⟨HT2.out,hb HW1.out.2.2.1,hb HW1.out.2.2.2.1,⟨none,0,hb HW1.out.2.2.2.2.1,VRow.nil _ _ _⟩,hb HW1.out.2.2.2.2.2,?_,fun x hx=>(HB.out.1.block _ (HBX.out.1 x hx)).trans (HBX.out.2.2 x hx),Kt.of HB.out.1⟩
  have:=Zo w1 67 #[.pointer (some ⟨M.t,0,none⟩)]
  rw [HW1.out.2.1] at this
  rw [hw2]
  exact Zp this _)
 rw [HW1.out.2.1]
 clear hw2 HW1
 go_wp2_with fail
 have HSEQ:=Zz.mk (path_seq M sv (w.heap.size+4) (w.heap.size+5) s w2 HG.out HSM.out HS.out (Rd.of HT2.out HI2.out.pb) HBX5.out)
 rw [<-HPE.out] at HSEQ
 refine (wpIn_wide (n:=6)).1 ?_
 refine range_g (F:=Fence.wide) (n:=6) rfl (by omega) (gf:=114) (lb:=#[.pointer (some ⟨w.heap.size+5,0,none⟩),.pointer (some ⟨w.heap.size+4,0,none⟩)]) rfl trivial (enters_of Try.func114 (by kernel_rfl) rfl)
  (w0:=w2) HSEQ.out (Below.refl _ _) (fun _=>rfl) (fun h k=>h.trans k)
  (fun W l o o' hl ho _ _=>kq_put (N:=w2.heap.size) (by rw [HB.out.2];omega) (fun k hk=>HT2.out.own_lt (by rcases hk with c|c;exact .inl c;exact .inr (.inl c))) W l o o' hl ho)
  (fun pre W=>AInv w M sv at_ al bx (.func (.func 91) #[] #[.pointer (some ⟨k1,0,none⟩),.pointer (some ⟨k2,0,none⟩)]) (stp A al ls pre) 0 pre W/\∀x∈pre,E (al x) (ls x)=0)
  (fun c pre W=>c=.exit 0/\∃pre' x,pre=pre'++[x]/\(∀y∈pre',E (al y) (ls y)=0)/\E (al x) (ls x)≠0/\AInv w M sv at_ al bx (.func (.func 91) #[] #[.pointer (some ⟨k1,0,none⟩),.pointer (some ⟨k2,0,none⟩)]) (stp A al ls pre') (E (al x) (ls x)) pre' W)
  (fun pre X Y row h hg hr=>⟨AInv.own HT.out HBX.out.2.1 (B:=w2.heap.size) (by rw [HB.out.2];omega) h.1 hg hr,h.2⟩)
  (fun c pre X Y row h hg hr=>by
   obtain ⟨h1,pre',x,h2,h3,h4,h5⟩:=h
   exact ⟨h1,pre',x,h2,h3,h4,AInv.own HT.out HBX.out.2.1 (B:=w2.heap.size) (by rw [HB.out.2];omega) h5 hg hr⟩)
  ⟨by rw [stp_nil];exact HI2.out,fun x hx=>by cases hx⟩
  (fun x=>{ tmps:=#[.pointer (some ⟨M.t,0,none⟩),.int .i64 s,.func (.func 91) #[] #[.pointer (some ⟨k1,0,none⟩),.pointer (some ⟨k2,0,none⟩)],.func (.func 90) #[] #[.pointer (some ⟨k1,0,none⟩),.pointer (some ⟨k3,0,none⟩)],.pointer (some ⟨w.heap.size,0,none⟩),undef,.pointer (some ⟨w.heap.size+1,0,none⟩),undef,.int .i64 0,.pointer (some ⟨w.heap.size+2,0,none⟩),.pointer (some ⟨w.heap.size+3,0,none⟩),.int .i64 x,undef,undef,undef,.pointer (some ⟨M.t,0,none⟩),.int .i64 s,.func (.func 114) #[] #[.pointer (some ⟨w.heap.size+5,0,none⟩),.pointer (some ⟨w.heap.size+4,0,none⟩)],.int .i64 x,undef,undef,undef,undef,undef,undef,undef,undef,undef,undef,undef,undef,undef,undef,undef,undef,undef,undef,undef,undef,undef,undef,undef,undef,undef],defers:=[] })
  ?assign ?body ?done ?stop
 case assign =>
  intro lo x W K hK
  gi_wp2
  exact hK
 case body =>
  rintro lo pre x W ⟨hI,hz⟩ ⟨r,hr⟩ hlt
  have hxp:x∈pa:=by rw [hr];simp
  have hxi:=(HPN.out.1 x hxp).1
  have hxn:x ∉ pre:=fun hx=>by
   have:=HPN.out.2.1
   rw [hr,List.nodup_append] at this
   exact this.2.2 x hx x (by simp) rfl
  have HI:=Zz.mk hI
  have HZ:=Zz.mk hz
  have HX:=Zz.mk (And.intro hxp (And.intro hxi hxn))
  have HLEN:=Zz.mk (show pre.length<1001 by
   have h1:=HPN.out.2.2
   have h2:=HSM.out
   rw [hr,List.length_append,List.length_cons] at h1
   omega)
  have k0:W.cell? ⟨w.heap.size,0,none⟩=some (.pointer (some ⟨M.t,0,none⟩)):=(Zg hI.tb 0).trans rfl
  have h11:1<=6-1-1:=by omega
  clear hI hz hr hxp hxi hxn
  obtain ⟨q,hq⟩:∃q,q=E (al x) (ls x):=⟨_,rfl⟩
  have HQ:=Zz.mk hq
  clear hq
  gi_wp2
  refine ⟨trivial,(CallsIn.inRound lo (callsIn_wide.2 (of_calls HI.out.tre HX.out.2.1))).mono ?_⟩
  rintro e W1 ⟨rfl,hb⟩
  have HK1:=Zz.mk (kf_below (D:=w2.heap.size) hb)
  have HI1:=Zz.mk (HI.out.below HBX.out.2.1 hb)
  have k1:W1.cell? ⟨w.heap.size+1,0,none⟩=some (.func (.func 91) #[] #[.pointer (some ⟨k1,0,none⟩),.pointer (some ⟨k2,0,none⟩)]):=(Zg HI1.out.kb 0).trans rfl
  clear hb k0
  gi_wp2
  have hc:=HCA.out (M.g x) (M.b x) (al x) (ls x) W1 HI1.out.ok (by have:=HI1.out.tre.led x HX.out.2.1;rw [stp_other HX.out.2.2] at this;exact this) (HPA.out.1 x HX.out.1)
  rw [<-HQ.out] at hc
  refine ⟨trivial,(CallsIn.inRound lo (callsIn_wide.2 hc)).mono ?_⟩
  clear hc
  rintro e W2 ⟨rfl,hL,hK⟩
  have hi:=HI1.out.kp HBX.out.2.1 HX.out.2.1 hK hL
  rw [stp_snoc HX.out.2.2] at hi
  have HI3:=Zz.mk hi
  have HK2:=Zz.mk (HK1.out.trans (kf_kp HT.out (by rw [HB.out.2];omega) HX.out.2.1 hK))
  have k3:W2.cell? ⟨w.heap.size+3,0,none⟩=some (.int .i64 0):=(Zg HI3.out.bad 0).trans rfl
  have f3:W2.frozen? ⟨w.heap.size+3,0,none⟩=false:=Zq HI3.out.bad 0
  clear hL hK hi HI1 HK1 k1
  by_cases hq0:q=0
  ·subst hq0
   have HI4:=Zz.mk (HI3.out.bad_ HT.out HBX.out.1 0)
   have HK3:=Zz.mk (HK2.out.trans (kf_set (D:=w2.heap.size) W2 ⟨w.heap.size+3,0,none⟩ (.int .i64 0)))
   obtain ⟨A1,c1,hm,hv⟩:=HI4.out.row
   have HR:=Zz.mk (And.intro hm hv)
   have k4:(W2.setCell ⟨w.heap.size+3,0,none⟩ (.int .i64 0)).cell? ⟨w.heap.size+2,0,none⟩=some (.slice A1 pre.length c1):=(Zg hm 0).trans rfl
   have HSZ:=Zz.mk (show w.heap.size+6<=(W2.setCell ⟨w.heap.size+3,0,none⟩ (.int .i64 0)).heap.size from by have h1:=HK3.out.size;have h2:=HB.out.2;omega)
   have HNO:=Zz.mk (show ∀k,(Value.slice A1 pre.length c1).ownBlock=some k->w.heap.size+6<=k from fun k hk=>(hv.typed k hk).1)
   clear hm hv
   gi_wp2_with (gi_at_builtin;refine appendV (W:=(W2.setCell ⟨w.heap.size+3,0,none⟩ (.int .i64 0))) (w.heap.size+6) rfl (.tmp 27) (.tmp 29) 117 24 (.pointer none) 8 rfl Try.underlying117 (by kernel_rfl) rfl (fun _ h=>by cases h) (.slice A1 pre.length c1) (ptrs M.g pre) (.pointer (some ⟨M.g x,0,none⟩)) rfl (by first|rfl|(simp [World.setCell,go_sem];done)) rfl (fun _ h=>by cases h) HR.out.2 HSZ.out (by rw [ptrs_len];have:=HLEN.out;omega) (by rw [ptrs_len];have:=HLEN.out;omega) ?_;intro v1 w5 hR5 hg5;rw [show ptrs M.g pre++[.pointer (some ⟨M.g x,0,none⟩)]=ptrs M.g (pre++[x]) by simp [ptrs]] at hR5;obtain ⟨A2,c2,e2,_⟩:=hR5.shape;rw [ptrs_len] at e2;subst e2;have HR5:=Zz.mk hR5;have HG5:=Zz.mk hg5;have HM5:=Zz.mk (show MBlk w5 (w.heap.size+2) 117 #[.slice A1 pre.length c1] from (hg5.block _ (Zn HR.out.1) (fun e=>by have:=HNO.out _ e.symm;omega)).trans HR.out.1);have k9:w5.cell? ⟨w.heap.size+2,0,none⟩=some (.slice A1 pre.length c1):=(Zg HM5.out 0).trans rfl;have kf9:w5.frozen? ⟨w.heap.size+2,0,none⟩=false:=Zq HM5.out 0;clear hR5 hg5)
   have hfin:=HI4.out.app HT.out HBX.out.1 HR.out.1 HR.out.2 HR5.out HG5.out
   have hkf:=(HK3.out.trans (kf_row HR.out.2 HG5.out)).trans (kf_set (D:=w2.heap.size) w5 ⟨w.heap.size+2,0,none⟩ (.slice A2 (pre++[x]).length c2))
   have hz2:∀y∈pre++[x],E (al y) (ls y)=0:=fun y hy=>by
    rcases List.mem_append.1 hy with h|h
    ·exact HZ.out y h
    ·rw [List.mem_singleton.1 h];exact HQ.out.symm
   have hkq:=ainv_kq HT.out HI.out hfin hkf.size
   simp only [List.length_append,List.length_cons,List.length_nil,Nat.zero_add] at hfin hkf hkq
   exact ⟨hkf,hkq,hfin,hz2⟩
  ·have c1:(q == (0:Int))=false:=beq_eq_false_iff_ne.mpr hq0
   have c2:(q != (0:Int))=true:=bne_iff_ne.mpr hq0
   have c3:(q=(0:Int))=False:=eq_false hq0
   have HI4:=Zz.mk (HI3.out.bad_ HT.out HBX.out.1 q)
   have HK3:=Zz.mk (HK2.out.trans (kf_set (D:=w2.heap.size) W2 ⟨w.heap.size+3,0,none⟩ (.int .i64 q)))
   have HQ0:=Zz.mk hq0
   clear hq0
   gi_wp2
   have hn:E (al x) (ls x)≠0:=by rw [<-HQ.out];exact HQ0.out
   have hAx:=HPA.out.2.2 x HX.out.1 hn
   have hst:stp A al ls (pre++[x])=stp A al ls pre:=by
    rw [<-stp_snoc HX.out.2.2,hAx]
    funext y
    unfold upd
    split
    ·rename_i e;rw [e,stp_other HX.out.2.2]
    ·rfl
   have hfin:=HI4.out
   rw [hst,HQ.out] at hfin
   have hkf:=HK3.out
   rw [HQ.out] at hkf
   rw [HQ.out]
   exact ⟨hkf,rfl,pre,x,rfl,HZ.out,hn,hfin⟩
 case done =>
  rintro xs W rfl ⟨hI,hz⟩ hD
  have k3:W.cell? ⟨w.heap.size+3,0,none⟩=some (.int .i64 0):=(Zg hI.bad 0).trans rfl
  have HI:=Zz.mk hI
  have HZ:=Zz.mk hz
  have HD:=Zz.mk hD
  clear hI hz hD
  go_wp2_with fail
  have hfar:=HI.out.far HT.out (k:=w2.heap.size) (by rw [HB.out.2];omega)
  refine ⟨by simp,.inl ⟨_,_,rfl,run_takeDeferred HD.out,?_⟩⟩
  exact ⟨_,results_tmp rfl _ _ _,_,kt_put HI.out.kt (by rw [HB.out.2];omega),tre_put HI.out.tre HD.out hfar.1 hfar.2,.inl ⟨rfl,HZ.out,rfl⟩⟩
 case stop =>
  rintro c pre W ⟨r,hr⟩ ⟨rfl,pre',x,rfl,hz,hne,hI⟩ hD
  obtain ⟨q,hq⟩:∃q,q=E (al x) (ls x):=⟨_,rfl⟩
  rw [<-hq] at hI hne
  have k3:W.cell? ⟨w.heap.size+3,0,none⟩=some (.int .i64 q):=(Zg hI.bad 0).trans rfl
  have c1:(q == (0:Int))=false:=beq_eq_false_iff_ne.mpr hne
  have c2:(q != (0:Int))=true:=bne_iff_ne.mpr hne
  have c3:(q=(0:Int))=False:=eq_false hne
  obtain ⟨A1,c1',hm,hv⟩:=hI.row
  have k4:W.cell? ⟨w.heap.size+2,0,none⟩=some (.slice A1 pre'.length c1'):=(Zg hm 0).trans rfl
  have HV:=Zz.mk hv
  have HI:=Zz.mk (show AInv w M sv at_ al bx (.func (.func 91) #[] #[.pointer (some ⟨k1,0,none⟩),.pointer (some ⟨k2,0,none⟩)]) (und A U al ls pre' 0) q pre' W by rw [und_zero];exact hI)
  have HD:=Zz.mk hD
  have HQ:=Zz.mk (And.intro hq hne)
  have HPRE:=Zz.mk (show pa=pre'++x::r/\(∀y∈pre',E (al y) (ls y)=0) by rw [hr];exact ⟨by simp,hz⟩)
  have HND:=Zz.mk (show pre'.Nodup/\pre'.length<1001/\∀y∈pre',y∈pa from by
   have h1:=HPN.out.2.1
   have h2:=HPN.out.2.2
   have h3:=HSM.out
   rw [HPRE.out.1] at h1 h2
   rw [List.length_append,List.length_cons] at h2
   exact ⟨(List.nodup_append.1 h1).1,by omega,fun y hy=>by rw [HPRE.out.1];simp [hy]⟩)
  clear hz hne hI hD hq hm hv hr
  refine wpIn_wide.2 ?_
  go_wp2_with fail
  go_loopw [35] (fun v wr=>∃i:Nat,v=.int .i64 (i:Int)/\i<=pre'.length/\Zz (AInv w M sv at_ al bx (.func (.func 91) #[] #[.pointer (some ⟨k1,0,none⟩),.pointer (some ⟨k2,0,none⟩)]) (und A U al ls pre' i) q pre' wr)/\Zz (VRow wr (w.heap.size+6) 24 (.slice A1 pre'.length c1') (ptrs M.g pre'))/\Zz (wr.heap[w2.heap.size]? = some (.deferred (some [])))) (fun v _=>pre'.length-(intOf v).toNat)
  case atStart=>exact ⟨0,rfl,by omega,HI,HV,HD⟩
  case round =>
   clear HI HV HD k3 k4
   obtain ⟨i,rfl,hi,HI,HV,HD⟩:=hrel
   by_cases hlt:i<pre'.length
   ·have d1:decide ((i:Int)<(pre'.length:Int))=true:=decide_eq_true (by omega)
    have d2:decide (i<pre'.length)=true:=decide_eq_true hlt
    have q1:(i<pre'.length)=True:=eq_true hlt
    have hc:=HV.out.cell rfl i (by rw [ptrs_len];exact hlt)
    obtain ⟨ad,hA1,hcell⟩:=hc
    have hcell':wr.cell? (ad.add i)=some (.pointer (some ⟨M.g pre'[i],0,none⟩)):=by rw [hcell];simp [ptrs]
    obtain ⟨y,hy⟩:∃y,y=pre'[i]:=⟨_,rfl⟩
    rw [<-hy] at hcell'
    have hyp:y∈pre':=by rw [hy];exact List.getElem_mem hlt
    have HY:=Zz.mk (show y∈pa/\inR sv.length y/\y∈pre' from ⟨HND.out.2.2 y hyp,(HPN.out.1 y (HND.out.2.2 y hyp)).1,hyp⟩)
    have hu1:=und_at (A:=A) (U:=U) (al:=al) (ls:=ls) HND.out.1 hlt
    have hu2:=und_step (A:=A) (U:=U) (al:=al) (ls:=ls) hlt
    rw [<-hy] at hu1 hu2
    have HU:=Zz.mk (And.intro hu1 hu2)
    have HLT:=Zz.mk hlt
    have HLN:=Zz.mk (show i<1001 by have:=HND.out.2.1;omega)
    subst hA1
    clear hcell hu1 hu2 hy hyp hlt hi
    go_wp2_with fail
    have hc:=HCU.out (M.g y) (M.b y) (al y) (A (al y) (ls y)) wr HI.out.ok (by have:=HI.out.tre.led y HY.out.2.1;rw [HU.out.1] at this;exact this) (HPA.out.2.1 y HY.out.1 (HPRE.out.2 y HY.out.2.2))
    refine hc.mono ?_
    clear hc
    rintro e W2 ⟨rfl,hL,hK⟩
    have hi2:=HI.out.kp HBX.out.2.1 HY.out.2.1 hK hL
    rw [HU.out.2] at hi2
    have HI2:=Zz.mk hi2
    have HV2:=Zz.mk (row_stay HI.out.tre (Kt.kp HY.out.2.1 hK) HV.out)
    have HD2:=Zz.mk (kp_def hK HD.out (fun e=>by have:=HT.out.wr_lt (k:=M.g y) (.inr ⟨y,HY.out.2.1,.inl rfl⟩);have:=HB.out.2;omega) (fun e=>by have:=HT.out.wr_lt (k:=M.b y) (.inr ⟨y,HY.out.2.1,.inr rfl⟩);have:=HB.out.2;omega))
    clear hL hK hi2 hcell'
    have hw:wrap64 ((i:Int)+1)=((i+1:Nat):Int):=by have:=HLN.out;rw [QNat.w64 (by omega) (by omega)];omega
    go_wp2_with fail
    go_roundw
    case rel=>exact ⟨i+1,by first|rw [hw]|rfl|(simp;done),by have:=HLT.out;omega,HI2,HV2,HD2⟩
    case measure =>
     rw [hw]
     show pre'.length-(i+1)<pre'.length-i
     have:=HLT.out
     omega
   ·have d1:decide ((i:Int)<(pre'.length:Int))=false:=decide_eq_false (by omega)
    have d2:decide (i<pre'.length)=false:=decide_eq_false hlt
    obtain rfl:i=pre'.length:=by omega
    have k3:wr.cell? ⟨w.heap.size+3,0,none⟩=some (.int .i64 q):=(Zg HI.out.bad 0).trans rfl
    clear hlt hi
    go_wp2_with fail
    have hfar:=HI.out.far HT.out (k:=w2.heap.size) (by rw [HB.out.2];omega)
    refine ⟨by simp,.inl ⟨_,_,rfl,run_takeDeferred HD.out,?_⟩⟩
    have htr:=tre_put (o':=.deferred none) HI.out.tre HD.out hfar.1 hfar.2
    rw [und_all] at htr
    exact ⟨_,results_tmp rfl _ _ _,_,kt_put HI.out.kt (by rw [HB.out.2];omega),htr,.inr ⟨pre',x,r,HPRE.out.1,HPRE.out.2,by rw [<-HQ.out.1];exact HQ.out.2,by rw [<-HQ.out.1];rfl,rfl⟩⟩
end
end Go.Proofs.Ytfldklimlcnnnaa.XAllA
end

section
namespace Go.Proofs.Ytfldklimlcnnnaa.XTAsk
open Go.RowKit Go.Shelf PHq YtfldklimlcnnnaaW.PrintWords YtfldklimlcnnnaaW.PrintLast YtfldklimlcnnnaaW.PrintMore MWords
open MNat QRatio XRV XHold XWts XLed XJoin XAsk QHold XTree QTree XOf XTCl XAllW QTr XTJoin
section
variable {w W W':World} {M:Tm} {sv:List S71} {al:Int->Rat} {H:List Hol} {m:Nat}
def askP (sv:List S71) (al:Int->Rat) (H:List Hol) (a:Hol) (x:S34):Bool:=(Z0 sv a.srv).all fun y=>askF sv al H a.hd x y
def askTE (sv:List S71) (al:Int->Rat) (H:List Hol) (z:Int) (x:S34):Int :=
 if mayW x=false then 1 else match getH H z with
  | none=>12
  | some a=>if a.hd.a=true then 13 else if askP sv al H a x=true then 0 else 18
def askTH (sv:List S71) (al:Int->Rat) (H:List Hol) (z:Int) (x:S34):List Hol :=
 if askTE sv al H z x=0 then (match getH H z with|none=>H|some a=>setH H z (asks a.hd x)) else H
theorem ask_no {z:Int} {x:S34} (h:mayW x=false):askTE sv al H z x=1/\askTH sv al H z x=H:=by
 have e:askTE sv al H z x=1:=by unfold askTE;rw [h];rfl
 refine ⟨e,?_⟩
 unfold askTH
 rw [e];rfl
theorem ask_none {z:Int} {x:S34} (h:mayW x=true) (hz:getH H z=none):askTE sv al H z x=12/\askTH sv al H z x=H:=by
 have e:askTE sv al H z x=12:=by unfold askTE;rw [h,hz];rfl
 refine ⟨e,?_⟩
 unfold askTH
 rw [e];rfl
theorem ask_some {z:Int} {x:S34} {a:Hol} (h:mayW x=true) (hz:getH H z=some a):askTE sv al H z x=(if a.hd.a=true then 13 else if askP sv al H a x=true then 0 else 18)/\askTH sv al H z x=if askTE sv al H z x=0 then setH H z (asks a.hd x) else H:=by
 have e:askTE sv al H z x=(if a.hd.a=true then 13 else if askP sv al H a x=true then 0 else 18):=by unfold askTE;rw [h,hz];rfl
 refine ⟨e,?_⟩
 unfold askTH
 rw [hz]
def task.T6:Bool × List (List Nat × List Nat):=(true,[([],[]),([],[]),([0,1],[0,1]),([],[]),([2,3,2],[2,3]),([4],[4]),([5],[5]),([5],[5]),([5],[5]),([],[]),([],[]),([9,6,4,0,1,2,3,4,5,6,9,10],[6,9]),([10,7,11,0,1,2,3,4,5,6,7,9,10,11],[7,10]),([8,12,0,1,2,3,4,5,6,7,8,9,10,11,12],[8])])
def task.B6:List Nat:=[0,0,3,0,15,31,63,63,63,0,0,1663,3839,8191]
theorem task.tab6:rtab .any (opsOf Try.f47 6)=task.T6:=by kernel_rfl
theorem task.bits6:waitsOk task.T6.2 task.B6=true:=by kernel_rfl
set_option maxRecDepth 100000 in
set_option maxHeartbeats 8000000 in
theorem task_calls (hT:TH w M sv al H m) (hm:m<400) (z:Int) (x:S34) (hz:wfI z) :
  Calls Try.prog 47 #[.pointer (some ⟨M.t,0,none⟩),.int .i64 z,.agg #[.int .i64 x.f0,.int .i64 x.f1]] w fun e w'=>e=.returned (.int .i64 (askTE sv al H z x))/\TH w' M sv al (askTH sv al H z x) (m+1)/\Kt M sv.length w w':=by
 have mixed:Try.prog.follows Departure.mixedOrders=true:=by kernel_rfl
 obtain ⟨at_,ls,hT,hI,hG⟩:=hT
 obtain ⟨W0,hW0⟩:∃W0,W0=(w.alloc (.cells #[.int .i64 z] 3)).alloc (.cells #[.int .i64 x.f0,.int .i64 x.f1] 34):=⟨_,rfl⟩
 have hb0:Below w.heap.size w W0:=by rw [hW0];exact Zb (Zb (Below.refl _ _) _) _
 have HB0:=Zz.mk hb0
 have HM0:=Zz.mk (show MBlk W0 w.heap.size 3 #[.int .i64 z]/\MBlk W0 (w.heap.size+1) 34 #[.int .i64 x.f0,.int .i64 x.f1]/\W0.heap.size=w.heap.size+2 by
  rw [hW0]
  refine ⟨Zp (Zo _ _ _) _,?_,by simp⟩
  have:=Zo (w.alloc (.cells #[.int .i64 z] 3)) 34 #[.int .i64 x.f0,.int .i64 x.f1]
  rwa [World.size_alloc] at this)
 have HT0:=Zz.mk (hT.below hb0)
 have HI:=Zz.mk hI
 have HG:=Zz.mk hG
 have HZ:=Zz.mk (And.intro hz hm)
 have HC:=Zz.mk (wcheck_f x)
 obtain ⟨r,hr⟩:∃r,r=askTE sv al H z x:=⟨_,rfl⟩
 obtain ⟨H',hH'⟩:∃H',H'=askTH sv al H z x:=⟨_,rfl⟩
 rw [<-hr,<-hH']
 have HR:=Zz.mk (And.intro hr hH')
 clear hT hI hG hz hm hb0 hr hH'
 have c0:W0.cell? ⟨w.heap.size,0,none⟩=some (.int .i64 z):=(Zg HM0.out.1 0).trans rfl
 have x0:W0.cell? ⟨w.heap.size+1,0,none⟩=some (.int .i64 x.f0):=(Zg HM0.out.2.1 0).trans rfl
 have x1:W0.cell? ⟨w.heap.size+1,1,none⟩=some (.int .i64 x.f1):=(Zg HM0.out.2.1 1).trans rfl
 obtain ⟨y,hy⟩:∃y,y=srvA at_ z:=⟨_,rfl⟩
 have HY:=Zz.mk hy
 clear hy
 go_enter Try.func47,Try.ntmps47
 go_upto_region 1 with fail
 rw [<-hW0]
 clear hW0
 go_upto_region 2 with (go_at_call 58;refine (server_calls HT0.out HZ.out.1).mono ?_;rw [<-HY.out];rintro e w1 ⟨rfl,rfl⟩)
 cases hmw:mayW x with
 | false =>
  have hr1:r=1:=by rw [HR.out.1];exact (ask_no hmw).1
  have hH:H'=H:=by rw [HR.out.2];exact (ask_no hmw).2
  subst hr1
  go_wp2_with (go_at_call 66;refine (window_Check.calls x.f0 x.f1 _ _ HC.out).mono ?_;rw [hmw];rintro e w3 ⟨rfl,hb⟩;have HB3:=Zz.mk hb;clear hb)
  go_ret
  exact ⟨rfl,by rw [hH];exact ⟨at_,ls,HT0.out.below HB3.out,Inv.mono HI.out (by omega),HG.out⟩,Kt.of (Zi HB0.out HB3.out)⟩
 | true =>
  have HMW:=Zz.mk hmw
  cases ha:getH H z with
  | none =>
   have hr1:r=12:=by rw [HR.out.1];exact (ask_none hmw ha).1
   have hH:H'=H:=by rw [HR.out.2];exact (ask_none hmw ha).2
   have hy2:y = -2:=by
    rw [HY.out,HI.out.srvA]
    unfold srvH
    rw [ha]
   subst hr1
   subst hy2
   go_wp2_with (go_at_call 66;refine (window_Check.calls x.f0 x.f1 _ _ HC.out).mono ?_;rw [hmw];rintro e w3 ⟨rfl,hb⟩;have HB3:=Zz.mk hb;clear hb)
   go_ret
   exact ⟨rfl,by rw [hH];exact ⟨at_,ls,HT0.out.below HB3.out,Inv.mono HI.out (by omega),HG.out⟩,Kt.of (Zi HB0.out HB3.out)⟩
  | some a =>
   obtain ⟨ha1,ha2⟩:=getH_mem ha
   have hya:y=a.srv:=by
    rw [HY.out,HI.out.srvA]
    unfold srvH
    rw [ha]
   have hin:inR sv.length y:=by rw [hya];exact HI.out.srv a ha1
   have HA:=Zz.mk (And.intro ha (And.intro ha1 (And.intro ha2 (And.intro hya hin))))
   have s1:(y == (-2:Int))=false:=beq_eq_false_iff_ne.mpr (by have:=hin.1;omega)
   have s2:(y=(-2:Int))=False:=eq_false (by have:=hin.1;omega)
   clear ha ha1 ha2 hya hin
   go_upto_region 6 with (go_at_call 66;refine (window_Check.calls x.f0 x.f1 _ _ HC.out).mono ?_;rw [hmw];rintro e w4 ⟨rfl,hb⟩;have HB4:=Zz.mk (Zi HB0.out hb);have HM4:=Zz.mk (And.intro ((hb.block _ (Zn HM0.out.1)).trans HM0.out.1) ((hb.block _ (Zn HM0.out.2.1)).trans HM0.out.2.1));have HT4:=Zz.mk (HT0.out.below hb);have HSZ:=Zz.mk (show 2<=w4.heap.size from by have h1:=hb.size;have h2:=HM0.out.2.2;omega);clear hb)
   clear c0 x0 x1 s1 s2 hmw
   have HGE:=Zz.mk (show getL (ls y) z=some a.hd by
    have:=HI.out.getL HA.out.2.1 HA.out.2.2.2.2 (y:=y) (by rw [HA.out.2.2.2.1];obtain ⟨rr,hrr⟩:=path_head HG.out a.srv (HI.out.srv a HA.out.2.1);rw [hrr];simp)
    rwa [HA.out.2.2.1] at this)
   obtain ⟨e1,he1⟩:∃e1,e1=a.hd.e:=⟨_,rfl⟩
   obtain ⟨p1,hp1⟩:∃p1,p1=a.hd.p:=⟨_,rfl⟩
   obtain ⟨e2,he2⟩:∃e2,e2=a.hd.e2:=⟨_,rfl⟩
   obtain ⟨p2,hp2⟩:∃p2,p2=a.hd.p2:=⟨_,rfl⟩
   have HEP:=Zz.mk (And.intro he1 (And.intro hp1 (And.intro he2 hp2)))
   clear he1 hp1 he2 hp2
   have HOF:∀W,Below w4.heap.size w4 W->Calls Try.prog 27 #[.pointer (some ⟨M.g y,0,none⟩),.int .i64 z] W fun e w'=>e=.returned (.tuple #[.agg #[.int .i64 e1,.int .i64 p1],.agg #[.int .i64 e2,.int .i64 p2],.bool true])/\Below W.heap.size W w':=fun W hW=>by
    have hled:=(HT4.out.below hW).led y HA.out.2.2.2.2
    have h:=XPuts.of_calls _ _ _ _ _ z a.hd W hled HZ.out.1 (by rw [HGE.out];rfl)
    rw [show hasL (ls y) z=true by rw [getL_has,HGE.out];rfl] at h
    rw [HEP.out.1,HEP.out.2.1,HEP.out.2.2.1,HEP.out.2.2.2]
    exact h
   have HOF:=Zz.mk HOF
   have HTO:=Zz.mk (show ∀W,Below w4.heap.size w4 W->Calls Try.prog 89 #[.pointer (some ⟨M.t,0,none⟩),.int .i64 y] W fun e w'=>e=.returned (.pointer (some ⟨M.g y,0,none⟩))/\Below W.heap.size W w' from fun W hW=>of_calls (HT4.out.below hW) HA.out.2.2.2.2)
   go_cut [8,9,10] (fun v8 v9 v10 wc=>∃g8 g9:Nat,v8=.pointer (some ⟨g8,0,none⟩)/\v9=.pointer (some ⟨g9,0,none⟩)/\v10=.bool true/\Zz (MBlk wc g8 34 #[.int .i64 e1,.int .i64 p1])/\Zz (Below w4.heap.size w4 wc)/\Zz (w4.heap.size<=g8))
   case first =>
    refine start_ (n:=14) (S:=fun w'=>True) (ds:=[]) #[false,false,false,false,false,false,false,false,false,false,false,false,false,false] (by kernel_rfl) rfl rfl trivial (fun hHeld=>?_)
    refine with_tabW task.tab6 task.bits6 (fun HT_ HW_=>?_)
    have FB:=Zz.mk (Zr (Below.refl w4.heap.size w4))
    have FL:=Zz.mk (show 0<w4.drew.heap.size/\1<w4.drew.heap.size from ⟨by have:=HSZ.out;show 0<w4.heap.size;omega,by have:=HSZ.out;show 1<w4.heap.size;omega⟩)
    have NE:=Zz.mk (show (0:Nat)≠1 by decide)
    refine pure_ (i:=0) (N:=some 27) (v:=?_) (a':=?_) #[true,false,false,false,false,false,false,false,false,false,false,false,false,false] rfl rfl (Z3 HT_.out (by kernel_rfl)) (fun _ _ _ h=>h) (Or.inl ⟨by rfl,?_⟩) ?_ ?_
    rotate_left
    ·intro w'
     go_simp
     with_reducible rfl
    rotate_left
    ·simp only [Act.put,List.setIfInBounds_toArray,List.set_cons_zero,List.set_cons_succ,Z6,Z7]
     rfl
    refine pure_ (i:=1) (N:=some 28) (v:=?_) (a':=?_) #[true,true,false,false,false,false,false,false,false,false,false,false,false,false] rfl rfl (Z3 HT_.out (by kernel_rfl)) (fun _ _ _ h=>h) (Or.inl ⟨by rfl,?_⟩) ?_ ?_
    rotate_left
    ·intro w'
     go_simp
     with_reducible rfl
    rotate_left
    ·simp only [Act.put,List.setIfInBounds_toArray,List.set_cons_zero,List.set_cons_succ,Z6,Z7]
     rfl
    refine inv_at [2,3,4,5,6,7,8,9,10,11,12,13] (fun a0_ b a w'=>∃ (g8:Nat) (g9:Nat) (m9_:Value) (m10_:Value),a=putSel a0_ b [(2,29,.pointer (some ⟨M.g y,0,none⟩)),(3,30,.int .i64 z),(4,31,.tuple #[.agg #[.int .i64 e1,.int .i64 p1],.agg #[.int .i64 e2,.int .i64 p2],.bool true]),(5,26,.tuple #[.agg #[.int .i64 e1,.int .i64 p1],.agg #[.int .i64 e2,.int .i64 p2],.bool true]),(6,32,.agg #[.int .i64 e1,.int .i64 p1]),(7,33,.agg #[.int .i64 e2,.int .i64 p2]),(8,34,.bool true),(9,8,m9_),(10,9,m10_),(13,10,.bool true)]/\(Below w4.heap.size w4 w')/\(g8<w'.heap.size/\g9<w'.heap.size)/\(g8≠g9)/\(b 9=true->w4.heap.size<=g8)/\(b 10=true->w4.heap.size<=g9)/\(b 9=true->b 11=false->MBlk w' g8 34 #[.int .i64 0,.int .i64 0])/\(b 10=true->b 12=false->MBlk w' g9 34 #[.int .i64 0,.int .i64 0])/\(b 11=true->MBlk w' g8 34 #[.int .i64 e1,.int .i64 p1])/\(b 9=true->(m9_:Value)=.pointer (some ⟨g8,0,none⟩))/\(b 10=true->(m10_:Value)=.pointer (some ⟨g9,0,none⟩))) HT_.out HW_.out (by kernel_rfl) (by kernel_rfl) ?_ ?_ ?_
    ·exact ⟨0,1,.bool false,.bool false,by simp only [putSel,Bool.false_eq_true,if_false],FB.out,FL.out,NE.out,fun h_=>absurd h_ (by decide),fun h_=>absurd h_ (by decide),fun h_=>absurd h_ (by decide),fun h_=>absurd h_ (by decide),fun h_=>absurd h_ (by decide),fun h_=>absurd h_ (by decide),fun h_=>absurd h_ (by decide)⟩
    ·skip
     clear FB FL NE
     refine steps_cons ?_ ?_
     ·rintro b a w' ⟨g8,g9,m9_,m10_,ha,Q_FB,Q_FL,Q_NE,Q_G8,Q_G9,Q_F9,Q_F10,Q_F11,Q_X9_,Q_X10_⟩ hb_ hon hoff
      refine ⟨_,rfl,fun K hK=>?_⟩
      have e27:a.tmps[27]? = some (.pointer (some ⟨M.t,0,none⟩)):=by rw [ha];exact (putSel_off rfl).trans rfl
      have e28:a.tmps[28]? = some (.int .i64 y):=by rw [ha];exact (putSel_off rfl).trans rfl
      replace ha:=Zz.mk ha
      have FB:=Zz.mk Q_FB
      have FL:=Zz.mk Q_FL
      have NE:=Zz.mk Q_NE
      refine goes_ Try.func89 (by kernel_rfl) rfl #[.pointer (some ⟨M.t,0,none⟩),.int .i64 y] (by rfl) rfl rfl (by simp only [List.map_toArray,List.map_cons,List.map_nil,Act.eval,Array.getD_eq_getD_getElem?,e27,e28,Option.getD_some]) ?_
      refine (HTO.out _ FB.out).mono ?_
      rintro e1_ w1 ⟨rfl,hb⟩
      refine ⟨_,rfl,?_⟩
      refine hK.out _ _ ⟨g8,g9,m9_,m10_,(by rw [ha.out];exact putSel_upk 0 hb_ rfl rfl rfl),Zi FB.out hb,⟨Nat.lt_of_lt_of_le FL.out.1 hb.size,Nat.lt_of_lt_of_le FL.out.2 hb.size⟩,Q_NE,Q_G8,Q_G9,fun h0_ h1_=>(hb.block _ (Zn (Q_F9 h0_ h1_))).trans (Q_F9 h0_ h1_),fun h0_ h1_=>(hb.block _ (Zn (Q_F10 h0_ h1_))).trans (Q_F10 h0_ h1_),fun h0_=>absurd ((hoff 11 (by kernel_rfl)).symm.trans h0_) (by decide),Q_X9_,Q_X10_⟩
     refine steps_cons ?_ ?_
     ·rintro b a w' ⟨g8,g9,m9_,m10_,ha,Q_FB,Q_FL,Q_NE,Q_G8,Q_G9,Q_F9,Q_F10,Q_F11,Q_X9_,Q_X10_⟩ hb_ hon hoff
      refine ⟨_,rfl,fun K hK=>?_⟩
      have e4:a.tmps[4]? = some (.pointer (some ⟨w.heap.size,0,none⟩)):=by rw [ha];exact (putSel_off rfl).trans rfl
      replace ha:=Zz.mk ha
      have FB:=Zz.mk Q_FB
      have FL:=Zz.mk Q_FL
      have NE:=Zz.mk Q_NE
      have hx0:w'.cell? ⟨w.heap.size,0,none⟩=some (.int .i64 z):=(Zg ((FB.out.block _ (Zn HM4.out.1)).trans HM4.out.1) 0).trans rfl
      refine value_ (w1:=w') (v:=.int .i64 z) (by rfl) rfl ?_ ?_
      ·go_simp
       (try simp only [Z6])
       try rfl
      refine hK.out _ _ ⟨g8,g9,m9_,m10_,(by rw [ha.out];exact putSel_upk 1 hb_ rfl rfl rfl),Q_FB,Q_FL,Q_NE,Q_G8,Q_G9,Q_F9,Q_F10,fun h0_=>absurd ((hoff 11 (by kernel_rfl)).symm.trans h0_) (by decide),Q_X9_,Q_X10_⟩
     refine steps_cons ?_ ?_
     ·rintro b a w' ⟨g8,g9,m9_,m10_,ha,Q_FB,Q_FL,Q_NE,Q_G8,Q_G9,Q_F9,Q_F10,Q_F11,Q_X9_,Q_X10_⟩ hb_ hon hoff
      refine ⟨_,rfl,fun K hK=>?_⟩
      have e29:a.tmps[29]? = some (.pointer (some ⟨M.g y,0,none⟩)):=by rw [ha];exact putSel_on (e:=(2,29,.pointer (some ⟨M.g y,0,none⟩))) 0 rfl rfl (hon 2 (by kernel_rfl)) rfl
      have e30:a.tmps[30]? = some (.int .i64 z):=by rw [ha];exact putSel_on (e:=(3,30,.int .i64 z)) 1 rfl rfl (hon 3 (by kernel_rfl)) rfl
      replace ha:=Zz.mk ha
      have FB:=Zz.mk Q_FB
      have FL:=Zz.mk Q_FL
      have NE:=Zz.mk Q_NE
      refine goes_ Try.func27 (by kernel_rfl) rfl #[.pointer (some ⟨M.g y,0,none⟩),.int .i64 z] (by rfl) rfl rfl (by simp only [List.map_toArray,List.map_cons,List.map_nil,Act.eval,Array.getD_eq_getD_getElem?,e29,e30,Option.getD_some]) ?_
      refine (HOF.out _ FB.out).mono ?_
      rintro e1_ w1 ⟨rfl,hb⟩
      refine ⟨_,rfl,?_⟩
      refine hK.out _ _ ⟨g8,g9,m9_,m10_,(by rw [ha.out];exact putSel_upk 2 hb_ rfl rfl rfl),Zi FB.out hb,⟨Nat.lt_of_lt_of_le FL.out.1 hb.size,Nat.lt_of_lt_of_le FL.out.2 hb.size⟩,Q_NE,Q_G8,Q_G9,fun h0_ h1_=>(hb.block _ (Zn (Q_F9 h0_ h1_))).trans (Q_F9 h0_ h1_),fun h0_ h1_=>(hb.block _ (Zn (Q_F10 h0_ h1_))).trans (Q_F10 h0_ h1_),fun h0_=>absurd ((hoff 11 (by kernel_rfl)).symm.trans h0_) (by decide),Q_X9_,Q_X10_⟩
     refine steps_cons ?_ ?_
     ·rintro b a w' ⟨g8,g9,m9_,m10_,ha,Q_FB,Q_FL,Q_NE,Q_G8,Q_G9,Q_F9,Q_F10,Q_F11,Q_X9_,Q_X10_⟩ hb_ hon hoff
      refine ⟨_,rfl,fun K hK=>?_⟩
      have e31:a.tmps[31]? = some (.tuple #[.agg #[.int .i64 e1,.int .i64 p1],.agg #[.int .i64 e2,.int .i64 p2],.bool true]):=by rw [ha];exact putSel_on (e:=(4,31,.tuple #[.agg #[.int .i64 e1,.int .i64 p1],.agg #[.int .i64 e2,.int .i64 p2],.bool true])) 2 rfl rfl (hon 4 (by kernel_rfl)) rfl
      replace ha:=Zz.mk ha
      have FB:=Zz.mk Q_FB
      have FL:=Zz.mk Q_FL
      have NE:=Zz.mk Q_NE
      refine value_ (w1:=w') (v:=.tuple #[.agg #[.int .i64 e1,.int .i64 p1],.agg #[.int .i64 e2,.int .i64 p2],.bool true]) (by rfl) rfl ?_ ?_
      ·go_simp
       (try simp only [Z6])
       try rfl
      refine hK.out _ _ ⟨g8,g9,m9_,m10_,(by rw [ha.out];exact putSel_upk 3 hb_ rfl rfl rfl),Q_FB,Q_FL,Q_NE,Q_G8,Q_G9,Q_F9,Q_F10,fun h0_=>absurd ((hoff 11 (by kernel_rfl)).symm.trans h0_) (by decide),Q_X9_,Q_X10_⟩
     refine steps_cons ?_ ?_
     ·rintro b a w' ⟨g8,g9,m9_,m10_,ha,Q_FB,Q_FL,Q_NE,Q_G8,Q_G9,Q_F9,Q_F10,Q_F11,Q_X9_,Q_X10_⟩ hb_ hon hoff
      refine ⟨_,rfl,fun K hK=>?_⟩
      have e26:a.tmps[26]? = some (.tuple #[.agg #[.int .i64 e1,.int .i64 p1],.agg #[.int .i64 e2,.int .i64 p2],.bool true]):=by rw [ha];exact putSel_on (e:=(5,26,.tuple #[.agg #[.int .i64 e1,.int .i64 p1],.agg #[.int .i64 e2,.int .i64 p2],.bool true])) 3 rfl rfl (hon 5 (by kernel_rfl)) rfl
      replace ha:=Zz.mk ha
      have FB:=Zz.mk Q_FB
      have FL:=Zz.mk Q_FL
      have NE:=Zz.mk Q_NE
      refine value_ (w1:=w') (v:=.agg #[.int .i64 e1,.int .i64 p1]) (by rfl) rfl ?_ ?_
      ·go_simp
       (try simp only [Z6])
       try rfl
      refine hK.out _ _ ⟨g8,g9,m9_,m10_,(by rw [ha.out];exact putSel_upk 4 hb_ rfl rfl rfl),Q_FB,Q_FL,Q_NE,Q_G8,Q_G9,Q_F9,Q_F10,fun h0_=>absurd ((hoff 11 (by kernel_rfl)).symm.trans h0_) (by decide),Q_X9_,Q_X10_⟩
     refine steps_cons ?_ ?_
     ·rintro b a w' ⟨g8,g9,m9_,m10_,ha,Q_FB,Q_FL,Q_NE,Q_G8,Q_G9,Q_F9,Q_F10,Q_F11,Q_X9_,Q_X10_⟩ hb_ hon hoff
      refine ⟨_,rfl,fun K hK=>?_⟩
      have e26:a.tmps[26]? = some (.tuple #[.agg #[.int .i64 e1,.int .i64 p1],.agg #[.int .i64 e2,.int .i64 p2],.bool true]):=by rw [ha];exact putSel_on (e:=(5,26,.tuple #[.agg #[.int .i64 e1,.int .i64 p1],.agg #[.int .i64 e2,.int .i64 p2],.bool true])) 3 rfl rfl (hon 5 (by kernel_rfl)) rfl
      replace ha:=Zz.mk ha
      have FB:=Zz.mk Q_FB
      have FL:=Zz.mk Q_FL
      have NE:=Zz.mk Q_NE
      refine value_ (w1:=w') (v:=.agg #[.int .i64 e2,.int .i64 p2]) (by rfl) rfl ?_ ?_
      ·go_simp
       (try simp only [Z6])
       try rfl
      refine hK.out _ _ ⟨g8,g9,m9_,m10_,(by rw [ha.out];exact putSel_upk 5 hb_ rfl rfl rfl),Q_FB,Q_FL,Q_NE,Q_G8,Q_G9,Q_F9,Q_F10,Q_F11,Q_X9_,Q_X10_⟩
     refine steps_cons ?_ ?_
     ·rintro b a w' ⟨g8,g9,m9_,m10_,ha,Q_FB,Q_FL,Q_NE,Q_G8,Q_G9,Q_F9,Q_F10,Q_F11,Q_X9_,Q_X10_⟩ hb_ hon hoff
      refine ⟨_,rfl,fun K hK=>?_⟩
      have e26:a.tmps[26]? = some (.tuple #[.agg #[.int .i64 e1,.int .i64 p1],.agg #[.int .i64 e2,.int .i64 p2],.bool true]):=by rw [ha];exact putSel_on (e:=(5,26,.tuple #[.agg #[.int .i64 e1,.int .i64 p1],.agg #[.int .i64 e2,.int .i64 p2],.bool true])) 3 rfl rfl (hon 5 (by kernel_rfl)) rfl
      replace ha:=Zz.mk ha
      have FB:=Zz.mk Q_FB
      have FL:=Zz.mk Q_FL
      have NE:=Zz.mk Q_NE
      refine value_ (w1:=w') (v:=.bool true) (by rfl) rfl ?_ ?_
      ·go_simp
       (try simp only [Z6])
       try rfl
      refine hK.out _ _ ⟨g8,g9,m9_,m10_,(by rw [ha.out];exact putSel_upk 6 hb_ rfl rfl rfl),Q_FB,Q_FL,Q_NE,Q_G8,Q_G9,Q_F9,Q_F10,Q_F11,Q_X9_,Q_X10_⟩
     refine steps_cons ?_ ?_
     ·rintro b a w' ⟨g8,g9,m9_,m10_,ha,Q_FB,Q_FL,Q_NE,Q_G8,Q_G9,Q_F9,Q_F10,Q_F11,Q_X9_,Q_X10_⟩ hb_ hon hoff
      refine ⟨_,rfl,fun K hK=>?_⟩
      replace ha:=Zz.mk ha
      have FB:=Zz.mk Q_FB
      have FL:=Zz.mk Q_FL
      have NE:=Zz.mk Q_NE
      refine value_ (w1:=w'.alloc (.cells #[.int .i64 0,.int .i64 0] 34)) (v:=.pointer (some ⟨w'.heap.size,0,none⟩)) (by rfl) rfl ?_ ?_
      ·go_simp
      refine hK.out _ _ ⟨w'.heap.size,g9,(.pointer (some ⟨w'.heap.size,0,none⟩)),m10_,(by rw [ha.out];exact putSel_upk 7 hb_ rfl rfl rfl),Zb FB.out _,⟨by simp,by have:=FL.out.2;simp;omega⟩,by have:=FL.out.2;omega,fun _=>FB.out.size,Q_G9,fun _ _=>Zo _ _ _,fun h0_ h1_=>Zp (Q_F10 h0_ h1_) _,fun h0_=>absurd ((hoff 11 (by kernel_rfl)).symm.trans h0_) (by decide),fun _=>rfl,Q_X10_⟩
     refine steps_cons ?_ ?_
     ·rintro b a w' ⟨g8,g9,m9_,m10_,ha,Q_FB,Q_FL,Q_NE,Q_G8,Q_G9,Q_F9,Q_F10,Q_F11,Q_X9_,Q_X10_⟩ hb_ hon hoff
      refine ⟨_,rfl,fun K hK=>?_⟩
      replace ha:=Zz.mk ha
      have FB:=Zz.mk Q_FB
      have FL:=Zz.mk Q_FL
      have NE:=Zz.mk Q_NE
      refine value_ (w1:=w'.alloc (.cells #[.int .i64 0,.int .i64 0] 34)) (v:=.pointer (some ⟨w'.heap.size,0,none⟩)) (by rfl) rfl ?_ ?_
      ·go_simp
      refine hK.out _ _ ⟨g8,w'.heap.size,m9_,(.pointer (some ⟨w'.heap.size,0,none⟩)),(by rw [ha.out];exact putSel_upk 8 hb_ rfl rfl rfl),Zb FB.out _,⟨by have:=FL.out.1;simp;omega,by simp⟩,by have:=FL.out.1;omega,Q_G8,fun _=>FB.out.size,fun h0_ h1_=>Zp (Q_F9 h0_ h1_) _,fun _ _=>Zo _ _ _,fun h0_=>absurd ((hoff 11 (by kernel_rfl)).symm.trans h0_) (by decide),Q_X9_,fun _=>rfl⟩
     refine steps_cons ?_ ?_
     ·rintro b a w' ⟨g8,g9,m9_,m10_,ha,Q_FB,Q_FL,Q_NE,Q_G8,Q_G9,Q_F9,Q_F10,Q_F11,Q_X9_,Q_X10_⟩ hb_ hon hoff
      refine ⟨_,rfl,fun K hK=>?_⟩
      have e8:a.tmps[8]? = some (m9_):=by rw [ha];exact putSel_on (e:=(9,8,m9_)) 7 rfl rfl (hon 9 (by kernel_rfl)) rfl
      rw [Q_X9_ (hon 9 (by kernel_rfl))] at e8
      have e32:a.tmps[32]? = some (.agg #[.int .i64 e1,.int .i64 p1]):=by rw [ha];exact putSel_on (e:=(6,32,.agg #[.int .i64 e1,.int .i64 p1])) 4 rfl rfl (hon 6 (by kernel_rfl)) rfl
      replace ha:=Zz.mk ha
      have FB:=Zz.mk Q_FB
      have FL:=Zz.mk Q_FL
      have NE:=Zz.mk Q_NE
      have G8:=Zz.mk (Q_G8 (hon 9 (by kernel_rfl)))
      have G9:=Zz.mk (Q_G9 (hon 10 (by kernel_rfl)))
      have F9:=Zz.mk (Q_F9 (hon 9 (by kernel_rfl)) hb_)
      have F10:=Zz.mk (Q_F10 (hon 10 (by kernel_rfl)) (hoff 12 (by kernel_rfl)))
      have z0:=(Zg F9.out 0).trans rfl
      have z1:=(Zg F9.out 1).trans rfl
      have r0:=Zq F9.out 0
      have r1:=Zq F9.out 1
      refine skip_ (w1:=(w'.setCell ⟨g8,0,none⟩ (.int .i64 e1)).setCell ⟨g8,1,none⟩ (.int .i64 p1)) (by rfl) rfl ?_ ?_
      ·go_simp
      refine hK.out _ _ ⟨g8,g9,m9_,m10_,(by rw [ha.out];exact putSel_none (v:=undef) rfl),(FB.out.setCell (p:=⟨g8,0,none⟩) G8.out _).setCell (p:=⟨g8,1,none⟩) G8.out _,⟨by simp [World.setCell];exact FL.out.1,by simp [World.setCell];exact FL.out.2⟩,Q_NE,Q_G8,Q_G9,fun _ h1_=>absurd ((up_self b 11).symm.trans h1_) (by decide),fun _ _=>mblk_far (mblk_far F10.out (p:=⟨g8,0,none⟩) (fun e=>NE.out e.symm) _) (p:=⟨g8,1,none⟩) (fun e=>NE.out e.symm) _,fun _=>mblk_set (mblk_set F9.out 0 _) 1 _,Q_X9_,Q_X10_⟩
     refine steps_cons ?_ ?_
     ·rintro b a w' ⟨g8,g9,m9_,m10_,ha,Q_FB,Q_FL,Q_NE,Q_G8,Q_G9,Q_F9,Q_F10,Q_F11,Q_X9_,Q_X10_⟩ hb_ hon hoff
      refine ⟨_,rfl,fun K hK=>?_⟩
      have e9:a.tmps[9]? = some (m10_):=by rw [ha];exact putSel_on (e:=(10,9,m10_)) 8 rfl rfl (hon 10 (by kernel_rfl)) rfl
      rw [Q_X10_ (hon 10 (by kernel_rfl))] at e9
      have e33:a.tmps[33]? = some (.agg #[.int .i64 e2,.int .i64 p2]):=by rw [ha];exact putSel_on (e:=(7,33,.agg #[.int .i64 e2,.int .i64 p2])) 5 rfl rfl (hon 7 (by kernel_rfl)) rfl
      replace ha:=Zz.mk ha
      have FB:=Zz.mk Q_FB
      have FL:=Zz.mk Q_FL
      have NE:=Zz.mk Q_NE
      have G8:=Zz.mk (Q_G8 (hon 9 (by kernel_rfl)))
      have G9:=Zz.mk (Q_G9 (hon 10 (by kernel_rfl)))
      have F10:=Zz.mk (Q_F10 (hon 10 (by kernel_rfl)) hb_)
      have F11:=Zz.mk (Q_F11 (hon 11 (by kernel_rfl)))
      have z0:=(Zg F10.out 0).trans rfl
      have z1:=(Zg F10.out 1).trans rfl
      have r0:=Zq F10.out 0
      have r1:=Zq F10.out 1
      refine skip_ (w1:=(w'.setCell ⟨g9,0,none⟩ (.int .i64 e2)).setCell ⟨g9,1,none⟩ (.int .i64 p2)) (by rfl) rfl ?_ ?_
      ·go_simp
      refine hK.out _ _ ⟨g8,g9,m9_,m10_,(by rw [ha.out];exact putSel_none (v:=undef) rfl),(FB.out.setCell (p:=⟨g9,0,none⟩) G9.out _).setCell (p:=⟨g9,1,none⟩) G9.out _,⟨by simp [World.setCell];exact FL.out.1,by simp [World.setCell];exact FL.out.2⟩,Q_NE,Q_G8,Q_G9,fun _ h1_=>absurd ((hon 11 (by kernel_rfl)).symm.trans h1_) (by decide),fun _ h1_=>absurd ((up_self b 12).symm.trans h1_) (by decide),fun _=>mblk_far (mblk_far F11.out (p:=⟨g9,0,none⟩) NE.out _) (p:=⟨g9,1,none⟩) NE.out _,Q_X9_,Q_X10_⟩
     refine steps_cons ?_ ?_
     ·rintro b a w' ⟨g8,g9,m9_,m10_,ha,Q_FB,Q_FL,Q_NE,Q_G8,Q_G9,Q_F9,Q_F10,Q_F11,Q_X9_,Q_X10_⟩ hb_ hon hoff
      refine ⟨_,rfl,fun K hK=>?_⟩
      have e34:a.tmps[34]? = some (.bool true):=by rw [ha];exact putSel_on (e:=(8,34,.bool true)) 6 rfl rfl (hon 8 (by kernel_rfl)) rfl
      replace ha:=Zz.mk ha
      have FB:=Zz.mk Q_FB
      have FL:=Zz.mk Q_FL
      have NE:=Zz.mk Q_NE
      have G8:=Zz.mk (Q_G8 (hon 9 (by kernel_rfl)))
      have G9:=Zz.mk (Q_G9 (hon 10 (by kernel_rfl)))
      have F11:=Zz.mk (Q_F11 (hon 11 (by kernel_rfl)))
      refine value_ (w1:=w') (v:=.bool true) (by rfl) rfl ?_ ?_
      ·go_simp
       (try simp only [Z6])
       try rfl
      refine hK.out _ _ ⟨g8,g9,m9_,m10_,(by rw [ha.out];exact putSel_upk 9 hb_ rfl rfl rfl),Q_FB,Q_FL,Q_NE,Q_G8,Q_G9,fun _ h1_=>absurd ((hon 11 (by kernel_rfl)).symm.trans h1_) (by decide),fun _ h1_=>absurd ((hon 12 (by kernel_rfl)).symm.trans h1_) (by decide),Q_F11,Q_X9_,Q_X10_⟩
     exact steps_nil
    rintro b a wz hall ⟨g8,g9,m9_,m10_,ha,Q_FB,Q_FL,Q_NE,Q_G8,Q_G9,Q_F9,Q_F10,Q_F11,Q_X9_,Q_X10_⟩
    clear FB FL NE
    have hb2_:=hall 2 (by kernel_rfl)
    have hb3_:=hall 3 (by kernel_rfl)
    have hb4_:=hall 4 (by kernel_rfl)
    have hb5_:=hall 5 (by kernel_rfl)
    have hb6_:=hall 6 (by kernel_rfl)
    have hb7_:=hall 7 (by kernel_rfl)
    have hb8_:=hall 8 (by kernel_rfl)
    have hb9_:=hall 9 (by kernel_rfl)
    have hb10_:=hall 10 (by kernel_rfl)
    have hb11_:=hall 11 (by kernel_rfl)
    have hb12_:=hall 12 (by kernel_rfl)
    have hb13_:=hall 13 (by kernel_rfl)
    subst ha
    obtain rfl:=Q_X9_ hb9_
    obtain rfl:=Q_X10_ hb10_
    simp only [putSel,hb2_,hb3_,hb4_,hb5_,hb6_,hb7_,hb8_,hb9_,hb10_,hb11_,hb12_,hb13_,if_true,Act.put,List.setIfInBounds_toArray,List.set_cons_zero,List.set_cons_succ]
    have FB:=Zz.mk Q_FB
    clear Q_FB
    have FL:=Zz.mk Q_FL
    clear Q_FL
    have NE:=Zz.mk Q_NE
    clear Q_NE
    have G8:=Zz.mk (Q_G8 hb9_)
    clear Q_G8
    have G9:=Zz.mk (Q_G9 hb10_)
    clear Q_G9
    clear Q_F9
    clear Q_F10
    have F11:=Zz.mk (Q_F11 hb11_)
    clear Q_F11
    clear hall hb2_ hb3_ hb4_ hb5_ hb6_ hb7_ hb8_ hb9_ hb10_ hb11_ hb12_ hb13_
    go_wp2_with fail
    go_meet
    case rel=>exact ⟨g8,g9,rfl,rfl,rfl,F11,FB,G8⟩
   case rest =>
    obtain ⟨g8,g9,rfl,rfl,rfl,HG8,HBc,HGL⟩:=hcut
    have HB5:=Zz.mk (Zi HB4.out HBc.out)
    have HT5:=Zz.mk (HT4.out.below HBc.out)
    have HM5:=Zz.mk (And.intro ((HBc.out.block _ (Zn HM4.out.1)).trans HM4.out.1) ((HBc.out.block _ (Zn HM4.out.2)).trans HM4.out.2))
    have HNW:=Zz.mk (show OkB [bxI w.heap.size z,bxW (w.heap.size+1) x,bxW g8 (wN a.hd)] wc from fun q hq=>by
     rcases List.mem_cons.1 hq with rfl|hq
     ·exact HM5.out.1
     rcases List.mem_cons.1 hq with rfl|hq
     ·exact HM5.out.2
     ·rw [List.mem_singleton.1 hq]
      have h:=HG8.out
      rw [HEP.out.1,HEP.out.2.1] at h
      exact h)
    clear HOF HTO HBc HGL HT4 HM4 HEP HGE HG8 HSZ HT0 HM0 HB4 HB0
    go_wp2_with fail
    obtain ⟨h0_,ha1,ha2,hya,hin⟩:=HA.out
    have hz400:=HZ.out.2
    have hIN:=path_in HG.out y hin
    have hall:=XAllA.all_calls (bx:=[bxI w.heap.size z,bxW (w.heap.size+1) x,bxW g8 (wN a.hd)]) HT5.out HG.out hin (k1:=w.heap.size) (k2:=w.heap.size+1) (k3:=g8)
     (fun q hq=>Zn (HNW.out q hq))
     (fun q hq=>by
      rcases List.mem_cons.1 hq with rfl|hq
      ·exact bxI_ty _ _
      rcases List.mem_cons.1 hq with rfl|hq
      ·exact bxW_ty _ _
      ·rw [List.mem_singleton.1 hq];exact bxW_ty _ _)
     HNW.out (ask2 w.heap.size (w.heap.size+1) z x _ (by simp) (by simp) HZ.out.1) (ask1 w.heap.size g8 z (wN a.hd) _ (by simp) (by simp) HZ.out.1)
     (fun q hq=>HI.out.pa (by omega) (hIN q hq).1)
     (fun q hq h0=>by
      have hqi:=(hIN q hq).1
      have hqp:q∈Z0 sv a.srv:=by rw [<-hya];exact hq
      have h1:=HI.out.askE ha1 HMW.out hqi hqp
      rw [ha2] at h1
      rw [h0] at h1
      by_cases c:a.hd.a=true
      ·rw [if_pos c] at h1;cases h1
      ·rw [if_neg c] at h1
       have hf:askF sv al H a.hd x q=true:=by
        cases c2:askF sv al H a.hd x q with
        | true=>rfl
        | false=>rw [c2,if_neg (by decide)] at h1;cases h1
       have h2:=HI.out.askL ha1 HMW.out (by simpa using c) hqi hqp hf
       rw [ha2] at h2
       have hpa:=HI.out.pa (by omega) hqi
       have hhas:hasL (ls q) z=true:=by
        rw [hasL_perm (HI.out.ls q hqi),<-ha2]
        exact sub_has.2 ⟨a,ha1,rfl,onB_iff.2 hqp⟩
       show PaL (al q) (XAsk.askL (al q) (Zy (ls q)) (ls q) z x)
       rw [h2]
       exact ⟨hpa.1,XMeth.set_good hpa.2.1 hpa.2.2 ⟨(HI.out.ok a ha1).ok.1,fun _=>(may_okW HMW.out).1⟩,by rw [set_len,hhas,if_pos rfl];exact hpa.2.2⟩)
     (fun q hq h0=>askL_same h0)
    refine hall.mono ?_
    clear hall
    have hEq:∀q∈Z0 sv y,XAsk.askE (al q) (Zy (ls q)) (ls q) z x=if a.hd.a=true then 13 else if askF sv al H a.hd x q=true then 0 else 18:=fun q hq=>by
     have h1:=HI.out.askE ha1 HMW.out (hIN q hq).1 (by rw [<-hya];exact hq)
     rwa [ha2] at h1
    obtain ⟨hr1,hH1⟩:=ask_some (sv:=sv) (al:=al) HMW.out h0_
    rintro e w5 ⟨ls',hkt,htr,⟨rfl,hE,rfl⟩|⟨pre,q,rr,hp,hE,hne,rfl,rfl⟩⟩
    ·have HF:=Zz.mk (show r=0/\TH w5 M sv al H' (m+1)/\Kt M sv.length w w5 by
      obtain ⟨rr,hrr⟩:=path_head HG.out y hin
      have hna:a.hd.a=false:=by
       cases c:a.hd.a with
       | false=>rfl
       | true =>
        have h1:=hE y (by rw [hrr];simp)
        have h2:=hEq y (by rw [hrr];simp)
        rw [c,if_pos rfl] at h2
        have h3:XAsk.askE (al y) (Zy (ls y)) (ls y) z x=0:=h1
        rw [h3] at h2
        cases h2
      have hff:∀q∈Z0 sv a.srv,askF sv al H a.hd x q=true:=fun q hq=>by
       rw [<-hya] at hq
       have h2:=hEq q hq
       have h3:XAsk.askE (al q) (Zy (ls q)) (ls q) z x=0:=hE q hq
       rw [h3,hna,if_neg (by decide)] at h2
       cases c2:askF sv al H a.hd x q with
       | true=>rfl
       | false=>rw [c2,if_neg (by decide)] at h2;cases h2
      have hr0:askTE sv al H z x=0:=by
       rw [hr1,hna,if_neg (by decide),if_pos]
       unfold askP
       rw [List.all_eq_true]
       exact hff
      refine ⟨by rw [HR.out.1,hr0],?_,(Kt.of HB5.out).trans hkt⟩
      rw [HR.out.2,hH1,if_pos hr0]
      have hi:=HI.out.ask HG.out ha1 HMW.out hna hff
      rw [ha2,<-hya] at hi
      exact ⟨at_,_,htr,Inv.mono hi (by omega),HG.out⟩)
     clear hkt htr hE hEq hr1 hH1 ha1 ha2 hya hin hIN hz400 h0_
     go_wp2_with fail
     go_ret
     exact ⟨by rw [HF.out.1];rfl,HF.out.2⟩
    ·obtain ⟨q2,hq2⟩:∃q2,q2=XAsk.askE (al q) (Zy (ls q)) (ls q) z x:=⟨_,rfl⟩
     have HF:=Zz.mk (show r=q2/\TH w5 M sv al H' (m+1)/\Kt M sv.length w w5 by
      have hqp:q∈Z0 sv y:=by rw [hp];simp
      have hq3:=hEq q hqp
      have hpre:∀q'∈pre,inR sv.length q'/\q'∈Z0 sv a.srv:=fun q' hq'=>by
       have:q'∈Z0 sv y:=by rw [hp];simp [hq']
       exact ⟨(hIN q' this).1,by rw [<-hya];exact this⟩
      have hEp:∀q'∈pre,XAsk.askE (al q') (Zy (ls q')) (ls q') z x=0:=hE
      cases c:a.hd.a with
      | true =>
       rw [c,if_pos rfl] at hr1 hq3
       have hpn:pre = []:=by
        cases pre with
        | nil=>rfl
        | cons q' pre' =>
         have h1:=hEp q' (by simp)
         have h2:=hEq q' (by rw [hp];simp)
         rw [h1,c,if_pos rfl] at h2
         cases h2
       subst hpn
       rw [stp_nil] at htr
       refine ⟨by rw [HR.out.1,hr1,hq2,hq3],?_,(Kt.of HB5.out).trans hkt⟩
       rw [HR.out.2,hH1,if_neg (by rw [hr1];decide)]
       exact ⟨at_,ls,htr,Inv.mono HI.out (by omega),HG.out⟩
      | false =>
       rw [c,if_neg (by decide)] at hr1 hq3
       have hnf:¬ askF sv al H a.hd x q=true:=fun c2=>by
        rw [if_pos c2] at hq3
        exact hne hq3
       rw [if_neg hnf] at hq3
       rw [if_neg (by
        unfold askP
        rw [List.all_eq_true]
        exact fun h=>hnf (h q (by rw [<-hya];exact hqp)))] at hr1
       refine ⟨by rw [HR.out.1,hr1,hq2,hq3],?_,(Kt.of HB5.out).trans hkt⟩
       rw [HR.out.2,hH1,if_neg (by rw [hr1];decide)]
       have hi:=HI.out.unask ha1 HMW.out c hpre (by rw [ha2];exact hEp)
       rw [ha2] at hi
       exact ⟨at_,_,htr,Inv.mono hi (by omega),HG.out⟩)
     show _
     rw [<-hq2]
     clear hkt htr hE hEq hr1 hH1 ha1 ha2 hya hin hIN hz400 h0_ hne hp hq2
     go_wp2_with fail
     go_ret
     exact ⟨by rw [HF.out.1];rfl,HF.out.2⟩
end
end Go.Proofs.Ytfldklimlcnnnaa.XTAsk
end

section
namespace Go.Proofs.Ytfldklimlcnnnaa.XEachW
open Go.RowKit PHq YtfldklimlcnnnaaW.PrintWords YtfldklimlcnnnaaW.PrintLast YtfldklimlcnnnaaW.PrintMore MWords
open MNat XRV XHold XLed XTree QTree XPath XOf XCollect XAllW
section
variable {w W W':World} {M:Tm} {sv:List S71} {at_:List (Int × Int)} {al:Int->Rat} {ls ls2:Int->List (Int × Hd)} {bx:List (Nat × TypeId × Array Value)} {ask:Value} {e:Int}
structure EInv (w:World) (M:Tm) (sv:List S71) (at_:List (Int × Int)) (al:Int->Rat) (bx:List (Nat × TypeId × Array Value)) (ask:Value) (ls2:Int->List (Int × Hd)) (e:Int) (W:World):Prop where
 tre:Tre W M sv at_ al ls2
 tb:MBlk W w.heap.size 67 #[.pointer (some ⟨M.t,0,none⟩)]
 kb:MBlk W (w.heap.size+1) 126 #[ask]
 eb:MBlk W (w.heap.size+2) 31 #[.int .i64 e]
 pb:MBlk W (w.heap.size+3) 67 #[.pointer (some ⟨M.t,0,none⟩)]
 ok:OkB bx W
 kt:Kt M sv.length w W
theorem EInv.of_kt (h:EInv w M sv at_ al bx ask ls2 e W) (hbx:∀x∈bx,x.2.1≠97) (hk:Kt M sv.length W W') {ls3:Int->List (Int × Hd)} (ht:Tre W' M sv at_ al ls3):EInv w M sv at_ al bx ask ls3 e W' where
 tre:=ht
 tb:=mblk_stay h.tre hk h.tb (by decide)
 kb:=mblk_stay h.tre hk h.kb (by decide)
 eb:=mblk_stay h.tre hk h.eb (by decide)
 pb:=mblk_stay h.tre hk h.pb (by decide)
 ok:=fun x hx=>mblk_stay h.tre hk (h.ok x hx) (hbx x hx)
 kt:=h.kt.trans hk
theorem EInv.below (h:EInv w M sv at_ al bx ask ls2 e W) (hbx:∀x∈bx,x.2.1≠97) (hb:Below W.heap.size W W'):EInv w M sv at_ al bx ask ls2 e W':=h.of_kt hbx (Kt.of hb) (h.tre.below hb)
theorem EInv.kp (h:EInv w M sv at_ al bx ask ls2 e W) (hbx:∀x∈bx,x.2.1≠97) {s:Int} {l':List (Int × Hd)} (hs:inR sv.length s) (hk:Kp (M.g s) (M.b s) W W') (hl:Led W' (M.g s) (M.b s) (al s) (Zy l') l'):EInv w M sv at_ al bx ask (upd ls2 s l') e W' :=
 h.of_kt hbx (Kt.kp hs hk) (h.tre.kp hs hk hl)
theorem EInv.far (h0:Tre w M sv at_ al ls) {k:Nat} (hk:w.heap.size<=k):¬ M.own sv.length k/\¬ M.wr sv.length k :=
 ⟨fun c=>by have:=h0.own_lt c;omega,fun c=>by have:=h0.wr_lt c;omega⟩
theorem EInv.set (h:EInv w M sv at_ al bx ask ls2 e W) (h0:Tre w M sv at_ al ls) (hbx:∀x∈bx,x.1<w.heap.size) (e':Int):EInv w M sv at_ al bx ask ls2 e' (W.setCell ⟨w.heap.size+2,0,none⟩ (.int .i64 e')) where
 tre:=h.tre.box (EInv.far h0 (by omega)).1 (EInv.far h0 (by omega)).2 (noLimb_one h.eb (fun n=>by simp))
 tb:=mblk_far h.tb (p:=⟨w.heap.size+2,0,none⟩) (by show w.heap.size≠w.heap.size+2;omega) _
 kb:=mblk_far h.kb (p:=⟨w.heap.size+2,0,none⟩) (by show w.heap.size+1≠w.heap.size+2;omega) _
 eb:=mblk_set h.eb 0 _
 pb:=mblk_far h.pb (p:=⟨w.heap.size+2,0,none⟩) (by show w.heap.size+3≠w.heap.size+2;omega) _
 ok:=fun x hx=>mblk_far (h.ok x hx) (p:=⟨w.heap.size+2,0,none⟩) (by have:=hbx x hx;show x.1≠w.heap.size+2;omega) _
 kt:=kt_box h.kt (by omega)
theorem EInv.own (h0:Tre w M sv at_ al ls) {B:Nat} (hB:w.heap.size<=B) {X Y:World} {row:Option Nat} (h:EInv w M sv at_ al bx ask ls2 e X) (hg:X.grownBy Y row) (hr:∀r,row=some r->B<=r/\∃o:Obj,X.heap[r]? = some o/\o.isCells=false):EInv w M sv at_ al bx ask ls2 e Y:=by
 have hr':∀r,row=some r->∃o:Obj,X.heap[r]? = some o/\o.isCells=false:=fun r e=>(hr r e).2
 refine ⟨h.tre.near (fun k hk hc=>hg.block k hk (fun e=>?_)),mblk_walk h.tb hg hr',mblk_walk h.kb hg hr',mblk_walk h.eb hg hr',mblk_walk h.pb hg hr',fun x hx=>mblk_walk (h.ok x hx) hg hr',?_⟩
 ·obtain ⟨h1,o,ho,hn⟩:=hr k e.symm
  rcases hc with c|c|c
  ·have:=h0.own_lt c;omega
  ·have:=h0.wr_lt c;omega
  ·refine c fun p hp n hc=>?_
   unfold World.cell? at hc
   rw [hp,ho] at hc
   cases o<;>simp_all [Obj.isCells]
 ·exact ⟨hg.os.trans h.kt.os,hg.tape.trans h.kt.tape,hg.output.trans h.kt.output,Nat.le_trans h.kt.size hg.size,fun k hk hn=>(hg.block k (Nat.lt_of_lt_of_le hk h.kt.size) (fun e=>by have:=(hr k e.symm).1;omega)).trans (h.kt.same k hk hn)⟩
theorem einv_kq (h0:Tre w M sv at_ al ls) {X Y:World} {l1 l2:Int->List (Int × Hd)} {e1 e2:Int} (hX:EInv w M sv at_ al bx ask l1 e1 X) (hY:EInv w M sv at_ al bx ask l2 e2 Y) (hs:X.heap.size<=Y.heap.size):Kq M sv.length (w.heap.size+3) X Y :=
 ⟨hs,fun k hk hlt=>by
  rcases hk with rfl|hk
  ·exact (show Y.heap[w.heap.size+3]? = _ from hY.pb).trans (show X.heap[w.heap.size+3]? = _ from hX.pb).symm
  ·have ho:M.own sv.length k:=by
    rcases hk with c|c
    ·exact .inl c
    ·exact .inr (.inl c)
   have h1:=h0.own_lt ho
   obtain ⟨cs,T,fr,hc,hT⟩:=h0.own_cells ho
   have h2:=h0.not_wr hc hT
   exact (hY.kt.same k h1 h2).trans (hX.kt.same k h1 h2).symm⟩
end
end Go.Proofs.Ytfldklimlcnnnaa.XEachW
end

section
namespace Go.Proofs.Ytfldklimlcnnnaa.XEachS
open Go.RowKit PHq YtfldklimlcnnnaaW.PrintWords YtfldklimlcnnnaaW.PrintLast YtfldklimlcnnnaaW.PrintMore MWords
open MNat XRV XHold XLed XTree QTree XPath XOf XGo XCollect XAllW XEachW
attribute [local go_sem] Oper.semAt_some
section
variable {w:World} {M:Tm} {sv:List S71} {at_:List (Int × Int)} {al:Int->Rat} {ls:Int->List (Int × Hd)} {bx:List (Nat × TypeId × Array Value)}
set_option maxRecDepth 100000 in
set_option maxHeartbeats 8000000 in
theorem each_calls (hT:Tre w M sv at_ al ls) (hG:GoodSv sv) {s z:Int} (hz:wfI z) (hsz:srvA at_ z=s) (hs:inR sv.length s) {k1:Nat} (hb1:∀x∈bx,x.1<w.heap.size) (hb2:∀x∈bx,x.2.1≠97) (hok:OkB bx w)
  {E:Rat->List (Int × Hd)->Int} {A:Rat->List (Int × Hd)->List (Int × Hd)} {Pa:Rat->List (Int × Hd)->Prop} {q:Int}
  (hca:LedCall 94 (fun p=>#[p,.pointer (some ⟨k1,0,none⟩)]) bx E A Pa)
  (hPa:∀x∈Z0 sv s,Pa (al x) (ls x)) (hE:∀x∈Z0 sv s,E (al x) (ls x)=q) :
  Calls Try.prog 93 #[.pointer (some ⟨M.t,0,none⟩),.int .i64 z,.func (.func 94) #[] #[.pointer (some ⟨k1,0,none⟩)]] w fun e w' =>
   e=.returned (.int .i64 q)/\Kt M sv.length w w'/\Tre w' M sv at_ al (stp A al ls (Z0 sv s)):=by
 have mixed:Try.prog.follows Departure.mixedOrders=true:=by kernel_rfl
 have HPN:=Zz.mk (And.intro (path_in hG s hs) (And.intro (path_nodup hG s hs) (path_len hG s hs)))
 have HNE:=Zz.mk (path_head hG s hs)
 have HG:=Zz.mk hG
 have HT:=Zz.mk hT
 have HZ:=Zz.mk (And.intro hz hsz)
 have HSM:=Zz.mk hT.small
 have HS:=Zz.mk hs
 have HBX:=Zz.mk (And.intro hb1 (And.intro hb2 hok))
 have HCA:=Zz.mk hca
 have HPA:=Zz.mk (And.intro hPa hE)
 obtain ⟨pa,hpa⟩:∃pa,pa=Z0 sv s:=⟨_,rfl⟩
 rw [<-hpa] at HPN HPA HNE ⊢
 have HPE:=Zz.mk hpa
 have s1:(s == (-2:Int))=false:=beq_eq_false_iff_ne.mpr (by have:=hs.1;omega)
 have s2:(s=(-2:Int))=False:=eq_false (by have:=hs.1;omega)
 clear hT hG hs hb1 hb2 hok hca hPa hE hpa hz hsz
 obtain ⟨w1,hw1⟩:∃w1,w1=(w.alloc (.cells #[.pointer (some ⟨M.t,0,none⟩)] 67)).alloc (.cells #[.func (.func 94) #[] #[.pointer (some ⟨k1,0,none⟩)]] 126):=⟨_,rfl⟩
 have HW1:=Zz.mk (show Below w.heap.size w w1/\w1.heap.size=w.heap.size+2/\MBlk w1 w.heap.size 67 #[.pointer (some ⟨M.t,0,none⟩)]/\MBlk w1 (w.heap.size+1) 126 #[.func (.func 94) #[] #[.pointer (some ⟨k1,0,none⟩)]] by
  rw [hw1]
  refine ⟨Zb (Zb (Below.refl _ _) _) _,by simp,Zp (Zo _ _ _) _,?_⟩
  have:=Zo (w.alloc (.cells #[.pointer (some ⟨M.t,0,none⟩)] 67)) 126 #[.func (.func 94) #[] #[.pointer (some ⟨k1,0,none⟩)]]
  rw [World.size_alloc] at this
  exact this)
 have HT1:=Zz.mk (HT.out.below HW1.out.1)
 refine (callsIn_wide (n:=6)).1 (callsIn_of_wp_marks Try.func93 rfl trivial (wpIn_wide.2 ?_) rfl)
 simp only [Try.ntmps93,List.size_toArray,List.length_cons,List.length_nil,Nat.reduceAdd,Nat.reduceSub,Array.replicate_succ,Array.replicate_zero,List.push_toArray,List.append_toArray,List.nil_append,List.cons_append]
 have k0:w1.cell? ⟨w.heap.size,0,none⟩=some (.pointer (some ⟨M.t,0,none⟩)):=(Zg HW1.out.2.2.1 0).trans rfl
 go_upto_region 1 with fail
 rw [<-hw1]
 clear hw1
 go_wp2_with fail
 refine (server_calls HT1.out HZ.out.1).mono ?_
 rw [HZ.out.2]
 rintro e w1' ⟨rfl,rfl⟩
 obtain ⟨w3,hw3⟩:∃w3,w3=w1'.alloc (.cells #[.int .i64 0] 31):=⟨_,rfl⟩
 have HW3:=Zz.mk (show Below w.heap.size w w3/\w3.heap.size=w.heap.size+3/\MBlk w3 w.heap.size 67 #[.pointer (some ⟨M.t,0,none⟩)]/\MBlk w3 (w.heap.size+1) 126 #[.func (.func 94) #[] #[.pointer (some ⟨k1,0,none⟩)]]/\MBlk w3 (w.heap.size+2) 31 #[.int .i64 0] by
  have:=Zo w1' 31 #[.int .i64 0]
  rw [HW1.out.2.1] at this
  rw [hw3]
  exact ⟨Zb HW1.out.1 _,by simp;exact HW1.out.2.1,Zp HW1.out.2.2.1 _,Zp HW1.out.2.2.2 _,this⟩)
 have k3:w3.cell? ⟨w.heap.size,0,none⟩=some (.pointer (some ⟨M.t,0,none⟩)):=(Zg HW3.out.2.2.1 0).trans rfl
 have hz1:w1'.heap.size=w.heap.size+2:=HW1.out.2.1
 go_upto_region 7 with fail
 rw [<-hw3]
 clear hw3 k0 hz1
 go_wp2_with fail
 refine (path_calls M.t s _).mono ?_
 rintro e w2 ⟨rfl,hw2⟩
 have HB:=Zz.mk (show Below w.heap.size w w2/\w2.heap.size=w.heap.size+5 by
  rw [hw2]
  exact ⟨Zb (Zb HW3.out.1 _) _,by simp;have:=HW3.out.2.1;omega⟩)
 have HT2:=Zz.mk (HT.out.below HB.out.1)
 have HBX5:=Zz.mk (show MBlk w2 (w.heap.size+4) 3 #[.int .i64 s] by
  have:=Zo (w3.alloc (.cells #[.pointer (some ⟨M.t,0,none⟩)] 67)) 3 #[.int .i64 s]
  rw [World.size_alloc,HW3.out.2.1] at this
  rw [hw2]
  exact this)
 have HI2:=Zz.mk (show EInv w M sv at_ al bx (.func (.func 94) #[] #[.pointer (some ⟨k1,0,none⟩)]) ls 0 w2 by
  have hb:∀ {k:Nat} {cs:Array Value} {T:TypeId},MBlk w3 k T cs->MBlk w2 k T cs:=fun h=>by rw [hw2];exact Zp (Zp h _) _
  refine ⟨HT2.out,hb HW3.out.2.2.1,hb HW3.out.2.2.2.1,hb HW3.out.2.2.2.2,?_,fun x hx=>(HB.out.1.block _ (HBX.out.1 x hx)).trans (HBX.out.2.2 x hx),Kt.of HB.out.1⟩
  have:=Zo w3 67 #[.pointer (some ⟨M.t,0,none⟩)]
  rw [HW3.out.2.1] at this
  rw [hw2]
  exact Zp this _)
 rw [HW3.out.2.1]
 clear hw2 k3 HW3 HW1
 go_wp2_with fail
 have HSEQ:=Zz.mk (path_seq M sv (w.heap.size+3) (w.heap.size+4) s w2 HG.out HSM.out HS.out (Rd.of HT2.out HI2.out.pb) HBX5.out)
 rw [<-HPE.out] at HSEQ
 refine (wpIn_wide (n:=6)).1 ?_
 refine range_g (F:=Fence.wide) (n:=6) rfl (by omega) (gf:=114) (lb:=#[.pointer (some ⟨w.heap.size+4,0,none⟩),.pointer (some ⟨w.heap.size+3,0,none⟩)]) rfl trivial (enters_of Try.func114 (by kernel_rfl) rfl)
  (w0:=w2) HSEQ.out (Below.refl _ _) (fun _=>rfl) (fun h k=>h.trans k)
  (fun W l o o' hl ho _ _=>kq_put (N:=w2.heap.size) (by rw [HB.out.2];omega) (fun k hk=>HT2.out.own_lt (by rcases hk with c|c;exact .inl c;exact .inr (.inl c))) W l o o' hl ho)
  (fun pre W=>EInv w M sv at_ al bx (.func (.func 94) #[] #[.pointer (some ⟨k1,0,none⟩)]) (stp A al ls pre) (if pre = [] then 0 else q) W)
  (fun _ _ _=>False)
  (fun pre X Y row h hg hr=>EInv.own HT.out (B:=w2.heap.size) (by rw [HB.out.2];omega) h hg hr)
  (fun _ _ _ _ _ h _ _=>h)
  (by rw [stp_nil,if_pos rfl];exact HI2.out)
  (fun x=>{ tmps:=#[.pointer (some ⟨M.t,0,none⟩),.int .i64 z,.func (.func 94) #[] #[.pointer (some ⟨k1,0,none⟩)],.pointer (some ⟨w.heap.size,0,none⟩),undef,.pointer (some ⟨w.heap.size+1,0,none⟩),.int .i64 0,.int .i64 s,.pointer (some ⟨w.heap.size+2,0,none⟩),.int .i64 x,.pointer (some ⟨M.t,0,none⟩),.int .i64 z,.int .i64 s,.bool false,.pointer (some ⟨M.t,0,none⟩),.bool false,.bool false,.int .i64 s,.bool false,.pointer (some ⟨M.t,0,none⟩),.int .i64 s,.func (.func 114) #[] #[.pointer (some ⟨w.heap.size+4,0,none⟩),.pointer (some ⟨w.heap.size+3,0,none⟩)],.int .i64 x,undef,undef,undef,undef,undef,undef],defers:=[] })
  ?assign ?body ?done ?stop
 case assign =>
  intro lo x W K hK
  gi_wp2
  exact hK
 case body =>
  rintro lo pre x W hI ⟨r,hr⟩ hlt
  have hxp:x∈pa:=by rw [hr];simp
  have hxi:=(HPN.out.1 x hxp).1
  have hxn:x ∉ pre:=fun hx=>by
   have:=HPN.out.2.1
   rw [hr,List.nodup_append] at this
   exact this.2.2 x hx x (by simp) rfl
  obtain ⟨e0,he0⟩:∃e0:Int,e0=if pre = [] then 0 else q:=⟨_,rfl⟩
  rw [<-he0] at hI
  have HI:=Zz.mk hI
  have HX:=Zz.mk (And.intro hxp (And.intro hxi hxn))
  have k0:W.cell? ⟨w.heap.size,0,none⟩=some (.pointer (some ⟨M.t,0,none⟩)):=(Zg hI.tb 0).trans rfl
  have k1':W.cell? ⟨w.heap.size+1,0,none⟩=some (.func (.func 94) #[] #[.pointer (some ⟨k1,0,none⟩)]):=(Zg hI.kb 0).trans rfl
  have h11:1<=6-1-1:=by omega
  have HE:=Zz.mk (show E (al x) (ls x)=q from HPA.out.2 x hxp)
  clear hI hr hxp hxi hxn he0
  gi_wp2
  gi_region_with_o (first
   | (refine ⟨trivial,(CallsIn.inRound lo (callsIn_wide.2 (of_calls (HI.out.below HBX.out.2.1 (Zr (Below.refl _ W))).tre HX.out.2.1))).mono ?_⟩;rintro e W1 ⟨rfl,hb⟩;have hbw:=Zi (Zr (Below.refl _ W)) hb;have HK1:=Zz.mk (kf_below (D:=w2.heap.size) hbw);have HI1:=Zz.mk (HI.out.below HBX.out.2.1 hbw);have k5:W1.cell? ⟨w.heap.size,0,none⟩=some (.pointer (some ⟨M.t,0,none⟩)):=(Zg HI1.out.tb 0).trans rfl;have k6:W1.cell? ⟨w.heap.size+1,0,none⟩=some (.func (.func 94) #[] #[.pointer (some ⟨k1,0,none⟩)]):=(Zg HI1.out.kb 0).trans rfl;clear hb hbw)
   | (have hc:=HCA.out (M.g x) (M.b x) (al x) (ls x) W1 HI1.out.ok (by have:=HI1.out.tre.led x HX.out.2.1;rw [stp_other HX.out.2.2] at this;exact this) (HPA.out.1 x HX.out.1);rw [HE.out] at hc;refine ⟨trivial,(CallsIn.inRound lo (callsIn_wide.2 hc)).mono ?_⟩;clear hc;rintro e W2 ⟨rfl,hL,hK⟩;have hi:=HI1.out.kp HBX.out.2.1 HX.out.2.1 hK hL;rw [stp_snoc HX.out.2.2] at hi;have HI3:=Zz.mk hi;have HK2:=Zz.mk (HK1.out.trans (kf_kp HT.out (by rw [HB.out.2];omega) HX.out.2.1 hK));have k3:W2.cell? ⟨w.heap.size+2,0,none⟩=some (.int .i64 e0):=(Zg HI3.out.eb 0).trans rfl;have f3:W2.frozen? ⟨w.heap.size+2,0,none⟩=false:=Zq HI3.out.eb 0;clear hL hK hi))
  all_goals
   have hfin:=HI3.out.set HT.out HBX.out.1 q
   have hkf:=HK2.out.trans (kf_set (D:=w2.heap.size) W2 ⟨w.heap.size+2,0,none⟩ (.int .i64 q))
   exact ⟨hkf,einv_kq HT.out HI.out hfin hkf.size,by show EInv _ _ _ _ _ _ _ _ (if pre++[x] = [] then 0 else q) _;rw [if_neg (by simp)];exact hfin⟩
 case done =>
  rintro xs W rfl hI hD
  obtain ⟨rr,hrr⟩:=HNE.out
  rw [if_neg (by rw [hrr];simp)] at hI
  have k3:W.cell? ⟨w.heap.size+2,0,none⟩=some (.int .i64 q):=(Zg hI.eb 0).trans rfl
  have HI:=Zz.mk hI
  have HD:=Zz.mk hD
  clear hI hD hrr
  go_wp2_with fail
  have hfar:=EInv.far HT.out (k:=w2.heap.size) (by rw [HB.out.2];omega)
  refine ⟨by simp,.inl ⟨_,_,rfl,run_takeDeferred HD.out,?_⟩⟩
  exact ⟨_,results_tmp rfl _ _ _,rfl,kt_put HI.out.kt (by rw [HB.out.2];omega),tre_put HI.out.tre HD.out hfar.1 hfar.2⟩
 case stop =>
  rintro c pre W _ h _
  exact h.elim
set_option maxRecDepth 100000 in
set_option maxHeartbeats 2000000 in
theorem each_none (hT:Tre w M sv at_ al ls) {z:Int} (hz:wfI z) (hsz:srvA at_ z = -2) (k1:Nat) :
  Calls Try.prog 93 #[.pointer (some ⟨M.t,0,none⟩),.int .i64 z,.func (.func 94) #[] #[.pointer (some ⟨k1,0,none⟩)]] w fun e w'=>e=.returned (.int .i64 12)/\Below w.heap.size w w':=by
 obtain ⟨w1,hw1⟩:∃w1,w1=(w.alloc (.cells #[.pointer (some ⟨M.t,0,none⟩)] 67)).alloc (.cells #[.func (.func 94) #[] #[.pointer (some ⟨k1,0,none⟩)]] 126):=⟨_,rfl⟩
 have HW1:=Zz.mk (show Below w.heap.size w w1/\MBlk w1 w.heap.size 67 #[.pointer (some ⟨M.t,0,none⟩)] by
  rw [hw1]
  exact ⟨Zb (Zb (Below.refl _ _) _) _,Zp (Zo _ _ _) _⟩)
 have HT1:=Zz.mk (hT.below HW1.out.1)
 have HZ:=Zz.mk (And.intro hz hsz)
 clear hT hz hsz
 have k0:w1.cell? ⟨w.heap.size,0,none⟩=some (.pointer (some ⟨M.t,0,none⟩)):=(Zg HW1.out.2 0).trans rfl
 go_enter Try.func93,Try.ntmps93
 go_upto_region 1 with fail
 rw [<-hw1]
 clear hw1
 go_wp2_with fail
 refine (server_calls HT1.out HZ.out.1).mono ?_
 rw [HZ.out.2]
 rintro e w2 ⟨rfl,rfl⟩
 go_wp2_with fail
 go_ret
 exact ⟨rfl,HW1.out.1⟩
end
end Go.Proofs.Ytfldklimlcnnnaa.XEachS
end

section
namespace Go.Proofs.Ytfldklimlcnnnaa.XEachF
open Go.RowKit PHq YtfldklimlcnnnaaW.PrintWords YtfldklimlcnnnaaW.PrintLast YtfldklimlcnnnaaW.PrintMore MWords
open MNat XRV XHold XLed XTree QTree XPath XOf XGo XCollect XAllW XEachW
attribute [local go_sem] Oper.semAt_some
section
variable {w:World} {M:Tm} {sv:List S71} {at_:List (Int × Int)} {al:Int->Rat} {ls:Int->List (Int × Hd)} {bx:List (Nat × TypeId × Array Value)}
set_option maxRecDepth 100000 in
set_option maxHeartbeats 8000000 in
theorem each_calls (hT:Tre w M sv at_ al ls) (hG:GoodSv sv) {s z:Int} (hz:wfI z) (hsz:srvA at_ z=s) (hs:inR sv.length s) {k1:Nat} (hb1:∀x∈bx,x.1<w.heap.size) (hb2:∀x∈bx,x.2.1≠97) (hok:OkB bx w)
  {E:Rat->List (Int × Hd)->Int} {A:Rat->List (Int × Hd)->List (Int × Hd)} {Pa:Rat->List (Int × Hd)->Prop} {q:Int}
  (hca:LedCall 95 (fun p=>#[p,.pointer (some ⟨k1,0,none⟩)]) bx E A Pa)
  (hPa:∀x∈Z0 sv s,Pa (al x) (ls x)) (hE:∀x∈Z0 sv s,E (al x) (ls x)=q) :
  Calls Try.prog 93 #[.pointer (some ⟨M.t,0,none⟩),.int .i64 z,.func (.func 95) #[] #[.pointer (some ⟨k1,0,none⟩)]] w fun e w' =>
   e=.returned (.int .i64 q)/\Kt M sv.length w w'/\Tre w' M sv at_ al (stp A al ls (Z0 sv s)):=by
 have mixed:Try.prog.follows Departure.mixedOrders=true:=by kernel_rfl
 have HPN:=Zz.mk (And.intro (path_in hG s hs) (And.intro (path_nodup hG s hs) (path_len hG s hs)))
 have HNE:=Zz.mk (path_head hG s hs)
 have HG:=Zz.mk hG
 have HT:=Zz.mk hT
 have HZ:=Zz.mk (And.intro hz hsz)
 have HSM:=Zz.mk hT.small
 have HS:=Zz.mk hs
 have HBX:=Zz.mk (And.intro hb1 (And.intro hb2 hok))
 have HCA:=Zz.mk hca
 have HPA:=Zz.mk (And.intro hPa hE)
 obtain ⟨pa,hpa⟩:∃pa,pa=Z0 sv s:=⟨_,rfl⟩
 rw [<-hpa] at HPN HPA HNE ⊢
 have HPE:=Zz.mk hpa
 have s1:(s == (-2:Int))=false:=beq_eq_false_iff_ne.mpr (by have:=hs.1;omega)
 have s2:(s=(-2:Int))=False:=eq_false (by have:=hs.1;omega)
 clear hT hG hs hb1 hb2 hok hca hPa hE hpa hz hsz
 obtain ⟨w1,hw1⟩:∃w1,w1=(w.alloc (.cells #[.pointer (some ⟨M.t,0,none⟩)] 67)).alloc (.cells #[.func (.func 95) #[] #[.pointer (some ⟨k1,0,none⟩)]] 126):=⟨_,rfl⟩
 have HW1:=Zz.mk (show Below w.heap.size w w1/\w1.heap.size=w.heap.size+2/\MBlk w1 w.heap.size 67 #[.pointer (some ⟨M.t,0,none⟩)]/\MBlk w1 (w.heap.size+1) 126 #[.func (.func 95) #[] #[.pointer (some ⟨k1,0,none⟩)]] by
  rw [hw1]
  refine ⟨Zb (Zb (Below.refl _ _) _) _,by simp,Zp (Zo _ _ _) _,?_⟩
  have:=Zo (w.alloc (.cells #[.pointer (some ⟨M.t,0,none⟩)] 67)) 126 #[.func (.func 95) #[] #[.pointer (some ⟨k1,0,none⟩)]]
  rw [World.size_alloc] at this
  exact this)
 have HT1:=Zz.mk (HT.out.below HW1.out.1)
 refine (callsIn_wide (n:=6)).1 (callsIn_of_wp_marks Try.func93 rfl trivial (wpIn_wide.2 ?_) rfl)
 simp only [Try.ntmps93,List.size_toArray,List.length_cons,List.length_nil,Nat.reduceAdd,Nat.reduceSub,Array.replicate_succ,Array.replicate_zero,List.push_toArray,List.append_toArray,List.nil_append,List.cons_append]
 have k0:w1.cell? ⟨w.heap.size,0,none⟩=some (.pointer (some ⟨M.t,0,none⟩)):=(Zg HW1.out.2.2.1 0).trans rfl
 go_upto_region 1 with fail
 rw [<-hw1]
 clear hw1
 go_wp2_with fail
 refine (server_calls HT1.out HZ.out.1).mono ?_
 rw [HZ.out.2]
 rintro e w1' ⟨rfl,rfl⟩
 obtain ⟨w3,hw3⟩:∃w3,w3=w1'.alloc (.cells #[.int .i64 0] 31):=⟨_,rfl⟩
 have HW3:=Zz.mk (show Below w.heap.size w w3/\w3.heap.size=w.heap.size+3/\MBlk w3 w.heap.size 67 #[.pointer (some ⟨M.t,0,none⟩)]/\MBlk w3 (w.heap.size+1) 126 #[.func (.func 95) #[] #[.pointer (some ⟨k1,0,none⟩)]]/\MBlk w3 (w.heap.size+2) 31 #[.int .i64 0] by
  have:=Zo w1' 31 #[.int .i64 0]
  rw [HW1.out.2.1] at this
  rw [hw3]
  exact ⟨Zb HW1.out.1 _,by simp;exact HW1.out.2.1,Zp HW1.out.2.2.1 _,Zp HW1.out.2.2.2 _,this⟩)
 have k3:w3.cell? ⟨w.heap.size,0,none⟩=some (.pointer (some ⟨M.t,0,none⟩)):=(Zg HW3.out.2.2.1 0).trans rfl
 have hz1:w1'.heap.size=w.heap.size+2:=HW1.out.2.1
 go_upto_region 7 with fail
 rw [<-hw3]
 clear hw3 k0 hz1
 go_wp2_with fail
 refine (path_calls M.t s _).mono ?_
 rintro e w2 ⟨rfl,hw2⟩
 have HB:=Zz.mk (show Below w.heap.size w w2/\w2.heap.size=w.heap.size+5 by
  rw [hw2]
  exact ⟨Zb (Zb HW3.out.1 _) _,by simp;have:=HW3.out.2.1;omega⟩)
 have HT2:=Zz.mk (HT.out.below HB.out.1)
 have HBX5:=Zz.mk (show MBlk w2 (w.heap.size+4) 3 #[.int .i64 s] by
  have:=Zo (w3.alloc (.cells #[.pointer (some ⟨M.t,0,none⟩)] 67)) 3 #[.int .i64 s]
  rw [World.size_alloc,HW3.out.2.1] at this
  rw [hw2]
  exact this)
 have HI2:=Zz.mk (show EInv w M sv at_ al bx (.func (.func 95) #[] #[.pointer (some ⟨k1,0,none⟩)]) ls 0 w2 by
  have hb:∀ {k:Nat} {cs:Array Value} {T:TypeId},MBlk w3 k T cs->MBlk w2 k T cs:=fun h=>by rw [hw2];exact Zp (Zp h _) _
  refine ⟨HT2.out,hb HW3.out.2.2.1,hb HW3.out.2.2.2.1,hb HW3.out.2.2.2.2,?_,fun x hx=>(HB.out.1.block _ (HBX.out.1 x hx)).trans (HBX.out.2.2 x hx),Kt.of HB.out.1⟩
  have:=Zo w3 67 #[.pointer (some ⟨M.t,0,none⟩)]
  rw [HW3.out.2.1] at this
  rw [hw2]
  exact Zp this _)
 rw [HW3.out.2.1]
 clear hw2 k3 HW3 HW1
 go_wp2_with fail
 have HSEQ:=Zz.mk (path_seq M sv (w.heap.size+3) (w.heap.size+4) s w2 HG.out HSM.out HS.out (Rd.of HT2.out HI2.out.pb) HBX5.out)
 rw [<-HPE.out] at HSEQ
 refine (wpIn_wide (n:=6)).1 ?_
 refine range_g (F:=Fence.wide) (n:=6) rfl (by omega) (gf:=114) (lb:=#[.pointer (some ⟨w.heap.size+4,0,none⟩),.pointer (some ⟨w.heap.size+3,0,none⟩)]) rfl trivial (enters_of Try.func114 (by kernel_rfl) rfl)
  (w0:=w2) HSEQ.out (Below.refl _ _) (fun _=>rfl) (fun h k=>h.trans k)
  (fun W l o o' hl ho _ _=>kq_put (N:=w2.heap.size) (by rw [HB.out.2];omega) (fun k hk=>HT2.out.own_lt (by rcases hk with c|c;exact .inl c;exact .inr (.inl c))) W l o o' hl ho)
  (fun pre W=>EInv w M sv at_ al bx (.func (.func 95) #[] #[.pointer (some ⟨k1,0,none⟩)]) (stp A al ls pre) (if pre = [] then 0 else q) W)
  (fun _ _ _=>False)
  (fun pre X Y row h hg hr=>EInv.own HT.out (B:=w2.heap.size) (by rw [HB.out.2];omega) h hg hr)
  (fun _ _ _ _ _ h _ _=>h)
  (by rw [stp_nil,if_pos rfl];exact HI2.out)
  (fun x=>{ tmps:=#[.pointer (some ⟨M.t,0,none⟩),.int .i64 z,.func (.func 95) #[] #[.pointer (some ⟨k1,0,none⟩)],.pointer (some ⟨w.heap.size,0,none⟩),undef,.pointer (some ⟨w.heap.size+1,0,none⟩),.int .i64 0,.int .i64 s,.pointer (some ⟨w.heap.size+2,0,none⟩),.int .i64 x,.pointer (some ⟨M.t,0,none⟩),.int .i64 z,.int .i64 s,.bool false,.pointer (some ⟨M.t,0,none⟩),.bool false,.bool false,.int .i64 s,.bool false,.pointer (some ⟨M.t,0,none⟩),.int .i64 s,.func (.func 114) #[] #[.pointer (some ⟨w.heap.size+4,0,none⟩),.pointer (some ⟨w.heap.size+3,0,none⟩)],.int .i64 x,undef,undef,undef,undef,undef,undef],defers:=[] })
  ?assign ?body ?done ?stop
 case assign =>
  intro lo x W K hK
  gi_wp2
  exact hK
 case body =>
  rintro lo pre x W hI ⟨r,hr⟩ hlt
  have hxp:x∈pa:=by rw [hr];simp
  have hxi:=(HPN.out.1 x hxp).1
  have hxn:x ∉ pre:=fun hx=>by
   have:=HPN.out.2.1
   rw [hr,List.nodup_append] at this
   exact this.2.2 x hx x (by simp) rfl
  obtain ⟨e0,he0⟩:∃e0:Int,e0=if pre = [] then 0 else q:=⟨_,rfl⟩
  rw [<-he0] at hI
  have HI:=Zz.mk hI
  have HX:=Zz.mk (And.intro hxp (And.intro hxi hxn))
  have k0:W.cell? ⟨w.heap.size,0,none⟩=some (.pointer (some ⟨M.t,0,none⟩)):=(Zg hI.tb 0).trans rfl
  have k1':W.cell? ⟨w.heap.size+1,0,none⟩=some (.func (.func 95) #[] #[.pointer (some ⟨k1,0,none⟩)]):=(Zg hI.kb 0).trans rfl
  have h11:1<=6-1-1:=by omega
  have HE:=Zz.mk (show E (al x) (ls x)=q from HPA.out.2 x hxp)
  clear hI hr hxp hxi hxn he0
  gi_wp2
  gi_region_with_o (first
   | (refine ⟨trivial,(CallsIn.inRound lo (callsIn_wide.2 (of_calls (HI.out.below HBX.out.2.1 (Zr (Below.refl _ W))).tre HX.out.2.1))).mono ?_⟩;rintro e W1 ⟨rfl,hb⟩;have hbw:=Zi (Zr (Below.refl _ W)) hb;have HK1:=Zz.mk (kf_below (D:=w2.heap.size) hbw);have HI1:=Zz.mk (HI.out.below HBX.out.2.1 hbw);have k5:W1.cell? ⟨w.heap.size,0,none⟩=some (.pointer (some ⟨M.t,0,none⟩)):=(Zg HI1.out.tb 0).trans rfl;have k6:W1.cell? ⟨w.heap.size+1,0,none⟩=some (.func (.func 95) #[] #[.pointer (some ⟨k1,0,none⟩)]):=(Zg HI1.out.kb 0).trans rfl;clear hb hbw)
   | (have hc:=HCA.out (M.g x) (M.b x) (al x) (ls x) W1 HI1.out.ok (by have:=HI1.out.tre.led x HX.out.2.1;rw [stp_other HX.out.2.2] at this;exact this) (HPA.out.1 x HX.out.1);rw [HE.out] at hc;refine ⟨trivial,(CallsIn.inRound lo (callsIn_wide.2 hc)).mono ?_⟩;clear hc;rintro e W2 ⟨rfl,hL,hK⟩;have hi:=HI1.out.kp HBX.out.2.1 HX.out.2.1 hK hL;rw [stp_snoc HX.out.2.2] at hi;have HI3:=Zz.mk hi;have HK2:=Zz.mk (HK1.out.trans (kf_kp HT.out (by rw [HB.out.2];omega) HX.out.2.1 hK));have k3:W2.cell? ⟨w.heap.size+2,0,none⟩=some (.int .i64 e0):=(Zg HI3.out.eb 0).trans rfl;have f3:W2.frozen? ⟨w.heap.size+2,0,none⟩=false:=Zq HI3.out.eb 0;clear hL hK hi))
  all_goals
   have hfin:=HI3.out.set HT.out HBX.out.1 q
   have hkf:=HK2.out.trans (kf_set (D:=w2.heap.size) W2 ⟨w.heap.size+2,0,none⟩ (.int .i64 q))
   exact ⟨hkf,einv_kq HT.out HI.out hfin hkf.size,by show EInv _ _ _ _ _ _ _ _ (if pre++[x] = [] then 0 else q) _;rw [if_neg (by simp)];exact hfin⟩
 case done =>
  rintro xs W rfl hI hD
  obtain ⟨rr,hrr⟩:=HNE.out
  rw [if_neg (by rw [hrr];simp)] at hI
  have k3:W.cell? ⟨w.heap.size+2,0,none⟩=some (.int .i64 q):=(Zg hI.eb 0).trans rfl
  have HI:=Zz.mk hI
  have HD:=Zz.mk hD
  clear hI hD hrr
  go_wp2_with fail
  have hfar:=EInv.far HT.out (k:=w2.heap.size) (by rw [HB.out.2];omega)
  refine ⟨by simp,.inl ⟨_,_,rfl,run_takeDeferred HD.out,?_⟩⟩
  exact ⟨_,results_tmp rfl _ _ _,rfl,kt_put HI.out.kt (by rw [HB.out.2];omega),tre_put HI.out.tre HD.out hfar.1 hfar.2⟩
 case stop =>
  rintro c pre W _ h _
  exact h.elim
set_option maxRecDepth 100000 in
set_option maxHeartbeats 2000000 in
theorem each_none (hT:Tre w M sv at_ al ls) {z:Int} (hz:wfI z) (hsz:srvA at_ z = -2) (k1:Nat) :
  Calls Try.prog 93 #[.pointer (some ⟨M.t,0,none⟩),.int .i64 z,.func (.func 95) #[] #[.pointer (some ⟨k1,0,none⟩)]] w fun e w'=>e=.returned (.int .i64 12)/\Below w.heap.size w w':=by
 obtain ⟨w1,hw1⟩:∃w1,w1=(w.alloc (.cells #[.pointer (some ⟨M.t,0,none⟩)] 67)).alloc (.cells #[.func (.func 95) #[] #[.pointer (some ⟨k1,0,none⟩)]] 126):=⟨_,rfl⟩
 have HW1:=Zz.mk (show Below w.heap.size w w1/\MBlk w1 w.heap.size 67 #[.pointer (some ⟨M.t,0,none⟩)] by
  rw [hw1]
  exact ⟨Zb (Zb (Below.refl _ _) _) _,Zp (Zo _ _ _) _⟩)
 have HT1:=Zz.mk (hT.below HW1.out.1)
 have HZ:=Zz.mk (And.intro hz hsz)
 clear hT hz hsz
 have k0:w1.cell? ⟨w.heap.size,0,none⟩=some (.pointer (some ⟨M.t,0,none⟩)):=(Zg HW1.out.2 0).trans rfl
 go_enter Try.func93,Try.ntmps93
 go_upto_region 1 with fail
 rw [<-hw1]
 clear hw1
 go_wp2_with fail
 refine (server_calls HT1.out HZ.out.1).mono ?_
 rw [HZ.out.2]
 rintro e w2 ⟨rfl,rfl⟩
 go_wp2_with fail
 go_ret
 exact ⟨rfl,HW1.out.1⟩
end
end Go.Proofs.Ytfldklimlcnnnaa.XEachF
end

section
namespace Go.Proofs.Ytfldklimlcnnnaa.XTSettle
open Go.RowKit PHq YtfldklimlcnnnaaW.PrintWords YtfldklimlcnnnaaW.PrintLast YtfldklimlcnnnaaW.PrintMore MWords
open MNat QRatio XRV XHold XLed XEnd QHold XTree QTree XOf XTCl XAllW QTr XTJoin
section
variable {w W W':World} {M:Tm} {sv:List S71} {al:Int->Rat} {H:List Hol} {m:Nat}
def settleTE (H:List Hol) (z:Int):Int:=match getH H z with|none=>12|some a=>if a.hd.a=true then 0 else 13
def settleTH (H:List Hol) (z:Int):List Hol:=match getH H z with|none=>H|some a=>if a.hd.a=true then setH H z (settled a.hd) else H
def freeTE (H:List Hol) (z:Int):Int:=if hasH H z=true then 0 else 12
def freeTH (H:List Hol) (z:Int):List Hol:=if hasH H z=true then delH H z else H
theorem srv_of {at_:List (Int × Int)} {ls:Int->List (Int × Hd)} (h:Inv sv al at_ ls H m) {z:Int} {a:Hol} (ha:getH H z=some a):srvA at_ z=a.srv/\a∈H/\a.id=z:=by
 refine ⟨?_,getH_mem ha⟩
 rw [h.srvA]
 unfold srvH
 rw [ha]
theorem srv_none {at_:List (Int × Int)} {ls:Int->List (Int × Hd)} (h:Inv sv al at_ ls H m) {z:Int} (ha:getH H z=none):srvA at_ z = -2:=by
 rw [h.srvA]
 unfold srvH
 rw [ha]
theorem settle_some {z:Int} {a:Hol} (ha:getH H z=some a):settleTE H z=(if a.hd.a=true then 0 else 13)/\settleTH H z=if a.hd.a=true then setH H z (settled a.hd) else H:=by
 unfold settleTE settleTH
 rw [ha]
 exact ⟨rfl,rfl⟩
theorem settle_none {z:Int} (ha:getH H z=none):settleTE H z=12/\settleTH H z=H:=by
 unfold settleTE settleTH
 rw [ha]
 exact ⟨rfl,rfl⟩
set_option maxRecDepth 100000 in
set_option maxHeartbeats 4000000 in
theorem tsettle_calls (hT:TH w M sv al H m) (hm:m<400) (z:Int) (hz:wfI z) :
  Calls Try.prog 50 #[.pointer (some ⟨M.t,0,none⟩),.int .i64 z] w fun e w'=>e=.returned (.int .i64 (settleTE H z))/\TH w' M sv al (settleTH H z) (m+1)/\Kt M sv.length w w':=by
 obtain ⟨at_,ls,hT,hI,hG⟩:=hT
 obtain ⟨W0,hW0⟩:∃W0,W0=w.alloc (.cells #[.int .i64 z] 3):=⟨_,rfl⟩
 have hb0:Below w.heap.size w W0:=by rw [hW0];exact Zb (Below.refl _ _) _
 have HB0:=Zz.mk hb0
 have hM0:MBlk W0 w.heap.size 3 #[.int .i64 z]:=by rw [hW0];exact Zo _ _ _
 have HT0:=Zz.mk (hT.below hb0)
 have c0:W0.cell? ⟨w.heap.size,0,none⟩=some (.int .i64 z):=(Zg hM0 0).trans rfl
 have HRES:=Zz.mk (show Calls Try.prog 93 #[.pointer (some ⟨M.t,0,none⟩),.int .i64 z,.func (.func 94) #[] #[.pointer (some ⟨w.heap.size,0,none⟩)]] W0 fun e w'=>e=.returned (.int .i64 (settleTE H z))/\TH w' M sv al (settleTH H z) (m+1)/\Kt M sv.length w w' by
  cases ha:getH H z with
  | none =>
   refine (XEachS.each_none HT0.out hz (srv_none hI ha) _).mono ?_
   rintro e w' ⟨rfl,hb⟩
   rw [(settle_none ha).1,(settle_none ha).2]
   exact ⟨rfl,⟨at_,ls,HT0.out.below hb,Inv.mono hI (by omega),hG⟩,Kt.of (Zi HB0.out hb)⟩
  | some a =>
   obtain ⟨h1,h2,h3⟩:=srv_of hI ha
   have hin:=hI.srv a h2
   refine (XEachS.each_calls (q:=if a.hd.a=true then 0 else 13) (bx:=[bxI w.heap.size z]) HT0.out hG hz h1 hin (k1:=w.heap.size) (fun y hy=>by rw [List.mem_singleton.1 hy];exact Zn hM0) (fun y hy=>by rw [List.mem_singleton.1 hy];exact bxI_ty _ _) (fun y hy=>by rw [List.mem_singleton.1 hy];exact hM0)
    (settle1 w.heap.size z hz) (fun y hy=>hI.pa (by omega) (path_in hG _ hin y hy).1) (fun y hy=>by
     show settleE (ls y) z=_
     rw [<-h3]
     exact hI.settleE h2 (path_in hG _ hin y hy).1 hy)).mono ?_
   rintro e w' ⟨rfl,hk,ht⟩
   rw [(settle_some ha).1,(settle_some ha).2]
   refine ⟨rfl,?_,(Kt.of HB0.out).trans hk⟩
   rw [<-h3] at ht ⊢
   cases c:a.hd.a with
   | true =>
    rw [if_pos rfl]
    exact ⟨at_,_,ht,Inv.mono (hI.settle hG h2 c) (by omega),hG⟩
   | false =>
    rw [if_neg (by decide)]
    rw [hI.unsettle h2 c hG] at ht
    exact ⟨at_,ls,ht,Inv.mono hI (by omega),hG⟩)
 clear hT hI hG hb0 hM0 hz hm
 go_enter Try.func50,Try.ntmps50
 go_upto_region 1 with fail
 rw [<-hW0]
 clear hW0
 go_wp2_with fail
 refine HRES.out.mono ?_
 rintro e w1 ⟨rfl,h⟩
 have HF:=Zz.mk h
 clear h HRES
 go_wp2_with fail
 go_ret
 exact ⟨rfl,HF.out⟩
theorem free_no {z:Int} (ha:hasH H z=false):freeTE H z=12/\freeTH H z=H:=by
 unfold freeTE freeTH
 rw [ha]
 exact ⟨rfl,rfl⟩
theorem free_yes {z:Int} (ha:hasH H z=true):freeTE H z=0/\freeTH H z=delH H z:=by
 unfold freeTE freeTH
 rw [ha]
 exact ⟨rfl,rfl⟩
set_option maxRecDepth 100000 in
set_option maxHeartbeats 4000000 in
theorem tfree_calls (hT:TH w M sv al H m) (hm:m<400) (z:Int) (hz:wfI z) :
  Calls Try.prog 52 #[.pointer (some ⟨M.t,0,none⟩),.int .i64 z] w fun e w'=>e=.returned (.int .i64 (freeTE H z))/\TH w' M sv al (freeTH H z) (m+1)/\Kt M sv.length w w':=by
 have mixed:Try.prog.follows Departure.mixedOrders=true:=by kernel_rfl
 obtain ⟨at_,ls,hT,hI,hG⟩:=hT
 obtain ⟨W0,hW0⟩:∃W0,W0=w.alloc (.cells #[.int .i64 z] 3):=⟨_,rfl⟩
 have hb0:Below w.heap.size w W0:=by rw [hW0];exact Zb (Below.refl _ _) _
 have HB0:=Zz.mk hb0
 have HM0:=Zz.mk (show MBlk W0 w.heap.size 3 #[.int .i64 z] by rw [hW0];exact Zo _ _ _)
 have HT0:=Zz.mk (hT.below hb0)
 have HI:=Zz.mk hI
 have HG:=Zz.mk hG
 have HZ:=Zz.mk (And.intro hz hm)
 have c0:W0.cell? ⟨w.heap.size,0,none⟩=some (.int .i64 z):=(Zg HM0.out 0).trans rfl
 clear hT hI hG hb0 hz hm
 go_enter Try.func52,Try.ntmps52
 go_upto_region 1 with fail
 rw [<-hW0]
 clear hW0
 go_wp2_with fail
 cases ha:getH H z with
 | none =>
  refine (XEachF.each_none HT0.out HZ.out.1 (srv_none HI.out ha) _).mono ?_
  rintro e w1 ⟨rfl,hb⟩
  have HF:=Zz.mk (show freeTE H z=12/\TH w1 M sv al (freeTH H z) (m+1)/\Kt M sv.length w w1 by
   have hn:=getH_none ha
   rw [(free_no hn).1,(free_no hn).2]
   exact ⟨rfl,⟨at_,ls,HT0.out.below hb,Inv.mono HI.out (by omega),HG.out⟩,Kt.of (Zi HB0.out hb)⟩)
  clear hb ha
  go_wp2_with fail
  go_ret
  exact ⟨by rw [HF.out.1];rfl,HF.out.2⟩
 | some a =>
  obtain ⟨h1,h2,h3⟩:=srv_of HI.out ha
  have hin:=HI.out.srv a h2
  refine (XEachF.each_calls (q:=0) (bx:=[bxI w.heap.size z]) HT0.out HG.out HZ.out.1 h1 hin (k1:=w.heap.size) (fun y hy=>by rw [List.mem_singleton.1 hy];exact Zn HM0.out) (fun y hy=>by rw [List.mem_singleton.1 hy];exact bxI_ty _ _) (fun y hy=>by rw [List.mem_singleton.1 hy];exact HM0.out)
   (free1 w.heap.size z HZ.out.1) (fun y hy=>HI.out.pa (by have:=HZ.out.2;omega) (path_in HG.out _ hin y hy).1) (fun y hy=>by
    show freeE (ls y) z=_
    rw [<-h3]
    exact HI.out.freeE h2 (path_in HG.out _ hin y hy).1 hy)).mono ?_
  rintro e w1 ⟨rfl,hk,ht⟩
  have hn:hasH H z=true:=hasH_iff.2 ⟨a,h2,h3⟩
  have m1:MBlk w1 w.heap.size 3 #[.int .i64 z]:=mblk_stay HT0.out hk HM0.out (by decide)
  have c1:w1.cell? ⟨w.heap.size,0,none⟩=some (.int .i64 z):=(Zg m1 0).trans rfl
  have k1:=ht.cell2
  have htd:=ht.below (Zr (Below.refl w1.heap.size w1))
  obtain ⟨w2,hrun,hm2,ht2⟩:=XAt.map_del htd.map HZ.out.1
  have HF:=Zz.mk (show freeTE H z=0/\TH w2 M sv al (freeTH H z) (m+1)/\Kt M sv.length w w2 by
   rw [(free_yes hn).1,(free_yes hn).2]
   have hf:=HI.out.free h2
   rw [h3] at hf
   exact ⟨rfl,⟨_,_,htd.turn ht2 hm2,Inv.mono hf (by omega),HG.out⟩,(Kt.of HB0.out).trans (hk.trans ((Kt.of (Zr (Below.refl w1.heap.size w1))).trans (Kt.turn ht2)))⟩)
  clear hn m1 ht htd hm2 ht2 hk h1 h2 h3 hin ha
  go_wp2_with fail
  go_region
  go_wp2_with fail
  go_ret
  exact ⟨by rw [HF.out.1];rfl,HF.out.2⟩
end
end Go.Proofs.Ytfldklimlcnnnaa.XTSettle
end

section
namespace Go.Proofs.Ytfldklimlcnnnaa.XTHeld
open Go.RowKit PHq YtfldklimlcnnnaaW.PrintWords YtfldklimlcnnnaaW.PrintLast YtfldklimlcnnnaaW.PrintMore MWords
open MNat QNat QEv QRatio XRV XHold XLed XNew XTree QTree XOf
theorem noLimb_rat {X:World} {g7:Nat} {o1 o2:Option Addr} {n1 n2 m1 m2:Nat} {t:TypeId} (hG:MBlk X g7 t #[.slice o1 n1 m1,.slice o2 n2 m2]):NoLimb X g7:=by
 intro p hp n hc
 unfold World.cell? at hc
 rw [hp,show X.heap[g7]? = _ from hG] at hc
 simp only at hc
 split at hc
 ·cases hc
 ·match ho:p.off,hc with
  | 0,hc=>simp at hc
  | 1,hc=>simp at hc
  | k+2,hc=>simp at hc
theorem rat_put {X w:World} {k N:Nat} {p p':Value} {r1 r2:List Int} {o1 o2:Option Addr} {n1 n2 m1 m2:Nat} (hG:MBlk X k 28 #[.slice o1 n1 m1,.slice o2 n2 m2]) (hV:RV X p p' r1 r2) (hB:Below N w X) (hN:N<=k) :
  MBlk ((X.setCell ⟨k,0,none⟩ p).setCell ⟨k,1,none⟩ p') k 28 #[p,p']/\RV ((X.setCell ⟨k,0,none⟩ p).setCell ⟨k,1,none⟩ p') p p' r1 r2/\Below N w ((X.setCell ⟨k,0,none⟩ p).setCell ⟨k,1,none⟩ p'):=by
 have hn:=noLimb_rat hG
 have hs:∀j,j≠k->((X.setCell ⟨k,0,none⟩ p).setCell ⟨k,1,none⟩ p').heap[j]? = X.heap[j]?:=fun j hk=>(Below.heap_setCell _ ⟨k,1,none⟩ _ j hk).trans (Below.heap_setCell _ ⟨k,0,none⟩ _ j hk)
 exact ⟨mblk_set (mblk_set hG 0 _) 1 _,hV.near (fun j _ h=>hs j (fun e=>h (by rw [e];exact hn))),(hB.setCell (p:=⟨k,0,none⟩) hN _).setCell (p:=⟨k,1,none⟩) hN _⟩
section
variable {w:World} {M:Tm} {sv:List S71} {at_:List (Int × Int)} {al:Int->Rat} {ls:Int->List (Int × Hd)}
def heldT (n:Nat) (ls:Int->List (Int × Hd)) (s:Int):Rat:=if thereB n s=true then Zy (ls s) else ((0:Nat):Rat)
set_option maxRecDepth 100000 in
set_option maxHeartbeats 4000000 in
theorem theld_calls (hT:Tre w M sv at_ al ls) (s:Int) (hs:∀s,inR sv.length s->Sz 100000 (Zy (ls s))) :
  Calls Try.prog 46 #[.pointer (some ⟨M.t,0,none⟩),.int .i64 s] w fun e w'=>∃p p':Value,e=.returned (.agg #[p,p'])/\RV w' p p' (L (heldT sv.length ls s)).1 (L (heldT sv.length ls s)).2/\Below w.heap.size w w':=by
 obtain ⟨W0,hW0⟩:∃W0,W0=w.alloc (.cells #[.slice none 0 0,.slice none 0 0] 28):=⟨_,rfl⟩
 have hb0:Below w.heap.size w W0:=by rw [hW0];exact Zb (Below.refl _ _) _
 have HB0:=Zz.mk hb0
 have HR0:=Zz.mk (show MBlk W0 w.heap.size 28 #[.slice none 0 0,.slice none 0 0] by rw [hW0];exact Zo _ _ _)
 have HT0:=Zz.mk (hT.below hb0)
 have HS:=Zz.mk hs
 obtain ⟨q,hq⟩:∃q,q=heldT sv.length ls s:=⟨_,rfl⟩
 rw [<-hq]
 have HQ0:=Zz.mk hq
 clear hT hb0 hs hq
 go_enter Try.func46,Try.ntmps46
 go_upto_region 1 with fail
 rw [<-hW0]
 clear hW0
 cases ht:thereB sv.length s with
 | true =>
  have HE:=Zz.mk (show Zy (ls s)=q by rw [HQ0.out];unfold heldT;rw [ht,if_pos rfl])
  have HI:=Zz.mk (there_in.1 ht)
  go_wp2_with (go_at_call 83;refine (there_calls HT0.out s).mono ?_;rw [ht];rintro e w1 ⟨rfl,rfl⟩;clear ht)
  refine (of_calls HT0.out HI.out).mono ?_
  rintro e w2 ⟨rfl,hb⟩
  have HB2:=Zz.mk (Zi HB0.out hb)
  have HT2:=Zz.mk (HT0.out.below hb)
  have HR2:=Zz.mk ((hb.block _ (Zn HR0.out)).trans HR0.out)
  clear hb HT0 HR0
  go_wp2_with fail
  refine (held_calls _ _ _ _ _ _ (HT2.out.led s HI.out) (HS.out s HI.out)).mono ?_
  rintro e w3 ⟨p,p',rfl,hr,hb⟩
  rw [HE.out] at hr
  obtain ⟨A1,c1,A2,c2,rfl,rfl⟩:=hr.shape
  obtain ⟨u0,hu0⟩:∃u0,u0=(L q).1:=⟨_,rfl⟩
  obtain ⟨u1,hu1⟩:∃u1,u1=(L q).2:=⟨_,rfl⟩
  rw [<-hu0,<-hu1] at hr ⊢
  have HU:=Zz.mk (And.intro hu0 hu1)
  have hR3:MBlk w3 w.heap.size 28 #[.slice none 0 0,.slice none 0 0]:=(hb.block _ (Zn HR2.out)).trans HR2.out
  have HQ:=Zz.mk (rat_put hR3 hr (Zi HB2.out hb) (Nat.le_refl _))
  obtain ⟨w5,hw5⟩:∃w5,w5=(w3.setCell ⟨w.heap.size,0,none⟩ (.slice A1 u0.length c1)).setCell ⟨w.heap.size,1,none⟩ (.slice A2 u1.length c2):=⟨_,rfl⟩
  rw [<-hw5] at HQ
  have HW5:=Zz.mk hw5
  have z0:w3.cell? ⟨w.heap.size,0,none⟩=some (.slice none 0 0):=(Zg hR3 0).trans rfl
  have z1:w3.cell? ⟨w.heap.size,1,none⟩=some (.slice none 0 0):=(Zg hR3 1).trans rfl
  have f0:w3.frozen? ⟨w.heap.size,0,none⟩=false:=Zq hR3 0
  have f1:w3.frozen? ⟨w.heap.size,1,none⟩=false:=Zq hR3 1
  clear hw5 hb hR3 hr hu0 hu1
  go_wp2_with fail
  rw [<-HW5.out]
  clear HW5 z0 z1 f0 f1
  have e0:w5.cell? ⟨w.heap.size,0,none⟩=some (.slice A1 u0.length c1):=(Zg HQ.out.1 0).trans rfl
  have e1:w5.cell? ⟨w.heap.size,1,none⟩=some (.slice A2 u1.length c2):=(Zg HQ.out.1 1).trans rfl
  exact bodyPost_ret (v:=.agg #[.slice A1 u0.length c1,.slice A2 u1.length c2]) (by simp [results,Try.results46,go_sem,e0,e1]) rfl ⟨_,_,rfl,by rw [<-HU.out.1,<-HU.out.2];exact HQ.out.2.1,HQ.out.2.2⟩
 | false =>
  have HW:=Zz.mk (show ratio_Whole.f 0=some ((L q).1,(L q).2) by rw [HQ0.out];unfold heldT;rw [ht,if_neg (by decide)];exact whole_n 0 (by omega))
  go_wp2_with (go_at_call 83;refine (there_calls HT0.out s).mono ?_;rw [ht];rintro e w1 ⟨rfl,rfl⟩;clear ht)
  refine (whole_rv HW.out).mono ?_
  rintro e w2 ⟨p,p',rfl,hr,hb⟩
  obtain ⟨A1,c1,A2,c2,rfl,rfl⟩:=hr.shape
  obtain ⟨u0,hu0⟩:∃u0,u0=(L q).1:=⟨_,rfl⟩
  obtain ⟨u1,hu1⟩:∃u1,u1=(L q).2:=⟨_,rfl⟩
  rw [<-hu0,<-hu1] at hr ⊢
  have HU:=Zz.mk (And.intro hu0 hu1)
  have hR3:MBlk w2 w.heap.size 28 #[.slice none 0 0,.slice none 0 0]:=(hb.block _ (Zn HR0.out)).trans HR0.out
  have HQ:=Zz.mk (rat_put hR3 hr (Zi HB0.out hb) (Nat.le_refl _))
  obtain ⟨w5,hw5⟩:∃w5,w5=(w2.setCell ⟨w.heap.size,0,none⟩ (.slice A1 u0.length c1)).setCell ⟨w.heap.size,1,none⟩ (.slice A2 u1.length c2):=⟨_,rfl⟩
  rw [<-hw5] at HQ
  have HW5:=Zz.mk hw5
  have z0:w2.cell? ⟨w.heap.size,0,none⟩=some (.slice none 0 0):=(Zg hR3 0).trans rfl
  have z1:w2.cell? ⟨w.heap.size,1,none⟩=some (.slice none 0 0):=(Zg hR3 1).trans rfl
  have f0:w2.frozen? ⟨w.heap.size,0,none⟩=false:=Zq hR3 0
  have f1:w2.frozen? ⟨w.heap.size,1,none⟩=false:=Zq hR3 1
  clear hw5 hb hR3 hr hu0 hu1
  go_wp2_with fail
  rw [<-HW5.out]
  clear HW5 z0 z1 f0 f1
  have e0:w5.cell? ⟨w.heap.size,0,none⟩=some (.slice A1 u0.length c1):=(Zg HQ.out.1 0).trans rfl
  have e1:w5.cell? ⟨w.heap.size,1,none⟩=some (.slice A2 u1.length c2):=(Zg HQ.out.1 1).trans rfl
  exact bodyPost_ret (v:=.agg #[.slice A1 u0.length c1,.slice A2 u1.length c2]) (by simp [results,Try.results46,go_sem,e0,e1]) rfl ⟨_,_,rfl,by rw [<-HU.out.1,<-HU.out.2];exact HQ.out.2.1,HQ.out.2.2⟩
end
end Go.Proofs.Ytfldklimlcnnnaa.XTHeld
end

section
namespace Go.Proofs.Ytfldklimlcnnnaa.XOp
open Go.RowKit Go.Shelf PHq YtfldklimlcnnnaaW.PrintWords YtfldklimlcnnnaaW.PrintLast YtfldklimlcnnnaaW.PrintMore MWords MOpen
open MNat QNat QText QEv QRatio XHold XLed QHold
def kP2:Kd (Int × Int):=Kd.pair (Kd.int .i64) (Kd.int .i64)
theorem kP2_open {w:World} {x:Int × Int} {cs:List Value} (h:kP2.K w x cs):cs = [.int .i64 x.1,.int .i64 x.2]:=by
 obtain ⟨_,_,rfl,rfl,rfl⟩:=h
 rfl
theorem opensP2:Opens Try.prog 39 kP2 (fun p=>(Lit.int .i64 p.1).wf=true/\(Lit.int .i64 p.2).wf=true) :=
 Opens.array Try.underlying39 (Ts:=[3,3]) (OpensL.cons (Opens.int Try.underlying3) (OpensL.one (Opens.int Try.underlying3))) rfl (by kernel_rfl) (by kernel_rfl)
def madeW (p q:Int):S34:=⟨wrap64 ((Go.bits .and .i64 p 31)-1),Go.bits .and .i64 q 31⟩
end Go.Proofs.Ytfldklimlcnnnaa.XOp
end

section
namespace Go.Proofs.Ytfldklimlcnnnaa.XTKt
open Go.RowKit PHq YtfldklimlcnnnaaW.PrintWords YtfldklimlcnnnaaW.PrintLast YtfldklimlcnnnaaW.PrintMore MWords
open MNat QNat QEv QRatio XRV XHold XWts XLed XNew XFits XMeth QHold XOp XTree QTree XOf QTr XTHeld XTJoin
section
variable {W W':World} {M:Tm} {sv:List S71} {al:Int->Rat} {H:List Hol} {m:Nat}
theorem TH.not_wr (h:TH W M sv al H m) {k:Nat} {cs:Array Value} {T:TypeId} {fr:Nat × Nat} (hk:W.heap[k]? = some (.cells cs T fr)) (hT:T≠97):¬ M.wr sv.length k:=by
 obtain ⟨_,_,h1,_,_⟩:=h
 exact h1.not_wr hk hT
theorem mblk_kt (h:TH W M sv al H m) (hk:Kt M sv.length W W') {g:Nat} {t:TypeId} {cs:Array Value} (hb:MBlk W g t cs) (ht:t≠97):MBlk W' g t cs :=
 (hk.same g (Zn hb) (TH.not_wr h hb ht)).trans hb
theorem R_kt (h:TH W M sv al H m) (hk:Kt M sv.length W W') {B:Nat} {v:Value} {xs:List S71} (hR:Kd.R k71 71 W B (fun _=>True) v xs):Kd.R k71 71 W' B (fun _=>True) v xs :=
 Kd.R_mono (Kd.R_step (Kd.R_bound hR) (fun k ho hlt=>by
  obtain ⟨_,_,_,q,hq,cells,hc⟩:=ho
  have e:q=71:=by
   have:q ∈ [71]:=hq
   simpa using this
  subst e
  exact hk.same k hlt (TH.not_wr h hc (by decide)))) (fun _ _=>trivial)
theorem noLimb_wr (h:TH W M sv al H m) {k:Nat} (hw:M.wr sv.length k):NoLimb W k:=by
 obtain ⟨_,_,h1,_,_⟩:=h
 rcases hw with rfl|⟨s,hs,rfl|rfl⟩
 ·obtain ⟨es,c,e⟩:=h1.map.obj
  exact noLimb_map e
 ·obtain ⟨x,y,u,v,e1,e2,e3⟩:=(h1.led s hs).cells
  exact noLimb_led e1 e2 e3
 ·obtain ⟨es,c,e⟩:=(h1.led s hs).map.obj
  exact noLimb_map e
theorem RV_kt (h:TH W M sv al H m) (hk:Kt M sv.length W W') {x y:Value} {a b:List Int} (hv:RV W x y a b):RV W' x y a b :=
 hv.near (fun k hlt hn=>hk.same k hlt (fun hw=>hn (noLimb_wr h hw)))
theorem below_kt {w:World} (hB:Below w.heap.size w W) (hw:∀k,M.wr sv.length k->w.heap.size<=k) (hk:Kt M sv.length W W'):Below w.heap.size w W':=by
 have h1:Below w.heap.size W W':=hk.below hw hB.size
 exact ⟨h1.os.trans hB.os,h1.tape.trans hB.tape,h1.output.trans hB.output,Nat.le_trans hB.size h1.size,fun k hk=>(h1.block k hk).trans (hB.block k hk)⟩
theorem noLimb_all {W:World} {b:Nat} {t:TypeId} {cs:Array Value} (h:MBlk W b t cs) (hn:∀ (i:Nat) (n:Int),cs[i]? ≠ some (Value.int .u32 n)):NoLimb W b:=by
 intro p hp n hc
 unfold World.cell? at hc
 rw [hp,show W.heap[b]? = _ from h] at hc
 simp only at hc
 split at hc
 ·cases hc
 ·exact hn _ _ hc
def heldA (sv:List S71) (H:List Hol) (s:Int):Rat:=if thereB sv.length s=true then heldH sv H s else ((0:Nat):Rat)
theorem theldH (h:TH W M sv al H m) (hm:m<=490) (s:Int) :
  Calls Try.prog 46 #[.pointer (some ⟨M.t,0,none⟩),.int .i64 s] W fun e w'=>∃p p':Value,e=.returned (.agg #[p,p'])/\RV w' p p' (L (heldA sv H s)).1 (L (heldA sv H s)).2/\Below W.heap.size W w':=by
 obtain ⟨_,ls,h1,h2,h3⟩:=h
 have e:heldT sv.length ls s=heldA sv H s:=by
  unfold heldT heldA
  cases ht:thereB sv.length s with
  | false=>rfl
  | true=>rw [if_pos rfl,if_pos rfl];exact h2.held (there_in.1 ht)
 rw [<-e]
 exact theld_calls h1 s (fun s hs=>sz_mono (XMeth.held_sz (h2.good (by omega) hs)) (by omega))
end
end Go.Proofs.Ytfldklimlcnnnaa.XTKt
end

section
namespace Go.Proofs.Ytfldklimlcnnnaa.XOpen13
open Go.RowKit PHq MOpen YtfldklimlcnnnaaW.PrintWords YtfldklimlcnnnaaW.PrintLast YtfldklimlcnnnaaW.PrintMore
theorem opensP:Opens Try.prog 39 k39 (fun p=>(Lit.int .i64 p.f0).wf=true/\(Lit.int .i64 p.f1).wf=true) :=
 Opens.array Try.underlying39 (Ts:=[3,3]) (OpensL.iso (OpensL.cons (Opens.int Try.underlying3) (OpensL.one (Opens.int Try.underlying3))) (fun x:S39=>(x.f0,x.f1)) (fun x=>⟨x.1,x.2⟩) (fun _=>rfl)) rfl (by kernel_rfl) (by kernel_rfl)
abbrev SpecV:=List Int × (List S39 × S39)
def kSpec:Kd SpecV:=Kd.pair (Kd.slice 3 (Kd.int .i64)) (Kd.pair (Kd.slice 39 k39) k39)
theorem kSpec_open {w:World} {x:SpecV} {cs:List Value} (h:kSpec.K w x cs):∃A0 c0 A1 c1,cs = [.slice A0 x.1.length c0,.slice A1 x.2.1.length c1,.int .i64 x.2.2.f0,.int .i64 x.2.2.f1]/\(x.1.length<=c0/\Kd.C (Kd.int .i64) w A0 x.1.length x.1)/\(x.2.1.length<=c1/\Kd.C k39 w A1 x.2.1.length x.2.1):=by
 obtain ⟨_,_,rfl,⟨A0,c0,rfl,h1,h2⟩,_,_,rfl,⟨A1,c1,rfl,h3,h4⟩,h5⟩:=h
 obtain rfl:=k39_open h5
 exact ⟨A0,c0,A1,c1,rfl,⟨h1,h2⟩,h3,h4⟩
theorem opensSpec:Opens Try.prog 64 kSpec (fun p=>(p.1.length<=9223372036854775807/\∀x∈p.1,(Lit.int .i64 x).wf=true)/\(p.2.1.length<=9223372036854775807/\∀x∈p.2.1,(Lit.int .i64 x.f0).wf=true/\(Lit.int .i64 x.f1).wf=true)/\((Lit.int .i64 p.2.2.f0).wf=true/\(Lit.int .i64 p.2.2.f1).wf=true)) :=
 Opens.struct Try.underlying64 (Ts:=[22,38,39]) (OpensL.cons (Opens.slice Try.underlying22 (by kernel_rfl) (Opens.int Try.underlying3)) (OpensL.cons (Opens.slice Try.underlying38 (by kernel_rfl) opensP) (OpensL.one opensP))) rfl (by kernel_rfl) (by kernel_rfl)
end Go.Proofs.Ytfldklimlcnnnaa.XOpen13
end

section
namespace Go.Proofs.Ytfldklimlcnnnaa.XQOp
open Go.RowKit PHq YtfldklimlcnnnaaW.PrintWords YtfldklimlcnnnaaW.PrintLast YtfldklimlcnnnaaW.PrintMore MWords
open MNat MOpen QNat QEv QRatio XRV XHold XWts XLed XNew XFits XJoin QHold XOp XTree QTree XOf QTr XTHeld XTJoin XTAsk XTSettle XTKt
abbrev OpW:=Int × Int × Int × (Int × Int)
def kOpW:Kd OpW:=Kd.pair (Kd.int .i64) (Kd.pair (Kd.int .i64) (Kd.pair (Kd.int .i64) kP2))
theorem kOpW_open {w:World} {x:OpW} {cs:List Value} (h:kOpW.K w x cs):cs = [.int .i64 x.1,.int .i64 x.2.1,.int .i64 x.2.2.1,.int .i64 x.2.2.2.1,.int .i64 x.2.2.2.2]:=by
 obtain ⟨_,_,rfl,rfl,⟨_,_,rfl,rfl,⟨_,_,rfl,rfl,h1⟩⟩⟩:=h
 obtain rfl:=kP2_open h1
 rfl
theorem opensOpW:Opens Try.prog 83 kOpW (fun p=>(Lit.int .i64 p.1).wf=true/\(Lit.int .i64 p.2.1).wf=true/\(Lit.int .i64 p.2.2.1).wf=true/\((Lit.int .i64 p.2.2.2.1).wf=true/\(Lit.int .i64 p.2.2.2.2).wf=true)) :=
 Opens.struct Try.underlying83 (Ts:=[3,3,3,39]) (OpensL.cons (Opens.int Try.underlying3) (OpensL.cons (Opens.int Try.underlying3) (OpensL.cons (Opens.int Try.underlying3) (OpensL.one opensP2)))) rfl (by kernel_rfl) (by kernel_rfl)
def opwZ:OpW:=(0,0,0,(0,0))
theorem at_OpW {w:World} {A:Option Addr} {n:Nat} {xs:List OpW} (h:Kd.C kOpW w A n xs) (i:Nat) (hi:i<n):∃ad,A=some ad/\w.cell? (ad.add (i*5))=some (.int .i64 (xs.getD i opwZ).1)
  ∧ w.cell? ⟨(ad.add (i*5)).block,(ad.add (i*5)).off+1,none⟩=some (.int .i64 (xs.getD i opwZ).2.1)
  ∧ w.cell? ⟨(ad.add (i*5)).block,(ad.add (i*5)).off+2,none⟩=some (.int .i64 (xs.getD i opwZ).2.2.1)
  ∧ w.cell? ⟨(ad.add (i*5)).block,(ad.add (i*5)).off+3,none⟩=some (.int .i64 (xs.getD i opwZ).2.2.2.1)
  ∧ w.cell? ⟨(ad.add (i*5)).block,(ad.add (i*5)).off+4,none⟩=some (.int .i64 (xs.getD i opwZ).2.2.2.2):=by
 obtain ⟨ad,c,e,_,hK,hc0⟩:=Kd.C_get h opwZ (i:Int) (by omega) (by omega)
 have hc:∀j u,c[j]? = some u->w.cell? (ad.add (i*5+j))=some u:=hc0
 have hK':kOpW.K w (xs.getD i opwZ) c:=hK
 obtain rfl:=kOpW_open hK'
 exact ⟨ad,e,hc 0 _ rfl,by rw [<-add_field _ _ 1 (by omega)];exact hc 1 _ rfl,by rw [<-add_field _ _ 2 (by omega)];exact hc 2 _ rfl,by rw [<-add_field _ _ 3 (by omega)];exact hc 3 _ rfl,by rw [<-add_field _ _ 4 (by omega)];exact hc 4 _ rfl⟩
theorem weight_calls (k z s a b:Int) (w:World):Calls Try.prog 48 #[.agg #[.int .i64 k,.int .i64 z,.int .i64 s,.int .i64 a,.int .i64 b]] w fun e w'=>e=.returned (.agg #[.int .i64 (madeW a b).f0,.int .i64 (madeW a b).f1])/\Below w.heap.size w w' :=
 l13_Op_weight.calls k z s a b (madeW a b).f0 (madeW a b).f1 w rfl
theorem r3of_rv (x:S34) (hx:okW x) (W:World) :
  Calls Try.prog 23 #[.agg #[.int .i64 x.f0,.int .i64 x.f1]] W fun e w'=>∃p q:Value,e=.returned (.agg #[p,q])/\RV w' p q (limbs x.f0.toNat) (limbs x.f1.toNat)/\Below W.heap.size W w':=by
 obtain ⟨k,hk⟩:=(r3of_t x hx).get
 exact (r03_Of.calls k x.f0 x.f1 _ _ W hk).mono fun e w' ⟨p,q,he,h1,h2,hb⟩=>⟨p,q,he,RV.ofR h1 h2,hb⟩
theorem and_mask_nat (k:Nat) (hk:k<=62) (x m:Int) (hm:m=2 ^ k-1):∃n:Nat,Go.bits .and .i64 x m=(n:Int)/\(n:Int)<=m:=by
 have e:Go.bits .and .i64 x m=x % 2 ^ k:=QBits.and_mask k hk x m hm
 have h0:(0:Int)<2 ^ k:=Int.pow_pos (by omega)
 have b1:=Int.emod_nonneg x (show (2:Int) ^ k≠0 by omega)
 have b2:=Int.emod_lt_of_pos x h0
 obtain ⟨n,hn⟩:=Int.eq_ofNat_of_zero_le b1
 exact ⟨n,by rw [e,hn],by rw [hm];omega⟩
section
variable {W W':World} {M:Tm} {sv:List S71} {al:Int->Rat} {H:List Hol} {m:Nat}
theorem tserverH (h:TH W M sv al H m) {z:Int} (hz:wfI z) :
  Calls Try.prog 58 #[.pointer (some ⟨M.t,0,none⟩),.int .i64 z] W fun e w'=>e=.returned (.int .i64 (srvH H z))/\w'=W:=by
 obtain ⟨at_,ls,h1,h2,h3⟩:=h
 rw [<-h2.srvA z]
 exact server_calls h1 hz
theorem join_same {z s:Int} {x:S34} (h:joinTE sv al H z s x≠0):joinTH sv al H z s x=H:=by
 unfold joinTH
 rw [if_neg h]
theorem ask_same {z:Int} {x:S34} (h:askTE sv al H z x≠0):askTH sv al H z x=H:=by
 cases hm:mayW x with
 | false=>exact (ask_no hm).2
 | true =>
  cases hz:getH H z with
  | none=>exact (ask_none hm hz).2
  | some a=>rw [(ask_some hm hz).2,if_neg h]
end
end Go.Proofs.Ytfldklimlcnnnaa.XQOp
end

section
namespace Go.Proofs.Ytfldklimlcnnnaa.QRef13
open Go.RowKit Go.Shelf PHq YtfldklimlcnnnaaW.PrintWords YtfldklimlcnnnaaW.PrintLast YtfldklimlcnnnaaW.PrintMore MWords
open MNat QNat QEv QRatio XRV XHold XWts XLed XFits XJoin QHold XTree QTree XOf QTr
def rowT (x:Hol):S86:=⟨x.id,x.srv,⟨x.hd.e,x.hd.p⟩,⟨x.hd.e2,x.hd.p2⟩,x.hd.a⟩
theorem holds_f (x:Hol) (h:OkHol x):r13_holds.f x.id x.srv x.hd.e x.hd.p x.hd.e2 x.hd.p2 x.hd.a=some ((hv x.hd).f0,(hv x.hd).f1):=by
 obtain ⟨hk,_,hn,hx,_⟩:=h
 generalize x.hd=k at hk hn hx ⊢
 unfold r13_holds.f hv
 by_cases ha:k.a=true
 ·obtain ⟨n0,n1,n2,n3⟩:=hk.1
  obtain ⟨x0,x1,x2,x3⟩:=hk.2 ha
  have s1:k.e<=1048576/\k.p<=1048576:=by
   unfold mayW wN at hn
   simp at hn
   omega
  have s2:k.e2<=1048576/\k.p2<=1048576:=by
   have h2:=hx ha
   unfold mayW wX at h2
   simp at h2
   omega
  have m0:0<=k.e2*k.p:=Int.mul_nonneg x0 (by have:1<=k.p:=n2;omega)
  have m1:0<=k.e*k.p2:=Int.mul_nonneg n0 (by have:1<=k.p2:=x2;omega)
  have m2:k.e2*k.p<=1048576*1048576:=Int.mul_le_mul s2.1 s1.2 (by have:1<=k.p:=n2;omega) (by omega)
  have m3:k.e*k.p2<=1048576*1048576:=Int.mul_le_mul s1.1 s2.2 (by have:1<=k.p2:=x2;omega) (by omega)
  rw [if_pos ha,QBits.w64 (by omega) (by omega),QBits.w64 (by omega) (by omega)]
  have key:(k.e2*k.p>k.e*k.p2)↔wt (wN k)<wt (wX k):=by
   unfold wt
   rw [mk_lt _ _ _ _ (okW_pos hk.1) (okW_pos (hk.2 ha))]
   have e1:((wN k).f0.toNat:Int)=k.e:=Int.toNat_of_nonneg n0
   have e2:((wN k).f1.toNat:Int)=k.p:=Int.toNat_of_nonneg (by have:1<=k.p:=n2;show 0<=k.p;omega)
   have e3:((wX k).f0.toNat:Int)=k.e2:=Int.toNat_of_nonneg x0
   have e4:((wX k).f1.toNat:Int)=k.p2:=Int.toNat_of_nonneg (by have:1<=k.p2:=x2;show 0<=k.p2;omega)
   rw [<-Int.ofNat_lt,Int.natCast_mul,Int.natCast_mul,e1,e2,e3,e4]
  by_cases hlt:wt (wN k)<wt (wX k)
  ·rw [if_pos (key.2 hlt),if_pos ⟨ha,hlt⟩]
   rfl
  ·rw [if_neg (fun c=>hlt (key.1 c)),if_neg (fun c=>hlt c.2)]
   rfl
 ·rw [if_neg ha,if_neg (fun c=>ha c.1)]
  rfl
theorem rdT (H:List Hol) (i:Nat) (hi:i<H.length):rd_T86 (H.map rowT) (i:Int)=rowT H[i]:=by
 unfold rd_T86
 rw [Int.toNat_natCast,List.getD_eq_getElem?_getD,List.getElem?_eq_getElem (by simpa using hi),List.getElem_map]
 rfl
def wsH (sv:List S71) (H:List Hol) (s:Int):List S34:=(H.filter (onB sv s)).map fun x=>hv x.hd
theorem wsH_sum (sv:List S71) (H:List Hol) (s:Int):sumR (wsH sv H s)=heldH sv H s:=by
 unfold wsH heldH Zy sub
 rw [List.map_map]
 rfl
theorem wsH_ok {sv:List S71} {H:List Hol} (ho:∀x∈H,OkHol x) (s:Int):∀y∈wsH sv H s,okW y:=fun y hy=>by
 obtain ⟨x,hx,rfl⟩:=List.mem_map.1 hy
 exact hv_ok (ho x (List.mem_filter.1 hx).1).ok
theorem wsH_len (sv:List S71) (H:List Hol) (s:Int):(wsH sv H s).length<=H.length:=by
 unfold wsH
 rw [List.length_map]
 exact List.length_filter_le _ _
theorem wsH_take (sv:List S71) (H:List Hol) (s:Int) (i:Nat) (hi:i<H.length):wsH sv (H.take (i+1)) s=if onB sv s H[i]=true then wsH sv (H.take i) s++[hv (H[i]).hd] else wsH sv (H.take i) s:=by
 unfold wsH
 rw [<-List.take_append_getElem hi,List.filter_append,List.map_append]
 by_cases h:onB sv s H[i]=true
 ·rw [if_pos h,List.filter_cons,if_pos h];rfl
 ·rw [if_neg h,List.filter_cons,if_neg h];simp
theorem rdW (l:List S34) (i:Nat) (hi:i<l.length):rd_T34 l (i:Int)=l[i]:=by
 unfold rd_T34
 rw [Int.toNat_natCast,List.getD_eq_getElem?_getD,List.getElem?_eq_getElem hi]
 rfl
theorem rsum_l (l:List S34) (hl:l.length<=500) (ho:∀x∈l,okW x) (d:Nat):∀ (i j n e:Nat),i+d=l.length->F j n->F j e->0<e->j+3*d<=1800 →
  ∃N E,Tell (fun k=>r03_Sum.l0 k l (i:Int) (limbs n) (limbs e)) (limbs N,limbs E)/\F (j+3*d) N/\F (j+3*d) E/\0<E/\mkRat (N:Int) E=mkRat (n:Int) e+sumR (l.drop i):=by
 induction d with
 | zero =>
  intro i j n e hi hn he h0 _
  rw [List.drop_of_length_le (by omega)]
  exact ⟨n,e,Tell.step (g:=fun _=>some (limbs n,limbs e)) (fun k=>by rw [r03_Sum.l0,if_neg (by omega)]) (Tell.const _),hn,he,h0,(Rat.add_zero _).symm⟩
 | succ d ih =>
  intro i j n e hi hn he h0 hj
  have hlt:i<l.length:=by omega
  have hx:=ho l[i] (List.getElem_mem hlt)
  obtain ⟨f0,f1⟩:=okW_F hx
  have hp:=okW_pos hx
  have hc:=F_cross hn he f0 f1
  have hm:=he.mul f1
  obtain ⟨N,E,h1,h2,h3,h4,h5⟩:=ih (i+1) (j+3) _ _ (by omega) (hc.mono (by omega)) (hm.mono (by omega)) (Nat.mul_pos h0 hp) (by omega)
  refine ⟨N,E,?_,by rw [show j+3*(d+1)=j+3+3*d by omega];exact h2,by rw [show j+3*(d+1)=j+3+3*d by omega];exact h3,h4,?_⟩
  ·refine Tell.step (fun k=>by rw [r03_Sum.l0,if_pos (by omega),if_pos (by omega),rdW l i hlt,QBits.w64 (by omega) (by omega)]) ?_
   exact Tell.bind (r3of_t _ hx) (Tell.bind (r3plus_t j 1 n e _ _ hn he f0 f1 (by omega)) h1)
  ·rw [h5,List.drop_eq_getElem_cons hlt,<-mk_add n e _ _ h0 hp]
   exact Rat.add_assoc _ _ _
theorem rsum_t (l:List S34) (hl:l.length<=500) (ho:∀x∈l,okW x):∃N E,(∃k,r03_Sum.f k l=some (limbs N,limbs E))/\F 1600 N/\F 1600 E/\0<E/\mkRat (N:Int) E=sumR l:=by
 obtain ⟨N,E,h1,h2,h3,h4,h5⟩:=rsum_l l hl ho l.length 0 1 0 1 (by omega) (F.one (by omega)) (F.one (by omega)) (by omega) (by omega)
 refine ⟨N,E,(Tell.of (fun k=>by rw [r03_Sum.f,show limbs 0 = [] by unfold limbs;rfl,show limbs 1 = [1] by unfold limbs;unfold limbs;rfl];rfl) h1).get,h2.mono (by omega),h3.mono (by omega),h4,?_⟩
 rw [h5,List.drop_zero]
 exact Rat.zero_add _
def atP (H:List Hol) (z:Int):Int:=match H.findIdx? (fun y=>decide (y.id=z)) with|some k=>(k:Int)|none=>-1
theorem at_none {H:List Hol} {z:Int} (h:∀y∈H,y.id≠z):atP H z = -1:=by
 unfold atP
 rw [List.findIdx?_eq_none_iff.2 (fun y hy=>by simpa using h y hy)]
theorem at_some {a b:List Hol} {x:Hol} {z:Int} (hx:x.id=z) (ha:∀y∈a,y.id≠z):atP (a++x::b) z=(a.length:Int):=by
 unfold atP
 rw [List.findIdx?_append,List.findIdx?_eq_none_iff.2 (fun y hy=>by simpa using ha y hy)]
 simp [List.findIdx?_cons,hx]
theorem has_none {H:List Hol} {z:Int} (h:hasH H z=false):∀y∈H,y.id≠z:=fun y hy e=>by
 rw [hasH_iff.2 ⟨y,hy,e⟩] at h
 cases h
theorem split_all {H:List Hol} (hn:(H.map (·.id)).Nodup) {z:Int} {x:Hol} (e:getH H z=some x):∃a b,H=a++x::b/\x.id=z/\(∀y∈a,y.id≠z)/\(∀y∈b,y.id≠z)/\(∀k,setH H z k=a++⟨z,x.srv,k⟩::b)/\delH H z=a++b:=by
 obtain ⟨hm,hz⟩:=getH_mem e
 obtain ⟨a,b,rfl⟩:=List.append_of_mem hm
 rw [List.map_append,List.map_cons,List.nodup_append] at hn
 have ha:∀y∈a,y.id≠z:=fun y hy c=>hn.2.2 _ (List.mem_map.2 ⟨y,hy,rfl⟩) _ List.mem_cons_self (c.trans hz.symm)
 have hb:∀y∈b,y.id≠z:=fun y hy c=>(List.nodup_cons.1 hn.2.1).1 (List.mem_map.2 ⟨y,hy,c.trans hz.symm⟩)
 refine ⟨a,b,rfl,hz,ha,hb,fun k=>?_,?_⟩
 ·unfold setH
  have f:∀l:List Hol,(∀y∈l,y.id≠z)->(l.map fun x=>if x.id=z then (⟨z,x.srv,k⟩:Hol) else x)=l:=fun l hl=>by
   have h1:(l.map fun x=>if x.id=z then (⟨z,x.srv,k⟩:Hol) else x)=l.map id:=List.map_congr_left fun y hy=>if_neg (hl y hy)
   rw [h1,List.map_id]
  rw [List.map_append,List.map_cons,f a ha,f b hb,if_pos hz]
 ·unfold delH
  rw [List.filter_append,List.filter_cons,if_neg (by simp [hz]),List.filter_eq_self.2 (fun y hy=>decide_eq_true (ha y hy)),List.filter_eq_self.2 (fun y hy=>decide_eq_true (hb y hy))]
theorem path_on {sv:List S71} (hG:GoodSv sv) {s:Int} (h0:0<=s) (h1:s<sv.length) (a:List Int):a++Z0 sv s=(a++[s])++Z0 sv (par sv s):=by
 rw [path_step hG h0 h1,List.append_assoc]
 rfl
end Go.Proofs.Ytfldklimlcnnnaa.QRef13
end

section
namespace Go.Proofs.Ytfldklimlcnnnaa.XRef13
open Go.RowKit Go.Shelf PHq YtfldklimlcnnnaaW.PrintWords YtfldklimlcnnnaaW.PrintLast YtfldklimlcnnnaaW.PrintMore MWords
open MNat QNat QEv QRatio XRV XHold XWts XLed XFits XJoin QHold XTree QTree XOf QTr XTJoin XTKt QRef13
structure RT (W:World) (gt base:Nat) (x y:Value) (A:Option Addr) (c b0:Nat) (sv:List S71) (H:List Hol):Prop where
 out:∃v,MBlk W gt 81 #[x,y,.slice A sv.length c,v]/\Kd.R k86 86 W base (fun _=>True) v (H.map rowT)
 row:Kd.R k71 71 W b0 (fun _=>True) (.slice A sv.length c) sv
 shape:(∃A n c,x=.slice A n c)/\∃A n c,y=.slice A n c
section
variable {W W' X Y:World} {gt base c b0:Nat} {x y:Value} {A:Option Addr} {sv:List S71} {H H':List Hol}
theorem RT.below (h:RT W gt base x y A c b0 sv H) (hb:Below W.heap.size W W'):RT W' gt base x y A c b0 sv H:=by
 obtain ⟨v,h1,h2⟩:=h.out
 exact ⟨⟨v,(hb.block _ (Zn h1)).trans h1,Kd.R_below h2 hb⟩,Kd.R_below h.row hb,h.shape⟩
structure KR (gt base:Nat) (W W':World):Prop where
 os:W'.os=W.os
 tape:W'.tape=W.tape
 output:W'.output=W.output
 size:W.heap.size<=W'.heap.size
 same:∀k,k<W.heap.size->k≠gt->(base<=k->∀cs,W.heap[k]? ≠ some (.cells cs 86 (0,0)))->W'.heap[k]? = W.heap[k]?
 limbs:∀ (p:Addr) (n:Int),W.cell? p=some (.int .u32 n)->W'.cell? p=some (.int .u32 n)
theorem KR.of (h:Below W.heap.size W W'):KR gt base W W' :=
 ⟨h.os,h.tape,h.output,h.size,fun k hk _ _=>h.block k hk,fun p n hp=>(h.cell (World.block_lt_of_cell? W _ hp)).trans hp⟩
theorem KR.trans {Z:World} (h:KR gt base X Y) (k:KR gt base Y Z):KR gt base X Z :=
 ⟨k.os.trans h.os,k.tape.trans h.tape,k.output.trans h.output,Nat.le_trans h.size k.size,fun i hi h1 h2=>by
  have e:=h.same i hi h1 h2
  exact (k.same i (Nat.lt_of_lt_of_le hi h.size) h1 (fun hb cs=>by rw [e];exact h2 hb cs)).trans e,fun p n hp=>k.limbs p n (h.limbs p n hp)⟩
theorem KR.below {w:World} (h:Below w.heap.size w X) (hg:w.heap.size<=gt) (hb:w.heap.size<=base) (hk:KR gt base X Y):Below w.heap.size w Y :=
 ⟨hk.os.trans h.os,hk.tape.trans h.tape,hk.output.trans h.output,Nat.le_trans h.size hk.size,fun k hlt=>(hk.same k (Nat.lt_of_lt_of_le hlt h.size) (by omega) (fun h2=>by omega)).trans (h.block k hlt)⟩
theorem C_limbs {A:Option Addr} {n:Nat} {xs:List Int} (h:Kd.C (Kd.int .u32) W A n xs) (hk:∀ (p:Addr) (n:Int),W.cell? p=some (.int .u32 n)->W'.cell? p=some (.int .u32 n)):Kd.C (Kd.int .u32) W' A n xs :=
 ⟨h.1,h.2.1,fun hp=>by
  obtain ⟨ad,e,hc⟩:=h.2.2 hp
  refine ⟨ad,e,fun j p hj=>?_⟩
  obtain ⟨c,hl,hK,hcell⟩:=hc j p hj
  refine ⟨c,hl,hK,fun i u hi=>?_⟩
  have:=hcell i u hi
  obtain rfl:c = [.int .u32 p]:=hK
  cases i with
  | zero =>
   obtain rfl:Value.int .u32 p=u:=by simpa using hi
   exact hk _ _ this
  | succ i=>simp at hi⟩
theorem RV.limbs {u v:Value} {a b:List Int} (h:RV W u v a b) (hk:∀ (p:Addr) (n:Int),W.cell? p=some (.int .u32 n)->W'.cell? p=some (.int .u32 n)):RV W' u v a b:=by
 obtain ⟨⟨A,c,e1,h1,h2⟩,A',c',e3,h3,h4⟩:=h
 exact ⟨⟨A,c,e1,h1,C_limbs h2 hk⟩,A',c',e3,h3,C_limbs h4 hk⟩
theorem limbs_of (h:∀k,k<W.heap.size->¬ NoLimb W k->W'.heap[k]? = W.heap[k]?) (p:Addr) (n:Int) (hp:W.cell? p=some (.int .u32 n)):W'.cell? p=some (.int .u32 n):=by
 have hlt:=World.block_lt_of_cell? W _ hp
 have e:=h p.block hlt (fun hn=>hn p rfl n hp)
 unfold World.cell? at hp ⊢
 rw [e]
 exact hp
theorem noLimb_rt {A1 A2 A3 A4:Option Addr} {n1 n2 n3 n4 c1 c2 c3 c4:Nat} (h:MBlk W gt 81 #[.slice A1 n1 c1,.slice A2 n2 c2,.slice A3 n3 c3,.slice A4 n4 c4]):NoLimb W gt :=
 noLimb_all h (fun i n e=>by
  match i,e with
  | 0,e=>simp at e
  | 1,e=>simp at e
  | 2,e=>simp at e
  | 3,e=>simp at e
  | k+4,e=>simp at e)
theorem RT.put {v:Value} (h:RT W gt base x y A c b0 sv H) (hR:Kd.R k86 86 W base (fun _=>True) v (H'.map rowT)) :
  RT (W.setCell ⟨gt,3,none⟩ v) gt base x y A c b0 sv H'/\KR gt base W (W.setCell ⟨gt,3,none⟩ v):=by
 obtain ⟨u,h1,h2⟩:=h.out
 have h3:=h.row
 obtain ⟨⟨A1,n1,c1,rfl⟩,A2,n2,c2,rfl⟩:=h.shape
 obtain ⟨A3,c3,rfl⟩:=Kd.R_slice h2
 have hn:=noLimb_rt h1
 have hs:∀k,k≠gt->(W.setCell ⟨gt,3,none⟩ v).heap[k]? = W.heap[k]?:=fun k hk=>Below.heap_setCell _ ⟨gt,3,none⟩ _ k hk
 exact ⟨⟨⟨v,mblk_set h1 3 v,Kd.R_set hR h1 (by decide) 3 v⟩,Kd.R_set h3 h1 (by decide) 3 v,⟨_,_,_,rfl⟩,_,_,_,rfl⟩,
  ⟨by simp [World.setCell],by simp [World.setCell],by simp [World.setCell],by simp [World.setCell],fun k _ hk _=>hs k hk,limbs_of (fun k _ hk=>hs k (fun e=>hk (by rw [e];exact hn)))⟩⟩
end
set_option maxRecDepth 100000 in
set_option maxHeartbeats 4000000 in
theorem at_calls (gt base:Nat) (x y:Value) (AS:Option Addr) (cS b0:Nat) (sv:List S71) (H:List Hol) (z:Int) (w:World) (h:RT w gt base x y AS cS b0 sv H) (hl:H.length<=100000) :
  Calls Try.prog 57 #[.pointer (some ⟨gt,0,none⟩),.int .i64 z] w fun e w'=>e=.returned (.int .i64 (atP H z))/\w'=w:=by
 obtain ⟨v,hM,hR⟩:=h.out
 obtain ⟨A,c,rfl,hc,hC⟩:=Kd.R_reads hR
 rw [List.length_map] at hC hc hM hR
 have k2:w.cell? ⟨gt,3,none⟩=some (.slice A H.length c):=(Zg hM 3).trans (by simp)
 have HC:=Zz.mk hC
 clear hM hR hC h
 go_enter Try.func57,Try.ntmps57
 go_wp2_with fail
 go_loopw [5] (fun v5 wr=>∃i:Nat,v5=.int .i64 i/\i<=H.length/\Zz (∀y∈H.take i,y.id≠z)/\w=wr) (fun v5 _=>H.length-(intOf v5).toNat)
 case atStart=>exact ⟨0,rfl,by omega,⟨by simp⟩,by first|rfl|trivial⟩
 case round =>
  obtain ⟨i,rfl,hi,hn,rfl⟩:=hrel
  by_cases hlt:i<H.length
  ·have d1:decide ((i:Int)<(H.length:Int))=true:=decide_eq_true (by omega)
   obtain ⟨ad,e,a0,_⟩:=at_T86 HC.out (i:Int) (by omega) (by omega)
   subst e
   rw [rdT H i hlt,Int.toNat_natCast] at a0
   obtain ⟨q,hq⟩:∃q,q=(H[i]).id:=⟨_,rfl⟩
   have a0':w.cell? (ad.add (i*7))=some (.int .i64 q):=by rw [a0,hq];rfl
   clear a0
   have HQ:=Zz.mk hq
   clear hq
   by_cases he:q=z
   ·have d2:(q == z)=true:=by rw [he];exact beq_self_eq_true _
    have HE:=Zz.mk he
    clear he
    go_wp2_with fail
    refine bodyPost_ret (results_tmp rfl _ _ _) rfl ⟨?_,rfl⟩
    have e1:H=H.take i++H[i]::H.drop (i+1):=by
     rw [List.getElem_cons_drop,List.take_append_drop]
    have e2:atP H z=(i:Int):=by
     rw [e1,at_some (by rw [<-HQ.out,HE.out]) hn.out,List.length_take]
     congr 1
     omega
    rw [e2]
    rfl
   ·have d2:(q == z)=false:=beq_eq_false_iff_ne.2 he
    have HE:=Zz.mk he
    clear he
    go_wp2_with fail
    go_roundw
    case rel =>
     refine ⟨i+1,by simp,by omega,⟨fun y hy=>?_⟩,by first|rfl|trivial⟩
     rw [<-List.take_append_getElem hlt] at hy
     rcases List.mem_append.1 hy with hy|hy
     ·exact hn.out y hy
     ·obtain rfl:=List.mem_singleton.1 hy
      rw [<-HQ.out]
      exact HE.out
    case measure=>simp [intOf];omega
  ·have d1:decide ((i:Int)<(H.length:Int))=false:=decide_eq_false (by omega)
   go_wp2_with fail
   refine bodyPost_ret (results_tmp rfl _ _ _) rfl ⟨?_,rfl⟩
   rw [at_none (fun y hy=>hn.out y (by rw [List.take_of_length_le (by omega)];exact hy))]
   rfl
end Go.Proofs.Ytfldklimlcnnnaa.XRef13
end

section
namespace Go.Proofs.Ytfldklimlcnnnaa.XRPath
open Go.RowKit Go.Shelf PHq YtfldklimlcnnnaaW.PrintWords YtfldklimlcnnnaaW.PrintLast YtfldklimlcnnnaaW.PrintMore MWords
open MNat QNat QEv QRatio XRV XHold XWts XLed XFits XJoin QHold XTree QTree XOf XCollect QTr XTJoin XTKt QRef13 XRef13
theorem int_at {W:World} {A:Option Addr} {n:Nat} {xs:List Int} (h:Kd.C (Kd.int .i64) W A n xs) (i:Nat) (hi:i<n):∃ad,A=some ad/\W.cell? (ad.add i)=some (.int .i64 (xs.getD i 0)):=by
 obtain ⟨ad,c,e,_,hK,hc⟩:=Kd.C_get h 0 (i:Int) (by omega) (by omega)
 have hK':c = [.int .i64 (xs.getD (i:Int).toNat 0)]:=hK
 subst hK'
 have h1:=hc 0 _ rfl
 refine ⟨ad,e,?_⟩
 have e1:(i:Int).toNat*(Kd.int .i64).sz+0=i:=by show (i:Int).toNat*1+0=i;omega
 rw [e1,Int.toNat_natCast] at h1
 exact h1
theorem C_nil (w:World):Kd.C (Kd.int .i64) w none 0 []:=⟨rfl,by decide,fun h=>absurd h (by decide)⟩
theorem path_out {sv:List S71} {s:Int} (h:thereB sv.length s=false):pathT sv s = []:=by unfold pathT;rw [h,if_neg (by decide)]
theorem path_is {sv:List S71} {s:Int} (hs:inR sv.length s):pathT sv s=Z0 sv s:=by unfold pathT;rw [if_pos (there_in.2 hs)]
set_option maxRecDepth 100000 in
set_option maxHeartbeats 4000000 in
theorem rpath_calls (gt base:Nat) (x y:Value) (AS:Option Addr) (cS b0:Nat) (sv:List S71) (H:List Hol) (s:Int) (w:World) (h:RT w gt base x y AS cS b0 sv H) (hG:GoodSv sv) (hn:sv.length<=1000) :
  Calls Try.prog 55 #[.pointer (some ⟨gt,0,none⟩),.int .i64 s] w fun e w'=>∃A c,e=.returned (.slice A (pathT sv s).length c)/\(pathT sv s).length<=c/\Kd.C (Kd.int .i64) w' A (pathT sv s).length (pathT sv s)/\Below w.heap.size w w':=by
 obtain ⟨v,hM,_⟩:=h.out
 have k1:w.cell? ⟨gt,2,none⟩=some (.slice AS sv.length cS):=(Zg hM 2).trans (by simp)
 have HM:=Zz.mk hM
 have HS:=Zz.mk h.row
 have HG:=Zz.mk (And.intro hG hn)
 clear hM h hG
 go_enter Try.func55,Try.ntmps55
 by_cases h0:s < -1
 ·have e0:pathT sv s = []:=path_out (by unfold thereB;simp;omega)
  rw [e0]
  have d0:decide (s < -1)=true:=decide_eq_true h0
  clear h0 e0
  go_wp2_with fail
  first
   | exact bodyPost_ret (results_tmp rfl _ _ _) rfl ⟨none,0,rfl,Nat.le_refl _,C_nil _,Below.refl _ _⟩
   | exact bodyPost_ret (results_tmp rfl _ _ _) rfl ⟨none,⟨0,rfl⟩,C_nil _,Below.refl _ _⟩
 by_cases h1:(sv.length:Int)<=s
 ·have e0:pathT sv s = []:=path_out (by unfold thereB;simp;omega)
  rw [e0]
  have d0:decide (s < -1)=false:=decide_eq_false h0
  have d1:decide (s ≥ (sv.length:Int))=true:=decide_eq_true h1
  have d2:decide ((sv.length:Int)<=s)=true:=decide_eq_true h1
  clear e0
  go_wp2_with fail
  first
   | exact bodyPost_ret (results_tmp rfl _ _ _) rfl ⟨none,0,rfl,Nat.le_refl _,C_nil _,Below.refl _ _⟩
   | exact bodyPost_ret (results_tmp rfl _ _ _) rfl ⟨none,⟨0,rfl⟩,C_nil _,Below.refl _ _⟩
 have hsR:inR sv.length s:=⟨by omega,by omega⟩
 rw [path_is hsR]
 have d0:decide (s < -1)=false:=decide_eq_false h0
 have d1:decide (s ≥ (sv.length:Int))=false:=decide_eq_false h1
 have d2:decide ((sv.length:Int)<=s)=false:=decide_eq_false h1
 have HSR:=Zz.mk hsR
 clear hsR
 go_upto_region 4 with fail
 clear h0 h1 d0 d1 d2 k1
 go_wp2_with fail
 go_loopw [5,6] (fun v5 v6 wr=>∃ (A:Option Addr) (c:Nat) (out:List Int) (t:Int),v5=.slice A out.length c/\v6=.int .i64 t/\Zz (Kd.R (Kd.int .i64) 3 wr w.heap.size (fun _=>True) (.slice A out.length c) out)/\Zz (out++Z0 sv t=Z0 sv s)/\Zz (inR sv.length t)/\Zz (Below w.heap.size w wr)) (fun _ v6 _=>(intOf v6+1).toNat)
 case atStart=>exact ⟨none,0,[],s,rfl,rfl,⟨Kd.R_nil _ _ _ _ _⟩,⟨rfl⟩,HSR,⟨Below.refl _ _⟩⟩
 case round =>
  obtain ⟨A,c,out,t,rfl,rfl,HR,HO,HT,HB⟩:=hrel
  have HL:=Zz.mk (show out.length<=1001 by
   have h1:=path_len HG.out.1 s HSR.out
   have h2:=congrArg List.length HO.out
   rw [List.length_append] at h2
   have h3:=HG.out.2
   omega)
  by_cases ht:0<=t
  ·have ht2:=HT.out.2
   have d1:decide (t ≥ 0)=true:=decide_eq_true ht
   have d2:decide (0<=t)=true:=decide_eq_true ht
   obtain ⟨ad3,hA3,_⟩:=at_T71 (Kd.R_reads' HS.out).2.2 t ht ht2
   have HSL:=Zz.mk (Kd.R_reads' HS.out).2.1
   obtain ⟨pk,hpk⟩:∃pk,pk=par sv t:=⟨_,rfl⟩
   have HPK:=Zz.mk hpk
   have HN:=Zz.mk (show out++[t]++Z0 sv pk=Z0 sv s by rw [hpk,<-path_on HG.out.1 ht ht2];exact HO.out)
   have HPR:=Zz.mk (show -1<=pk/\pk<t by rw [hpk];exact HG.out.1 t ht ht2)
   have HC:Zz (∀w2:World,Below w.heap.size w w2->w2.cell? (ad3.add (t.toNat*3))=some (.int .i64 pk)):=⟨fun w2 hb=>by
    obtain ⟨ad4,hA4,z4,_⟩:=at_T71 (Kd.C_below (Kd.R_reads' HS.out).2.2 hb) t ht ht2
    obtain rfl:ad3=ad4:=by rw [hA3] at hA4;exact Option.some.inj hA4
    rw [z4,HPK.out]
    rfl⟩
   clear hpk
   go_wp2_with ((with_reducible refine gate_builtin (b:=.append) (xs:=#[.tmp 29,.tmp 31]) rfl ?_);at_builtin;refine Kd.R_append (Kd.int .i64) (w0:=w) w.heap.size rfl (.tmp 29) (.tmp 31) 22 3 (.int .i64 0) 8 rfl Try.underlying22 infoInt rfl (by decide) (by omega) (.slice A out.length c) out t [.int .i64 t] (fun _=>True) (fun _=>False) ?aV ?aX ?aP (fun _ hk=>hk.elim) (fun _ _=>trivial) HR.out HB.out ?aS ?aL ?_;(case aV=>rfl);(case aX=>rfl);(case aP=>rfl);(case aS=>exact HB.out.size);(case aL=>have:=HL.out;omega);intro v1 w2 ho hb hg hat;have HO2:=Zz.mk ho;have HB2:=Zz.mk hb;have k1:w2.cell? ⟨gt,2,none⟩=some (.slice AS sv.length cS):=(Zg ((hb.block _ (Zn HM.out)).trans HM.out) 2).trans (by simp);have z1:=HC.out w2 hb;clear ho hb hg hat)
   obtain ⟨A2,c2,rfl⟩:=Kd.R_slice HO2.out
   rw [<-hA3]
   go_roundw
   case rel=>exact ⟨A2,c2,out++[t],pk,rfl,rfl,HO2,HN,⟨HPR.out.1,by have:=HPR.out.2;omega⟩,HB2⟩
   case measure=>have:=HPR.out;simp [intOf];omega
  ·have ht1:t = -1:=by have:=HT.out.1;omega
   subst ht1
   have HN:=Zz.mk (show out++[-1]=Z0 sv s from HO.out)
   clear ht
   go_wp2_with ((with_reducible refine gate_builtin (b:=.append) (xs:=#[.tmp 33,.tmp 34]) rfl ?_);at_builtin;refine Kd.R_append (Kd.int .i64) (w0:=w) w.heap.size rfl (.tmp 33) (.tmp 34) 22 3 (.int .i64 0) 8 rfl Try.underlying22 infoInt rfl (by decide) (by omega) (.slice A out.length c) out (-1) [.int .i64 (-1)] (fun _=>True) (fun _=>False) ?aV ?aX ?aP (fun _ hk=>hk.elim) (fun _ _=>trivial) HR.out HB.out ?aS ?aL ?_;(case aV=>rfl);(case aX=>rfl);(case aP=>rfl);(case aS=>exact HB.out.size);(case aL=>have:=HL.out;omega);intro v1 w2 ho hb hg hat;have HO2:=Zz.mk ho;have HB2:=Zz.mk hb;clear ho hb hg hat)
   have h2:=HO2.out
   rw [HN.out] at h2
   obtain ⟨A2,c2,rfl⟩:=Kd.R_slice h2
   exact bodyPost_ret (results_tmp rfl _ _ _) rfl ⟨A2,c2,rfl,(Kd.R_reads' h2).2.1,(Kd.R_reads' h2).2.2,HB2.out⟩
set_option maxRecDepth 100000 in
set_option maxHeartbeats 4000000 in
theorem ron_calls (gt base:Nat) (x y:Value) (AS:Option Addr) (cS b0:Nat) (sv:List S71) (H:List Hol) (q s:Int) (w:World) (h:RT w gt base x y AS cS b0 sv H) (hG:GoodSv sv) (hn:sv.length<=1000) :
  Calls Try.prog 115 #[.pointer (some ⟨gt,0,none⟩),.int .i64 q,.int .i64 s] w fun e w'=>e=.returned (.bool (decide (q∈pathT sv s)))/\Below w.heap.size w w':=by
 have HR:=Zz.mk (And.intro h (And.intro hG hn))
 clear h hG hn
 go_enter Try.func115,Try.ntmps115
 go_upto_region 2 with (go_at_call 55;refine (rpath_calls gt base x y AS cS b0 sv H s _ HR.out.1 HR.out.2.1 HR.out.2.2).mono ?_;rintro e w1 ⟨A,c,rfl,hl,hC,hb⟩;have HC1:=Zz.mk (And.intro hl hC);have HB1:=Zz.mk hb;clear hl hC hb)
 obtain ⟨p,hp⟩:∃p,p=pathT sv s:=⟨_,rfl⟩
 rw [<-hp] at HC1 ⊢
 have HP:=Zz.mk hp
 have hpl:p.length<=1001:=by
  rw [hp]
  cases ht:thereB sv.length s with
  | false=>rw [path_out ht];exact Nat.zero_le _
  | true =>
   have h1:=path_len HR.out.2.1 s (there_in.1 ht)
   rw [path_is (there_in.1 ht)]
   have:=HR.out.2.2
   omega
 clear hp
 go_wp2_with fail
 go_loopw [8] (fun v8 wr=>∃i:Nat,v8=.int .i64 i/\i<=p.length/\Zz (∀j:Nat,j<i->p.getD j 0≠q)/\wr=w1) (fun v _=>(p.length-intOf v).toNat)
 case atStart=>exact ⟨0,rfl,by omega,⟨fun j hj=>absurd hj (by omega)⟩,by first|rfl|trivial⟩
 case round =>
  obtain ⟨i,rfl,hi,HN,hw⟩:=hrel
  subst hw
  by_cases hlt:i<p.length
  ·obtain ⟨ad,e,z0⟩:=int_at HC1.out.2 i hlt
   subst e
   have HCL:=Zz.mk HC1.out.1
   obtain ⟨t,ht⟩:∃t,t=p.getD i 0:=⟨_,rfl⟩
   rw [<-ht] at z0
   have d1:decide ((i:Int)<(p.length:Int))=true:=decide_eq_true (by omega)
   have f1:(0:Int)<=(i:Int):=by omega
   have f2:(i:Int)<(p.length:Int):=by omega
   have HT:=Zz.mk ht
   have HLT:=Zz.mk hlt
   by_cases he:t=q
   ·have d2:(t == q)=true:=by rw [he];exact beq_self_eq_true _
    have HM:=Zz.mk (show decide (q∈pathT sv s)=true from decide_eq_true (by rw [<-HP.out,<-he,ht,List.getD_eq_getElem?_getD,List.getElem?_eq_getElem hlt];exact List.getElem_mem hlt))
    clear he ht hlt hi
    go_wp2_with fail
    exact bodyPost_ret (results_tmp rfl _ _ _) rfl ⟨by rw [HM.out];rfl,HB1.out⟩
   ·have d2:(t == q)=false:=beq_eq_false_iff_ne.2 he
    have HE:=Zz.mk he
    clear he ht
    go_wp2_with fail
    go_roundw
    case rel =>
     refine ⟨i+1,by simp,by omega,⟨fun j hj=>?_⟩,by first|rfl|trivial⟩
     by_cases hji:j=i
     ·rw [hji,<-HT.out];exact HE.out
     ·exact HN.out j (by omega)
    case measure=>simp [intOf];omega
  ·have d1:decide ((i:Int)<(p.length:Int))=false:=decide_eq_false (by omega)
   have d2:¬ ((i:Int)<(p.length:Int)):=by omega
   have HM:=Zz.mk (show decide (q∈pathT sv s)=false from decide_eq_false (fun hm=>by
    rw [<-HP.out] at hm
    obtain ⟨j,hj,e⟩:=List.getElem_of_mem hm
    refine HN.out j (by omega) ?_
    rw [List.getD_eq_getElem?_getD,List.getElem?_eq_getElem hj]
    exact e))
   go_wp2_with fail
   exact bodyPost_ret (results_tmp rfl _ _ _) rfl ⟨by rw [HM.out];rfl,HB1.out⟩
end Go.Proofs.Ytfldklimlcnnnaa.XRPath
end

section
namespace Go.Proofs.Ytfldklimlcnnnaa.XRHeld
open Go.RowKit Go.Shelf PHq YtfldklimlcnnnaaW.PrintWords YtfldklimlcnnnaaW.PrintLast YtfldklimlcnnnaaW.PrintMore MWords
open MNat QNat QEv QRatio XRV XHold XWts XLed XFits XJoin QHold XTree QTree XOf XCollect XTHeld QTr XTJoin XTKt QRef13 XRef13 XRPath
theorem rsum_rv {k:Nat} {W:World} {A:Option Addr} {c:Nat} {l:List S34} {r1 r2:List Int} (h:l.length<=c/\Kd.C k34 W A l.length l) (hf:r03_Sum.f k l=some (r1,r2)) :
  Calls Try.prog 79 #[.slice A l.length c] W fun e w'=>∃p q:Value,e=.returned (.agg #[p,q])/\RV w' p q r1 r2/\Below W.heap.size W w' :=
 (r03_Sum.calls k A c l r1 r2 W h.2 h.1 hf).mono fun e w' ⟨p,q,he,h1,h2,hb⟩=>⟨p,q,he,RV.ofR h1 h2,hb⟩
theorem row_at {W:World} {A:Option Addr} {n:Nat} {l:List Hol} (h:Kd.C k86 W A n (l.map rowT)) (i:Nat) (hi:i<l.length) (hn:i<n):∃ad,A=some ad/\W.cell? (ad.add (i*7))=some (.int .i64 (l[i]).id)/\W.cell? ⟨(ad.add (i*7)).block,(ad.add (i*7)).off+1,none⟩=some (.int .i64 (l[i]).srv)/\W.cell? ⟨(ad.add (i*7)).block,(ad.add (i*7)).off+2,none⟩=some (.int .i64 (l[i]).hd.e)/\W.cell? ⟨(ad.add (i*7)).block,(ad.add (i*7)).off+3,none⟩=some (.int .i64 (l[i]).hd.p)/\W.cell? ⟨(ad.add (i*7)).block,(ad.add (i*7)).off+4,none⟩=some (.int .i64 (l[i]).hd.e2)/\W.cell? ⟨(ad.add (i*7)).block,(ad.add (i*7)).off+5,none⟩=some (.int .i64 (l[i]).hd.p2)/\W.cell? ⟨(ad.add (i*7)).block,(ad.add (i*7)).off+6,none⟩=some (.bool (l[i]).hd.a):=by
 obtain ⟨ad,e,a0,a1,a2,a3,a4,a5,a6⟩:=at_T86 h (i:Int) (by omega) (by omega)
 rw [rdT l i hi] at a0 a1 a2 a3 a4 a5 a6
 rw [Int.toNat_natCast] at a0 a1 a2 a3 a4 a5 a6
 exact ⟨ad,e,a0,a1,a2,a3,a4,a5,a6⟩
set_option maxRecDepth 100000 in
set_option maxHeartbeats 4000000 in
theorem rheld_calls (gt base:Nat) (x y:Value) (AS:Option Addr) (cS b0:Nat) (sv:List S71) (H:List Hol) (q:Int) (A:Option Addr) (c:Nat) (l:List Hol) (ln le:List Int) (k:Nat) (w:World) (h:RT w gt base x y AS cS b0 sv H) (hG:GoodSv sv) (hn:sv.length<=1000) (hC:Kd.C k86 w A l.length (l.map rowT)) (hc:l.length<=c) (hl:l.length<=500) (ho:∀x∈l,OkHol x) (hs:∀x∈l,inR sv.length x.srv) (hk:r03_Sum.f k (wsH sv l q)=some (ln,le)) :
  Calls Try.prog 96 #[.pointer (some ⟨gt,0,none⟩),.int .i64 q,.slice A l.length c] w fun e' w'=>∃p p':Value,e'=.returned (.agg #[p,p'])/\RV w' p p' ln le/\Below w.heap.size w w':=by
 obtain ⟨W0,hW0⟩:∃W0,W0=w.alloc (.cells #[.slice none 0 0,.slice none 0 0] 28):=⟨_,rfl⟩
 have hb0:Below w.heap.size w W0:=by rw [hW0];exact Zb (Below.refl _ _) _
 have HB0:=Zz.mk hb0
 have HR0:=Zz.mk (show MBlk W0 w.heap.size 28 #[.slice none 0 0,.slice none 0 0] by rw [hW0];exact Zo _ _ _)
 have HT0:=Zz.mk (And.intro (h.below hb0) (And.intro hG hn))
 have HC0:=Zz.mk (And.intro (Kd.C_below hC hb0) hc)
 have HH:=Zz.mk (And.intro hl (And.intro ho (And.intro hs hk)))
 have hl5:l.length<=500:=hl
 clear hC hc h hb0 hl ho hs hk hG hn
 go_enter Try.func96,Try.ntmps96
 go_upto_region 1 with fail
 rw [<-hW0]
 clear hW0
 go_wp2_with fail
 go_loopw [7,8] (fun v7 v8 wr=>∃ (A7:Option Addr) (c7 i:Nat) (ws:List S34),v7=.slice A7 ws.length c7/\v8=.int .i64 i/\i<=l.length/\Zz (ws=wsH sv (l.take i) q)/\Zz (Kd.R k34 34 wr W0.heap.size (fun _=>True) (.slice A7 ws.length c7) ws)/\Zz (Below W0.heap.size W0 wr)) (fun _ v _=>l.length-(intOf v).toNat)
 case atStart=>exact ⟨none,0,0,[],rfl,rfl,by omega,⟨rfl⟩,⟨Kd.R_nil _ _ _ _ _⟩,⟨Below.refl _ _⟩⟩
 case round =>
  obtain ⟨A7,c7,i,ws,rfl,rfl,hi,HW,HR,HB⟩:=hrel
  by_cases hlt:i<l.length
  ·have d1:decide ((i:Int)<(l.length:Int))=true:=decide_eq_true (by omega)
   have hlx:l[i]∈l:=List.getElem_mem hlt
   have HOK:=Zz.mk (And.intro (HH.out.2.1 _ hlx) (HH.out.2.2.1 _ hlx))
   have HTK:=Zz.mk (wsH_take sv l q i hlt)
   have HF:=Zz.mk (holds_f l[i] HOK.out.1)
   have HRA:=Zz.mk (show ∀w2:World,Below W0.heap.size W0 w2->∃ad,A=some ad/\w2.cell? (ad.add (i*7))=some (.int .i64 (l[i]).id)/\w2.cell? ⟨(ad.add (i*7)).block,(ad.add (i*7)).off+1,none⟩=some (.int .i64 (l[i]).srv)/\w2.cell? ⟨(ad.add (i*7)).block,(ad.add (i*7)).off+2,none⟩=some (.int .i64 (l[i]).hd.e)/\w2.cell? ⟨(ad.add (i*7)).block,(ad.add (i*7)).off+3,none⟩=some (.int .i64 (l[i]).hd.p)/\w2.cell? ⟨(ad.add (i*7)).block,(ad.add (i*7)).off+4,none⟩=some (.int .i64 (l[i]).hd.e2)/\w2.cell? ⟨(ad.add (i*7)).block,(ad.add (i*7)).off+5,none⟩=some (.int .i64 (l[i]).hd.p2)/\w2.cell? ⟨(ad.add (i*7)).block,(ad.add (i*7)).off+6,none⟩=some (.bool (l[i]).hd.a) from fun w2 hb=>row_at (Kd.C_below HC0.out.1 hb) i hlt hlt)
   obtain ⟨o,ho⟩:∃o,o=l[i]:=⟨_,rfl⟩
   rw [<-ho] at HOK HTK HF HRA
   have HOE:=Zz.mk (show decide (q∈pathT sv o.srv)=onB sv q o by unfold onB;rw [path_is HOK.out.2])
   clear ho hlx
   obtain ⟨B,hB⟩:∃B,B=onB sv q o:=⟨_,rfl⟩
   rw [<-hB] at HOE HTK
   clear hB
   obtain ⟨ad,e,a0,a1,_⟩:=HRA.out wr HB.out
   subst e
   have HCL:=Zz.mk HC0.out.2
   have f1:(0:Int)<=(i:Int):=by omega
   have f2:(i:Int)<(l.length:Int):=by omega
   cases B with
   | false =>
    have HLT:=Zz.mk hlt
    go_wp2_with (go_at_call 115;refine (ron_calls gt base x y AS cS b0 sv H q o.srv _ (HT0.out.1.below HB.out) HT0.out.2.1 HT0.out.2.2).mono ?_;rw [HOE.out];rintro e w3 ⟨rfl,hb⟩;have HB3:=Zz.mk hb;clear hb)
    go_roundw
    case rel=>exact ⟨A7,c7,i+1,ws,rfl,by simp,by omega,⟨by rw [HTK.out,if_neg (by decide)];exact HW.out⟩,⟨Kd.R_below HR.out HB3.out⟩,⟨Zi HB.out HB3.out⟩⟩
    case measure=>simp [intOf];omega
   | true =>
    have HLT:=Zz.mk hlt
    have HWL:=Zz.mk (show (ws.length+1)*16<=140737488355328 by
     have h1:=wsH_len sv (l.take i) q
     rw [<-HW.out,List.length_take] at h1
     omega)
    go_upto_region 6 with (go_at_call 115;refine (ron_calls gt base x y AS cS b0 sv H q o.srv _ (HT0.out.1.below HB.out) HT0.out.2.1 HT0.out.2.2).mono ?_;rw [HOE.out];rintro e w3 ⟨rfl,hb⟩;have HB3:=Zz.mk (Zi HB.out hb);have HR3:=Zz.mk (Kd.R_below HR.out hb);clear hb)
    obtain ⟨ad',e',b0',b1,b2,b3,b4,b5,b6⟩:=HRA.out w3 HB3.out
    obtain rfl:ad=ad':=Option.some.inj e'
    clear a0 a1 e'
    go_wp2_with (first
     | (go_at_call 116;refine (r13_holds.calls _ _ _ _ _ _ _ _ _ _ HF.out).mono ?_;rintro e w4 ⟨rfl,hb⟩;have HB4:=Zz.mk (Zi HB3.out hb);have HR4:=Zz.mk (Kd.R_below HR3.out hb);clear hb)
     | ((with_reducible refine gate_builtin (b:=.append) (xs:=#[.tmp 23,.tmp 29]) rfl ?_);at_builtin;refine Kd.R_append k34 (w0:=W0) W0.heap.size rfl (.tmp 23) (.tmp 29) 112 34 (.agg #[.int .i64 0,.int .i64 0]) 16 rfl Try.underlying112 info34 rfl (by decide) (by omega) (.slice A7 ws.length c7) ws (hv o.hd) [.int .i64 (hv o.hd).f0,.int .i64 (hv o.hd).f1] (fun _=>True) (fun _=>False) ?aV ?aX (k34_mkM _ _ _ _) (fun _ hk=>hk.elim) (fun _ _=>trivial) HR4.out HB4.out ?aS HWL.out ?_;(case aV=>rfl);(case aX=>rfl);(case aS=>exact HB4.out.size);intro v1 w5 ho hb hg hat;have HO5:=Zz.mk ho;have HB5:=Zz.mk hb;clear ho hb hg hat))
    obtain ⟨A2,c2,rfl⟩:=Kd.R_slice HO5.out
    go_roundw
    case rel=>exact ⟨A2,c2,i+1,ws++[hv o.hd],rfl,by simp,by omega,⟨by rw [HTK.out,HW.out];exact (if_pos trivial).symm⟩,HO5,HB5⟩
    case measure=>simp [intOf];omega
  ·have d1:decide ((i:Int)<(l.length:Int))=false:=decide_eq_false (by omega)
   have d2:¬ ((i:Int)<(l.length:Int)):=by omega
   have HWS:=Zz.mk (show ws=wsH sv l q by rw [HW.out,List.take_of_length_le (by omega)])
   have H1:=Zz.mk (Kd.R_reads' HR.out).2
   clear hlt hi
   go_wp2_with (go_at_call 79;refine (rsum_rv H1.out (show r03_Sum.f k ws=some (ln,le) by rw [HWS.out];exact HH.out.2.2.2)).mono ?_;rintro e2 w2 ⟨p,p',rfl,h2,hb⟩;obtain ⟨P1,p1,P2,p2,rfl,rfl⟩:=h2.shape;have HB2:=Zz.mk (Zi HB.out hb);have HR2:=Zz.mk ((HB2.out.block _ (Zn HR0.out)).trans HR0.out);have H2:=Zz.mk h2;have z0:w2.cell? ⟨w.heap.size,0,none⟩=some (.slice none 0 0):=(Zg HR2.out 0).trans rfl;have z1:w2.cell? ⟨w.heap.size,1,none⟩=some (.slice none 0 0):=(Zg HR2.out 1).trans rfl;have r0:=Zq HR2.out 0;have r1:=Zq HR2.out 1;clear h2 hb)
   obtain ⟨w5,hw5⟩:∃w5,w5=(w2.setCell ⟨w.heap.size,0,none⟩ (.slice P1 ln.length p1)).setCell ⟨w.heap.size,1,none⟩ (.slice P2 le.length p2):=⟨_,rfl⟩
   have HQ:=rat_put HR2.out H2.out (Zi HB0.out HB2.out) (Nat.le_refl _)
   rw [<-hw5] at HQ
   rw [<-hw5]
   have e0:w5.cell? ⟨w.heap.size,0,none⟩=some (.slice P1 ln.length p1):=(Zg HQ.1 0).trans rfl
   have e1:w5.cell? ⟨w.heap.size,1,none⟩=some (.slice P2 le.length p2):=(Zg HQ.1 1).trans rfl
   exact bodyPost_ret (v:=.agg #[.slice P1 ln.length p1,.slice P2 le.length p2]) (by simp [results,Try.results96,go_sem,e0,e1]) rfl ⟨_,_,rfl,HQ.2.1,HQ.2.2⟩
end Go.Proofs.Ytfldklimlcnnnaa.XRHeld
end

section
namespace Go.Proofs.Ytfldklimlcnnnaa.XRFit
open Go.RowKit Go.Shelf PHq YtfldklimlcnnnaaW.PrintWords YtfldklimlcnnnaaW.PrintLast YtfldklimlcnnnaaW.PrintMore MWords
open MNat QNat QEv QRatio XRV XHold XWts XLed XFits XJoin QHold XOp XTree QTree XOf XCollect XTHeld QTr XTJoin XTNew2 XTMade QTChk QServ XTKt XQOp QRef13 XRef13 XRPath XRHeld
theorem cmp_gt {p q:Rat} : cmpR p q>0 ↔ ¬ p<=q:=by
 unfold cmpR
 by_cases h1:p<q
 ·rw [if_pos h1]
  constructor
  ·intro h;exact absurd h (by decide)
  ·intro h;exact absurd (by grind) h
 ·rw [if_neg h1]
  by_cases h2:p=q
  ·rw [if_pos h2]
   constructor
   ·intro h;exact absurd h (by decide)
   ·intro h;exact absurd (by grind) h
  ·rw [if_neg h2]
   constructor
   ·intro _ h;grind
   ·intro _;decide
def wsA (sv:List S71) (H:List Hol) (s:Int):List S34:=if thereB sv.length s=true then wsH sv H s else []
theorem wsA_sum (sv:List S71) (H:List Hol) (s:Int):sumR (wsA sv H s)=heldA sv H s:=by
 unfold wsA heldA
 cases thereB sv.length s with
 | false=>rfl
 | true=>rw [if_pos rfl,if_pos rfl];exact wsH_sum sv H s
theorem wsA_ok {sv:List S71} {H:List Hol} (ho:∀x∈H,OkHol x) (s:Int):∀y∈wsA sv H s,okW y:=fun y hy=>by
 unfold wsA at hy
 split at hy
 ·exact wsH_ok ho s y hy
 ·simp at hy
theorem wsA_len (sv:List S71) (H:List Hol) (s:Int):(wsA sv H s).length<=H.length:=by
 unfold wsA
 split
 ·exact wsH_len sv H s
 ·exact Nat.zero_le _
set_option maxRecDepth 100000 in
set_option maxHeartbeats 4000000 in
theorem rHeld_calls (gt base:Nat) (x y:Value) (AS:Option Addr) (cS b0:Nat) (sv:List S71) (H:List Hol) (q:Int) (ln le:List Int) (k:Nat) (w:World) (h:RT w gt base x y AS cS b0 sv H) (hG:GoodSv sv) (hn:sv.length<=1000) (hl:H.length<=500) (ho:∀x∈H,OkHol x) (hs:∀x∈H,inR sv.length x.srv) (hk:r03_Sum.f k (wsA sv H q)=some (ln,le)) :
  Calls Try.prog 59 #[.pointer (some ⟨gt,0,none⟩),.int .i64 q] w fun e' w'=>∃p p':Value,e'=.returned (.agg #[p,p'])/\RV w' p p' ln le/\Below w.heap.size w w':=by
 obtain ⟨v,hM,hR⟩:=h.out
 obtain ⟨A,c,rfl,hc,hC⟩:=Kd.R_reads hR
 rw [List.length_map] at hC hc hM hR
 obtain ⟨W0,hW0⟩:∃W0,W0=w.alloc (.cells #[.slice none 0 0,.slice none 0 0] 28):=⟨_,rfl⟩
 have hb0:Below w.heap.size w W0:=by rw [hW0];exact Zb (Below.refl _ _) _
 have HB0:=Zz.mk hb0
 have HR0:=Zz.mk (show MBlk W0 w.heap.size 28 #[.slice none 0 0,.slice none 0 0] by rw [hW0];exact Zo _ _ _)
 have HT0:=Zz.mk (And.intro (h.below hb0) (And.intro hG hn))
 have HC0:=Zz.mk (And.intro (Kd.C_below hC hb0) hc)
 have HH:=Zz.mk (And.intro hl (And.intro ho (And.intro hs hk)))
 have hM0:MBlk W0 gt 81 _:=(hb0.block _ (Zn hM)).trans hM
 have k1:W0.cell? ⟨gt,2,none⟩=some (.slice AS sv.length cS):=(Zg hM0 2).trans (by simp)
 have k2:W0.cell? ⟨gt,3,none⟩=some (.slice A H.length c):=(Zg hM0 3).trans (by simp)
 clear hM hR hC hc h hb0 hl ho hs hk hG hn hM0
 go_enter Try.func59,Try.ntmps59
 go_upto_region 1 with fail
 rw [<-hW0]
 clear hW0
 have HEND:Zz (∀ (w2:World) (P1 P2:Option Addr) (p1 p2:Nat),Below W0.heap.size W0 w2->RV w2 (.slice P1 ln.length p1) (.slice P2 le.length p2) ln le->MBlk ((w2.setCell ⟨w.heap.size,0,none⟩ (.slice P1 ln.length p1)).setCell ⟨w.heap.size,1,none⟩ (.slice P2 le.length p2)) w.heap.size 28 #[.slice P1 ln.length p1,.slice P2 le.length p2]/\RV ((w2.setCell ⟨w.heap.size,0,none⟩ (.slice P1 ln.length p1)).setCell ⟨w.heap.size,1,none⟩ (.slice P2 le.length p2)) (.slice P1 ln.length p1) (.slice P2 le.length p2) ln le/\Below w.heap.size w ((w2.setCell ⟨w.heap.size,0,none⟩ (.slice P1 ln.length p1)).setCell ⟨w.heap.size,1,none⟩ (.slice P2 le.length p2))):=⟨fun w2 P1 P2 p1 p2 hb hv=>rat_put ((hb.block _ (Zn HR0.out)).trans HR0.out) hv (Zi HB0.out hb) (Nat.le_refl _)⟩
 cases ht:thereB sv.length q with
 | true =>
  have hq:=there_in.1 ht
  have HK:=Zz.mk (show r03_Sum.f k (wsH sv H q)=some (ln,le) by have h1:=HH.out.2.2.2;unfold wsA at h1;rw [ht,if_pos rfl] at h1;exact h1)
  have d0:decide (q < -1)=false:=decide_eq_false (by have:=hq.1;omega)
  have d1:decide (q ≥ (sv.length:Int))=false:=decide_eq_false (by have:=hq.2;omega)
  have d2:decide ((sv.length:Int)<=q)=false:=decide_eq_false (by have:=hq.2;omega)
  have e0:¬ q < -1:=by have:=hq.1;omega
  have e1:¬ (sv.length:Int)<=q:=by have:=hq.2;omega
  clear ht hq
  go_wp2_with (go_at_call 96;refine (rheld_calls gt base x y AS cS b0 sv H q A c H ln le k _ HT0.out.1 HT0.out.2.1 HT0.out.2.2 HC0.out.1 HC0.out.2 HH.out.1 HH.out.2.1 HH.out.2.2.1 ?hk).mono ?_;(case hk=>exact HK.out);rintro e2 w2 ⟨p,p',rfl,h2,hb⟩;obtain ⟨P1,p1,P2,p2,rfl,rfl⟩:=h2.shape;have HB2:=Zz.mk hb;have HR2:=Zz.mk ((HB2.out.block _ (Zn HR0.out)).trans HR0.out);have H2:=Zz.mk h2;have z0:w2.cell? ⟨w.heap.size,0,none⟩=some (.slice none 0 0):=(Zg HR2.out 0).trans rfl;have z1:w2.cell? ⟨w.heap.size,1,none⟩=some (.slice none 0 0):=(Zg HR2.out 1).trans rfl;have r0:=Zq HR2.out 0;have r1:=Zq HR2.out 1;clear h2 hb)
  have HQ:=HEND.out w2 P1 P2 p1 p2 HB2.out H2.out
  obtain ⟨w5,hw5⟩:∃w5,w5=(w2.setCell ⟨w.heap.size,0,none⟩ (.slice P1 ln.length p1)).setCell ⟨w.heap.size,1,none⟩ (.slice P2 le.length p2):=⟨_,rfl⟩
  rw [<-hw5] at HQ
  rw [<-hw5]
  have e0:w5.cell? ⟨w.heap.size,0,none⟩=some (.slice P1 ln.length p1):=(Zg HQ.1 0).trans rfl
  have e1:w5.cell? ⟨w.heap.size,1,none⟩=some (.slice P2 le.length p2):=(Zg HQ.1 1).trans rfl
  exact bodyPost_ret (v:=.agg #[.slice P1 ln.length p1,.slice P2 le.length p2]) (by simp [results,Try.results59,go_sem,e0,e1]) rfl ⟨_,_,rfl,HQ.2.1,HQ.2.2⟩
 | false =>
  have HK:=Zz.mk (show r03_Sum.f k ([]:List S34)=some (ln,le) by have h1:=HH.out.2.2.2;unfold wsA at h1;rw [ht,if_neg (by decide)] at h1;exact h1)
  have HD:Zz (decide (q < -1)=true∨(decide (q < -1)=false/\decide (q ≥ (sv.length:Int))=true/\decide ((sv.length:Int)<=q)=true)):=⟨by
   unfold thereB at ht
   simp at ht
   by_cases h0:q < -1
   ·exact .inl (decide_eq_true h0)
   ·have h1:(sv.length:Int)<=q:=by omega
    exact .inr ⟨decide_eq_false h0,decide_eq_true h1,decide_eq_true h1⟩⟩
  clear ht
  rcases HD.out with d0|⟨d0,d1,d2⟩
  all_goals
   go_wp2_with (go_at_call 79;refine (rsum_rv (A:=none) (c:=0) (l:=[]) ⟨Nat.le_refl _,Kd.C_nil _ _⟩ HK.out).mono ?_;rintro e2 w2 ⟨p,p',rfl,h2,hb⟩;obtain ⟨P1,p1,P2,p2,rfl,rfl⟩:=h2.shape;have HB2:=Zz.mk hb;have HR2:=Zz.mk ((HB2.out.block _ (Zn HR0.out)).trans HR0.out);have H2:=Zz.mk h2;have z0:w2.cell? ⟨w.heap.size,0,none⟩=some (.slice none 0 0):=(Zg HR2.out 0).trans rfl;have z1:w2.cell? ⟨w.heap.size,1,none⟩=some (.slice none 0 0):=(Zg HR2.out 1).trans rfl;have r0:=Zq HR2.out 0;have r1:=Zq HR2.out 1;clear h2 hb)
   have HQ:=HEND.out w2 P1 P2 p1 p2 HB2.out H2.out
   obtain ⟨w5,hw5⟩:∃w5,w5=(w2.setCell ⟨w.heap.size,0,none⟩ (.slice P1 ln.length p1)).setCell ⟨w.heap.size,1,none⟩ (.slice P2 le.length p2):=⟨_,rfl⟩
   rw [<-hw5] at HQ
   rw [<-hw5]
   have e0:w5.cell? ⟨w.heap.size,0,none⟩=some (.slice P1 ln.length p1):=(Zg HQ.1 0).trans rfl
   have e1:w5.cell? ⟨w.heap.size,1,none⟩=some (.slice P2 le.length p2):=(Zg HQ.1 1).trans rfl
   exact bodyPost_ret (v:=.agg #[.slice P1 ln.length p1,.slice P2 le.length p2]) (by simp [results,Try.results59,go_sem,e0,e1]) rfl ⟨_,_,rfl,HQ.2.1,HQ.2.2⟩
end Go.Proofs.Ytfldklimlcnnnaa.XRFit
end

section
namespace Go.Proofs.Ytfldklimlcnnnaa.XRFitt
open Go.RowKit Go.Shelf PHq YtfldklimlcnnnaaW.PrintWords YtfldklimlcnnnaaW.PrintLast YtfldklimlcnnnaaW.PrintMore MWords
open MNat QNat QEv QRatio XRV XHold XWts XLed XFits XJoin XAwake QHold XOp XTree QTree XOf XCollect XTHeld QTr XTJoin XTNew2 XTMade QTChk XTKt XQOp QRef13 XRef13 XRPath XRHeld XRFit
theorem cell_lt {W:World} {a:Addr} {v:Value} (hc:W.cell? a=some v):a.block<W.heap.size:=by
 unfold World.cell? at hc
 cases e:W.heap[a.block]? with
 | none=>rw [e] at hc;cases hc
 | some o=>exact (Array.getElem?_eq_some_iff.1 e).1
theorem keep_cell {W W':World} {a:Addr} {v:Value} (hs:∀k,k<W.heap.size->W'.heap[k]? = W.heap[k]?) (hc:W.cell? a=some v):W'.cell? a=some v:=(cell_blk (hs _ (cell_lt hc))).trans hc
set_option maxRecDepth 100000 in
set_option maxHeartbeats 8000000 in
theorem rfits_calls (gt base:Nat) (x y:Value) (AS:Option Addr) (cS b0:Nat) (sv:List S71) (H:List Hol) (s:Int) (A:Option Addr) (c:Nat) (l:List Hol) (n d:Nat) (al:Int->Rat) (w:World) (h:RT w gt base x y AS cS b0 sv H) (hV:RV w x y (limbs n) (limbs d)) (hn:n<18446744073709551616) (hd:d<18446744073709551616) (hd0:0<d) (hal:al=alT sv (mkRat (n:Int) d)) (hS:SvOk sv) (hC:Kd.C k86 w A l.length (l.map rowT)) (hc:l.length<=c) (hl:l.length<=500) (ho:∀x∈l,OkHol x) (hs:∀x∈l,inR sv.length x.srv) :
  Calls Try.prog 92 #[.pointer (some ⟨gt,0,none⟩),.int .i64 s,.slice A l.length c] w fun e' w'=>e'=.returned (.bool (decide (∀y∈pathT sv s,heldH sv l y<=al y)))/\Below w.heap.size w w':=by
 have mixed:Try.prog.follows Departure.mixedOrders=true:=by kernel_rfl
 have hG:=hS.good
 have hsl:sv.length<=1000:=by have:=hS.len;omega
 obtain ⟨X1,x1,X2,x2,rfl,rfl⟩:=hV.shape
 have HT:=Zz.mk (And.intro h (And.intro hG hsl))
 have HV:=Zz.mk hV
 have HA:=Zz.mk (And.intro hn (And.intro hd (And.intro hd0 hal)))
 have HC:=Zz.mk (And.intro hC hc)
 have HH:=Zz.mk (And.intro hl (And.intro ho hs))
 have HSV:=Zz.mk hS
 clear h hV hn hd hd0 hal hS hC hc hl ho hs hG hsl
 go_enter Try.func92,Try.ntmps92
 go_upto_region 2 with (go_at_call 55;refine (rpath_calls gt base _ _ AS cS b0 sv H s _ HT.out.1 HT.out.2.1 HT.out.2.2).mono ?_;rintro e w1 ⟨Ap,cp,rfl,hl,hC,hb⟩;have HC1:=Zz.mk (And.intro hl hC);have HB1:=Zz.mk hb;clear hl hC hb)
 obtain ⟨p,hp⟩:∃p,p=pathT sv s:=⟨_,rfl⟩
 rw [<-hp] at HC1 ⊢
 have HPE:=Zz.mk hp
 have HPI:=Zz.mk (show p.length<=1001/\∀y∈p,inR sv.length y by
  rw [hp]
  cases ht:thereB sv.length s with
  | false=>rw [path_out ht];exact ⟨Nat.zero_le _,fun y hy=>by simp at hy⟩
  | true =>
   have h1:=path_len HT.out.2.1 s (there_in.1 ht)
   rw [path_is (there_in.1 ht)]
   exact ⟨by have:=HT.out.2.2;omega,fun y hy=>(path_in HT.out.2.1 s (there_in.1 ht) y hy).1⟩)
 have hpl:p.length<=1001:=HPI.out.1
 clear hp
 go_wp2_with fail
 go_loopw [8] (fun v8 wr=>∃i:Nat,v8=.int .i64 i/\i<=p.length/\Zz (∀j:Nat,j<i->heldH sv l (p.getD j 0)<=al (p.getD j 0))/\Zz (Below w1.heap.size w1 wr)) (fun v _=>(p.length-intOf v).toNat)
 case atStart=>exact ⟨0,rfl,by omega,⟨fun j hj=>absurd hj (by omega)⟩,⟨Below.refl _ _⟩⟩
 case round =>
  obtain ⟨i,rfl,hi,HN,HB⟩:=hrel
  by_cases hlt:i<p.length
  case neg =>
   have d1:decide ((i:Int)<(p.length:Int))=false:=decide_eq_false (by omega)
   have d2:¬ ((i:Int)<(p.length:Int)):=by omega
   have HM:=Zz.mk (show decide (∀y∈pathT sv s,heldH sv l y<=al y)=true from decide_eq_true (fun y hy=>by
    rw [<-HPE.out] at hy
    obtain ⟨j,hj,e⟩:=List.getElem_of_mem hy
    have h1:=HN.out j (by omega)
    rw [List.getD_eq_getElem?_getD,List.getElem?_eq_getElem hj,Option.getD_some,e] at h1
    exact h1))
   clear hlt hi
   go_wp2_with fail
   exact bodyPost_ret (results_tmp rfl _ _ _) rfl ⟨by rw [HM.out];rfl,Zi HB1.out HB.out⟩
  case pos =>
   have d1:decide ((i:Int)<(p.length:Int))=true:=decide_eq_true (by omega)
   have hbw:=Zi HB1.out HB.out
   have HBW:=Zz.mk hbw
   obtain ⟨ad,e,z0⟩:=int_at (Kd.C_below HC1.out.2 HB.out) i hlt
   subst e
   have HPC:=Zz.mk HC1.out.1
   obtain ⟨t,ht⟩:∃t,t=p.getD i 0:=⟨_,rfl⟩
   rw [<-ht] at z0
   have htm:t∈p:=by rw [ht,List.getD_eq_getElem?_getD,List.getElem?_eq_getElem hlt];exact List.getElem_mem hlt
   have HTR:=Zz.mk (And.intro (HPI.out.2 t htm) (And.intro htm ht))
   have f1:(0:Int)<=(i:Int):=by omega
   have f2:(i:Int)<(p.length:Int):=by omega
   obtain ⟨vr,hM,_⟩:=(HT.out.1.below hbw).out
   have k0:wr.cell? ⟨gt,0,none⟩=some (.slice X1 (limbs n).length x1):=(Zg hM 0).trans rfl
   have k1:wr.cell? ⟨gt,1,none⟩=some (.slice X2 (limbs d).length x2):=(Zg hM 1).trans rfl
   have k2:wr.cell? ⟨gt,2,none⟩=some (.slice AS sv.length cS):=(Zg hM 2).trans rfl
   have HK2:=Zz.mk k2
   have HZ0:=Zz.mk z0
   have HLT:=Zz.mk (And.intro hlt hi)
   go_upto_region 6 with fail
   obtain ⟨g9,hg9⟩:∃g9,g9=wr.heap.size:=⟨_,rfl⟩
   obtain ⟨w2,hw2⟩:∃w2,w2=wr.alloc (.cells #[.slice X1 (limbs n).length x1,.slice X2 (limbs d).length x2] 28):=⟨_,rfl⟩
   have hb2:Below wr.heap.size wr w2:=by rw [hw2];exact Zb (Below.refl _ _) _
   have HG2:=Zz.mk (show MBlk w2 g9 28 #[.slice X1 (limbs n).length x1,.slice X2 (limbs d).length x2] by rw [hw2,hg9];exact Zo _ _ _)
   have HV2:=Zz.mk ((HV.out.below hbw).below hb2)
   have HB2:=Zz.mk hb2
   have HG9:=Zz.mk (show wr.heap.size<=g9 by rw [hg9];exact Nat.le_refl _)
   rw [<-hw2,<-hg9]
   have zz0:w2.cell? (ad.add i)=some (.int .i64 t):=keep_cell hb2.block z0
   clear hw2 hg9 hb2 k0 k1 k2 z0 hM hbw d1 ht htm hlt hi
   go_upto_if 27 with fail
   go_cut [9] (fun v9 wc=>∃ (N D:Nat) (U1 U2:Option Addr) (n1 n2 u1 u2:Nat),v9=.pointer (some ⟨g9,0,none⟩)/\Zz (N<18446744073709551616/\D<18446744073709551616/\0<D/\al t=mkRat (N:Int) D)/\Zz (MBlk wc g9 28 #[.slice U1 n1 u1,.slice U2 n2 u2])/\Zz (RV wc (.slice U1 n1 u1) (.slice U2 n2 u2) (limbs N) (limbs D))/\Zz (Below wr.heap.size wr wc))
   case first =>
    by_cases hs0:t = -1
    ·have d2:decide (t ≥ 0)=false:=decide_eq_false (by omega)
     have d3:decide (0<=t)=false:=decide_eq_false (by omega)
     have HS0:=Zz.mk hs0
     have hs3:¬ 0<=t:=by omega
     clear hs0
     go_wp2_with fail
     go_meet
     case rel=>exact ⟨n,d,X1,X2,_,_,x1,x2,rfl,⟨⟨HA.out.1,HA.out.2.1,HA.out.2.2.1,by rw [HA.out.2.2.2,HS0.out];rfl⟩⟩,HG2,HV2,HB2⟩
    ·have h1:=HTR.out.1
     have hs1:0<=t:=by have:=h1.1;omega
     have d2:decide (t ≥ 0)=true:=decide_eq_true hs1
     have d3:decide (0<=t)=true:=decide_eq_true hs1
     have hs2:t<(sv.length:Int):=h1.2
     obtain ⟨ad3,hA3,_,z1,z2⟩:=at_T71 (Kd.C_below (Kd.C_below (Kd.R_reads' HT.out.1.row).2.2 HBW.out) HB2.out) t hs1 hs2
     have HRL:=Zz.mk (Kd.R_reads' HT.out.1.row).2.1
     obtain ⟨Y,hY⟩:∃Y,Y=(rd_T71 sv t).f1:=⟨_,rfl⟩
     rw [<-hY] at z1 z2
     have HYY:=Zz.mk hY
     have HS1:=Zz.mk hs1
     have hok:okW Y:=by
      have h2:=quo_okW HSV.out (i:=t.toNat) (by omega)
      rw [show ((t.toNat:Nat):Int)=t by omega] at h2
      rw [hY];exact h2
     have HOK:=Zz.mk hok
     have y2:w2.cell? ⟨gt,2,none⟩=some (.slice AS sv.length cS):=keep_cell HB2.out.block HK2.out
     have HZ:=Zz.mk (show ∀w':World,(∀k,k<wr.heap.size->w'.heap[k]? = wr.heap[k]?)->w'.cell? ⟨gt,2,none⟩=some (.slice AS sv.length cS)/\w'.cell? (ad.add i)=some (.int .i64 t)/\w'.cell? ⟨(ad3.add (t.toNat*3)).block,(ad3.add (t.toNat*3)).off+1,none⟩=some (.int .i64 Y.f0)/\w'.cell? ⟨(ad3.add (t.toNat*3)).block,(ad3.add (t.toNat*3)).off+2,none⟩=some (.int .i64 Y.f1) from fun w' hw=>by
      obtain ⟨ad4,hA4,_,q1,q2⟩:=at_T71 (Kd.C_below (Kd.R_reads' HT.out.1.row).2.2 HBW.out) t HS1.out hs2
      obtain rfl:ad3=ad4:=by rw [hA3] at hA4;exact Option.some.inj hA4
      rw [<-HYY.out] at q1 q2
      exact ⟨keep_cell hw HK2.out,keep_cell hw HZ0.out,keep_cell hw q1,keep_cell hw q2⟩)
     clear hY hs0 h1 hok
     go_upto_region 7 with fail
     go_region_held3 (fun w'=>w'.cell? ⟨gt,2,none⟩=some (.slice AS sv.length cS)/\w'.cell? (ad.add i)=some (.int .i64 t)/\w'.cell? ⟨(ad3.add (t.toNat*3)).block,(ad3.add (t.toNat*3)).off+1,none⟩=some (.int .i64 Y.f0)/\w'.cell? ⟨(ad3.add (t.toNat*3)).block,(ad3.add (t.toNat*3)).off+2,none⟩=some (.int .i64 Y.f1))
      (first|(exact ⟨y2,zz0,z1,z2⟩)|(exact HZ9.out)|go_keep)
      (first|(go_at_call 23;refine (r3of_rv Y HOK.out _).mono ?_;rintro e w22 ⟨v1,v2,rfl,hv,hb⟩;obtain ⟨V1,q1,V2,q2,rfl,rfl⟩:=hv.shape;have HV22:=Zz.mk hv;have hbb:Below wr.heap.size wr w22:=(by first|exact Zi HB2.out (Zi (Zr (Below.refl _ _)) hb)|exact Zi HB2.out hb);have hb2:Below w2.heap.size w2 w22:=(by first|exact Zi (Zr (Below.refl _ _)) hb|exact hb);have HB22:=Zz.mk hbb;have HG22:=Zz.mk (show MBlk w22 g9 28 _ from (hb2.block _ (Zn HG2.out)).trans HG2.out);have hf0:=Zq HG22.out 0;have hf1:=Zq HG22.out 1;have hc0:w22.cell? ⟨g9,0,none⟩=some (.slice X1 (limbs n).length x1):=(Zg HG22.out 0).trans rfl;have hc1:w22.cell? ⟨g9,1,none⟩=some (.slice X2 (limbs d).length x2):=(Zg HG22.out 1).trans rfl;have hz:=HZ.out w22 hbb.block;obtain ⟨y2,zz0,z1,z2⟩:=hz;have HZ9:=Zz.mk (HZ.out ((w22.setCell ⟨g9,0,none⟩ (.slice V1 (limbs Y.f0.toNat).length q1)).setCell ⟨g9,1,none⟩ (.slice V2 (limbs Y.f1.toNat).length q2)) (fun k hk=>by rw [Below.heap_setCell _ ⟨g9,1,none⟩ _ k (by have:=HG9.out;show k≠g9;omega),Below.heap_setCell _ ⟨g9,0,none⟩ _ k (by have:=HG9.out;show k≠g9;omega)];exact HB22.out.block k hk));clear hv hb hbb hb2))
     all_goals
      clear y2 zz0 z1 z2 hf0 hf1 hc0 hc1
      go_wp2_with fail
      try rw [<-hA3]
      go_meet
      case rel =>
       obtain ⟨hg1,hg2,hg3⟩:=rat_put HG22.out HV22.out HB22.out HG9.out
       have h2:=HOK.out
       have h4:=HS1.out
       have e1:al t=wt Y:=by
        rw [HA.out.2.2.2,HYY.out]
        unfold alT quo
        rw [if_neg (by omega),show ((t.toNat:Nat):Int)=t by omega]
       exact ⟨Y.f0.toNat,Y.f1.toNat,V1,V2,_,_,q1,q2,rfl,⟨⟨by have:=h2.1;have:=h2.2.1;omega,by have:=h2.2.2.1;have:=h2.2.2.2;omega,by have:=h2.2.2.1;omega,e1⟩⟩,⟨hg1⟩,⟨hg2⟩,⟨hg3⟩⟩
   case rest =>
    obtain ⟨N,D,U1,U2,n1,n2,u1,u2,rfl,HND,HGX,HVX,HBX⟩:=hcut
    obtain ⟨w3,hw3⟩:∃w3,w3=wc:=⟨_,rfl⟩
    subst hw3
    obtain ⟨N1,E1,⟨k,hk⟩,fN,fE,hE,hq⟩:=rsum_t (wsH sv l t) (Nat.le_trans (wsH_len sv l t) HH.out.1) (wsH_ok HH.out.2.1 t)
    rw [wsH_sum] at hq
    obtain ⟨k1,hk1⟩:=(r3cmp_t 1600 2 N1 E1 N D fN fE (F_u64 HND.out.1) (F_u64 HND.out.2.1) (by omega) hE HND.out.2.2.1).get
    rw [hq,<-HND.out.2.2.2] at hk1
    obtain ⟨c1,hc1⟩:∃c1,c1=cmpR (heldH sv l t) (al t):=⟨_,rfl⟩
    rw [<-hc1] at hk1
    have HC3:=Zz.mk hc1
    generalize limbs N1=lN at hk hk1
    generalize limbs E1=lE at hk hk1
    have HSK:=Zz.mk hk
    have HCK:=Zz.mk hk1
    have HB3:=Zz.mk (Zi HBW.out HBX.out)
    have y0:w3.cell? (ad.add i)=some (.int .i64 t):=keep_cell HBX.out.block HZ0.out
    have y1:w3.cell? ⟨g9,0,none⟩=some (.slice U1 n1 u1):=(Zg HGX.out 0).trans rfl
    have y2:w3.cell? ⟨g9,1,none⟩=some (.slice U2 n2 u2):=(Zg HGX.out 1).trans rfl
    have HZ:=Zz.mk (show ∀w':World,Below w3.heap.size w3 w'->w'.cell? (ad.add i)=some (.int .i64 t)/\w'.cell? ⟨g9,0,none⟩=some (.slice U1 n1 u1)/\w'.cell? ⟨g9,1,none⟩=some (.slice U2 n2 u2) from fun w' hw=>⟨keep_cell hw.block y0,keep_cell hw.block y1,keep_cell hw.block y2⟩)
    have HE1:Zz (wrap64 ((i:Int)+1)=((i+1:Nat):Int)):=⟨by
     have h1:=HLT.out
     rw [QBits.w64 (by omega) (by omega)]
     rfl⟩
    clear zz0 hk hk1 hc1 fN fE hE hq
    have HD:Zz ((heldH sv l t<=al t/\decide (c1>0)=false/\decide (0<c1)=false/\¬ 0<c1)∨(¬ heldH sv l t<=al t/\decide (c1>0)=true/\decide (0<c1)=true/\0<c1)):=⟨by
     by_cases hle:heldH sv l t<=al t
     ·have h1:¬ c1>0:=fun h=>by rw [HC3.out] at h;exact cmp_gt.1 h hle
      exact .inl ⟨hle,decide_eq_false h1,decide_eq_false h1,h1⟩
     ·have h1:c1>0:=by rw [HC3.out];exact cmp_gt.2 hle
      exact .inr ⟨hle,decide_eq_true h1,decide_eq_true h1,h1⟩⟩
    go_upto_region 8 with fail
    go_region_held3 (fun w'=>w'.cell? (ad.add i)=some (.int .i64 t)/\w'.cell? ⟨g9,0,none⟩=some (.slice U1 n1 u1)/\w'.cell? ⟨g9,1,none⟩=some (.slice U2 n2 u2))
     (first|(exact ⟨y0,y1,y2⟩)|go_keep)
     (first
      | (go_at_call 96;refine (rheld_calls gt base _ _ AS cS b0 sv H t A c l lN lE k _ (HT.out.1.below (by first|exact Zi HB3.out (Zr (Below.refl _ _))|exact HB3.out)) HT.out.2.1 HT.out.2.2 (Kd.C_below HC.out.1 (by first|exact Zi HB3.out (Zr (Below.refl _ _))|exact HB3.out)) HC.out.2 HH.out.1 HH.out.2.1 HH.out.2.2 HSK.out).mono ?_;rintro e w4 ⟨v1,v2,rfl,h,hb⟩;obtain ⟨R1,q1,R2,q2,rfl,rfl⟩:=h.shape;have hbb:Below w3.heap.size w3 w4:=(by first|exact Zi (Zr (Below.refl _ _)) hb|exact hb);have HB4:=Zz.mk hbb;have HU4:=Zz.mk h;have hz:=HZ.out w4 hbb;obtain ⟨y0,y1,y2⟩:=hz;clear h hb hbb)
      | (go_at_call 19;refine (rcmp_rv HU4.out (HVX.out.below HB4.out) HCK.out).mono ?_;rintro e w5 ⟨rfl,hb⟩;have hbb:Below w3.heap.size w3 w5:=Zi HB4.out hb;have HB5:=Zz.mk hbb;have hz:=HZ.out w5 hbb;obtain ⟨y0,y1,y2⟩:=hz;clear hb hbb))
    all_goals
     clear y0 y1 y2 f1 f2
     rcases HD.out with ⟨hle,d1,d2,d3⟩|⟨hle,d1,d2,d3⟩
     ·have HLE:=Zz.mk hle
      clear hle
      go_wp2_with fail
      rw [HE1.out]
      go_roundw
      case rel =>
       refine ⟨i+1,rfl,by have:=HLT.out;omega,⟨fun j hj=>?_⟩,⟨Zi HB.out (Zi HBX.out HB5.out)⟩⟩
       by_cases hji:j=i
       ·rw [hji,<-HTR.out.2.2];exact HLE.out
       ·exact HN.out j (by omega)
      case measure=>have:=HLT.out;simp [intOf];omega
     ·have HM:=Zz.mk (show decide (∀y∈pathT sv s,heldH sv l y<=al y)=false from decide_eq_false (fun hall=>hle (hall t (by rw [<-HPE.out];exact HTR.out.2.1))))
      clear hle
      go_wp2_with fail
      exact bodyPost_ret (results_tmp rfl _ _ _) rfl ⟨by rw [HM.out];rfl,Zi HB3.out HB5.out⟩
end Go.Proofs.Ytfldklimlcnnnaa.XRFitt
end

section
namespace Go.Proofs.Ytfldklimlcnnnaa.QEq13
open Go.RowKit Go.Shelf PHq YtfldklimlcnnnaaW.PrintWords YtfldklimlcnnnaaW.PrintLast YtfldklimlcnnnaaW.PrintMore MWords
open MNat QNat QRatio XRV XHold XWts XLed XFits XJoin XAsk XEnd QHold XTree QTree XOf XCollect QTr XTJoin XTAsk XTSettle XTKt QRef13
section
variable {W:World} {M:Tm} {sv:List S71} {al:Int->Rat} {H:List Hol} {m:Nat} {z s:Int}
structure Ho (sv:List S71) (H:List Hol) (m:Nat):Prop where
 nod:(H.map (·.id)).Nodup
 srv:∀x∈H,inR sv.length x.srv
 ok:∀x∈H,OkHol x
 len:H.length<=m
theorem TH.ho (h:TH W M sv al H m):Ho sv H m:=by
 obtain ⟨_,_,_,h2,_⟩:=h
 exact ⟨h2.nod,h2.srv,h2.ok,h2.len⟩
theorem ok_new {x:S34} (hm:mayW x=true) (hz:wfI z):OkHol ⟨z,s,newH x⟩ :=
 ⟨⟨may_ok hm,fun k=>(by cases k)⟩,fun _=>⟨rfl,rfl⟩,hm,fun k=>(by cases k),hz⟩
theorem ok_ask {a:Hol} {x:S34} (h:OkHol a) (hm:mayW x=true):OkHol ⟨a.id,a.srv,asks a.hd x⟩ :=
 ⟨⟨h.ok.1,fun _=>may_ok hm⟩,fun k=>(by cases k),h.now,fun _=>hm,h.wf⟩
theorem held_more (x:Hol) {y:Int} (hy:y∈Z0 sv x.srv):heldH sv (H++[x]) y=heldH sv H y+wt (hv x.hd):=by
 unfold heldH
 rw [sub_app,if_pos (onB_iff.2 hy),held_app,held_cons]
 show _+(wt (hv x.hd)+0)=_
 rw [Rat.add_zero]
theorem hv_new (x:S34):hv (newH x)=x:=by
 unfold hv
 rw [if_neg (by rintro ⟨h,_⟩;cases h)]
 rfl
theorem path_is {s:Int} (hs:inR sv.length s):pathT sv s=Z0 sv s:=by unfold pathT;rw [if_pos (there_in.2 hs)]
theorem fits_join {x:S34} (hs:inR sv.length s):decide (∀y∈pathT sv s,heldH sv (H++[⟨z,s,newH x⟩]) y<=al y)=fitsP sv al H s (wt x):=by
 unfold fitsP
 rw [path_is hs,Bool.eq_iff_iff,List.all_eq_true,decide_eq_true_iff]
 constructor
 ·intro h y hy
  have h1:=h y hy
  rw [held_more _ hy,hv_new] at h1
  exact decide_eq_true h1
 ·intro h y hy
  have h1:=of_decide_eq_true (h y hy)
  rw [held_more _ hy,hv_new]
  exact h1
theorem held_part (a b:List Hol) (x:Hol) {y:Int} (hy:y∈Z0 sv x.srv):heldH sv (a++x::b) y=heldH sv a y+(wt (hv x.hd)+heldH sv b y):=by
 unfold heldH sub
 rw [List.filter_append,List.map_append,held_app,List.filter_cons,if_pos (onB_iff.2 hy),List.map_cons,held_cons]
theorem fits_ask {a:Hol} {x:S34} (ho:Ho sv H m) (hg:getH H z=some a) (hna:a.hd.a=false):decide (∀y∈pathT sv a.srv,heldH sv (setH H z (asks a.hd x)) y<=al y)=askP sv al H a x:=by
 obtain ⟨p,q,hH,hz,_,_,hset,_⟩:=split_all ho.nod hg
 have hs:=ho.srv a (getH_mem hg).1
 have hn:hv a.hd=wN a.hd:=by
  unfold hv
  rw [if_neg (by rw [hna];rintro ⟨h,_⟩;cases h)]
 unfold askP
 rw [path_is hs,Bool.eq_iff_iff,List.all_eq_true,decide_eq_true_iff,hset]
 have key:∀y∈Z0 sv a.srv,heldH sv (p++⟨z,a.srv,asks a.hd x⟩::q) y<=al y↔askF sv al H a.hd x y=true:=fun y hy=>by
  unfold askF fitsQ
  rw [held_part p q ⟨z,a.srv,asks a.hd x⟩ hy,hH,held_part p q a hy,hn]
  show heldH sv p y+(wt (hv (asks a.hd x))+heldH sv q y)<=al y↔_
  have h1:0<=heldH sv p y:=held_nonneg _
  have h2:0<=heldH sv q y:=held_nonneg _
  have h3:0<=wt (hv (asks a.hd x)):=wt_nonneg _
  generalize heldH sv p y=u at h1 ⊢
  generalize heldH sv q y=v at h2 ⊢
  generalize wt (hv (asks a.hd x))=t at h3 ⊢
  generalize wt (wN a.hd)=r
  rw [Bool.and_eq_true,decide_eq_true_iff,decide_eq_true_iff]
  constructor
  ·intro h
   exact ⟨by grind,by grind⟩
  ·intro h
   have:=h.2
   grind
 exact ⟨fun h y hy=>(key y hy).1 (h y hy),fun h y hy=>(key y hy).2 (h y hy)⟩
theorem at_pos (h:hasH H z=true):∃k:Nat,atP H z=(k:Int):=by
 unfold atP
 cases hf:H.findIdx? (fun y=>decide (y.id=z)) with
 | some k=>exact ⟨k,rfl⟩
 | none =>
  rw [List.findIdx?_eq_none_iff] at hf
  obtain ⟨x,hx,e⟩:=hasH_iff.1 h
  have:=hf x hx
  rw [decide_eq_true e] at this
  cases this
end
end Go.Proofs.Ytfldklimlcnnnaa.QEq13
end

section
namespace Go.Proofs.Ytfldklimlcnnnaa.XRJn
open Go.RowKit Go.Shelf PHq YtfldklimlcnnnaaW.PrintWords YtfldklimlcnnnaaW.PrintLast YtfldklimlcnnnaaW.PrintMore MWords
open MNat QNat QEv QRatio XRV XHold XWts XLed XFits XJoin XAwake QHold XOp XTree QTree XOf XCollect XTHeld QTr XTJoin XTNew2 XTMade QTChk XTKt XQOp QRef13 XRef13 XRPath XRHeld XRFit XRFitt QEq13
attribute [local go_sem ↓] Go.wp_at_zero Go.wp_at_succ
theorem infoH:(Try.prog.info? 86).map (fun i=>(i.zero,i.size,i.bytes))=some (some (.agg #[.int .i64 0,.int .i64 0,.int .i64 0,.int .i64 0,.int .i64 0,.int .i64 0,.bool false]),7,56):=by kernel_rfl
theorem rcheck_f (x:S34):r04_Check.f x.f0 x.f1=some (mayW x):=by
 unfold r04_Check.f mayW
 by_cases h1:x.f0 ≥ 1
 ·by_cases h2:x.f0<=x.f1
  ·simp [h1,h2]
  ·simp [h1,h2]
 ·simp [h1]
theorem R_empty (w:World) (base:Nat) (hb:base<=w.heap.size):Kd.R k86 86 (w.alloc (.cells #[] 86)) base (fun _=>True) (.slice (some ⟨w.heap.size,0,none⟩) 0 0) [] :=
 ⟨fun _ _=>trivial,[],World.ownsRow_made w #[] 0 hb (by decide) (by simp),Reps.none _ _⟩
theorem rows_M {w:World} {base:Nat} {A:Option Addr} {n:Nat} {xs:List S86} (h:Kd.C k86 w A n xs):ReadsRow (k86.M w base (fun _=>False)) k86.sz w A n xs :=
 ReadsRow.imp_ h (Below.refl _ _) (fun x cs hp=>by obtain rfl:=k86_open hp;exact k86_mkM _ _ _ x)
theorem C_lit {w:World} {g:Nat} (x:S86) (h:MBlk w g 86 #[.int .i64 x.f0,.int .i64 x.f1,.int .i64 x.f2.f0,.int .i64 x.f2.f1,.int .i64 x.f3.f0,.int .i64 x.f3.f1,.bool x.f4]):Kd.C k86 w (some ⟨g,0,none⟩) 1 [x]:=by
 refine ⟨rfl,by decide,fun _=>⟨_,rfl,fun j p hj=>?_⟩⟩
 match j,hj with
 | 0,hj =>
  obtain rfl:x=p:=by simpa using hj
  refine ⟨_,rfl,k86_mk w x,fun i u hi=>?_⟩
  have e:=Zg h i
  rw [show (⟨g,0,none⟩:Addr).add (0*k86.sz+i)=⟨g,i,none⟩ by simp [Addr.add]<;>omega]
  rw [e]
  simpa using hi
 | j+1,hj=>simp at hj
set_option maxRecDepth 100000 in
set_option maxHeartbeats 4000000 in
theorem rjoin_calls (gt base:Nat) (x y:Value) (AS:Option Addr) (cS b0:Nat) (sv:List S71) (H:List Hol) (m:Nat) (z s:Int) (X:S34) (n d:Nat) (al:Int->Rat) (w:World) (h:RT w gt base x y AS cS b0 sv H) (hV:RV w x y (limbs n) (limbs d)) (hn:n<18446744073709551616) (hd:d<18446744073709551616) (hd0:0<d) (hal:al=alT sv (mkRat (n:Int) d)) (hS:SvOk sv) (hO:Ho sv H m) (hm:m<490) (hz:wfI z) (hb:base<=w.heap.size) :
  Calls Try.prog 56 #[.pointer (some ⟨gt,0,none⟩),.int .i64 z,.int .i64 s,.agg #[.int .i64 X.f0,.int .i64 X.f1]] w fun e w'=>e=.returned (.int .i64 (joinTE sv al H z s X))/\RT w' gt base x y AS cS b0 sv (joinTH sv al H z s X)/\KR gt base w w':=by
 have mixed:Try.prog.follows Departure.mixedOrders=true:=by kernel_rfl
 obtain ⟨W0,hW0⟩:∃W0,W0=w.alloc (.cells #[.int .i64 X.f0,.int .i64 X.f1] 34):=⟨_,rfl⟩
 have hb0:Below w.heap.size w W0:=by rw [hW0];exact Zb (Below.refl _ _) _
 have HX0:=Zz.mk (show MBlk W0 w.heap.size 34 #[.int .i64 X.f0,.int .i64 X.f1] by rw [hW0];exact Zo _ _ _)
 have HB0:=Zz.mk hb0
 have HR0:=Zz.mk (h.below hb0)
 have HV0:=Zz.mk (hV.below hb0)
 have HA:=Zz.mk (And.intro hn (And.intro hd (And.intro hd0 (And.intro hal hS))))
 have HO:=Zz.mk hO
 have HZW:=Zz.mk (And.intro hz hb)
 have HL:=Zz.mk (show H.length<490 by have:=hO.len;omega)
 have HC:=Zz.mk (rcheck_f X)
 have HG:=Zz.mk (And.intro hS.good (show sv.length<=1000 by have:=hS.len;omega))
 obtain ⟨E,hE⟩:∃E,E=joinTE sv al H z s X:=⟨_,rfl⟩
 have HE:=Zz.mk hE
 rw [<-hE]
 clear h hV hn hd hd0 hal hS hb0 hO hm hz hb hE
 go_enter Try.func56,Try.ntmps56
 go_upto_region 1 with fail
 rw [<-hW0]
 clear hW0
 have x0:W0.cell? ⟨w.heap.size,0,none⟩=some (.int .i64 X.f0):=(Zg HX0.out 0).trans rfl
 have x1:W0.cell? ⟨w.heap.size,1,none⟩=some (.int .i64 X.f1):=(Zg HX0.out 1).trans rfl
 go_upto_region 3 with (first
  | (go_at_call 77;refine (r04_Check.calls X.f0 X.f1 _ _ HC.out).mono ?_;rintro e w3 ⟨rfl,hb3⟩;have HB3:=Zz.mk hb3;clear hb3)
  | (go_at_call 55;refine (rpath_calls gt base x y AS cS b0 sv H s _ (HR0.out.below HB3.out) HG.out.1 HG.out.2).mono ?_;rintro e w4 ⟨Ap,cp,rfl,hl,hC,hb⟩;have HB4:=Zz.mk (Zi HB3.out hb);clear hl hC hb))
 have HR4:=Zz.mk (HR0.out.below HB4.out)
 have HBW:=Zz.mk (Zi HB0.out HB4.out)
 have HV4:=Zz.mk (HV0.out.below HB4.out)
 have HX4:=Zz.mk (show MBlk w4 w.heap.size 34 _ from (HB4.out.block _ (Zn HX0.out)).trans HX0.out)
 clear HR0 HV0 HX0 HB3 HC x0 x1
 obtain ⟨p,hp⟩:∃p,p=pathT sv s:=⟨_,rfl⟩
 rw [<-hp]
 have HPE:=Zz.mk hp
 clear hp
 by_cases hm:mayW X=true
 case neg =>
  have hm':mayW X=false:=by simpa using hm
  have HE1:=Zz.mk (show joinTE sv al H z s X=1 by unfold joinTE;rw [if_pos (by rw [hm',Bool.and_false])])
  rw [hm']
  clear hm hm'
  go_wp2_with fail
  refine bodyPost_ret (results_tmp rfl _ _ _) rfl ⟨by rw [HE.out,HE1.out];rfl,?_,KR.of HBW.out⟩
  rw [join_same (by rw [HE1.out];decide)]
  exact HR4.out
 have HM:=Zz.mk hm
 rw [hm]
 clear hm
 cases ht:thereB sv.length s with
 | false =>
  have HE1:=Zz.mk (show joinTE sv al H z s X=1 by unfold joinTE;rw [if_pos (by rw [ht,Bool.false_and])])
  have hp0:p = []:=by rw [HPE.out];exact path_out ht
  subst hp0
  clear ht
  go_wp2_with fail
  refine bodyPost_ret (results_tmp rfl _ _ _) rfl ⟨by rw [HE.out,HE1.out];rfl,?_,KR.of HBW.out⟩
  rw [join_same (by rw [HE1.out];decide)]
  exact HR4.out
 | true =>
 have hsi:=there_in.1 ht
 have HSI:=Zz.mk hsi
 have hpl:((p.length:Int) == 0)=false:=by
  obtain ⟨r,hr⟩:=path_head HG.out.1 s hsi
  rw [HPE.out,XRPath.path_is hsi,hr]
  exact beq_eq_false_iff_ne.2 (by simp;omega)
 have hpn:¬ ((p.length:Int)=0):=by simpa using hpl
 have hpm:¬ (p = []):=fun e=>by rw [e] at hpn;exact hpn rfl
 have HTB:=Zz.mk ht
 clear ht hsi
 by_cases hh:hasH H z=true
 ·have HE1:=Zz.mk (show joinTE sv al H z s X=14 by unfold joinTE;rw [if_neg (by rw [HTB.out,HM.out];decide),if_pos hh])
  obtain ⟨k,hk⟩:=at_pos hh
  have d1:decide ((k:Int) ≥ 0)=true:=decide_eq_true (by omega)
  have d2:decide (0<=(k:Int))=true:=decide_eq_true (by omega)
  have HI:=Zz.mk hk
  clear hk hh
  go_wp2_with (go_at_call 57;refine (at_calls gt base x y AS cS b0 sv H z _ HR4.out (by have:=HL.out;omega)).mono ?_;rw [HI.out];rintro e w5 ⟨rfl,rfl⟩)
  refine bodyPost_ret (results_tmp rfl _ _ _) rfl ⟨by rw [HE.out,HE1.out];rfl,?_,KR.of HBW.out⟩
  rw [join_same (by rw [HE1.out];decide)]
  exact HR4.out
 have hh':hasH H z=false:=by simpa using hh
 have HH:=Zz.mk hh'
 have HAT:=Zz.mk (at_none (has_none hh'))
 clear hh hh'
 go_upto_region 7 with (go_at_call 57;refine (at_calls gt base x y AS cS b0 sv H z _ HR4.out (by have:=HL.out;omega)).mono ?_;rw [HAT.out];rintro e w5 ⟨rfl,rfl⟩)
 clear hpl hpn hpm
 obtain ⟨w4,hw4⟩:∃w4,w4=w5:=⟨_,rfl⟩
 subst hw4
 go_cut [11] (fun v11 wc=>∃A c,v11=.slice A (H++[(⟨z,s,newH X⟩:Hol)]).length c/\Zz (Kd.R k86 86 wc w4.heap.size (fun _=>True) v11 ((H++[(⟨z,s,newH X⟩:Hol)]).map rowT))/\Zz (Below w4.heap.size w4 wc))
 case first =>
  obtain ⟨v,hM,hR⟩:=HR4.out.out
  obtain ⟨A,c,rfl,hc,hC⟩:=Kd.R_reads hR
  rw [List.length_map] at hC hc hM hR
  have HM4:=Zz.mk hM
  have HC4:=Zz.mk hC
  have k2:w4.cell? ⟨gt,3,none⟩=some (.slice A H.length c):=(Zg hM 3).trans (by simp)
  have x0:w4.cell? ⟨w.heap.size,0,none⟩=some (.int .i64 X.f0):=(Zg HX4.out 0).trans rfl
  have x1:w4.cell? ⟨w.heap.size,1,none⟩=some (.int .i64 X.f1):=(Zg HX4.out 1).trans rfl
  clear hM hR hC hc
  obtain ⟨bx,hbx⟩:∃bx,bx=H.map rowT++[(⟨z,s,⟨X.f0,X.f1⟩,⟨0,0⟩,false⟩:S86)]:=⟨_,rfl⟩
  have HJN:=Zz.mk hbx
  have HBX:=Zz.mk (show bx=(H++[(⟨z,s,newH X⟩:Hol)]).map rowT by rw [hbx,List.map_append,List.map_cons];rfl)
  clear hbx
  go_region_held3 (fun w'=>w'.cell? ⟨gt,3,none⟩=some (.slice A H.length c)/\w'.cell? ⟨w.heap.size,0,none⟩=some (.int .i64 X.f0)/\w'.cell? ⟨w.heap.size,1,none⟩=some (.int .i64 X.f1))
   (first|(exact ⟨k2,x0,x1⟩)|go_keep)
   (first
    | (refine Kd.R_append_rows_step k86 (w0:=w4) w4.heap.size (by rfl) (.tmp 29) (.tmp 33) 79 86 (.agg #[.int .i64 0,.int .i64 0,.int .i64 0,.int .i64 0,.int .i64 0,.int .i64 0,.bool false]) 56 (by rfl) Try.underlying79 infoH rfl (by decide) (by omega) _ [] (H.map rowT) A H.length c (fun _=>True) (fun _=>False) (by rfl) (by rfl) ?hO (rows_M (Kd.C_below HC4.out (by repeat (first|exact Below.refl _ _|exact HB5.out|refine Zb ?_ _|refine Zr ?_)))) (fun _ _ h=>h) (fun _ h=>h.elim) (fun _ _=>trivial) (by repeat (first|exact Below.refl _ _|exact HB5.out|refine Zb ?_ _|refine Zr ?_)) (by simp<;>omega) (by have:=HL.out;simp;omega) ?_;(case hO=>first|exact Kd.R_drew (R_empty w4 w4.heap.size (by simp))|exact R_empty w4.drew w4.heap.size (by simp)|exact Kd.R_alloc (Kd.R_drew (R_empty w4 w4.heap.size (by simp))) _|exact Kd.R_drew (Kd.R_alloc (R_empty w4 w4.heap.size (by simp)) _)|exact Kd.R_alloc (R_empty w4.drew w4.heap.size (by simp)) _|(rw [show w4.heap.size+1=(w4.alloc (.cells #[.int .i64 z,.int .i64 s,.int .i64 X.f0,.int .i64 X.f1,.int .i64 0,.int .i64 0,.bool false] 86)).heap.size by simp];exact R_empty (w4.alloc (.cells #[.int .i64 z,.int .i64 s,.int .i64 X.f0,.int .i64 X.f1,.int .i64 0,.int .i64 0,.bool false] 86)) w4.heap.size (by simp))|(rw [show w4.heap.size+1=(w4.alloc (.cells #[.int .i64 z,.int .i64 s,.int .i64 X.f0,.int .i64 X.f1,.int .i64 0,.int .i64 0,.bool false] 86)).heap.size by simp];exact Kd.R_drew (R_empty (w4.alloc (.cells #[.int .i64 z,.int .i64 s,.int .i64 X.f0,.int .i64 X.f1,.int .i64 0,.int .i64 0,.bool false] 86)) w4.heap.size (by simp)))|(rw [show w4.heap.size+1=((w4.alloc (.cells #[.int .i64 z,.int .i64 s,.int .i64 X.f0,.int .i64 X.f1,.int .i64 0,.int .i64 0,.bool false] 86)).drew).heap.size by simp];exact R_empty ((w4.alloc (.cells #[.int .i64 z,.int .i64 s,.int .i64 X.f0,.int .i64 X.f1,.int .i64 0,.int .i64 0,.bool false] 86)).drew) w4.heap.size (by simp))|(rw [show w4.heap.size+1=((w4.alloc (.cells #[.int .i64 z,.int .i64 s,.int .i64 X.f0,.int .i64 X.f1,.int .i64 0,.int .i64 0,.bool false] 86)).drew).heap.size by simp];exact Kd.R_drew (R_empty ((w4.alloc (.cells #[.int .i64 z,.int .i64 s,.int .i64 X.f0,.int .i64 X.f1,.int .i64 0,.int .i64 0,.bool false] 86)).drew) w4.heap.size (by simp)))|(rw [show w4.heap.size+1=(w4.drew.alloc (.cells #[.int .i64 z,.int .i64 s,.int .i64 X.f0,.int .i64 X.f1,.int .i64 0,.int .i64 0,.bool false] 86)).heap.size by simp];exact R_empty (w4.drew.alloc (.cells #[.int .i64 z,.int .i64 s,.int .i64 X.f0,.int .i64 X.f1,.int .i64 0,.int .i64 0,.bool false] 86)) w4.heap.size (by simp))|(rw [show w4.heap.size+1=(w4.drew.alloc (.cells #[.int .i64 z,.int .i64 s,.int .i64 X.f0,.int .i64 X.f1,.int .i64 0,.int .i64 0,.bool false] 86)).heap.size by simp];exact Kd.R_drew (R_empty (w4.drew.alloc (.cells #[.int .i64 z,.int .i64 s,.int .i64 X.f0,.int .i64 X.f1,.int .i64 0,.int .i64 0,.bool false] 86)) w4.heap.size (by simp))));intro v1 w5_ hR hbb hg _;rw [List.nil_append] at hR;have HR5:=Zz.mk hR;have HB5:=Zz.mk hbb;have k2:w5_.cell? ⟨gt,3,none⟩=some (.slice A H.length c):=(Zg ((hbb.block _ (Zn HM4.out)).trans HM4.out) 3).trans (by simp);have x0:w5_.cell? ⟨w.heap.size,0,none⟩=some (.int .i64 X.f0):=(Zg ((hbb.block _ (Zn HX4.out)).trans HX4.out) 0).trans rfl;have x1:w5_.cell? ⟨w.heap.size,1,none⟩=some (.int .i64 X.f1):=(Zg ((hbb.block _ (Zn HX4.out)).trans HX4.out) 1).trans rfl;(first|(have HLIT:=Zz.mk (show MBlk w5_ (w4.heap.size+1) 86 #[.int .i64 z,.int .i64 s,.int .i64 X.f0,.int .i64 X.f1,.int .i64 0,.int .i64 0,.bool false] from (hg.block _ (by first|(simp;done)|(simp;omega)) (by show some (w4.heap.size+1)≠some _;simp)).trans (by rw [show w4.heap.size+1=(w4.alloc (.cells #[] 86)).heap.size by simp];exact Zo (w4.alloc (.cells #[] 86)) _ _)))|(have HLIT:=Zz.mk (show MBlk w5_ w4.heap.size 86 #[.int .i64 z,.int .i64 s,.int .i64 X.f0,.int .i64 X.f1,.int .i64 0,.int .i64 0,.bool false] from Eq.trans (hg.block w4.heap.size (by first|(simp;done)|(simp;omega)|(show w4.heap.size<_;simp)|(show w4.heap.size<_;simp;omega)) (by show some w4.heap.size≠some _;simp)) (show MBlk (((w4.alloc (.cells #[.int .i64 z,.int .i64 s,.int .i64 X.f0,.int .i64 X.f1,.int .i64 0,.int .i64 0,.bool false] 86)).alloc (.cells #[] 86)).drew) w4.heap.size 86 #[.int .i64 z,.int .i64 s,.int .i64 X.f0,.int .i64 X.f1,.int .i64 0,.int .i64 0,.bool false] from Zp (Zo w4 86 #[.int .i64 z,.int .i64 s,.int .i64 X.f0,.int .i64 X.f1,.int .i64 0,.int .i64 0,.bool false]) (.cells #[] 86))))|skip);clear hR hbb hg)
    | (refine Kd.R_append_rows_step k86 (w0:=w4) w4.heap.size (by rfl) (.tmp 34) (.tmp 39) 79 86 (.agg #[.int .i64 0,.int .i64 0,.int .i64 0,.int .i64 0,.int .i64 0,.int .i64 0,.bool false]) 56 (by rfl) Try.underlying79 infoH rfl (by decide) (by omega) _ (H.map rowT) [(⟨z,s,⟨X.f0,X.f1⟩,⟨0,0⟩,false⟩:S86)] _ 1 1 (fun _=>True) (fun _=>False) (by rfl) (by rfl) ?hO ?hR (fun _ _ h=>h) (fun _ h=>h.elim) (fun _ _=>trivial) (by repeat (first|exact Below.refl _ _|exact HB5.out|refine Zb ?_ _|refine Zr ?_)) (Nat.le_trans HB5.out.size (by simp)) (by have:=HL.out;simp;omega) ?_;(case hO=>first|exact HR5.out|exact Kd.R_alloc HR5.out _|exact Kd.R_drew (Kd.R_alloc HR5.out _)|exact Kd.R_alloc (Kd.R_drew HR5.out) _);(case hR=>first|exact rows_M (C_lit (⟨z,s,⟨X.f0,X.f1⟩,⟨0,0⟩,false⟩:S86) (Zo _ _ _))|exact rows_M (C_lit (⟨z,s,⟨X.f0,X.f1⟩,⟨0,0⟩,false⟩:S86) HLIT.out));intro v2 w6_ hR hbb hg _;rw [<-HJN.out] at hR;obtain ⟨A6,c6,rfl⟩:=Kd.R_slice hR;have HR6:=Zz.mk hR;have HB6_:=Zz.mk hbb;have k2:w6_.cell? ⟨gt,3,none⟩=some (.slice A H.length c):=(Zg ((hbb.block _ (Zn HM4.out)).trans HM4.out) 3).trans (by simp);have x0:w6_.cell? ⟨w.heap.size,0,none⟩=some (.int .i64 X.f0):=(Zg ((hbb.block _ (Zn HX4.out)).trans HX4.out) 0).trans rfl;have x1:w6_.cell? ⟨w.heap.size,1,none⟩=some (.int .i64 X.f1):=(Zg ((hbb.block _ (Zn HX4.out)).trans HX4.out) 1).trans rfl;clear hR hbb hg HR5 HB5))
  all_goals
   go_wp2_with fail
   go_meet
   case rel=>exact ⟨A6,c6,by rw [HBX.out,List.length_map],⟨by rw [<-HBX.out];exact HR6.out⟩,HB6_⟩
 case rest =>
  obtain ⟨A8,c8,rfl,HR8,HB8⟩:=hcut
  have HRL:=Zz.mk (HR4.out.below HB8.out)
  have HVL:=Zz.mk (HV4.out.below HB8.out)
  obtain ⟨bl,hbl⟩:∃bl,bl=H++[(⟨z,s,newH X⟩:Hol)]:=⟨_,rfl⟩
  have HBL:=Zz.mk hbl
  rw [<-hbl] at HR8
  rw [<-hbl]
  have HOB:=Zz.mk (show bl.length<=500/\(∀x∈bl,OkHol x)/\∀x∈bl,inR sv.length x.srv by
   rw [hbl]
   refine ⟨by have:=HL.out;simp;omega,fun a ha=>?_,fun a ha=>?_⟩
   ·rcases List.mem_append.1 ha with ha|ha
    ·exact HO.out.ok a ha
    ·rw [List.mem_singleton.1 ha];exact ok_new HM.out HZW.out.1
   ·rcases List.mem_append.1 ha with ha|ha
    ·exact HO.out.srv a ha
    ·rw [List.mem_singleton.1 ha];exact HSI.out)
  have HBF:=Zz.mk (show decide (∀y∈pathT sv s,heldH sv bl y<=al y)=fitsP sv al H s (wt X) by rw [hbl];exact fits_join HSI.out)
  have HEQ:=Zz.mk (show joinTE sv al H z s X=if fitsP sv al H s (wt X)=true then 0 else 18 by
   unfold joinTE
   rw [if_neg (by rw [HTB.out,HM.out];decide),if_neg (by rw [HH.out];decide)])
  obtain ⟨Bf,hBf⟩:∃Bf,Bf=fitsP sv al H s (wt X):=⟨_,rfl⟩
  rw [<-hBf] at HBF HEQ
  clear hbl hBf
  go_upto_region 9 with (go_at_call 92;refine (rfits_calls gt base x y AS cS b0 sv H s A8 c8 bl n d al wc HRL.out HVL.out HA.out.1 HA.out.2.1 HA.out.2.2.1 HA.out.2.2.2.1 HA.out.2.2.2.2 (by have:=(Kd.R_reads' HR8.out).2.2;rw [List.length_map] at this;exact this) (Kd.R_reads' HR8.out).2.1 HOB.out.1 HOB.out.2.1 HOB.out.2.2).mono ?_;rw [HBF.out];rintro e w9 ⟨rfl,hb9⟩;have HB9:=Zz.mk hb9;clear hb9)
  have HR9:=Zz.mk (HRL.out.below HB9.out)
  have HW9:=Zz.mk (Kd.R_lower (Kd.R_below HR8.out HB9.out) (show base<=w4.heap.size from Nat.le_trans HZW.out.2 HBW.out.size))
  have HK9:=Zz.mk ((KR.of (gt:=gt) (base:=base) HBW.out).trans ((KR.of HB8.out).trans (KR.of HB9.out)))
  clear HRL HVL HR8
  cases Bf with
  | false =>
   have HE1:=Zz.mk (show joinTE sv al H z s X=18 from HEQ.out)
   go_wp2_with fail
   refine bodyPost_ret (results_tmp rfl _ _ _) rfl ⟨by rw [HE.out,HE1.out];rfl,?_,HK9.out⟩
   rw [join_same (by rw [HE1.out];decide)]
   exact HR9.out
  | true =>
   have HE1:=Zz.mk (show joinTE sv al H z s X=0 from HEQ.out)
   obtain ⟨v,hM,_⟩:=HR9.out.out
   have g2:w9.cell? ⟨gt,3,none⟩=some v:=(Zg hM 3).trans (by simp)
   have f2:w9.frozen? ⟨gt,3,none⟩=false:=Zq hM 3
   have HP:=Zz.mk (RT.put HR9.out HW9.out)
   clear hM
   go_wp2_with fail
   refine bodyPost_ret (results_tmp rfl _ _ _) rfl ⟨by rw [HE.out,HE1.out];rfl,?_,HK9.out.trans HP.out.2⟩
   unfold joinTH
   rw [HE1.out,if_pos rfl,<-HBL.out]
   exact HP.out.1
end Go.Proofs.Ytfldklimlcnnnaa.XRJn
end

section
namespace Go.Proofs.Ytfldklimlcnnnaa.XRow13
open Go.RowKit Go.Shelf PHq YtfldklimlcnnnaaW.PrintWords YtfldklimlcnnnaaW.PrintLast YtfldklimlcnnnaaW.PrintMore MWords
open MNat QNat QEv QRatio XRV XHold XWts XLed XFits XJoin XAwake QHold XOp XTree QTree XOf XCollect XTHeld QTr XTJoin XTNew2 XTMade QTChk XTKt XQOp QRef13 XRef13 XRPath XRHeld XRFit XRFitt QEq13 XRJn
def cellsT (x:Hol):List Value:=[.int .i64 x.id,.int .i64 x.srv,.int .i64 x.hd.e,.int .i64 x.hd.p,.int .i64 x.hd.e2,.int .i64 x.hd.p2,.bool x.hd.a]
theorem R_row {W:World} {base g n cap:Nat} {a b:List Hol} {h:Hol} (hR:Kd.R k86 86 W base (fun _=>True) (.slice (some ⟨g,0,none⟩) n cap) ((a++h::b).map rowT)) :
  (∀j u,(cellsT h)[j]? = some u->W.cell? ⟨g,a.length*7+j,none⟩=some u)/\(∀j,W.frozen? ⟨g,a.length*7+j,none⟩=false)/\n=(a++h::b).length:=by
 have hn:=(Kd.R_reads' hR).1
 rw [List.length_map] at hn
 obtain ⟨c,hcl,hM,hc,hf⟩:=Kd.R_elem hR (rowT h) (a.length:Int) (by omega) (by rw [hn];simp;omega)
 have hrow:((a++h::b).map rowT).getD (a.length:Int).toNat (rowT h)=rowT h:=by
  rw [Int.toNat_natCast,List.getD_eq_getElem?_getD,List.getElem?_map,List.getElem?_append_right (Nat.le_refl _)]
  simp
 rw [hrow] at hM
 obtain rfl:=k86_openM hM
 exact ⟨fun j u hj=>hc j u hj,fun j=>hf j,hn⟩
theorem R_turn {W:World} {base g n cap:Nat} {a b:List Hol} {h k:Hol} (hR:Kd.R k86 86 W base (fun _=>True) (.slice (some ⟨g,0,none⟩) n cap) ((a++h::b).map rowT)) (j:Nat) (seg:List Value) (hj:j+seg.length<=7) (hs:(cellsT h).take j++seg++(cellsT h).drop (j+seg.length)=cellsT k) :
  Kd.R k86 86 (W.setCells g (a.length*7+j) seg) base (fun _=>True) (.slice (some ⟨g,0,none⟩) n cap) ((a++k::b).map rowT)/\W.grownBy (W.setCells g (a.length*7+j) seg) (some g):=by
 obtain ⟨hc,_,hn⟩:=R_row hR
 have h1:=Kd.R_seg (okp:=fun _=>False) hR (a.length:Int) (by omega) (by rw [hn];simp;omega) (c:=cellsT h) (seg:=seg) (j:=j) rfl (fun j u hj=>hc j u hj) hj (x':=rowT k) (by rw [hs];exact k86_mkM _ _ _ (rowT k)) (fun _ hk=>hk.elim)
 have e:((a++h::b).map rowT).set (a.length:Int).toNat (rowT k)=(a++k::b).map rowT:=by
  rw [Int.toNat_natCast,List.map_append,List.map_append,List.set_append_right _ _ (by simp)]
  simp
 rw [e] at h1
 exact h1
end Go.Proofs.Ytfldklimlcnnnaa.XRow13
end

section
namespace Go.Proofs.Ytfldklimlcnnnaa.XRAk
open Go.RowKit Go.Shelf PHq YtfldklimlcnnnaaW.PrintWords YtfldklimlcnnnaaW.PrintLast YtfldklimlcnnnaaW.PrintMore MWords
open MNat QNat QEv QRatio XRV XHold XWts XLed XFits XJoin XAsk XAwake QHold XOp XTree QTree XOf XCollect XTHeld QTr XTJoin XTAsk XTNew2 XTMade QTChk XTKt XQOp QRef13 XRef13 XRPath XRHeld XRFit XRFitt QEq13 XRJn XRow13
attribute [local go_sem ↓] Go.wp_at_zero Go.wp_at_succ
set_option maxRecDepth 100000 in
set_option maxHeartbeats 4000000 in
theorem rask_calls (gt base:Nat) (x y:Value) (AS:Option Addr) (cS b0:Nat) (sv:List S71) (H:List Hol) (m:Nat) (z:Int) (X:S34) (n d:Nat) (al:Int->Rat) (w:World) (h:RT w gt base x y AS cS b0 sv H) (hV:RV w x y (limbs n) (limbs d)) (hn:n<18446744073709551616) (hd:d<18446744073709551616) (hd0:0<d) (hal:al=alT sv (mkRat (n:Int) d)) (hS:SvOk sv) (hO:Ho sv H m) (hm:m<490) (hb:base<=w.heap.size) :
  Calls Try.prog 49 #[.pointer (some ⟨gt,0,none⟩),.int .i64 z,.agg #[.int .i64 X.f0,.int .i64 X.f1]] w fun e w'=>e=.returned (.int .i64 (askTE sv al H z X))/\RT w' gt base x y AS cS b0 sv (askTH sv al H z X)/\KR gt base w w':=by
 have mixed:Try.prog.follows Departure.mixedOrders=true:=by kernel_rfl
 obtain ⟨W0,hW0⟩:∃W0,W0=w.alloc (.cells #[.int .i64 X.f0,.int .i64 X.f1] 34):=⟨_,rfl⟩
 have hb0:Below w.heap.size w W0:=by rw [hW0];exact Zb (Below.refl _ _) _
 have HX0:=Zz.mk (show MBlk W0 w.heap.size 34 #[.int .i64 X.f0,.int .i64 X.f1] by rw [hW0];exact Zo _ _ _)
 have HB0:=Zz.mk hb0
 have HR0:=Zz.mk (h.below hb0)
 have HV0:=Zz.mk (hV.below hb0)
 have HA:=Zz.mk (And.intro hn (And.intro hd (And.intro hd0 (And.intro hal hS))))
 have HO:=Zz.mk hO
 have HZW:=Zz.mk hb
 have HL:=Zz.mk (show H.length<490 by have:=hO.len;omega)
 have HC:=Zz.mk (rcheck_f X)
 have HG:=Zz.mk (And.intro hS.good (show sv.length<=1000 by have:=hS.len;omega))
 obtain ⟨E,hE⟩:∃E,E=askTE sv al H z X:=⟨_,rfl⟩
 have HE:=Zz.mk hE
 rw [<-hE]
 clear h hV hn hd hd0 hal hS hb0 hO hm hb hE
 go_enter Try.func49,Try.ntmps49
 go_upto_region 1 with fail
 rw [<-hW0]
 clear hW0
 have x0:W0.cell? ⟨w.heap.size,0,none⟩=some (.int .i64 X.f0):=(Zg HX0.out 0).trans rfl
 have x1:W0.cell? ⟨w.heap.size,1,none⟩=some (.int .i64 X.f1):=(Zg HX0.out 1).trans rfl
 by_cases hm:mayW X=true
 case neg =>
  have hm':mayW X=false:=by simpa using hm
  have HE1:=Zz.mk (ask_no (sv:=sv) (al:=al) (H:=H) (z:=z) hm')
  clear hm
  go_wp2_with (go_at_call 77;refine (r04_Check.calls X.f0 X.f1 _ _ HC.out).mono ?_;rw [hm'];rintro e w3 ⟨rfl,hb3⟩;have HB3:=Zz.mk hb3;clear hb3)
  refine bodyPost_ret (results_tmp rfl _ _ _) rfl ⟨by rw [HE.out,HE1.out.1];rfl,?_,(KR.of HB0.out).trans (KR.of HB3.out)⟩
  rw [HE1.out.2]
  exact HR0.out.below HB3.out
 have HM:=Zz.mk hm
 rw [hm] at HC
 clear hm
 cases hg:getH H z with
 | none =>
  have HE1:=Zz.mk (ask_none (sv:=sv) (al:=al) HM.out hg)
  have HAT:=Zz.mk (at_none (has_none (getH_none hg)))
  clear hg
  go_wp2_with (first
   | (go_at_call 77;refine (r04_Check.calls X.f0 X.f1 _ _ HC.out).mono ?_;rintro e w3 ⟨rfl,hb3⟩;have HB3:=Zz.mk hb3;clear hb3 HC)
   | (go_at_call 57;refine (at_calls gt base x y AS cS b0 sv H z _ (HR0.out.below HB3.out) (by have:=HL.out;omega)).mono ?_;rw [HAT.out];rintro e w4 ⟨rfl,rfl⟩))
  refine bodyPost_ret (results_tmp rfl _ _ _) rfl ⟨by rw [HE.out,HE1.out.1];rfl,?_,(KR.of HB0.out).trans (KR.of HB3.out)⟩
  rw [HE1.out.2]
  exact HR0.out.below HB3.out
 | some h =>
  obtain ⟨a,b,hL,hzz,ha,_,hset,_⟩:=split_all HO.out.nod hg
  have HGET:=Zz.mk hg
  have HLL:=Zz.mk hL
  have HSET:=Zz.mk (show setH H z (asks h.hd X)=a++⟨h.id,h.srv,asks h.hd X⟩::b by rw [hset,hzz])
  have HAT:=Zz.mk (show atP H z=(a.length:Int) by rw [hL];exact at_some hzz ha)
  have HSOM:=Zz.mk (ask_some (sv:=sv) (al:=al) HM.out hg)
  have hal:a.length<H.length:=by rw [hL];simp
  clear hg hL ha hset hzz
  go_upto_if 19 with (first
   | (go_at_call 77;refine (r04_Check.calls X.f0 X.f1 _ _ HC.out).mono ?_;rintro e w3 ⟨rfl,hb3⟩;have HB3:=Zz.mk hb3;clear hb3 HC)
   | (go_at_call 57;refine (at_calls gt base x y AS cS b0 sv H z _ (HR0.out.below HB3.out) (by have:=HL.out;omega)).mono ?_;rw [HAT.out];rintro e w4 ⟨rfl,rfl⟩))
  have d0:decide ((a.length:Int)<0)=false:=decide_eq_false (by omega)
  have HR4:=Zz.mk (HR0.out.below HB3.out)
  have HB4:=Zz.mk (Zi HB0.out HB3.out)
  have HV4:=Zz.mk (HV0.out.below HB3.out)
  have HX4:=Zz.mk (show MBlk w4 w.heap.size 34 _ from (HB3.out.block _ (Zn HX0.out)).trans HX0.out)
  clear HR0 HB0 HV0 HX0 HB3 x0 x1
  obtain ⟨v,hM,hR⟩:=HR4.out.out
  have hR0:=hR
  rw [HLL.out] at hR0
  obtain ⟨g0,c0,rfl,_,_,_⟩:=Kd.R_form hR0 (by simp<;>omega)
  rw [List.length_map,<-HLL.out] at hR0
  obtain ⟨hc,hf,hlen⟩:=R_row (W:=w4) (a:=a) (b:=b) (h:=h) (n:=H.length) (by rw [<-HLL.out];exact hR0)
  have k2:w4.cell? ⟨gt,3,none⟩=some (.slice (some ⟨g0,0,none⟩) H.length c0):=(Zg hM 3).trans (by simp [HLL.out])
  have c5:w4.cell? ⟨g0,a.length*7+6,none⟩=some (.bool h.hd.a):=hc 6 _ rfl
  have HC4:=Zz.mk (Kd.R_reads' hR0)
  have HM4:=Zz.mk hM
  clear hR hR0 hc hf hlen hM
  have d1:decide ((a.length:Int)<(H.length:Int))=true:=decide_eq_true (by omega)
  have d2:decide (0<=(a.length:Int))=true:=decide_eq_true (by omega)
  cases hA:h.hd.a with
  | true =>
   rw [hA] at c5
   have HE1:=Zz.mk (show askTE sv al H z X=13 by rw [HSOM.out.1,if_pos hA])
   clear hA
   go_wp2_with fail
   refine bodyPost_ret (results_tmp rfl _ _ _) rfl ⟨by rw [HE.out,HE1.out];rfl,?_,KR.of HB4.out⟩
   rw [ask_same (by rw [HE1.out];decide)]
   exact HR4.out
  | false =>
   rw [hA] at c5
   have HHA:=Zz.mk hA
   clear hA
   have HCL:=Zz.mk (show Kd.C k86 w4 (some ⟨g0,0,none⟩) H.length (H.map rowT) by have:=HC4.out.2.2;rw [List.length_map] at this;exact this)
   clear HC4
   go_upto_region 9 with fail
   clear c5
   have lgr:gt<w4.heap.size:=Zn HM4.out
   have lgx:w.heap.size<w4.heap.size:=Zn HX4.out
   have x0:w4.cell? ⟨w.heap.size,0,none⟩=some (.int .i64 X.f0):=(Zg HX4.out 0).trans rfl
   have x1:w4.cell? ⟨w.heap.size,1,none⟩=some (.int .i64 X.f1):=(Zg HX4.out 1).trans rfl
   go_upto_region 10 with ((with_reducible refine gate_builtin (b:=.append) (xs:=#[.tmp 28,.tmp 32]) rfl ?_);at_builtin;refine Kd.R_append_rows k86 (w0:=w4) w4.heap.size rfl (.tmp 28) (.tmp 32) 79 86 (.agg #[.int .i64 0,.int .i64 0,.int .i64 0,.int .i64 0,.int .i64 0,.int .i64 0,.bool false]) 56 rfl Try.underlying79 infoH rfl (by decide) (by omega) (.slice (some ⟨w4.heap.size,0,none⟩) 0 0) [] (H.map rowT) (some ⟨g0,0,none⟩) H.length c0 (fun _=>True) (fun _=>False) rfl rfl (R_empty w4 w4.heap.size (Nat.le_refl _)) (rows_M (Kd.C_below HCL.out (Zb (Below.refl _ _) _))) (fun _ _ h=>h) (fun _ h=>h.elim) (fun _ _=>trivial) (Zb (Below.refl _ _) _) (by simp<;>omega) (by have:=HL.out;simp;omega) ?_;intro v1 w5 hR hbb hg _;rw [List.nil_append] at hR;have HR5:=Zz.mk hR;have HB5:=Zz.mk hbb;clear hR hbb hg k2 x0 x1)
   have hR5:=HR5.out
   rw [HLL.out] at hR5
   obtain ⟨g5,c5,rfl,hg5,_,_⟩:=Kd.R_form hR5 (by simp<;>omega)
   rw [List.length_map,<-HLL.out] at hR5
   rw [List.length_map,<-HLL.out]
   obtain ⟨hc,hf,_⟩:=R_row (W:=w5) (a:=a) (b:=b) (h:=h) (n:=H.length) (by rw [<-HLL.out];exact hR5)
   have y3:w5.cell? ⟨g5,a.length*7+4,none⟩=some (.int .i64 h.hd.e2):=hc 4 _ rfl
   have y4:w5.cell? ⟨g5,a.length*7+5,none⟩=some (.int .i64 h.hd.p2):=hc 5 _ rfl
   have y5:w5.cell? ⟨g5,a.length*7+6,none⟩=some (.bool h.hd.a):=hc 6 _ rfl
   have f3:=hf 4
   have f4:=hf 5
   have f5:=hf 6
   have x0:w5.cell? ⟨w.heap.size,0,none⟩=some (.int .i64 X.f0):=(Zg ((HB5.out.block _ (Zn HX4.out)).trans HX4.out) 0).trans rfl
   have x1:w5.cell? ⟨w.heap.size,1,none⟩=some (.int .i64 X.f1):=(Zg ((HB5.out.block _ (Zn HX4.out)).trans HX4.out) 1).trans rfl
   have hR6:Kd.R k86 86 w5 w4.heap.size (fun _=>True) (.slice (some ⟨g5,0,none⟩) H.length c5) ((a++h::b).map rowT):=by rw [<-HLL.out];exact hR5
   have HT:=Zz.mk (R_turn (k:=⟨h.id,h.srv,asks h.hd X⟩) hR6 4 [.int .i64 X.f0,.int .i64 X.f1,.bool true] (by simp) rfl)
   clear hR6
   have HG5:=Zz.mk hg5
   clear hR5 hc hf hg5 HR5
   go_upto_region 12 with fail
   obtain ⟨w6,hw6⟩:∃w6,w6=((w5.setCell ⟨g5,a.length*7+4,none⟩ (.int .i64 X.f0)).setCell ⟨g5,a.length*7+4+1,none⟩ (.int .i64 X.f1)).setCell ⟨g5,a.length*7+6,none⟩ (.bool true):=⟨_,rfl⟩
   obtain ⟨bl,hbl⟩:∃bl,bl=setH H z (asks h.hd X):=⟨_,rfl⟩
   have hbl2:bl=a++⟨h.id,h.srv,asks h.hd X⟩::b:=by rw [hbl];exact HSET.out
   have hlb:H.length=bl.length:=by rw [hbl2,HLL.out];simp
   have hT6:Kd.R k86 86 w6 w4.heap.size (fun _=>True) (.slice (some ⟨g5,0,none⟩) bl.length c5) ((a++⟨h.id,h.srv,asks h.hd X⟩::b).map rowT):=by rw [hw6,<-hlb];exact HT.out.1
   have z1:w6.cell? ⟨g5,a.length*7+1,none⟩=some (.int .i64 h.srv):=(R_row hT6).1 1 _ rfl
   have HT6:=Zz.mk (show Kd.R k86 86 w6 w4.heap.size (fun _=>True) (.slice (some ⟨g5,0,none⟩) bl.length c5) (bl.map rowT) by rw [hbl2] at hT6 ⊢;exact hT6)
   have HB6:=Zz.mk (show Below w4.heap.size w4 w6 by rw [hw6];exact HB5.out.grown HT.out.2 HB5.out.size (fun k e=>by have:=Option.some.inj e;have:=HG5.out;omega))
   rw [<-hw6,hlb]
   clear hw6 y3 y4 y5 f3 f4 f5 x0 x1 HT hT6
   have HRL:=Zz.mk (HR4.out.below HB6.out)
   have HVL:=Zz.mk (HV4.out.below HB6.out)
   have HSETL:=Zz.mk hbl
   have HOB:=Zz.mk (show bl.length<=500/\(∀x∈bl,OkHol x)/\∀x∈bl,inR sv.length x.srv by
    refine ⟨by have:=HL.out;omega,fun q hq=>?_,fun q hq=>?_⟩
    ·rw [hbl2] at hq
     rcases List.mem_append.1 hq with hq|hq
     ·exact HO.out.ok q (by rw [HLL.out];exact List.mem_append.2 (.inl hq))
     ·rcases List.mem_cons.1 hq with rfl|hq
      ·exact ok_ask (HO.out.ok h (getH_mem HGET.out).1) HM.out
      ·exact HO.out.ok q (by rw [HLL.out];exact List.mem_append.2 (.inr (List.mem_cons_of_mem _ hq)))
    ·rw [hbl2] at hq
     rcases List.mem_append.1 hq with hq|hq
     ·exact HO.out.srv q (by rw [HLL.out];exact List.mem_append.2 (.inl hq))
     ·rcases List.mem_cons.1 hq with rfl|hq
      ·exact HO.out.srv h (getH_mem HGET.out).1
      ·exact HO.out.srv q (by rw [HLL.out];exact List.mem_append.2 (.inr (List.mem_cons_of_mem _ hq))))
   have HBF:=Zz.mk (show decide (∀y∈pathT sv h.srv,heldH sv bl y<=al y)=askP sv al H h X by rw [hbl];exact fits_ask HO.out HGET.out HHA.out)
   have HEQ:=Zz.mk (show askTE sv al H z X=if askP sv al H h X=true then 0 else 18 by rw [HSOM.out.1,if_neg (by rw [HHA.out];decide)])
   obtain ⟨Bf,hBf⟩:∃Bf,Bf=askP sv al H h X:=⟨_,rfl⟩
   rw [<-hBf] at HBF HEQ
   have hal2:a.length<bl.length:=by omega
   have d1:decide ((a.length:Int)<(bl.length:Int))=true:=decide_eq_true (by omega)
   clear hbl hbl2 hBf hlb
   go_upto_region 13 with (go_at_call 92;refine (rfits_calls gt base x y AS cS b0 sv H h.srv (some ⟨g5,0,none⟩) c5 bl n d al w6 HRL.out HVL.out HA.out.1 HA.out.2.1 HA.out.2.2.1 HA.out.2.2.2.1 HA.out.2.2.2.2 (by have:=(Kd.R_reads' HT6.out).2.2;rw [List.length_map] at this;exact this) (Kd.R_reads' HT6.out).2.1 HOB.out.1 HOB.out.2.1 HOB.out.2.2).mono ?_;rw [HBF.out];rintro e w9 ⟨rfl,hb9⟩;have HB9:=Zz.mk hb9;clear hb9)
   have HR9:=Zz.mk (HRL.out.below HB9.out)
   have HW9:=Zz.mk (Kd.R_lower (Kd.R_below HT6.out HB9.out) (show base<=w4.heap.size from Nat.le_trans HZW.out HB4.out.size))
   have HK9:=Zz.mk ((KR.of (gt:=gt) (base:=base) HB4.out).trans ((KR.of HB6.out).trans (KR.of HB9.out)))
   clear HRL HVL HT6 z1
   cases Bf with
   | false =>
    have HE1:=Zz.mk (show askTE sv al H z X=18 from HEQ.out)
    go_wp2_with fail
    refine bodyPost_ret (results_tmp rfl _ _ _) rfl ⟨by rw [HE.out,HE1.out];rfl,?_,HK9.out⟩
    rw [ask_same (by rw [HE1.out];decide)]
    exact HR9.out
   | true =>
    have HE1:=Zz.mk (show askTE sv al H z X=0 from HEQ.out)
    obtain ⟨v,hM,_⟩:=HR9.out.out
    have g2:w9.cell? ⟨gt,3,none⟩=some v:=(Zg hM 3).trans (by simp)
    have f2:w9.frozen? ⟨gt,3,none⟩=false:=Zq hM 3
    have HP:=Zz.mk (RT.put HR9.out HW9.out)
    clear hM
    go_wp2_with fail
    refine bodyPost_ret (results_tmp rfl _ _ _) rfl ⟨by rw [HE.out,HE1.out];rfl,?_,HK9.out.trans HP.out.2⟩
    rw [HSOM.out.2,if_pos HE1.out,<-HSETL.out]
    exact HP.out.1
end Go.Proofs.Ytfldklimlcnnnaa.XRAk
end

section
namespace Go.Proofs.Ytfldklimlcnnnaa.XRSt
open Go.RowKit Go.Shelf PHq YtfldklimlcnnnaaW.PrintWords YtfldklimlcnnnaaW.PrintLast YtfldklimlcnnnaaW.PrintMore MWords
open MNat QNat QEv QRatio XRV XHold XWts XLed XFits XJoin XAsk XAwake QHold XOp XTree QTree XOf XCollect XTHeld QTr XTJoin XTAsk XTSettle XEnd XTNew2 XTMade QTChk XTKt XQOp QRef13 XRef13 XRPath XRHeld XRFit XRFitt QEq13 XRJn XRow13
theorem limbs_set {W:World} {p:Addr} {u v:Value} (h:W.cell? p=some u) (hu:∀n,u ≠ .int .u32 n) (q:Addr) (n:Int) (hq:W.cell? q=some (.int .u32 n)):(W.setCell p v).cell? q=some (.int .u32 n):=by
 rw [World.cell?_setCell_other _ _ _ _ (fun e=>by subst e;rw [h] at hq;exact hu n (Option.some.inj hq))]
 exact hq
theorem limbs_row {g:Nat} : ∀ (us vs:List Value) (W:World) (o:Nat),us.length=vs.length->(∀j u,us[j]? = some u->W.cell? ⟨g,o+j,none⟩=some u)->(∀u∈us,∀n,u ≠ .int .u32 n)->∀ (q:Addr) (n:Int),W.cell? q=some (.int .u32 n)->(W.setCells g o vs).cell? q=some (.int .u32 n)
 | [],[],W,o,_,_,_,q,n,hq=>hq
 | u::us,v::vs,W,o,hl,hc,hu,q,n,hq=>by
  rw [World.setCells]
  have h0:W.cell? ⟨g,o,none⟩=some u:=hc 0 u rfl
  refine limbs_row us vs (W.setCell ⟨g,o,none⟩ v) (o+1) (by simpa using hl) (fun j y hj=>?_) (fun y hy=>hu y (List.mem_cons_of_mem _ hy)) q n (limbs_set h0 (hu u List.mem_cons_self) q n hq)
  have:=hc (j+1) y hj
  rw [World.cell?_setCell_other _ _ _ _ (fun e=>by simp only [Addr.mk.injEq] at e;omega),show o+1+j=o+(j+1) by omega]
  exact this
set_option maxRecDepth 100000 in
set_option maxHeartbeats 4000000 in
theorem rsettle_calls (gt base:Nat) (x y:Value) (AS:Option Addr) (cS b0:Nat) (sv:List S71) (H:List Hol) (m:Nat) (z:Int) (w:World) (h:RT w gt base x y AS cS b0 sv H) (hO:Ho sv H m) (hm:m<490) :
  Calls Try.prog 51 #[.pointer (some ⟨gt,0,none⟩),.int .i64 z] w fun e w'=>e=.returned (.int .i64 (settleTE H z))/\RT w' gt base x y AS cS b0 sv (settleTH H z)/\KR gt base w w':=by
 have mixed:Try.prog.follows Departure.mixedOrders=true:=by kernel_rfl
 have HR4:=Zz.mk h
 have HO:=Zz.mk hO
 have HL:=Zz.mk (show H.length<490 by have:=hO.len;omega)
 clear hO hm h
 go_enter Try.func51,Try.ntmps51
 cases hg:getH H z with
 | none =>
  have HE:=Zz.mk (settle_none hg)
  have HAT:=Zz.mk (at_none (has_none (getH_none hg)))
  clear hg
  go_wp2_with (go_at_call 57;refine (at_calls gt base x y AS cS b0 sv H z _ HR4.out (by have:=HL.out;omega)).mono ?_;rw [HAT.out];rintro e w4 ⟨rfl,rfl⟩)
  refine bodyPost_ret (results_tmp rfl _ _ _) rfl ⟨by rw [HE.out.1];rfl,?_,KR.of (Below.refl _ _)⟩
  rw [HE.out.2]
  exact HR4.out
 | some h =>
  obtain ⟨a,b,hL,hzz,ha,_,hset,_⟩:=split_all HO.out.nod hg
  have HLL:=Zz.mk hL
  have HSET:=Zz.mk (hset (settled h.hd))
  have HAT:=Zz.mk (show atP H z=(a.length:Int) by rw [hL];exact at_some hzz ha)
  have HSOM:=Zz.mk (settle_some hg)
  have hal:a.length<H.length:=by rw [hL];simp
  clear hg hL ha hset hzz
  go_upto_if 10 with (go_at_call 57;refine (at_calls gt base x y AS cS b0 sv H z _ HR4.out (by have:=HL.out;omega)).mono ?_;rw [HAT.out];rintro e w4 ⟨rfl,rfl⟩)
  have d0:decide ((a.length:Int)<0)=false:=decide_eq_false (by omega)
  obtain ⟨v,hM,hR⟩:=HR4.out.out
  have hR0:=hR
  rw [HLL.out] at hR0
  obtain ⟨g0,c0,rfl,hbg,_,_⟩:=Kd.R_form hR0 (by simp<;>omega)
  rw [List.length_map,<-HLL.out] at hR0
  have hR1:Kd.R k86 86 w4 base (fun _=>True) (.slice (some ⟨g0,0,none⟩) H.length c0) ((a++h::b).map rowT):=by rw [<-HLL.out];exact hR0
  obtain ⟨hc,hf,hlen⟩:=R_row hR1
  have k2:w4.cell? ⟨gt,3,none⟩=some (.slice (some ⟨g0,0,none⟩) H.length c0):=(Zg hM 3).trans (by simp [HLL.out])
  have y0:w4.cell? ⟨g0,a.length*7,none⟩=some (.int .i64 h.id):=hc 0 _ rfl
  have y1:w4.cell? ⟨g0,a.length*7+1,none⟩=some (.int .i64 h.srv):=hc 1 _ rfl
  have y2:w4.cell? ⟨g0,a.length*7+2,none⟩=some (.int .i64 h.hd.e):=hc 2 _ rfl
  have y3:w4.cell? ⟨g0,a.length*7+3,none⟩=some (.int .i64 h.hd.p):=hc 3 _ rfl
  have y4:w4.cell? ⟨g0,a.length*7+4,none⟩=some (.int .i64 h.hd.e2):=hc 4 _ rfl
  have y5:w4.cell? ⟨g0,a.length*7+5,none⟩=some (.int .i64 h.hd.p2):=hc 5 _ rfl
  have y6:w4.cell? ⟨g0,a.length*7+6,none⟩=some (.bool h.hd.a):=hc 6 _ rfl
  have f0:w4.frozen? ⟨g0,a.length*7,none⟩=false:=hf 0
  have f1:=hf 1
  have f2:=hf 2
  have f3:=hf 3
  have f4:=hf 4
  have f5:=hf 5
  have f6:=hf 6
  have HR1:=Zz.mk hR1
  have HM4:=Zz.mk hM
  have HBG:=Zz.mk hbg
  have HCC:=Zz.mk hc
  clear hR hR0 hR1 hc hf hlen hM hbg
  have d1:decide ((a.length:Int)<(H.length:Int))=true:=decide_eq_true (by omega)
  have d2:decide (0<=(a.length:Int))=true:=decide_eq_true (by omega)
  cases hA:h.hd.a with
  | false =>
   rw [hA] at y6
   have HE:=Zz.mk (show settleTE H z=13/\settleTH H z=H from ⟨HSOM.out.1.trans (if_neg (by rw [hA];decide)),HSOM.out.2.trans (if_neg (by rw [hA];decide))⟩)
   clear hA
   go_wp2_with fail
   refine bodyPost_ret (results_tmp rfl _ _ _) rfl ⟨by rw [HE.out.1];rfl,?_,KR.of (Below.refl _ _)⟩
   rw [HE.out.2]
   exact HR4.out
  | true =>
   rw [hA] at y6
   have HE:=Zz.mk (show settleTE H z=0/\settleTH H z=a++⟨z,h.srv,settled h.hd⟩::b from ⟨HSOM.out.1.trans (if_pos hA),(HSOM.out.2.trans (if_pos hA)).trans HSET.out⟩)
   clear hA
   go_upto_region 6 with fail
   refine start_ (n:=25) (S:=fun w'=>w'.cell? ⟨gt,3,none⟩=some (.slice (some ⟨g0,0,none⟩) H.length c0)/\w'.cell? ⟨g0,a.length*7,none⟩=some (.int .i64 h.id)/\w'.cell? ⟨g0,a.length*7+1,none⟩=some (.int .i64 h.srv)/\w'.cell? ⟨g0,a.length*7+2,none⟩=some (.int .i64 h.hd.e)/\w'.cell? ⟨g0,a.length*7+3,none⟩=some (.int .i64 h.hd.p)/\w'.cell? ⟨g0,a.length*7+4,none⟩=some (.int .i64 h.hd.e2)/\w'.cell? ⟨g0,a.length*7+5,none⟩=some (.int .i64 h.hd.p2)/\w'.cell? ⟨g0,a.length*7+6,none⟩=some (.bool true)) (ds:=[24]) #[false,false,false,false,false,false,false,false,false,false,false,false,false,false,false,false,false,false,false,false,false,false,false,false,false] (by kernel_rfl) rfl rfl ⟨k2,y0,y1,y2,y3,y4,y5,y6⟩ (fun hHeld=>?_)
   refine pure_ (i:=0) (N:=some 20) (v:=?_) (a':=?_) #[true,false,false,false,false,false,false,false,false,false,false,false,false,false,false,false,false,false,false,false,false,false,false,false,false] rfl rfl (by kernel_rfl) (fun _ _ _ h=>h) (Or.inl ⟨by rfl,?_⟩) ?_ ?_
   rotate_left
   ·intro w'
    go_simp
    with_reducible rfl
   rotate_left
   ·simp only [Act.put,List.setIfInBounds_toArray,List.set_cons_zero,List.set_cons_succ,Z6,Z7]
    rfl
   refine pure_ (i:=1) (N:=some 21) (v:=?_) (a':=?_) #[true,true,false,false,false,false,false,false,false,false,false,false,false,false,false,false,false,false,false,false,false,false,false,false,false] rfl rfl (by kernel_rfl) (fun _ _ _ h=>h) (Or.inl ⟨by rfl,?_⟩) ?_ ?_
   rotate_left
   ·intro w'
    go_simp
    with_reducible rfl
   rotate_left
   ·simp only [Act.put,List.setIfInBounds_toArray,List.set_cons_zero,List.set_cons_succ,Z6,Z7]
    rfl
   refine pure_ (i:=2) (N:=some 22) (v:=?_) (a':=?_) #[true,true,true,false,false,false,false,false,false,false,false,false,false,false,false,false,false,false,false,false,false,false,false,false,false] rfl rfl (by kernel_rfl) (fun _ _ _ h=>h) (Or.inl ⟨by rfl,?_⟩) ?_ ?_
   rotate_left
   ·intro w'
    go_simp
    with_reducible rfl
   rotate_left
   ·simp only [Act.put,List.setIfInBounds_toArray,List.set_cons_zero,List.set_cons_succ,Z6,Z7]
    rfl
   refine pure_ (i:=4) (N:=some 24) (v:=?_) (a':=?_) #[true,true,true,false,true,false,false,false,false,false,false,false,false,false,false,false,false,false,false,false,false,false,false,false,false] rfl rfl (by kernel_rfl) (fun _ _ _ h=>h) (Or.inl ⟨by rfl,?_⟩) ?_ ?_
   rotate_left
   ·intro w'
    go_simp
    with_reducible rfl
   rotate_left
   ·simp only [Act.put,List.setIfInBounds_toArray,List.set_cons_zero,List.set_cons_succ,Z6,Z7]
    rfl
   refine pure_ (i:=5) (N:=some 25) (v:=?_) (a':=?_) #[true,true,true,false,true,true,false,false,false,false,false,false,false,false,false,false,false,false,false,false,false,false,false,false,false] rfl rfl (by kernel_rfl) (fun _ _ _ h=>h) (Or.inl ⟨by rfl,?_⟩) ?_ ?_
   rotate_left
   ·intro w'
    go_simp
    with_reducible rfl
   rotate_left
   ·simp only [Act.put,List.setIfInBounds_toArray,List.set_cons_zero,List.set_cons_succ,Z6,Z7]
    rfl
   refine pure_ (i:=6) (N:=some 26) (v:=?_) (a':=?_) #[true,true,true,false,true,true,true,false,false,false,false,false,false,false,false,false,false,false,false,false,false,false,false,false,false] rfl rfl (by kernel_rfl) (fun _ _ _ h=>h) (Or.inl ⟨by rfl,?_⟩) ?_ ?_
   rotate_left
   ·intro w'
    go_simp
    with_reducible rfl
   rotate_left
   ·simp only [Act.put,List.setIfInBounds_toArray,List.set_cons_zero,List.set_cons_succ,Z6,Z7]
    rfl
   refine pure_ (i:=7) (N:=some 27) (v:=?_) (a':=?_) #[true,true,true,false,true,true,true,true,false,false,false,false,false,false,false,false,false,false,false,false,false,false,false,false,false] rfl rfl (by kernel_rfl) (fun _ _ _ h=>h) (Or.inl ⟨by rfl,?_⟩) ?_ ?_
   rotate_left
   ·intro w'
    go_simp
    with_reducible rfl
   rotate_left
   ·simp only [Act.put,List.setIfInBounds_toArray,List.set_cons_zero,List.set_cons_succ,Z6,Z7]
    rfl
   refine pure_ (i:=8) (N:=some 28) (v:=?_) (a':=?_) #[true,true,true,false,true,true,true,true,true,false,false,false,false,false,false,false,false,false,false,false,false,false,false,false,false] rfl rfl (by kernel_rfl) (fun _ _ _ h=>h) (Or.inl ⟨by rfl,?_⟩) ?_ ?_
   rotate_left
   ·intro w'
    go_simp
    with_reducible rfl
   rotate_left
   ·simp only [Act.put,List.setIfInBounds_toArray,List.set_cons_zero,List.set_cons_succ,Z6,Z7]
    rfl
   refine pure_ (i:=10) (N:=some 30) (v:=?_) (a':=?_) #[true,true,true,false,true,true,true,true,true,false,true,false,false,false,false,false,false,false,false,false,false,false,false,false,false] rfl rfl (by kernel_rfl) (fun _ _ _ h=>h) (Or.inl ⟨by rfl,?_⟩) ?_ ?_
   rotate_left
   ·intro w'
    go_simp
    with_reducible rfl
   rotate_left
   ·simp only [Act.put,List.setIfInBounds_toArray,List.set_cons_zero,List.set_cons_succ,Z6,Z7]
    rfl
   refine pure_ (i:=14) (N:=some 34) (v:=?_) (a':=?_) #[true,true,true,false,true,true,true,true,true,false,true,false,false,false,true,false,false,false,false,false,false,false,false,false,false] rfl rfl (by kernel_rfl) (fun _ _ _ h=>h) (Or.inl ⟨by rfl,?_⟩) ?_ ?_
   rotate_left
   ·intro w'
    go_simp
    with_reducible rfl
   rotate_left
   ·simp only [Act.put,List.setIfInBounds_toArray,List.set_cons_zero,List.set_cons_succ,Z6,Z7]
    rfl
   refine pure_ (i:=15) (N:=some 35) (v:=?_) (a':=?_) #[true,true,true,false,true,true,true,true,true,false,true,false,false,false,true,true,false,false,false,false,false,false,false,false,false] rfl rfl (by kernel_rfl) (fun _ _ _ h=>h) (Or.inl ⟨by rfl,?_⟩) ?_ ?_
   rotate_left
   ·intro w'
    go_simp
    with_reducible rfl
   rotate_left
   ·simp only [Act.put,List.setIfInBounds_toArray,List.set_cons_zero,List.set_cons_succ,Z6,Z7]
    rfl
   refine pure_ (i:=16) (N:=some 36) (v:=?_) (a':=?_) #[true,true,true,false,true,true,true,true,true,false,true,false,false,false,true,true,true,false,false,false,false,false,false,false,false] rfl rfl (by kernel_rfl) (fun _ _ _ h=>h) (Or.inl ⟨by rfl,?_⟩) ?_ ?_
   rotate_left
   ·intro w'
    go_simp
    with_reducible rfl
   rotate_left
   ·simp only [Act.put,List.setIfInBounds_toArray,List.set_cons_zero,List.set_cons_succ,Z6,Z7]
    rfl
   refine pure_ (i:=18) (N:=some 38) (v:=?_) (a':=?_) #[true,true,true,false,true,true,true,true,true,false,true,false,false,false,true,true,true,false,true,false,false,false,false,false,false] rfl rfl (by kernel_rfl) (fun _ _ _ h=>h) (Or.inl ⟨by rfl,?_⟩) ?_ ?_
   rotate_left
   ·intro w'
    go_simp
    with_reducible rfl
   rotate_left
   ·simp only [Act.put,List.setIfInBounds_toArray,List.set_cons_zero,List.set_cons_succ,Z6,Z7]
    rfl
   refine take_ (i:=3) (N:=some 23) (v:=?_) (a':=?_) #[true,true,true,true,true,true,true,true,true,false,true,false,false,false,true,true,true,false,true,false,false,false,false,false,false] rfl rfl (by kernel_rfl) (fun _ _ _ h=>h) (Or.inl ⟨by rfl,?_⟩) hHeld ?_ ?_
   rotate_left
   ·rintro w' ⟨s0,s1,s2,s3,s4,s5,s6,s7⟩
    go_simp
    with_reducible rfl
   rotate_left
   ·simp only [Act.put,List.setIfInBounds_toArray,List.set_cons_zero,List.set_cons_succ,Z6,Z7]
    rfl
   refine take_ (i:=9) (N:=some 29) (v:=?_) (a':=?_) #[true,true,true,true,true,true,true,true,true,true,true,false,false,false,true,true,true,false,true,false,false,false,false,false,false] rfl rfl (by kernel_rfl) (fun _ _ _ h=>h) (Or.inl ⟨by rfl,?_⟩) hHeld ?_ ?_
   rotate_left
   ·rintro w' ⟨s0,s1,s2,s3,s4,s5,s6,s7⟩
    go_simp
    with_reducible rfl
   rotate_left
   ·simp only [Act.put,List.setIfInBounds_toArray,List.set_cons_zero,List.set_cons_succ,Z6,Z7]
    rfl
   refine pure_ (i:=11) (N:=some 31) (v:=?_) (a':=?_) #[true,true,true,true,true,true,true,true,true,true,true,true,false,false,true,true,true,false,true,false,false,false,false,false,false] rfl rfl (by kernel_rfl) (fun _ _ _ h=>h) (Or.inl ⟨by rfl,?_⟩) ?_ ?_
   rotate_left
   ·intro w'
    go_simp
    with_reducible rfl
   rotate_left
   ·simp only [Act.put,List.setIfInBounds_toArray,List.set_cons_zero,List.set_cons_succ,Z6,Z7]
    rfl
   refine pure_ (i:=12) (N:=some 32) (v:=?_) (a':=?_) #[true,true,true,true,true,true,true,true,true,true,true,true,true,false,true,true,true,false,true,false,false,false,false,false,false] rfl rfl (by kernel_rfl) (fun _ _ _ h=>h) (Or.inl ⟨by rfl,?_⟩) ?_ ?_
   rotate_left
   ·intro w'
    go_simp
    with_reducible rfl
   rotate_left
   ·simp only [Act.put,List.setIfInBounds_toArray,List.set_cons_zero,List.set_cons_succ,Z6,Z7]
    rfl
   refine take_ (i:=13) (N:=some 33) (v:=?_) (a':=?_) #[true,true,true,true,true,true,true,true,true,true,true,true,true,true,true,true,true,false,true,false,false,false,false,false,false] rfl rfl (by kernel_rfl) (fun _ _ _ h=>h) (Or.inl ⟨by rfl,?_⟩) hHeld ?_ ?_
   rotate_left
   ·rintro w' ⟨s0,s1,s2,s3,s4,s5,s6,s7⟩
    go_simp
    with_reducible rfl
   rotate_left
   ·simp only [Act.put,List.setIfInBounds_toArray,List.set_cons_zero,List.set_cons_succ,Z6,Z7]
    rfl
   refine take_ (i:=17) (N:=some 37) (v:=?_) (a':=?_) #[true,true,true,true,true,true,true,true,true,true,true,true,true,true,true,true,true,true,true,false,false,false,false,false,false] rfl rfl (by kernel_rfl) (fun _ _ _ h=>h) (Or.inl ⟨by rfl,?_⟩) hHeld ?_ ?_
   rotate_left
   ·rintro w' ⟨s0,s1,s2,s3,s4,s5,s6,s7⟩
    go_simp
    with_reducible rfl
   rotate_left
   ·simp only [Act.put,List.setIfInBounds_toArray,List.set_cons_zero,List.set_cons_succ,Z6,Z7]
    rfl
   refine pure_ (i:=19) (N:=some 39) (v:=?_) (a':=?_) #[true,true,true,true,true,true,true,true,true,true,true,true,true,true,true,true,true,true,true,true,false,false,false,false,false] rfl rfl (by kernel_rfl) (fun _ _ _ h=>h) (Or.inl ⟨by rfl,?_⟩) ?_ ?_
   rotate_left
   ·intro w'
    go_simp
    with_reducible rfl
   rotate_left
   ·simp only [Act.put,List.setIfInBounds_toArray,List.set_cons_zero,List.set_cons_succ,Z6,Z7]
    rfl
   refine pure_ (i:=20) (N:=some 40) (v:=?_) (a':=?_) #[true,true,true,true,true,true,true,true,true,true,true,true,true,true,true,true,true,true,true,true,true,false,false,false,false] rfl rfl (by kernel_rfl) (fun _ _ _ h=>h) (Or.inl ⟨by rfl,?_⟩) ?_ ?_
   rotate_left
   ·intro w'
    go_simp
    with_reducible rfl
   rotate_left
   ·simp only [Act.put,List.setIfInBounds_toArray,List.set_cons_zero,List.set_cons_succ,Z6,Z7]
    rfl
   refine take_ (i:=21) (N:=some 41) (v:=?_) (a':=?_) #[true,true,true,true,true,true,true,true,true,true,true,true,true,true,true,true,true,true,true,true,true,true,false,false,false] rfl rfl (by kernel_rfl) (fun _ _ _ h=>h) (Or.inl ⟨by rfl,?_⟩) hHeld ?_ ?_
   rotate_left
   ·rintro w' ⟨s0,s1,s2,s3,s4,s5,s6,s7⟩
    go_simp
    with_reducible rfl
   rotate_left
   ·simp only [Act.put,List.setIfInBounds_toArray,List.set_cons_zero,List.set_cons_succ,Z6,Z7]
    rfl
   refine pure_ (i:=22) (N:=some 42) (v:=?_) (a':=?_) #[true,true,true,true,true,true,true,true,true,true,true,true,true,true,true,true,true,true,true,true,true,true,true,false,false] rfl rfl (by kernel_rfl) (fun _ _ _ h=>h) (Or.inl ⟨by rfl,?_⟩) ?_ ?_
   rotate_left
   ·intro w'
    go_simp
    with_reducible rfl
   rotate_left
   ·simp only [Act.put,List.setIfInBounds_toArray,List.set_cons_zero,List.set_cons_succ,Z6,Z7]
    rfl
   refine pure_ (i:=23) (N:=some 43) (v:=?_) (a':=?_) #[true,true,true,true,true,true,true,true,true,true,true,true,true,true,true,true,true,true,true,true,true,true,true,true,false] rfl rfl (by kernel_rfl) (fun _ _ _ h=>h) (Or.inl ⟨by rfl,?_⟩) ?_ ?_
   rotate_left
   ·intro w'
    go_simp
    with_reducible rfl
   rotate_left
   ·simp only [Act.put,List.setIfInBounds_toArray,List.set_cons_zero,List.set_cons_succ,Z6,Z7]
    rfl
   refine last_ (i:=24) (N:=none) #[true,true,true,true,true,true,true,true,true,true,true,true,true,true,true,true,true,true,true,true,true,true,true,true,true] rfl rfl (by kernel_rfl) (by decide) (fun K hK=>?_)
   refine skip_ (w1:=?_) (by rfl) rfl ?_ ?_
   rotate_left
   ·go_simp
    rfl
   refine hK.out _ _ ?_
   clear hK K
   refine done_ (by kernel_rfl) ?_
   obtain ⟨w6,hw6⟩:∃w6,w6=w4.setCells g0 (a.length*7+0) (cellsT ⟨z,h.srv,settled h.hd⟩):=⟨_,rfl⟩
   have HT:=R_turn (k:=⟨z,h.srv,settled h.hd⟩) HR1.out 0 (cellsT ⟨z,h.srv,settled h.hd⟩) (by simp [cellsT]) rfl
   rw [<-hw6] at HT
   have hng:g0≠gt:=by
    rintro rfl
    obtain ⟨cells,hc⟩:=Kd.R_typed HR1.out g0 rfl
    rw [show w4.heap[g0]? = _ from HM4.out] at hc
    simp at hc
   have hs:∀k,k≠g0->w6.heap[k]? = w4.heap[k]?:=fun k hk=>by rw [hw6];exact setCells_far _ _ k hk
   have hgb:=HT.2
   have HK:=Zz.mk (show KR gt base w4 w6 from ⟨hgb.os,hgb.tape,hgb.output,hgb.size,fun k hlt hk ht=>hs k (fun e=>by
    subst e
    obtain ⟨cells,hc⟩:=Kd.R_typed HR1.out k rfl
    exact ht HBG.out cells hc),fun q n hq=>by
    rw [hw6]
    exact limbs_row (cellsT h) (cellsT ⟨z,h.srv,settled h.hd⟩) w4 (a.length*7+0) rfl (fun j u hj=>HCC.out j u hj) (fun u hu n e=>by
     subst e
     unfold cellsT at hu
     simp at hu) q n hq⟩)
   have hrow:Kd.R k71 71 w6 b0 (fun _=>True) (.slice AS sv.length cS) sv:=Kd.R_mono (Kd.R_step (Kd.R_bound HR4.out.row) (fun k ho hlt=>hs k (fun e=>by
    subst e
    obtain ⟨_,_,_,q,hq,cells,hc⟩:=ho
    have e:q=71:=by
     have:q ∈ [71]:=hq
     simpa using this
    subst e
    obtain ⟨cells',hc'⟩:=Kd.R_typed HR1.out k rfl
    rw [hc'] at hc
    simp at hc))) (fun _ _=>trivial)
   have HRL:=Zz.mk (show RT w6 gt base x y AS cS b0 sv (settleTH H z) from ⟨⟨_,(hs gt (fun e=>hng e.symm)).trans HM4.out,by
    rw [HE.out.2]
    have:=HT.1
    rw [show H.length=(a++h::b).length by rw [HLL.out]] at this
    rw [List.length_map,<-HLL.out]
    rw [<-HLL.out] at this
    exact this⟩,hrow,HR4.out.shape⟩)
   clear HT hng hs hgb hrow
   have e6:(((((((w4.setCell ⟨g0,a.length*7,none⟩ (.int .i64 z)).setCell ⟨g0,a.length*7+1,none⟩ (.int .i64 h.srv)).setCell ⟨g0,a.length*7+2,none⟩ (.int .i64 h.hd.e2)).setCell ⟨g0,a.length*7+3,none⟩ (.int .i64 h.hd.p2)).setCell ⟨g0,a.length*7+4,none⟩ (.int .i64 0)).setCell ⟨g0,a.length*7+5,none⟩ (.int .i64 0)).setCell ⟨g0,a.length*7+6,none⟩ (.bool false))=w6:=hw6.symm
   rw [e6]
   clear hw6 e6 y0 y1 y2 y3 y4 y5 y6 f0 f1 f2 f3 f4 f5 f6 k2
   go_wp2_with fail
   have hbd:=Zr (Below.refl w6.heap.size w6)
   exact bodyPost_ret (results_tmp rfl _ _ _) rfl ⟨by rw [HE.out.1];rfl,HRL.out.below hbd,HK.out.trans (KR.of hbd)⟩
end Go.Proofs.Ytfldklimlcnnnaa.XRSt
end

section
namespace Go.Proofs.Ytfldklimlcnnnaa.XRFr
open Go.RowKit Go.Shelf PHq YtfldklimlcnnnaaW.PrintWords YtfldklimlcnnnaaW.PrintLast YtfldklimlcnnnaaW.PrintMore MWords
open MNat QNat QEv QRatio XRV XHold XWts XLed XFits XJoin XAsk XAwake QHold XOp XTree QTree XOf XCollect XTHeld QTr XTJoin XTAsk XTSettle XEnd XTNew2 XTMade QTChk XTKt XQOp QRef13 XRef13 XRPath XRHeld XRFit XRFitt QEq13 XRJn XRow13 XRSt
theorem C_take {w:World} {A:Option Addr} {n:Nat} {xs:List S86} (h:Kd.C k86 w A n xs) (k:Nat) (hk:k<=n):Kd.C k86 w A k (xs.take k):=by
 have h1:xs.length=n:=h.1
 refine ⟨by rw [List.length_take];omega,by have:=h.2.1;omega,fun hp=>?_⟩
 obtain ⟨ad,e,hc⟩:=h.2.2 (by omega)
 refine ⟨ad,e,fun j p hj=>hc j p ?_⟩
 rw [List.getElem?_take] at hj
 split at hj
 ·exact hj
 ·cases hj
theorem C_drop {w:World} {g n:Nat} {xs:List S86} (h:Kd.C k86 w (some ⟨g,0,none⟩) n xs) (k:Nat) (hk:k<=n):Kd.C k86 w (some ⟨g,k*7,none⟩) (n-k) (xs.drop k):=by
 have h1:xs.length=n:=h.1
 refine ⟨by rw [List.length_drop];omega,by have:=h.2.1;omega,fun hp=>⟨_,rfl,fun j p hj=>?_⟩⟩
 obtain ⟨ad,e,hc⟩:=h.2.2 (by omega)
 obtain rfl:=Option.some.inj e
 rw [List.getElem?_drop] at hj
 obtain ⟨c,hl,hK,hcell⟩:=hc (k+j) p hj
 refine ⟨c,hl,hK,fun i u hi=>?_⟩
 have:=hcell i u hi
 have e2:(⟨g,0,none⟩:Addr).add ((k+j)*k86.sz+i)=(⟨g,k*7,none⟩:Addr).add (j*k86.sz+i):=by
  have:k86.sz=7:=rfl
  rw [this]
  simp only [Addr.add]
  simp
  split<;>split<;>simp<;>omega
 rw [<-e2]
 exact this
theorem C_tail {w:World} {g n c:Nat} {xs:List S86} (h:Kd.C k86 w (some ⟨g,0,none⟩) n xs) (hc:n<=c) (k:Nat) (hk:k<=n):Kd.C k86 w (if c=k then some ⟨g,0,none⟩ else some ⟨g,k*7,none⟩) (n-k) (xs.drop k):=by
 by_cases e:c=k
 ·have h1:xs.length=n:=h.1
  exact ⟨by rw [List.length_drop];omega,by have:=h.2.1;omega,fun hp=>by omega⟩
 ·rw [if_neg e]
  exact C_drop h k hk
set_option maxRecDepth 100000 in
set_option maxHeartbeats 4000000 in
theorem rfree_calls (gt base:Nat) (x y:Value) (AS:Option Addr) (cS b0:Nat) (sv:List S71) (H:List Hol) (m:Nat) (z:Int) (w:World) (h:RT w gt base x y AS cS b0 sv H) (hO:Ho sv H m) (hm:m<490) (hb:base<=w.heap.size) :
  Calls Try.prog 53 #[.pointer (some ⟨gt,0,none⟩),.int .i64 z] w fun e w'=>e=.returned (.int .i64 (freeTE H z))/\RT w' gt base x y AS cS b0 sv (freeTH H z)/\KR gt base w w':=by
 have mixed:Try.prog.follows Departure.mixedOrders=true:=by kernel_rfl
 have HR4:=Zz.mk h
 have HO:=Zz.mk hO
 have HBS:=Zz.mk hb
 have HL:=Zz.mk (show H.length<490 by have:=hO.len;omega)
 clear hO hm h hb
 go_enter Try.func53,Try.ntmps53
 cases hg:getH H z with
 | none =>
  have HE:=Zz.mk (free_no (getH_none hg))
  have HAT:=Zz.mk (at_none (has_none (getH_none hg)))
  clear hg
  go_wp2_with (go_at_call 57;refine (at_calls gt base x y AS cS b0 sv H z _ HR4.out (by have:=HL.out;omega)).mono ?_;rw [HAT.out];rintro e w4 ⟨rfl,rfl⟩)
  refine bodyPost_ret (results_tmp rfl _ _ _) rfl ⟨by rw [HE.out.1];rfl,?_,KR.of (Below.refl _ _)⟩
  rw [HE.out.2]
  exact HR4.out
 | some h =>
  obtain ⟨a,b,hL,hzz,ha,_,_,hdel⟩:=split_all HO.out.nod hg
  have hys:=free_yes (hasH_iff.2 ⟨h,getH_mem hg⟩)
  have HE:=Zz.mk hys.1
  have HFL:=Zz.mk (show freeTH H z=a++b from hys.2.trans hdel)
  have HLL:=Zz.mk hL
  clear hys
  have HAT:=Zz.mk (show atP H z=(a.length:Int) by rw [hL];exact at_some hzz ha)
  have HAL:=Zz.mk (show H.length=a.length+1+b.length by rw [hL];simp;omega)
  have hal:a.length<H.length:=by have:=HAL.out;omega
  clear hg hL ha hdel hzz
  go_upto_if 11 with (go_at_call 57;refine (at_calls gt base x y AS cS b0 sv H z _ HR4.out (by have:=HL.out;omega)).mono ?_;rw [HAT.out];rintro e w4 ⟨rfl,rfl⟩)
  have d0:decide ((a.length:Int)<0)=false:=decide_eq_false (by omega)
  obtain ⟨v,hM,hR⟩:=HR4.out.out
  obtain ⟨g0,c0,rfl,hbg,_,_⟩:=Kd.R_form hR (by simp;omega)
  rw [List.length_map] at hR hM
  have hrd:=Kd.R_reads' hR
  rw [List.length_map] at hrd
  have k2:w4.cell? ⟨gt,3,none⟩=some (.slice (some ⟨g0,0,none⟩) H.length c0):=(Zg hM 3).trans (by simp)
  have HCL:=Zz.mk hrd.2.2
  have hlc:=hrd.2.1
  have HM4:=Zz.mk hM
  have HTA:=Zz.mk (show (H.map rowT).take a.length=a.map rowT by rw [HLL.out,List.map_append,List.take_left' (by simp)])
  have HTB:=Zz.mk (show (H.map rowT).drop (a.length+1)=b.map rowT by rw [HLL.out,List.map_append,List.map_cons,List.drop_append,List.length_map];simp)
  clear hR hrd hM hbg
  have d1:decide (0<=(a.length:Int))=true:=decide_eq_true (by omega)
  have d2:(a.length:Int)<=(c0:Int):=by omega
  go_upto_region 6 with ((with_reducible refine gate_builtin (b:=.append) (xs:=#[.tmp 12,.tmp 18]) rfl ?_);at_builtin;go_loud (refine Kd.R_append_rows k86 (w0:=w4) w4.heap.size rfl (.tmp 12) (.tmp 18) 79 86 (.agg #[.int .i64 0,.int .i64 0,.int .i64 0,.int .i64 0,.int .i64 0,.int .i64 0,.bool false]) 56 rfl Try.underlying79 infoH rfl (by decide) (by omega) (.slice none 0 0) [] (a.map rowT) (some ⟨g0,0,none⟩) a.length c0 (fun _=>True) (fun _=>False) rfl rfl (Kd.R_nil _ _ _ _ _) (rows_M (by rw [<-HTA.out];exact C_take HCL.out a.length (by omega))) (fun _ _ h=>h) (fun _ h=>h.elim) (fun _ _=>trivial) (Below.refl _ _) (Nat.le_refl _) (by have:=HL.out;simp;omega) ?_);intro v1 w5 hR hbb hg _;rw [List.nil_append] at hR;have HR5:=Zz.mk hR;have HB5:=Zz.mk hbb;clear hR hbb hg)
  have k2':w5.cell? ⟨gt,3,none⟩=some (.slice (some ⟨g0,0,none⟩) H.length c0):=(Zg ((HB5.out.block _ (Zn HM4.out)).trans HM4.out) 3).trans (by simp)
  have d3:((a.length:Int)+1)<=(H.length:Int):=by omega
  have d4:wrap64 ((a.length:Int)+1)=((a.length+1:Nat):Int):=by have:=HL.out;rw [QBits.w64 (by omega) (by omega)];omega
  have d5:((a.length+1:Nat):Int)<=(H.length:Int):=by omega
  have d6:(H.length:Int)<=(c0:Int):=by omega
  clear k2
  by_cases hcc:c0=a.length+1
  ·have HCC:=Zz.mk hcc
   replace hcc:=eq_true hcc
   go_upto_region 7 with ((with_reducible refine gate_builtin (b:=.append) (xs:=#[.tmp 21,.tmp 28]) rfl ?_);at_builtin;go_loud (refine Kd.R_append_rows k86 (w0:=w4) w4.heap.size rfl (.tmp 21) (.tmp 28) 79 86 (.agg #[.int .i64 0,.int .i64 0,.int .i64 0,.int .i64 0,.int .i64 0,.int .i64 0,.bool false]) 56 rfl Try.underlying79 infoH rfl (by decide) (by omega) v1 (a.map rowT) (b.map rowT) (some ⟨g0,0,none⟩) (H.length-(a.length+1)) (c0-(a.length+1)) (fun _=>True) (fun _=>False) rfl rfl HR5.out (rows_M (by rw [<-HTB.out];have h_:=C_tail (c:=c0) (Kd.C_below HCL.out HB5.out) (by omega) (a.length+1) (by omega);rw [if_pos HCC.out] at h_;exact h_)) (fun _ _ h=>h) (fun _ h=>h.elim) (fun _ _=>trivial) HB5.out HB5.out.size (by have:=HL.out;simp;omega) ?_);intro v2 w6 hR hbb hg _;obtain ⟨A6,c6,rfl⟩:=Kd.R_slice hR;have HR6:=Zz.mk hR;have HB6:=Zz.mk hbb;have g2:w6.cell? ⟨gt,3,none⟩=some (.slice (some ⟨g0,0,none⟩) H.length c0):=(Zg ((hbb.block _ (Zn HM4.out)).trans HM4.out) 3).trans (by simp);have f2:w6.frozen? ⟨gt,3,none⟩=false:=Zq ((hbb.block _ (Zn HM4.out)).trans HM4.out) 3;clear hR hbb hg)
   have HW:=Zz.mk (Kd.R_lower HR6.out (show base<=w4.heap.size from HBS.out))
   have HP:=Zz.mk (RT.put (H':=a++b) (HR4.out.below HB6.out) (by rw [List.map_append];exact HW.out))
   clear k2' d3 d4 d5 d6 g2 f2
   go_wp2_with fail
   have hpx:=HP.out
   simp only [List.length_append,List.length_map] at hpx
   refine bodyPost_ret (results_tmp rfl _ _ _) rfl ⟨by rw [HE.out];rfl,?_,(KR.of HB6.out).trans hpx.2⟩
   rw [HFL.out]
   exact hpx.1
  ·go_upto_region 7 with ((with_reducible refine gate_builtin (b:=.append) (xs:=#[.tmp 21,.tmp 28]) rfl ?_);at_builtin;go_loud (refine Kd.R_append_rows k86 (w0:=w4) w4.heap.size rfl (.tmp 21) (.tmp 28) 79 86 (.agg #[.int .i64 0,.int .i64 0,.int .i64 0,.int .i64 0,.int .i64 0,.int .i64 0,.bool false]) 56 rfl Try.underlying79 infoH rfl (by decide) (by omega) v1 (a.map rowT) (b.map rowT) (some ⟨g0,(a.length+1)*7,none⟩) (H.length-(a.length+1)) (c0-(a.length+1)) (fun _=>True) (fun _=>False) rfl rfl HR5.out (rows_M (by rw [<-HTB.out];have h_:=C_tail (c:=c0) (Kd.C_below HCL.out HB5.out) (by omega) (a.length+1) (by omega);rw [if_neg hcc] at h_;exact h_)) (fun _ _ h=>h) (fun _ h=>h.elim) (fun _ _=>trivial) HB5.out HB5.out.size (by have:=HL.out;simp;omega) ?_);intro v2 w6 hR hbb hg _;obtain ⟨A6,c6,rfl⟩:=Kd.R_slice hR;have HR6:=Zz.mk hR;have HB6:=Zz.mk hbb;have g2:w6.cell? ⟨gt,3,none⟩=some (.slice (some ⟨g0,0,none⟩) H.length c0):=(Zg ((hbb.block _ (Zn HM4.out)).trans HM4.out) 3).trans (by simp);have f2:w6.frozen? ⟨gt,3,none⟩=false:=Zq ((hbb.block _ (Zn HM4.out)).trans HM4.out) 3;clear hR hbb hg)
   have HW:=Zz.mk (Kd.R_lower HR6.out (show base<=w4.heap.size from HBS.out))
   have HP:=Zz.mk (RT.put (H':=a++b) (HR4.out.below HB6.out) (by rw [List.map_append];exact HW.out))
   clear k2' d3 d4 d5 d6 g2 f2
   go_wp2_with fail
   have hpx:=HP.out
   simp only [List.length_append,List.length_map] at hpx
   refine bodyPost_ret (results_tmp rfl _ _ _) rfl ⟨by rw [HE.out];rfl,?_,(KR.of HB6.out).trans hpx.2⟩
   rw [HFL.out]
   exact hpx.1
end Go.Proofs.Ytfldklimlcnnnaa.XRFr
end

section
namespace Go.Proofs.Ytfldklimlcnnnaa.XTwo
open Go.RowKit Go.Shelf PHq YtfldklimlcnnnaaW.PrintWords YtfldklimlcnnnaaW.PrintLast YtfldklimlcnnnaaW.PrintMore MWords
open MNat QNat QEv QRatio XRV XHold XWts XLed XFits XJoin QHold XTree QTree XOf XCollect QTr XTJoin XTKt QRef13 XRef13 QEq13
section
variable {W W':World} {M:Tm} {sv:List S71} {al:Int->Rat} {H H':List Hol} {m:Nat} {gt base c b0:Nat} {x y:Value} {A:Option Addr}
theorem KR.cells (hr:RT W gt base x y A c b0 sv H) (hk:KR gt base W W') {k:Nat} {cs:Array Value} {T:TypeId} {fr:Nat × Nat} (h:W.heap[k]? = some (.cells cs T fr)) (h1:T≠81) (h2:T≠86):W'.heap[k]? = W.heap[k]?:=by
 obtain ⟨_,r1,_⟩:=hr.out
 refine hk.same k (Array.getElem?_eq_some_iff.1 h).1 (fun e=>?_) (fun _ cs' e=>?_)
 ·subst e
  rw [show W.heap[k]? = _ from r1] at h
  simp at h
  exact h1 h.2.1.symm
 ·rw [h] at e
  simp at e
  exact h2 e.2.1
theorem KR.other (hr:RT W gt base x y A c b0 sv H) (hk:KR gt base W W') {k:Nat} {o:Obj} (h:W.heap[k]? = some o) (ho:o.isCells=false):W'.heap[k]? = W.heap[k]?:=by
 obtain ⟨_,r1,_⟩:=hr.out
 refine hk.same k (Array.getElem?_eq_some_iff.1 h).1 (fun e=>?_) (fun _ cs' e=>?_)
 ·subst e
  rw [show W.heap[k]? = _ from r1] at h
  cases h
  cases ho
 ·rw [h] at e
  cases e
  cases ho
theorem RT.keep (hr:RT W gt base x y A c b0 sv H) (hk:KR gt base W W') {g:Nat} {t:TypeId} {cs:Array Value} (hb:MBlk W g t cs) (h1:t≠81) (h2:t≠86):MBlk W' g t cs:=(KR.cells hr hk hb h1 h2).trans hb
theorem RV.kr {u v:Value} {a b:List Int} (h:RV W u v a b) (hk:KR gt base W W'):RV W' u v a b:=RV.limbs h hk.limbs
theorem Led.kr {g b:Nat} {all q:Rat} {l:List (Int × Hd)} (hr:RT W gt base x y A c b0 sv H) (hk:KR gt base W W') (h:Led W g b all q l):Led W' g b all q l:=by
 obtain ⟨x1,y1,u1,v1,h1,h2,h3⟩:=h.cells
 obtain ⟨es,c,h4⟩:=h.map.obj
 exact ⟨⟨x1,y1,u1,v1,(KR.cells hr hk h1 (by decide) (by decide)).trans h1,RV.limbs h2 hk.limbs,RV.limbs h3 hk.limbs⟩,h.map.kept (KR.other hr hk h4 rfl)⟩
theorem TH.kr (h:TH W M sv al H' m) (hr:RT W gt base x y A c b0 sv H) (hk:KR gt base W W'):TH W' M sv al H' m:=by
 obtain ⟨at_,ls,hT,hI,hG⟩:=h
 refine ⟨at_,ls,?_,hI,hG⟩
 have hmap:=hT.map.obj
 refine ⟨(KR.cells hr hk hT.cells (by decide) (by decide)).trans hT.cells,hT.cap,C_blk hT.row (fun h0 ad e=>?_),fun h0 ad e=>?_,?_,?_,fun s hs=>Led.kr hr hk (hT.led s hs),hT.ne,hT.mb,hT.small⟩
 ·obtain ⟨cs,fr,h1⟩:=hT.rowt h0 ad e
  exact KR.cells hr hk h1 (by decide) (by decide)
 ·obtain ⟨cs,fr,h1⟩:=hT.rowt h0 ad e
  exact ⟨cs,fr,(KR.cells hr hk h1 (by decide) (by decide)).trans h1⟩
 ·obtain ⟨cs,fr,h1,h2⟩:=hT.ptr
  exact ⟨cs,fr,(KR.cells hr hk h1 (by decide) (by decide)).trans h1,h2⟩
 ·obtain ⟨es,c,e⟩:=hmap
  exact hT.map.kept (KR.other hr hk e rfl)
theorem R_ktH (h:TH W M sv al H' m) (hk:Kt M sv.length W W') {B:Nat} {v:Value} {xs:List S86} (hR:Kd.R k86 86 W B (fun _=>True) v xs):Kd.R k86 86 W' B (fun _=>True) v xs :=
 Kd.R_mono (Kd.R_step (Kd.R_bound hR) (fun k ho hlt=>by
  obtain ⟨_,_,_,q,hq,cells,hc⟩:=ho
  have e:q=86:=by
   have:q ∈ [86]:=hq
   simpa using this
  subst e
  exact hk.same k hlt (TH.not_wr h hc (by decide)))) (fun _ _=>trivial)
theorem RT.kt (hr:RT W gt base x y A c b0 sv H) (h:TH W M sv al H' m) (hk:Kt M sv.length W W'):RT W' gt base x y A c b0 sv H:=by
 obtain ⟨v,h1,h2⟩:=hr.out
 exact ⟨⟨v,mblk_kt h hk h1 (by decide),R_ktH h hk h2⟩,R_kt h hk hr.row,hr.shape⟩
theorem held_szM (h:TH W M sv al H m) (hm:m<=100) {s:Int} (hs:inR sv.length s):Sz 201 (heldH sv H s):=by
 obtain ⟨_,ls,_,h2,_⟩:=h
 have hG:=h2.good (by omega:m<=500) hs
 have h1:=(h2.ls s hs).length_eq
 have h3:=sub_len (sv:=sv) (H:=H) s
 have h4:=h2.len
 rw [<-h2.held hs]
 exact XFits.sz_mono (held_szN hG) (by omega)
theorem heldA_sz (h:TH W M sv al H m) (hm:m<=100) (s:Int):Sz 201 (heldA sv H s):=by
 unfold heldA
 cases ht:thereB sv.length s with
 | true=>rw [if_pos rfl];exact held_szM h hm (there_in.1 ht)
 | false=>rw [if_neg (by decide)];exact XFits.sz_mono (natSz 0 (by omega)) (by omega)
theorem same_held (h:TH W M sv al H m) (hm:m<=100) (s:Int) {N E:Nat} (fN:F 1600 N) (fE:F 1600 E) (hE:0<E) (hq:mkRat (N:Int) E=heldA sv H s):∃k,r03_Cmp.f k (L (heldA sv H s)).1 (L (heldA sv H s)).2 (limbs N) (limbs E)=some 0:=by
 have hz:=heldA_sz h hm s
 have h2:=r3cmp_t 201 1600 _ _ N E hz.2.1 hz.2.2 fN fE (by omega) (Rat.den_pos _) hE
 rw [self_mk _ hz.1,hq,cmpR_self] at h2
 exact h2.get
theorem srv_at {z:Int} (ho:Ho sv H m):(getH H z=none/\atP H z = -1/\srvH H z = -2) ∨ ∃a b x,H=a++x::b/\atP H z=(a.length:Int)/\srvH H z=x.srv:=by
 cases hg:getH H z with
 | none=>exact .inl ⟨rfl,at_none (has_none (getH_none hg)),srvH_no (getH_none hg)⟩
 | some x =>
  obtain ⟨a,b,hL,hz,ha,_,_,_⟩:=split_all ho.nod hg
  exact .inr ⟨a,b,x,hL,by rw [hL];exact at_some hz ha,by unfold srvH;rw [hg]⟩
end
end Go.Proofs.Ytfldklimlcnnnaa.XTwo
end

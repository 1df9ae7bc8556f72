/- The words and walks that the law QuotaBack is proved by, part 6: each text in a section of its own. -/
import Derived.Test.YtfldklimlcnnnaaQB5
import Derived.Deep.RegionLaw
import Derived.WalkMore
import Derived.Deep.CutBlock
import Derived.Shelf.RegionOpen
import Derived.Laws.IdiomStrings
import Derived.Deep.DrawnRows
import Derived.Deep.DeepCutAuto
import Derived.Deep.RegionHeld3
set_option linter.unusedVariables false
set_option linter.unusedSimpArgs false
section
namespace Go.Proofs.Ytfldklimlcnnnaa.XTNew
open Go.RowKit Go.Proofs.Ytfldklimlcnnnaa.PHq Go.Proofs.YtfldklimlcnnnaaW.PrintWords Go.Proofs.YtfldklimlcnnnaaW.PrintLast Go.Proofs.YtfldklimlcnnnaaW.PrintMore Go.Proofs.Ytfldklimlcnnnaa.MWords
open Go.Proofs.Ytfldklimlcnnnaa.MNat Go.Proofs.Ytfldklimlcnnnaa.QNat Go.Proofs.Ytfldklimlcnnnaa.QRatio Go.Proofs.Ytfldklimlcnnnaa.XRV Go.Proofs.Ytfldklimlcnnnaa.XHold Go.Proofs.Ytfldklimlcnnnaa.XWts Go.Proofs.Ytfldklimlcnnnaa.XLed Go.Proofs.Ytfldklimlcnnnaa.XFits Go.Proofs.Ytfldklimlcnnnaa.XTree Go.Proofs.Ytfldklimlcnnnaa.QTree Go.Proofs.Ytfldklimlcnnnaa.XRowP Go.Proofs.Ytfldklimlcnnnaa.XAllW Go.Proofs.Ytfldklimlcnnnaa.QTr Go.Proofs.Ytfldklimlcnnnaa.XTJoin
theorem nil_ne (ad:Addr) (n c:Nat) (w:World):(binOp BinOp.eql 65 (.slice (some ad) n c) (.slice none 0 0)).run Try.prog w=.ok (.bool false) w:=by
 kernel_rfl
theorem nil_eq (n c:Nat) (w:World):(binOp BinOp.eql 65 (.slice none n c) (.slice none 0 0)).run Try.prog w=.ok (.bool true) w:=by
 kernel_rfl
set_option maxRecDepth 100000 in
set_option maxHeartbeats 4000000 in
theorem clone_calls (A:Option Addr) (c:Nat) (xs:List S71) (w:World) (hC:Kd.C k71 w A xs.length xs) (hc:xs.length<=c) (hl:xs.length<=1000000) :
  Calls Try.prog 82 #[.slice A xs.length c] w fun e w'=>∃A' c',e=.returned (.slice A' xs.length c')/\Kd.R k71 71 w' w.heap.size (fun _=>True) (.slice A' xs.length c') xs/\Below w.heap.size w w':=by
 have HC:=Aside0.mk hC
 have HL:=Aside0.mk hl
 clear hC
 go_enter Try.func82,Try.ntmps82
 cases A with
 | none =>
  have h0:xs = []:=by
   cases xs with
   | nil=>rfl
   | cons x xs=>obtain ⟨ad,h,_⟩:=HC.out.2.2 (by simp);cases h
  subst h0
  have q0:=nil_eq 0 c
  go_wp2_with fail
  exact bodyPost_ret (results_tmp rfl _ _ _) rfl ⟨none,0,rfl,Kd.R_nil _ _ _ _ _,Below.refl _ _⟩
 | some ad =>
  have q0:=nil_ne ad xs.length c
  go_wp2_with (first
   | ((with_reducible refine gate_dst (N:=5) rfl ?_);refine Kd.R_lit k71 (w0:=w) w.heap.size 71 rfl (N:=5) rfl (xs:=([]:List S71)) (inner:=[]) (ok:=fun _=>True) (okp:=fun _=>True) (by first|(go_simp;done)|(go_simp;rfl)) (Reps.none _ _) (fun _ hk=>hk) trivial (Below.refl _ _) (Nat.le_refl _) (by simp) ?_;intro v1 w1 hR1 hb1 _ _;have HR1:=Aside0.mk hR1;have HB1:=Aside0.mk hb1;have HS1:=Aside0.mk hb1.size;clear hR1 hb1)
   | ((with_reducible refine gate_builtin (b:=.append) (xs:=#[.tmp 5,.tmp 6]) rfl ?_);at_builtin;refine Kd.R_append_rows k71 (w0:=w) w.heap.size rfl (.tmp 5) (.tmp 6) 65 71 (.agg #[.int .i64 0,.int .i64 0,.int .i64 0]) 24 rfl Try.underlying65 info71 rfl (by decide) (by omega) v1 [] xs (some ad) xs.length c (fun _=>True) (fun _=>False) rfl rfl HR1.out (Kd.C_below HC.out HB1.out) (fun x cs hx=>by obtain rfl:=k71_open hx;exact k71_mkM _ _ _ x) (fun _ hk=>hk.elim) (fun _ _=>trivial) HB1.out HS1.out (by have:=HL.out;simp;omega) ?_;intro v2 w2 hR2 hb2 _ _;have HR2:=Aside0.mk hR2;have HB2:=Aside0.mk hb2;clear hR2 hb2))
  obtain ⟨A2,c2,rfl⟩:=Kd.R_slice HR2.out
  exact bodyPost_ret (results_tmp rfl _ _ _) rfl ⟨A2,c2,rfl,HR2.out,HB2.out⟩
structure Con (w:World) (t:Nat) (A:Option Addr) (c m:Nat) (sv:List S71) (g b:Nat->Nat) (qs:Nat->Rat) (i:Nat) (W:World):Prop where
 cells:∃A1 c1,MBlk W t 119 #[.slice A sv.length c,.slice A1 i c1,.map (some m)]/\VRow W w.heap.size 24 (.slice A1 i c1) ((List.range i).map fun j=>.pointer (some ⟨g j,0,none⟩))
 row:Kd.C k71 W A sv.length sv
 rowt:0<sv.length->∀ad,A=some ad->∃cs,W.heap[ad.block]? = some (.cells cs 71 (0,0))
 map:XAt.MapIs W m []
 led:∀j,j<i->Led W (g j) (b j) (qs j) 0 []
 ne:∀j k,j<i->k<i->j≠k->g j≠g k/\b j≠b k
 mb:∀j,j<i->b j≠m
 base:w.heap.size<=t/\w.heap.size<=m/\∀j,j<i->w.heap.size<=g j/\w.heap.size<=b j
 keep:Below w.heap.size w W
section
variable {w W W':World} {t:Nat} {A:Option Addr} {c m:Nat} {sv:List S71} {g b:Nat->Nat} {qs:Nat->Rat} {i:Nat}
theorem Con.below (h:Con w t A c m sv g b qs i W) (hb:Below W.heap.size W W'):Con w t A c m sv g b qs i W':=by
 obtain ⟨A1,c1,h1,h2⟩:=h.cells
 exact ⟨⟨A1,c1,(hb.block _ (mblk_lt h1)).trans h1,h2.same fun k cs _ hc=>hb.block _ (Array.getElem?_eq_some_iff.1 hc).1⟩,Kd.C_below h.row hb,
  fun h0 ad e=>by obtain ⟨cs,hc⟩:=h.rowt h0 ad e;exact ⟨cs,(hb.block _ (Array.getElem?_eq_some_iff.1 hc).1).trans hc⟩,h.map.kept (hb.block _ h.map.lt),fun j hj=>(h.led j hj).below hb,h.ne,h.mb,h.base,below_step h.keep hb⟩
theorem noLimb_tree {X:World} {k:Nat} {o1 o2:Option Addr} {n1 n2 m1 m2:Nat} {mm:Option Nat} {T:TypeId} (hG:MBlk X k T #[.slice o1 n1 m1,.slice o2 n2 m2,.map mm]):NoLimb X k:=by
 intro p hp n hc
 unfold World.cell? at hc
 rw [hp,show X.heap[k]? = _ from hG] at hc
 simp only at hc
 split at hc
 ·cases hc
 ·match ho:p.off,hc with
  | 0,hc=>simp at hc
  | 1,hc=>simp at hc
  | 2,hc=>simp at hc
  | k+3,hc=>simp at hc
def ext {β:Type} (f:Nat->β) (i:Nat) (x:β):Nat->β:=fun j=>if j=i then x else f j
theorem ext_same {β:Type} (f:Nat->β) (i:Nat) (x:β):ext f i x i=x:=if_pos rfl
theorem ext_lt {β:Type} (f:Nat->β) {i j:Nat} (x:β) (h:j<i):ext f i x j=f j:=if_neg (by omega)
theorem range_ext (g:Nat->Nat) (i x:Nat):((List.range (i+1)).map fun j=>(Value.pointer (some ⟨ext g i x j,0,none⟩)))=((List.range i).map fun j=>(Value.pointer (some ⟨g j,0,none⟩))) ++ [.pointer (some ⟨x,0,none⟩)]:=by
 rw [List.range_succ,List.map_append]
 congr 1
 ·refine List.map_congr_left fun j hj=>?_
  rw [ext_lt g x (List.mem_range.1 hj)]
 ·rw [List.map_cons,ext_same];rfl
theorem Con.step (h:Con w t A c m sv g b qs i W) {gi bi:Nat} {q:Rat} (hL:Led W gi bi q 0 []) (hn:∀j,j<i->gi≠g j/\bi≠b j) (hm:bi≠m) (hb:w.heap.size<=gi/\w.heap.size<=bi)
  {A1 A2:Option Addr} {c1 c2:Nat} {w5:World} (h1:MBlk W t 119 #[.slice A sv.length c,.slice A1 i c1,.map (some m)]) (h2:VRow W w.heap.size 24 (.slice A1 i c1) ((List.range i).map fun j=>.pointer (some ⟨g j,0,none⟩)))
  (hv:VRow w5 w.heap.size 24 (.slice A2 (i+1) c2) (((List.range i).map fun j=>.pointer (some ⟨g j,0,none⟩)) ++ [.pointer (some ⟨gi,0,none⟩)])) (hg:W.grownBy w5 (Value.slice A1 i c1).ownBlock) :
  Con w t A c m sv (ext g i gi) (ext b i bi) (ext qs i q) (i+1) (w5.setCell ⟨t,1,none⟩ (.slice A2 (i+1) c2)):=by
 have hty:∀k,(Value.slice A1 i c1).ownBlock=some k->w.heap.size<=k/\∃cs,W.heap[k]? = some (.cells cs 24 (0,0)):=h2.typed
 have hs:∀k o,W.heap[k]? = some o->(∀cs,o≠Obj.cells cs 24 (0,0))->w5.heap[k]? = some o:=fun k o hk ho=>(hg.block k (Array.getElem?_eq_some_iff.1 hk).1 (fun e=>by
  obtain ⟨_,cs,hc⟩:=hty k e.symm
  rw [hk] at hc
  exact ho cs (Option.some.inj hc))).trans hk
 have ht5:MBlk w5 t 119 #[.slice A sv.length c,.slice A1 i c1,.map (some m)]:=hs t _ h1 (fun cs e=>by cases e)
 have hne:∀k,k≠t->(w5.setCell ⟨t,1,none⟩ (.slice A2 (i+1) c2)).heap[k]? = w5.heap[k]?:=fun k hk=>Below.heap_setCell _ ⟨t,1,none⟩ _ k hk
 have hs6:∀k o,W.heap[k]? = some o->(∀cs T,o=Obj.cells cs T (0,0)->T≠24/\T≠119)->(w5.setCell ⟨t,1,none⟩ (.slice A2 (i+1) c2)).heap[k]? = some o:=fun k o hk ho=>(hne k (fun e=>by
  subst e
  rw [show W.heap[k]? = _ from h1] at hk
  cases hk
  exact (ho _ _ rfl).2 rfl)).trans (hs k o hk (fun cs e=>(ho cs _ e).1 rfl))
 have hlimb:∀k,k<W.heap.size->¬ NoLimb W k->(w5.setCell ⟨t,1,none⟩ (.slice A2 (i+1) c2)).heap[k]? = W.heap[k]?:=fun k hk hnl=>(hne k (fun e=>hnl (by rw [e];exact noLimb_tree h1))).trans (hg.block k hk (fun e=>hnl (h2.noLimb e.symm)))
 have hled:∀ {g' b':Nat} {q':Rat},Led W g' b' q' 0 []->Led (w5.setCell ⟨t,1,none⟩ (.slice A2 (i+1) c2)) g' b' q' 0 []:=fun hl=>by
  obtain ⟨⟨cg,hg1⟩,es,cc,hb1⟩:=Led.blk hl
  exact hl.near ((hs6 _ _ hg1 (fun cs T e=>by cases e;exact ⟨by decide,by decide⟩)).trans hg1.symm) ((hs6 _ _ hb1 (fun cs T e=>by cases e)).trans hb1.symm) hlimb
 obtain ⟨em,cm,hmap⟩:=h.map.obj
 refine ⟨⟨A2,c2,mblk_set ht5 1 _, ?_⟩,C_blk h.row (fun h0 ad e=>?_),fun h0 ad e=>?_,h.map.kept ((hs6 _ _ hmap (fun cs T e=>by cases e)).trans hmap.symm),fun j hj=>?_,fun j k hj hk hjk=>?_,fun j hj=>?_,⟨h.base.1,h.base.2.1,fun j hj=>?_⟩, ?_⟩
 ·rw [range_ext]
  exact hv.same fun k cs hk hc=>hne k (fun e=>by
   subst e
   rw [show w5.heap[k]? = _ from ht5] at hc
   cases hc)
 ·obtain ⟨cs,hc⟩:=h.rowt h0 ad e
  exact (hs6 _ _ hc (fun cs T e=>by cases e;exact ⟨by decide,by decide⟩)).trans hc.symm
 ·obtain ⟨cs,hc⟩:=h.rowt h0 ad e
  exact ⟨cs,hs6 _ _ hc (fun cs T e=>by cases e;exact ⟨by decide,by decide⟩)⟩
 ·by_cases e:j=i
  ·subst e
   rw [ext_same,ext_same,ext_same]
   exact hled hL
  ·have hj':j<i:=by omega
   rw [ext_lt g gi hj',ext_lt b bi hj',ext_lt qs q hj']
   exact hled (h.led j hj')
 ·by_cases e1:j=i
  ·subst e1
   have hk':k<j:=by omega
   rw [ext_same,ext_same,ext_lt g gi hk',ext_lt b bi hk']
   exact hn k hk'
  ·have hj':j<i:=by omega
   rw [ext_lt g gi hj',ext_lt b bi hj']
   by_cases e2:k=i
   ·subst e2
    rw [ext_same,ext_same]
    exact ⟨fun e=>(hn j hj').1 e.symm,fun e=>(hn j hj').2 e.symm⟩
   ·have hk':k<i:=by omega
    rw [ext_lt g gi hk',ext_lt b bi hk']
    exact h.ne j k hj' hk' hjk
 ·by_cases e:j=i
  ·subst e;rw [ext_same];exact hm
  ·rw [ext_lt b bi (by omega)];exact h.mb j (by omega)
 ·by_cases e:j=i
  ·subst e;rw [ext_same,ext_same];exact hb
  ·rw [ext_lt g gi (by omega),ext_lt b bi (by omega)];exact h.base.2.2 j (by omega)
 ·have hk5:Below w.heap.size w w5:=h.keep.grown hg h.keep.size (fun k e=>(hty k e).1)
  exact hk5.setCell (p:=⟨t,1,none⟩) h.base.1 _
end
end Go.Proofs.Ytfldklimlcnnnaa.XTNew
end

section
namespace Go.Proofs.Ytfldklimlcnnnaa.QTChk
open Go.RowKit Go.Proofs.Ytfldklimlcnnnaa.PHq Go.Proofs.YtfldklimlcnnnaaW.PrintWords Go.Proofs.YtfldklimlcnnnaaW.PrintLast Go.Proofs.YtfldklimlcnnnaaW.PrintMore Go.Proofs.Ytfldklimlcnnnaa.MWords
open Go.Proofs.Ytfldklimlcnnnaa.MNat Go.Proofs.Ytfldklimlcnnnaa.QNat Go.Proofs.Ytfldklimlcnnnaa.XTree Go.Proofs.Ytfldklimlcnnnaa.QTree
def OkS (x:S71) (i:Nat):Prop:=-1<=x.f0/\x.f0<i/\0<=x.f1.f0/\x.f1.f0<=1073741824/\1<=x.f1.f1/\x.f1.f1<=1048576
structure SvOk (sv:List S71):Prop where
 ok:∀i:Nat,i<sv.length->OkS (rd_T71 sv (i:Int)) i
 len:sv.length<=16
theorem SvOk.good {sv:List S71} (h:SvOk sv):GoodSv sv:=fun s h0 h1=>by
 obtain ⟨i,rfl⟩:∃i:Nat,s=i:=⟨s.toNat,by omega⟩
 have:=h.ok i (by omega)
 exact ⟨this.1,this.2.1⟩
theorem chk_l {sv:List S71} (h:SvOk sv):∀ (d k i:Nat),i+d=sv.length->d<k->quota_Check.l0 k sv sv (sv.length:Int) (i:Int)=some true:=by
 intro d
 induction d with
 | zero =>
  intro k i hi hk
  obtain ⟨k,rfl⟩:∃j,k=j+1:=⟨k-1,by omega⟩
  simp only [quota_Check.l0]
  have:=h.len
  rw [if_neg (by omega),decide_eq_true (by omega)]
 | succ d ih =>
  intro k i hi hk
  obtain ⟨k,rfl⟩:∃j,k=j+1:=⟨k-1,by omega⟩
  simp only [quota_Check.l0]
  have hl:=h.len
  obtain ⟨h1,h2,h3,h4,h5,h6⟩:=h.ok i (by omega)
  rw [if_pos (by omega),if_pos (by omega),if_pos (by omega),if_neg (by omega),if_neg (by omega),if_neg (by omega),if_neg (by omega),if_neg (by omega),if_neg (by omega),w64 (by omega) (by omega)]
  exact ih k (i+1) (by omega) (by omega)
theorem chk_f {sv:List S71} (h:SvOk sv):quota_Check.f (sv.length+1) sv=some true:=by
 unfold quota_Check.f
 exact chk_l h sv.length _ 0 (by omega) (by omega)
end Go.Proofs.Ytfldklimlcnnnaa.QTChk
end

section
namespace Go.Proofs.Ytfldklimlcnnnaa.XTNew2
open Go.RowKit Go.Proofs.Ytfldklimlcnnnaa.PHq Go.Proofs.YtfldklimlcnnnaaW.PrintWords Go.Proofs.YtfldklimlcnnnaaW.PrintLast Go.Proofs.YtfldklimlcnnnaaW.PrintMore Go.Proofs.Ytfldklimlcnnnaa.MWords
open Go.Proofs.Ytfldklimlcnnnaa.MNat Go.Proofs.Ytfldklimlcnnnaa.QNat Go.Proofs.Ytfldklimlcnnnaa.QRatio Go.Proofs.Ytfldklimlcnnnaa.XRV Go.Proofs.Ytfldklimlcnnnaa.XHold Go.Proofs.Ytfldklimlcnnnaa.XWts Go.Proofs.Ytfldklimlcnnnaa.XLed Go.Proofs.Ytfldklimlcnnnaa.XFits Go.Proofs.Ytfldklimlcnnnaa.XTree Go.Proofs.Ytfldklimlcnnnaa.QTree Go.Proofs.Ytfldklimlcnnnaa.XRowP Go.Proofs.Ytfldklimlcnnnaa.XAllW Go.Proofs.Ytfldklimlcnnnaa.QTr Go.Proofs.Ytfldklimlcnnnaa.XTJoin Go.Proofs.Ytfldklimlcnnnaa.XTNew Go.Proofs.Ytfldklimlcnnnaa.QTChk
def quo (sv:List S71) (i:Nat):Rat:=wt (rd_T71 sv (i:Int)).f1
def alT (sv:List S71) (q:Rat):Int->Rat:=fun s=>if s = -1 then q else quo sv s.toNat
theorem ext_self {β:Type} (f:Nat->β) (i:Nat):ext f i (f i)=f:=by
 funext j
 unfold ext
 split
 ·rename_i e;rw [e]
 ·rfl
set_option maxRecDepth 100000 in
set_option maxHeartbeats 8000000 in
theorem tnew_calls (x y:Value) (n d j:Nat) (A0:Option Addr) (c0:Nat) (sv:List S71) (w:World) (hv:RV w x y (limbs n) (limbs d)) (hn:F j n) (hd:F j d) (hj:j<=1000) (h0:0<d) (hC:Kd.C k71 w A0 sv.length sv) (hc:sv.length<=c0) (hS:SvOk sv) :
    Calls Try.prog 41 #[.agg #[x,y],.slice A0 sv.length c0] w fun e w'=>∃ (t:Nat) (A:Option Addr) (c m:Nat) (g b:Nat->Nat),e=.returned (.pointer (some ⟨t,0,none⟩))/\sv.length<=c/\Con w t A c m sv g b (ext (quo sv) sv.length (mkRat (n:Int) d)) (sv.length+1) w':=by
  have mixed:Try.prog.follows Departure.mixedOrders=true:=by kernel_rfl
  have hC0:=check_n j n d hn hd (by omega) h0
  obtain ⟨A1,c1,A2,c2,rfl,rfl⟩:=hv.shape
  obtain ⟨W0,hW0⟩:∃W0,W0=w.alloc (.cells #[.slice A1 (limbs n).length c1,.slice A2 (limbs d).length c2] 28):=⟨_,rfl⟩
  have hb0:Below w.heap.size w W0:=by rw [hW0];exact below_alloc (Below.refl _ _) _
  have HB0:=Aside0.mk hb0
  have HM0:=Aside0.mk (show MBlk W0 w.heap.size 28 #[.slice A1 (limbs n).length c1,.slice A2 (limbs d).length c2] by rw [hW0];exact mblk_new _ _ _)
  have HV0:=Aside0.mk (hv.below hb0)
  have HC:=Aside0.mk (And.intro hC hc)
  have HS:=Aside0.mk hS
  have HF:=Aside0.mk (And.intro hn (And.intro hd (And.intro hj h0)))
  have HRC:=Aside0.mk hC0
  have hmm:=@run_makeMap Try.prog
  clear hv hn hd hj h0 hC hc hS hb0 hC0
  obtain ⟨un,hun⟩:∃un,un=limbs n:=⟨_,rfl⟩
  obtain ⟨ud,hud⟩:∃ud,ud=limbs d:=⟨_,rfl⟩
  rw [<-hun, <-hud] at HM0 HV0 HRC hW0 ⊢
  have HU:=Aside0.mk (And.intro hun hud)
  clear hun hud
  have k0:W0.cell? ⟨w.heap.size,0,none⟩=some (.slice A1 un.length c1):=(mblk_cell HM0.out 0).trans rfl
  have k1:W0.cell? ⟨w.heap.size,1,none⟩=some (.slice A2 ud.length c2):=(mblk_cell HM0.out 1).trans rfl
  go_enter Try.func41,Try.ntmps41
  go_upto_region 1 with fail
  rw [<-hW0]
  clear hW0
  go_upto_region 3 with (first
    | (go_at_call 61;refine (quota_Check.calls _ A0 c0 sv true _ (Kd.C_below HC.out.1 HB0.out) HC.out.2 (chk_f HS.out)).mono ?_;rintro e w1 ⟨rfl,hb⟩;have HB1:=Aside0.mk (below_step HB0.out hb);have HV1:=Aside0.mk (HV0.out.below hb);have HM1:=Aside0.mk ((hb.block _ (mblk_lt HM0.out)).trans HM0.out);have k2:w1.cell? ⟨w.heap.size,0,none⟩=some (.slice A1 un.length c1):=(mblk_cell HM1.out 0).trans rfl;have k3:w1.cell? ⟨w.heap.size,1,none⟩=some (.slice A2 ud.length c2):=(mblk_cell HM1.out 1).trans rfl;clear hb)
    | (go_at_call 62;refine (check_rv HV1.out HRC.out).mono ?_;rintro e w2 ⟨rfl,hb⟩;have HB2:=Aside0.mk (below_step HB1.out hb);have HV2:=Aside0.mk (HV1.out.below hb);have HM2:=Aside0.mk ((hb.block _ (mblk_lt HM1.out)).trans HM1.out);clear hb))
  clear k0 k1 k2 k3 HM0 HM1 HV0 HV1 HB0 HB1
  go_wp2_with fail
  refine (clone_calls A0 c0 sv _ (Kd.C_below HC.out.1 HB2.out) HC.out.2 (by have:=HS.out.len;omega)).mono ?_
  rintro e w3 ⟨A,c,rfl,hR,hb⟩
  have HB3:=Aside0.mk (below_step HB2.out hb)
  have HV3:=Aside0.mk (HV2.out.below hb)
  have HM3:=Aside0.mk ((hb.block _ (mblk_lt HM2.out)).trans HM2.out)
  have HR3:=Aside0.mk hR
  have HSB:=Aside0.mk (show w.heap.size<=w2.heap.size from HB2.out.size)
  clear hb hR HB2 HV2 HM2
  obtain ⟨m,hmd⟩:∃m,m=w3.heap.size:=⟨_,rfl⟩
  obtain ⟨t,htd⟩:∃t,t=w3.heap.size+1:=⟨_,rfl⟩
  obtain ⟨w5,hw5⟩:∃w5,w5=(w3.alloc (.map #[] 0)).alloc (.cells #[.slice A sv.length c,.slice none 0 0,.map (some w3.heap.size)] 119):=⟨_,rfl⟩
  have hz5:(w3.alloc (.map #[] 0)).heap.size=t:=by rw [htd];simp
  have ha5:Below w3.heap.size w3 w5:=by rw [hw5];exact below_alloc (below_alloc (Below.refl _ _) _) _
  have HCON:=Aside0.mk (show Con w t A c m sv (fun _=>0) (fun _=>0) (quo sv) 0 w5 by
    have hRR:=Kd.R_reads' HR3.out
    refine ⟨⟨none,0, ?_,VRow.nil _ _ _⟩,Kd.C_below hRR.2.2 ha5,fun h0 ad e=>?_, ?_,fun j hj=>absurd hj (by omega),fun j k hj=>absurd hj (by omega),fun j hj=>absurd hj (by omega),⟨by rw [htd];have:=HB3.out.size;omega,by rw [hmd];exact HB3.out.size,fun j hj=>absurd hj (by omega)⟩,below_step HB3.out ha5⟩
    · rw [hw5,hmd, <-hz5];exact mblk_new _ _ _
    · subst e
      obtain ⟨cs,hcs⟩:=Kd.R_typed HR3.out ad.block rfl
      exact ⟨cs,(ha5.block _ (Array.getElem?_eq_some_iff.1 hcs).1).trans hcs⟩
    · have hm2:XAt.MapIs (w3.alloc (.map #[] 0)) m []:=⟨_,by rw [hmd];exact World.ownsMap_made _ _ _ _,XAt.View.nil⟩
      rw [hw5]
      exact hm2.kept ((below_alloc (Below.refl _ _) _).block m hm2.lt))
  have HAL:=Aside0.mk (show MBlk w5 w.heap.size 28 #[.slice A1 un.length c1,.slice A2 ud.length c2]/\RV w5 (.slice A1 un.length c1) (.slice A2 ud.length c2) un ud from ⟨(ha5.block _ (mblk_lt HM3.out)).trans HM3.out,HV3.out.below ha5⟩)
  have HCC:=Aside0.mk (show sv.length<=c from (Kd.R_reads' HR3.out).2.1)
  go_upto_region 4 with fail
  rw [<-hw5]
  rw [<-htd]
  clear hw5 ha5 hz5 hmd htd HR3 HV3 HM3 HB3 HSB hmm
  go_wp2_with fail
  go_loopw [23] (fun v wr=>∃ (i:Nat) (g b:Nat->Nat),v=.int .i64 (i:Int)/\i<=sv.length/\Aside0 (Con w t A c m sv g b (quo sv) i wr)/\Aside0 (MBlk wr w.heap.size 28 #[.slice A1 un.length c1,.slice A2 ud.length c2]/\RV wr (.slice A1 un.length c1) (.slice A2 ud.length c2) un ud)) (fun v _=>sv.length-(intOf v).toNat)
  case atStart=>exact ⟨0,_,_,rfl,by omega,HCON,HAL⟩
  case round =>
    clear HCON HAL
    obtain ⟨i,g,b,rfl,hi,HCON,HAL⟩:=hrel
    by_cases hlt:i<sv.length
    · have d1:decide ((i:Int)<(sv.length:Int))=true:=decide_eq_true (by omega)
      have d2:decide (i<sv.length)=true:=decide_eq_true hlt
      have q1:(i<sv.length)=True:=eq_true hlt
      have HLT:=Aside0.mk hlt
      have HLN:=Aside0.mk (show i<16 by have:=HS.out.len;omega)
      obtain ⟨ad,hA0,l0,l1,l2⟩:=at_T71 (Kd.C_below HC.out.1 HCON.out.keep) (i:Int) (by omega) (by omega)
      rw [Int.toNat_natCast] at l0 l1 l2
      obtain ⟨s,hs⟩:∃s,s=rd_T71 sv (i:Int):=⟨_,rfl⟩
      rw [<-hs] at l0 l1 l2
      have hok:=HS.out.ok i hlt
      rw [<-hs] at hok
      have hquo:quo sv i=wt s.f1:=by unfold quo;rw [hs]
      have HQ:=Aside0.mk (And.intro hquo (show okW s.f1 from ⟨by have:=hok.2.2.1;omega,by have:=hok.2.2.2.1;omega,hok.2.2.2.2.1,by have:=hok.2.2.2.2.2;omega⟩))
      subst hA0
      obtain ⟨u0,hu0⟩:∃u0,u0=wr.alloc (.cells #[.int .i64 s.f0,.int .i64 s.f1.f0,.int .i64 s.f1.f1] 71):=⟨_,rfl⟩
      have hb0:Below wr.heap.size wr u0:=by rw [hu0];exact below_alloc (Below.refl _ _) _
      have hM0:MBlk u0 wr.heap.size 71 #[.int .i64 s.f0,.int .i64 s.f1.f0,.int .i64 s.f1.f1]:=by rw [hu0];exact mblk_new _ _ _
      have x1:u0.cell? ⟨wr.heap.size,1,none⟩=some (.int .i64 s.f1.f0):=(mblk_cell hM0 1).trans rfl
      have x2:u0.cell? ⟨wr.heap.size,2,none⟩=some (.int .i64 s.f1.f1):=(mblk_cell hM0 2).trans rfl
      obtain ⟨B1,d1',hm,hv⟩:=HCON.out.cells
      have HCU:=Aside0.mk (HCON.out.below (hb0.trans (below_drew (Below.refl u0.heap.size u0) |>.mono hb0.size)))
      have HRW:=Aside0.mk (And.intro hm hv)
      have y1:u0.cell? ⟨t,1,none⟩=some (.slice B1 i d1'):=(mblk_cell ((hb0.block _ (mblk_lt hm)).trans hm) 1).trans rfl
      have HBU:=Aside0.mk hb0
      clear hi hlt hs hok hquo hm hv hM0 hb0
      go_upto_region 7 with fail
      rw [<-hu0]
      clear hu0 l0 l1 l2
      have HOF:=Aside0.mk (of_w s.f1 HQ.out.2)
      have HALU:=Aside0.mk (show RV u0.drew (.slice A1 un.length c1) (.slice A2 ud.length c2) un ud/\MBlk u0.drew w.heap.size 28 #[.slice A1 un.length c1,.slice A2 ud.length c2] from ⟨(HAL.out.2.below HBU.out).below (below_drew (Below.refl _ _)),(HBU.out.block _ (mblk_lt HAL.out.1)).trans HAL.out.1⟩)
      have HTB:=Aside0.mk (show MBlk u0.drew t 119 #[.slice A sv.length c,.slice B1 i d1',.map (some m)] from (HBU.out.block _ (mblk_lt HRW.out.1)).trans HRW.out.1)
      have HVB:=Aside0.mk (show VRow u0.drew w.heap.size 24 (.slice B1 i d1') ((List.range i).map fun j=>.pointer (some ⟨g j,0,none⟩)) from HRW.out.2.same fun k cs _ hc=>HBU.out.block _ (Array.getElem?_eq_some_iff.1 hc).1)
      go_region_law
        (first
          | (go_simp
             go_at_call 71
             refine (of_rv HOF.out).mono ?_
             rintro e u1 ⟨p,q,rfl,hpq,hb⟩
             obtain ⟨P1,p1,P2,p2,rfl,rfl⟩:=hpq.shape
             have HPQ:=Aside0.mk hpq
             have HB1:=Aside0.mk hb
             have y2:u1.cell? ⟨t,1,none⟩=some (.slice B1 i d1'):=(mblk_cell ((hb.block _ (mblk_lt HTB.out)).trans HTB.out) 1).trans rfl
             clear hb hpq)
          | (go_simp
             go_at_call 16
             refine (new_calls (.slice P1 (limbs s.f1.f0.toNat).length p1) (.slice P2 (limbs s.f1.f1.toNat).length p2) s.f1.f0.toNat s.f1.f1.toNat 1 u1 HPQ.out (okW_F HQ.out.2).1 (okW_F HQ.out.2).2 (by omega) (okW_pos HQ.out.2)).mono ?_
             rintro e u2 ⟨gi,bi,rfl,hL,hb,hg1,hb1⟩
             have hbb:=below_step HB1.out hb
             have HB2:=Aside0.mk hbb
             have HL2:=Aside0.mk (And.intro hL (And.intro (Nat.le_trans HB1.out.size hg1) (Nat.le_trans HB1.out.size hb1)))
             have HT2:=Aside0.mk ((hbb.block _ (mblk_lt HTB.out)).trans HTB.out)
             have HV2:=Aside0.mk (show VRow u2 w.heap.size 24 (.slice B1 i d1') ((List.range i).map fun j=>.pointer (some ⟨g j,0,none⟩)) from HVB.out.same fun k cs _ hc=>hbb.block _ (Array.getElem?_eq_some_iff.1 hc).1)
             have HS2:=Aside0.mk (show w.heap.size<=u2.heap.size from Nat.le_trans HCU.out.keep.size hbb.size)
             have y3:u2.cell? ⟨t,1,none⟩=some (.slice B1 i d1'):=(mblk_cell (show MBlk u2 t _ _ from HT2.out) 1).trans rfl
             have y4:∀o,(u2.alloc o).cell? ⟨t,1,none⟩=some (.slice B1 i d1'):=fun o=>(mblk_cell (mblk_alloc (show MBlk u2 t _ _ from HT2.out) o) 1).trans rfl
             clear hb hL hbb hg1 hb1)
          | (refine V_append_step w.heap.size (by rfl) (.tmp 31) (.tmp 36) 117 24 (.pointer none) 8 (by rfl) Try.underlying117 (by kernel_rfl) rfl (fun _ h=>by cases h) (.slice B1 i d1') ((List.range i).map fun j=>.pointer (some ⟨g j,0,none⟩)) (.pointer (some ⟨gi,0,none⟩)) (by rfl) (by rfl) rfl (fun _ h=>by cases h) HV2.out HS2.out (by rw [List.length_map,List.length_range];have:=HLN.out;omega) (by rw [List.length_map,List.length_range];have:=HLN.out;omega) ?_
             intro v1 u5 hv hg
             obtain ⟨B2,d2',e2,_⟩:=hv.shape
             rw [List.length_append,List.length_map,List.length_range] at e2
             simp only [List.length_cons,List.length_nil,Nat.zero_add] at e2
             subst e2
             have HV5:=Aside0.mk hv
             have HG5:=Aside0.mk hg
             have hT5:MBlk u5 t 119 #[.slice A sv.length c,.slice B1 i d1',.map (some m)]:=(hg.block _ (mblk_lt HT2.out) (fun e=>by
               obtain ⟨_,cs,hc⟩:=HV2.out.typed t e.symm
               rw [show u2.heap[t]? = _ from HT2.out] at hc
               cases hc)).trans HT2.out
             have z1:u5.cell? ⟨t,1,none⟩=some (.slice B1 i d1'):=(mblk_cell hT5 1).trans rfl
             have zf:u5.frozen? ⟨t,1,none⟩=false:=mblk_frozen hT5 1
             clear hv hg hT5))
      all_goals
        have hcon:Con w t A c m sv (ext g i gi) (ext b i bi) (quo sv) (i+1) (u5.setCell ⟨t,1,none⟩ (.slice B2 (i+1) d2')):=by
          have hL:Led u2 gi bi (quo sv i) 0 []:=by rw [HQ.out.1];exact HL2.out.1
          have hlt':∀k,k<u0.drew.heap.size->k≠gi/\k≠bi:=fun k hk=>by
            have h1:=HL2.out.2.1
            have h2:=HL2.out.2.2
            omega
          have hst:=(HCU.out.below HB2.out).step hL (fun j hj=>by
              obtain ⟨⟨cs,h1⟩,es,cc,h2⟩:=Led.blk (HCU.out.led j hj)
              exact ⟨fun e=>(hlt' _ (Array.getElem?_eq_some_iff.1 h1).1).1 e.symm,fun e=>(hlt' _ (Array.getElem?_eq_some_iff.1 h2).1).2 e.symm⟩)
            (fun e=>(hlt' _ HCU.out.map.lt).2 e.symm) ⟨Nat.le_trans HCU.out.keep.size HL2.out.2.1,Nat.le_trans HCU.out.keep.size HL2.out.2.2⟩ HT2.out HV2.out HV5.out HG5.out
          rw [ext_self] at hst
          exact hst
        have hal:MBlk (u5.setCell ⟨t,1,none⟩ (.slice B2 (i+1) d2')) w.heap.size 28 #[.slice A1 un.length c1,.slice A2 ud.length c2]/\RV (u5.setCell ⟨t,1,none⟩ (.slice B2 (i+1) d2')) (.slice A1 un.length c1) (.slice A2 ud.length c2) un ud:=by
          have ha2:MBlk u2 w.heap.size 28 #[.slice A1 un.length c1,.slice A2 ud.length c2]:=(HB2.out.block _ (mblk_lt HALU.out.2)).trans HALU.out.2
          have ht5:MBlk u5 t 119 #[.slice A sv.length c,.slice B1 i d1',.map (some m)]:=(HG5.out.block _ (mblk_lt HT2.out) (fun e=>by
            obtain ⟨_,cs,hc⟩:=HV2.out.typed t e.symm
            rw [show u2.heap[t]? = _ from HT2.out] at hc
            cases hc)).trans HT2.out
          have hne:∀k,k≠t->(u5.setCell ⟨t,1,none⟩ (.slice B2 (i+1) d2')).heap[k]? = u5.heap[k]?:=fun k hk=>Below.heap_setCell _ ⟨t,1,none⟩ _ k hk
          have ha5:MBlk u5 w.heap.size 28 #[.slice A1 un.length c1,.slice A2 ud.length c2]:=(HG5.out.block _ (mblk_lt ha2) (fun e=>by
            obtain ⟨_,cs,hc⟩:=HV2.out.typed _ e.symm
            rw [show u2.heap[w.heap.size]? = _ from ha2] at hc
            cases hc)).trans ha2
          refine ⟨(hne _ (fun e=>?_)).trans ha5,(HALU.out.1.below HB2.out).near fun k hk hn=>(hne k (fun e=>hn (by rw [e];exact noLimb_tree HT2.out))).trans (HG5.out.block k hk (fun e=>hn (HV2.out.noLimb e.symm)))⟩
          exact mblk_ne ha5 ht5 (by decide) e
        have HCN:=Aside0.mk hcon
        have HAN:=Aside0.mk hal
        clear hcon hal
        have hw:wrap64 ((i:Int)+1)=((i+1:Nat):Int):=by have:=HLN.out;rw [w64 (by omega) (by omega)];omega
        go_wp2_with fail
        go_roundw
        case rel=>exact ⟨i+1,_,_,by first|rw [hw]|rfl|(simp;done),by have:=HLT.out;omega,HCN,HAN⟩
        case measure =>
          rw [hw]
          show sv.length-(i+1)<sv.length-i
          have:=HLT.out
          omega
    · have d1:decide ((i:Int)<(sv.length:Int))=false:=decide_eq_false (by omega)
      have d2:decide (i<sv.length)=false:=decide_eq_false hlt
      obtain rfl:i=sv.length:=by omega
      obtain ⟨B1,d1',hm,hv⟩:=HCON.out.cells
      have HLN:=Aside0.mk (show sv.length<17 by have:=HS.out.len;omega)
      have HCU:=Aside0.mk (HCON.out.below (below_drew (Below.refl wr.heap.size wr)))
      have HTB:=Aside0.mk (show MBlk wr.drew t 119 #[.slice A sv.length c,.slice B1 sv.length d1',.map (some m)] from hm)
      have HVB:=Aside0.mk (show VRow wr.drew w.heap.size 24 (.slice B1 sv.length d1') ((List.range sv.length).map fun j=>.pointer (some ⟨g j,0,none⟩)) from hv.same fun k cs _ hc=>rfl)
      have y1:wr.cell? ⟨t,1,none⟩=some (.slice B1 sv.length d1'):=(mblk_cell hm 1).trans rfl
      have x1:wr.cell? ⟨w.heap.size,0,none⟩=some (.slice A1 un.length c1):=(mblk_cell HAL.out.1 0).trans rfl
      have x2:wr.cell? ⟨w.heap.size,1,none⟩=some (.slice A2 ud.length c2):=(mblk_cell HAL.out.1 1).trans rfl
      have HRA:=Aside0.mk (show RV wr.drew (.slice A1 un.length c1) (.slice A2 ud.length c2) (limbs n) (limbs d) by rw [<-HU.out.1, <-HU.out.2];exact HAL.out.2.below (below_drew (Below.refl _ _)))
      clear hlt hi hm hv
      go_upto_region 9 with fail
      go_region_law
        (first
          | (go_simp
             go_at_call 16
             refine (new_calls (.slice A1 un.length c1) (.slice A2 ud.length c2) n d j _ HRA.out HF.out.1 HF.out.2.1 (by have:=HF.out.2.2.1;omega) HF.out.2.2.2).mono ?_
             rintro e u2 ⟨gi,bi,rfl,hL,hb,hg1,hb1⟩
             have HB2:=Aside0.mk hb
             have HL2:=Aside0.mk (And.intro hL (And.intro hg1 hb1))
             have HT2:=Aside0.mk ((hb.block _ (mblk_lt HTB.out)).trans HTB.out)
             have HV2:=Aside0.mk (show VRow u2 w.heap.size 24 (.slice B1 sv.length d1') ((List.range sv.length).map fun j=>.pointer (some ⟨g j,0,none⟩)) from HVB.out.same fun k cs _ hc=>hb.block _ (Array.getElem?_eq_some_iff.1 hc).1)
             have HS2:=Aside0.mk (show w.heap.size<=u2.heap.size from Nat.le_trans HCU.out.keep.size hb.size)
             have y3:u2.cell? ⟨t,1,none⟩=some (.slice B1 sv.length d1'):=(mblk_cell (show MBlk u2 t _ _ from HT2.out) 1).trans rfl
             have y4:∀o,(u2.alloc o).cell? ⟨t,1,none⟩=some (.slice B1 sv.length d1'):=fun o=>(mblk_cell (mblk_alloc (show MBlk u2 t _ _ from HT2.out) o) 1).trans rfl
             clear hb hL hg1 hb1)
          | (refine V_append_step w.heap.size (by rfl) (.tmp 45) (.tmp 48) 117 24 (.pointer none) 8 (by rfl) Try.underlying117 (by kernel_rfl) rfl (fun _ h=>by cases h) (.slice B1 sv.length d1') ((List.range sv.length).map fun j=>.pointer (some ⟨g j,0,none⟩)) (.pointer (some ⟨gi,0,none⟩)) (by rfl) (by rfl) rfl (fun _ h=>by cases h) HV2.out HS2.out (by rw [List.length_map,List.length_range];have:=HLN.out;omega) (by rw [List.length_map,List.length_range];have:=HLN.out;omega) ?_
             intro v1 u5 hv hg
             obtain ⟨B2,d2',e2,_⟩:=hv.shape
             rw [List.length_append,List.length_map,List.length_range] at e2
             simp only [List.length_cons,List.length_nil,Nat.zero_add] at e2
             subst e2
             have HV5:=Aside0.mk hv
             have HG5:=Aside0.mk hg
             have hT5:MBlk u5 t 119 #[.slice A sv.length c,.slice B1 sv.length d1',.map (some m)]:=(hg.block _ (mblk_lt HT2.out) (fun e=>by
               obtain ⟨_,cs,hc⟩:=HV2.out.typed t e.symm
               rw [show u2.heap[t]? = _ from HT2.out] at hc
               cases hc)).trans HT2.out
             have z1:u5.cell? ⟨t,1,none⟩=some (.slice B1 sv.length d1'):=(mblk_cell hT5 1).trans rfl
             have zf:u5.frozen? ⟨t,1,none⟩=false:=mblk_frozen hT5 1
             clear hv hg hT5))
      all_goals
        have hlt':∀k,k<wr.drew.heap.size->k≠gi/\k≠bi:=fun k hk=>by
          have h1:=HL2.out.2.1
          have h2:=HL2.out.2.2
          omega
        have hst:=(HCU.out.below HB2.out).step HL2.out.1 (fun j hj=>by
            obtain ⟨⟨cs,h1⟩,es,cc,h2⟩:=Led.blk (HCU.out.led j hj)
            exact ⟨fun e=>(hlt' _ (Array.getElem?_eq_some_iff.1 h1).1).1 e.symm,fun e=>(hlt' _ (Array.getElem?_eq_some_iff.1 h2).1).2 e.symm⟩)
          (fun e=>(hlt' _ HCU.out.map.lt).2 e.symm) ⟨Nat.le_trans HCU.out.keep.size HL2.out.2.1,Nat.le_trans HCU.out.keep.size HL2.out.2.2⟩ HT2.out HV2.out HV5.out HG5.out
        have HST:=Aside0.mk hst
        clear hlt' hst
        go_wp2_with fail
        go_ret
        exact ⟨t,A,c,m,_,_,rfl,HCC.out,HST.out⟩
end Go.Proofs.Ytfldklimlcnnnaa.XTNew2
end

section
namespace Go.Proofs.Ytfldklimlcnnnaa.XTMade
open Go.RowKit Go.Proofs.Ytfldklimlcnnnaa.PHq Go.Proofs.YtfldklimlcnnnaaW.PrintWords Go.Proofs.YtfldklimlcnnnaaW.PrintLast Go.Proofs.YtfldklimlcnnnaaW.PrintMore Go.Proofs.Ytfldklimlcnnnaa.MWords
open Go.Proofs.Ytfldklimlcnnnaa.MNat Go.Proofs.Ytfldklimlcnnnaa.QNat Go.Proofs.Ytfldklimlcnnnaa.QRatio Go.Proofs.Ytfldklimlcnnnaa.XRV Go.Proofs.Ytfldklimlcnnnaa.XHold Go.Proofs.Ytfldklimlcnnnaa.XWts Go.Proofs.Ytfldklimlcnnnaa.XLed Go.Proofs.Ytfldklimlcnnnaa.XFits Go.Proofs.Ytfldklimlcnnnaa.QHold Go.Proofs.Ytfldklimlcnnnaa.XTree Go.Proofs.Ytfldklimlcnnnaa.QTree Go.Proofs.Ytfldklimlcnnnaa.XRowP Go.Proofs.Ytfldklimlcnnnaa.XAllW Go.Proofs.Ytfldklimlcnnnaa.QTr Go.Proofs.Ytfldklimlcnnnaa.XTJoin Go.Proofs.Ytfldklimlcnnnaa.XTNew Go.Proofs.Ytfldklimlcnnnaa.QTChk Go.Proofs.Ytfldklimlcnnnaa.XTNew2
theorem quo_okW {sv:List S71} (h:SvOk sv) {i:Nat} (hi:i<sv.length):okW (rd_T71 sv (i:Int)).f1:=by
 have:=h.ok i hi
 unfold OkS at this
 unfold okW
 omega
theorem al_ext (sv:List S71) (q:Rat) {s:Int} (hs:inR sv.length s):ext (quo sv) sv.length q (ix sv.length s)=alT sv q s:=by
 unfold alT ix
 by_cases e:s = -1
 ·rw [if_pos e,if_pos e,ext_same]
 ·rw [if_neg e,if_neg e,ext_lt]
  have:=hs.1
  have:=hs.2
  omega
theorem ix_lt {n:Nat} {s:Int} (hs:inR n s):ix n s<n+1:=by
 unfold ix
 have:=hs.1
 have:=hs.2
 split <;> omega
theorem ix_inj {n:Nat} {s s':Int} (hs:inR n s) (hs':inR n s') (h:ix n s=ix n s'):s=s':=by
 unfold ix at h
 have:=hs.1
 have:=hs.2
 have:=hs'.1
 have:=hs'.2
 split at h <;> split at h <;> omega
theorem range_at (g:Nat->Nat) {n i:Nat} (hi:i<n):((List.range n).map fun j=>(Value.pointer (some ⟨g j,0,none⟩)))[i]? = some (.pointer (some ⟨g i,0,none⟩)):=by
 rw [List.getElem?_map,List.getElem?_range hi]
 rfl
theorem con_tree {w W:World} {t:Nat} {A:Option Addr} {c m:Nat} {sv:List S71} {g b:Nat->Nat} {q:Rat} (hS:SvOk sv) (h:Con w t A c m sv g b (ext (quo sv) sv.length q) (sv.length+1) W) (hq:Sz 3000 q) :
  ∃M:Tm,M.t=t/\TH W M sv (alT sv q) [] 0/\(∀k,M.wr sv.length k->w.heap.size<=k)/\Below w.heap.size w W:=by
 obtain ⟨A1,c1,h1,h2⟩:=h.cells
 rcases h2.own.2 with ⟨_,h0⟩|⟨Al,cap,cur,e,hb,hc,hcap,_,_,htake⟩
 ·rw [List.length_map,List.length_range] at h0
  omega
 rw [List.length_map,List.length_range] at e hcap
 injection e with e1 e2 e3
 subst e1
 have hcur:∀s,inR sv.length s->cur[ix sv.length s]? = some (.pointer (some ⟨g (ix sv.length s),0,none⟩)):=fun s hs=>by
  have h5:=range_at g (ix_lt hs)
  rw [<-htake,List.length_map,List.length_range,List.getElem?_take,if_pos (by have:=ix_lt hs;omega)] at h5
  simpa using h5
 have hin:∀s,inR sv.length s->ix sv.length s<sv.length+1:=fun s hs=>ix_lt hs
 refine ⟨⟨t,A,c,Al,c1,m,fun s=>g (ix sv.length s),fun s=>b (ix sv.length s)⟩,rfl,⟨[],fun _=>[], ?_, ?_,hS.good⟩, ?_,h.keep⟩
 ·refine ⟨h1,by rw [e3];exact hcap,h.row,fun h0 ad e=>?_,⟨cur,_,hc,hcur⟩,h.map,fun s hs=>?_,fun s s' hs hs' hne=>h.ne _ _ (hin s hs) (hin s' hs') (fun e=>hne (ix_inj hs hs' e)),fun s hs=>h.mb _ (hin s hs),by have:=hS.len;omega⟩
  ·obtain ⟨cs,hcs⟩:=h.rowt h0 ad e
   exact ⟨cs,_,hcs⟩
  ·have:=h.led _ (hin s hs)
   rw [al_ext sv q hs] at this
   exact this
 ·refine ⟨List.Perm.refl _,fun s hs=>List.Perm.refl _,by simp,fun x hx=>(by cases hx),fun x hx=>(by cases hx),Nat.le_refl _,fun s hs=>?_,fun s hs=>?_⟩
  ·show (0:Rat)<=alT sv q s
   unfold alT
   split
   ·exact hq.1
   ·exact wt_nonneg _
  ·unfold alT
   split
   ·exact hq
   ·rename_i hne
    have hi:s.toNat<sv.length:=by have:=hs.1;have:=hs.2;omega
    have hw:=quo_okW hS hi
    exact sz_mono (mk_sz 1 _ _ (okW_F hw).1 (okW_F hw).2 (okW_pos hw)) (by omega)
 ·rintro k (rfl|⟨s,hs,rfl|rfl⟩)
  ·exact h.base.2.1
  ·exact (h.base.2.2 _ (hin s hs)).1
  ·exact (h.base.2.2 _ (hin s hs)).2
theorem new_tree (x y:Value) (n d j:Nat) (A0:Option Addr) (c0:Nat) (sv:List S71) (w:World) (hv:RV w x y (limbs n) (limbs d)) (hn:F j n) (hd:F j d) (hj:j<=1000) (h0:0<d) (hC:Kd.C k71 w A0 sv.length sv) (hc:sv.length<=c0) (hS:SvOk sv) :
  Calls Try.prog 41 #[.agg #[x,y],.slice A0 sv.length c0] w fun e w'=>∃M:Tm,e=.returned (.pointer (some ⟨M.t,0,none⟩))/\TH w' M sv (alT sv (mkRat (n:Int) d)) [] 0/\(∀k,M.wr sv.length k->w.heap.size<=k)/\Below w.heap.size w w':=by
 refine (tnew_calls x y n d j A0 c0 sv w hv hn hd hj h0 hC hc hS).mono ?_
 rintro e w' ⟨t,A,c,m,g,b,rfl,_,hcon⟩
 obtain ⟨M,rfl,h1,h2,h3⟩:=con_tree hS hcon (sz_mono (mk_sz j n d hn hd h0) (by omega))
 exact ⟨M,rfl,h1,h2,h3⟩
end Go.Proofs.Ytfldklimlcnnnaa.XTMade
end

section
namespace Go.Proofs.Ytfldklimlcnnnaa.QServ
open Go.RowKit Go.Proofs.Ytfldklimlcnnnaa.PHq Go.Proofs.YtfldklimlcnnnaaW.PrintWords Go.Proofs.YtfldklimlcnnnaaW.PrintLast Go.Proofs.YtfldklimlcnnnaaW.PrintMore Go.Proofs.Ytfldklimlcnnnaa.MWords
open Go.Proofs.Ytfldklimlcnnnaa.MNat Go.Proofs.Ytfldklimlcnnnaa.QNat Go.Proofs.Ytfldklimlcnnnaa.QRef Go.Proofs.Ytfldklimlcnnnaa.QBits Go.Proofs.Ytfldklimlcnnnaa.XTree Go.Proofs.Ytfldklimlcnnnaa.QTree Go.Proofs.Ytfldklimlcnnnaa.QTChk
theorem one_f (k n d:Nat) (hn:n<18446744073709551616) (hd:d<18446744073709551616) (hk:5<=k):regattalaw13_one.f k (n:Int) (d:Int)=some (limbs n,limbs d):=by
 unfold regattalaw13_one.f
 rw [rof_f k n hn hk,rof_f k d hd hk]
 rfl
theorem and3 (x:Int):Go.bits .and .i64 x 3=x % 4:=and_mask 2 (by omega) x 3 rfl
theorem all_f (ps:List Int) (qs:List S39) (a b:Int):∃n d:Nat,n<8/\1<=d/\d<=4/\regattalaw13_Spec_all.f 5 ps qs a b=some (limbs n,limbs d):=by
 refine ⟨(a % 8).toNat,(1+b % 4).toNat,by omega,by omega,by omega, ?_⟩
 unfold regattalaw13_Spec_all.f
 have h1:IntKind.u64.wrap (Go.bits .and .i64 a 7)=((a % 8).toNat:Int):=by rw [and7,IntKind.wrap_u64];omega
 have h2:IntKind.u64.wrap (wrap64 (1+(Go.bits .and .i64 b 3)))=((1+b % 4).toNat:Int):=by rw [and3,QBits.w64 (by omega) (by omega),IntKind.wrap_u64];omega
 rw [h1,h2,one_f 5 _ _ (by omega) (by omega) (Nat.le_refl _)]
 rfl
theorem tm_lo (a m:Int) (h:0<m) : -m<a.tmod m/\a.tmod m<m:=by
 refine ⟨?_,Int.tmod_lt_of_pos a h⟩
 have:=Int.lt_tmod_of_pos a h
 omega
theorem par_ok (p:Int) (i:Nat) (hi:i<=8) : -1<=wrap64 ((Int.tmod (wrap64 ((wrap64 ((Int.tmod p (wrap64 ((i:Int)+1)))+i))+1)) (wrap64 ((i:Int)+1)))-1)/\wrap64 ((Int.tmod (wrap64 ((wrap64 ((Int.tmod p (wrap64 ((i:Int)+1)))+i))+1)) (wrap64 ((i:Int)+1)))-1)<i:=by
 have e:wrap64 ((i:Int)+1)=(i:Int)+1:=QBits.w64 (by omega) (by omega)
 rw [e]
 have h1:=tm_lo p ((i:Int)+1) (by omega)
 generalize p.tmod ((i:Int)+1)=r at *
 have e1:wrap64 (r+i)=r+i:=QBits.w64 (by omega) (by omega)
 rw [e1]
 have e2:wrap64 (r+i+1)=r+i+1:=QBits.w64 (by omega) (by omega)
 rw [e2]
 have h2:=tm_lo (r+i+1) ((i:Int)+1) (by omega)
 have h3:0<=(r+i+1).tmod ((i:Int)+1):=Int.tmod_nonneg _ (by omega)
 generalize (r+i+1).tmod ((i:Int)+1)=r2 at *
 rw [QBits.w64 (by omega) (by omega)]
 omega
theorem ok_snoc {sv:List S71} {x:S71} (h:∀i:Nat,i<sv.length->OkS (rd_T71 sv (i:Int)) i) (hx:OkS x sv.length):∀i:Nat,i<(sv ++ [x]).length->OkS (rd_T71 (sv ++ [x]) (i:Int)) i:=by
 intro i hi
 rw [List.length_append,List.length_singleton] at hi
 unfold rd_T71
 rw [Int.toNat_natCast]
 by_cases e:i=sv.length
 ·subst e
  rw [List.getD_eq_getElem?_getD,List.getElem?_append_right (Nat.le_refl _),Nat.sub_self]
  exact hx
 ·have:=h i (by omega)
  unfold rd_T71 at this
  rw [Int.toNat_natCast] at this
  rw [List.getD_eq_getElem?_getD,List.getElem?_append_left (by omega), <-List.getD_eq_getElem?_getD]
  exact this
theorem serv_l (ps:List Int) (qs:List S39) (a b:Int):∀ (d k i:Nat) (acc:List S71),i+d=8->2*d+3<k->acc.length=i->(∀j:Nat,j<acc.length->OkS (rd_T71 acc (j:Int)) j) →
  ∃sv,regattalaw13_Spec_servers.l0 k acc (i:Int) ps qs a b=some sv/\sv.length<=8/\∀j:Nat,j<sv.length->OkS (rd_T71 sv (j:Int)) j:=by
 intro d
 induction d with
 | zero =>
  intro k i acc hi hk hl hok
  obtain ⟨k,rfl⟩:∃j,k=j+2:=⟨k-2,by omega⟩
  refine ⟨acc, ?_,by omega,hok⟩
  simp only [regattalaw13_Spec_servers.l0]
  by_cases c:(i:Int)<(ps.length:Int)
  ·rw [if_pos c,decide_eq_false (by omega)]
   simp only [regattalaw13_Spec_servers.j1]
   rw [if_neg (by decide)]
  ·rw [if_neg c]
   simp only [regattalaw13_Spec_servers.j1]
   rw [if_neg (by decide)]
 | succ d ih =>
  intro k i acc hi hk hl hok
  obtain ⟨k,rfl⟩:∃j,k=j+2:=⟨k-2,by omega⟩
  simp only [regattalaw13_Spec_servers.l0]
  by_cases c:(i:Int)<(ps.length:Int)
  ·rw [if_pos c,decide_eq_true (by omega)]
   simp only [regattalaw13_Spec_servers.j1]
   have e:wrap64 ((i:Int)+1)=((i+1:Nat):Int):=by rw [QBits.w64 (by omega) (by omega)];omega
   have hp:=par_ok (rd ps (i:Int)) i (by omega)
   rw [if_pos trivial,if_pos (by omega),if_pos c,if_neg (by rw [e];omega)]
   by_cases c2:(i:Int)<(qs.length:Int)
   ·rw [if_pos c2,if_pos (by omega)]
    generalize wrap64 ((Int.tmod (wrap64 ((wrap64 ((Int.tmod (rd ps (i:Int)) (wrap64 ((i:Int)+1)))+i))+1)) (wrap64 ((i:Int)+1)))-1)=par at *
    rw [e]
    refine ih k (i+1) _ (by omega) (by omega) (by rw [List.length_append,hl];rfl) (ok_snoc hok ?_)
    rw [hl,and31,and15,QBits.w64 (by omega) (by omega)]
    exact ⟨hp.1,hp.2,by show 0<=_ % 32;omega,by show _ % 32<=1073741824;omega,by show 1<=1+_ % 16;omega,by show 1+_ % 16<=1048576;omega⟩
   ·rw [if_neg c2,if_pos (by omega)]
    generalize wrap64 ((Int.tmod (wrap64 ((wrap64 ((Int.tmod (rd ps (i:Int)) (wrap64 ((i:Int)+1)))+i))+1)) (wrap64 ((i:Int)+1)))-1)=par at *
    rw [e]
    refine ih k (i+1) _ (by omega) (by omega) (by rw [List.length_append,hl];rfl) (ok_snoc hok ?_)
    rw [hl]
    exact ⟨hp.1,hp.2,by show (0:Int)<=16;omega,by show (16:Int)<=1073741824;omega,by show (1:Int)<=16;omega,by show (16:Int)<=1048576;omega⟩
  ·rw [if_neg c]
   simp only [regattalaw13_Spec_servers.j1]
   rw [if_neg (by decide)]
   exact ⟨acc,rfl,by omega,hok⟩
theorem servers_f (ps:List Int) (qs:List S39) (a b:Int):∃sv,regattalaw13_Spec_servers.f 20 ps qs a b=some sv/\SvOk sv/\sv.length<=8:=by
 obtain ⟨sv,h1,h2,h3⟩:=serv_l ps qs a b 8 20 0 [] rfl (by omega) rfl (fun j hj=>absurd hj (by simp))
 exact ⟨sv,h1,⟨h3,by omega⟩,h2⟩
end Go.Proofs.Ytfldklimlcnnnaa.QServ
end

section
namespace Go.Proofs.Ytfldklimlcnnnaa.XQAwake
open Go.RowKit Go.Proofs.Ytfldklimlcnnnaa.PHq Go.Proofs.YtfldklimlcnnnaaW.PrintWords Go.Proofs.YtfldklimlcnnnaaW.PrintLast Go.Proofs.YtfldklimlcnnnaaW.PrintMore Go.Proofs.Ytfldklimlcnnnaa.MWords
open Go.Proofs.Ytfldklimlcnnnaa.MNat Go.Proofs.Ytfldklimlcnnnaa.QNat Go.Proofs.Ytfldklimlcnnnaa.QRatio Go.Proofs.Ytfldklimlcnnnaa.XRV Go.Proofs.Ytfldklimlcnnnaa.XHold Go.Proofs.Ytfldklimlcnnnaa.XJoin Go.Proofs.Ytfldklimlcnnnaa.XTree Go.Proofs.Ytfldklimlcnnnaa.QTree Go.Proofs.Ytfldklimlcnnnaa.XOf Go.Proofs.Ytfldklimlcnnnaa.XCollect Go.Proofs.Ytfldklimlcnnnaa.QTr Go.Proofs.Ytfldklimlcnnnaa.XTJoin Go.Proofs.Ytfldklimlcnnnaa.QTChk Go.Proofs.Ytfldklimlcnnnaa.XTNew2 Go.Proofs.Ytfldklimlcnnnaa.XTMade Go.Proofs.Ytfldklimlcnnnaa.QServ
def sv2:List S71:=[⟨-1,⟨1,2⟩⟩,⟨0,⟨1,3⟩⟩]
theorem sv2_ok:SvOk sv2:=⟨fun i hi=>by
 match i,hi with
 | 0,_=>exact ⟨by decide,by decide,by decide,by decide,by decide,by decide⟩
 | 1,_=>exact ⟨by decide,by decide,by decide,by decide,by decide,by decide⟩
 | i+2,hi=>exact absurd hi (by simp [sv2]),by decide⟩
theorem path2:pathS sv2 1 = [1,0, -1]:=by decide
theorem join_a:joinTE sv2 (alT sv2 (mkRat 1 1)) [] 1 1 ⟨1,2⟩=18:=by
 have h:fitsP sv2 (alT sv2 (mkRat 1 1)) [] 1 (QRatio.wt ⟨1,2⟩)=false:=by
  unfold fitsP
  rw [path2,List.all_eq_false]
  refine ⟨1,by simp, ?_⟩
  show ¬ decide ((0:Rat)+mkRat 1 2<=mkRat 1 3)=true
  rw [Rat.zero_add]
  decide +kernel
 unfold joinTE
 rw [h]
 decide
theorem join_b:joinTE sv2 (alT sv2 (mkRat 1 1)) [] 1 1 ⟨1,3⟩=0:=by
 have h:fitsP sv2 (alT sv2 (mkRat 1 1)) [] 1 (QRatio.wt ⟨1,3⟩)=true:=by
  unfold fitsP
  rw [path2,List.all_eq_true]
  intro y hy
  rcases List.mem_cons.1 hy with rfl|hy
  ·show decide ((0:Rat)+mkRat 1 3<=mkRat 1 3)=true
   rw [Rat.zero_add]
   decide +kernel
  rcases List.mem_cons.1 hy with rfl|hy
  ·show decide ((0:Rat)+mkRat 1 3<=mkRat 1 2)=true
   rw [Rat.zero_add]
   decide +kernel
  rw [List.mem_singleton.1 hy]
  show decide ((0:Rat)+mkRat 1 3<=mkRat 1 1)=true
  rw [Rat.zero_add]
  decide +kernel
 unfold joinTE
 rw [h]
 decide
theorem same_l (l:List Int) (hl:l.length<=1000):∀ (d k i:Nat),i+d=l.length->d<k->regattaref07_Same.l0 k l l (i:Int)=some true:=by
 intro d
 induction d with
 | zero =>
  intro k i hi hk
  obtain ⟨k,rfl⟩:∃j,k=j+1:=⟨k-1,by omega⟩
  simp only [regattaref07_Same.l0]
  rw [if_neg (by omega)]
 | succ d ih =>
  intro k i hi hk
  obtain ⟨k,rfl⟩:∃j,k=j+1:=⟨k-1,by omega⟩
  simp only [regattaref07_Same.l0]
  rw [if_pos (by omega),if_pos (by omega),if_pos (by omega),if_pos trivial,w64 (by omega) (by omega)]
  exact ih k (i+1) (by omega) (by omega)
theorem same_f (l:List Int) (hl:l.length<=1000):regattaref07_Same.f (l.length+1) l l=some true:=by
 unfold regattaref07_Same.f
 rw [if_pos rfl]
 exact same_l l hl l.length _ 0 (by omega) (by omega)
theorem C_sv2 {W:World} {k:Nat} (h:MBlk W k 71 #[.int .i64 (-1),.int .i64 1,.int .i64 2,.int .i64 0,.int .i64 1,.int .i64 3]):Kd.C k71 W (some ⟨k,0,none⟩) sv2.length sv2:=by
 have ea:∀i:Nat,(⟨k,0,none⟩:Addr).add i=⟨k,i,none⟩:=fun i=>by
  unfold Addr.add
  split
  ·rename_i h;simp [h]
  ·simp
 refine ⟨rfl,by decide,fun _=>⟨⟨k,0,none⟩,rfl,fun j p hj=>?_⟩⟩
 match j,hj with
 | 0,hj =>
  obtain rfl:(⟨-1,⟨1,2⟩⟩:S71)=p:=Option.some.inj hj
  refine ⟨_,rfl,k71_mk W _,fun i u hu=>?_⟩
  rw [ea]
  match i,hu with
  | 0,hu=>exact (mblk_cell h 0).trans hu
  | 1,hu=>exact (mblk_cell h 1).trans hu
  | 2,hu=>exact (mblk_cell h 2).trans hu
  | i+3,hu=>simp at hu
 | 1,hj =>
  obtain rfl:(⟨0,⟨1,3⟩⟩:S71)=p:=Option.some.inj hj
  refine ⟨_,rfl,k71_mk W _,fun i u hu=>?_⟩
  rw [ea]
  match i,hu with
  | 0,hu=>exact (mblk_cell h 3).trans hu
  | 1,hu=>exact (mblk_cell h 4).trans hu
  | 2,hu=>exact (mblk_cell h 5).trans hu
  | i+3,hu=>simp at hu
 | j+2,hj=>simp [sv2] at hj
theorem C_p3 {W:World} {k:Nat} (h:MBlk W k 3 #[.int .i64 1,.int .i64 0,.int .i64 (-1)]):Kd.C (Kd.int .i64) W (some ⟨k,0,none⟩) ([1,0, -1]:List Int).length [1,0, -1]:=by
 have ea:∀i:Nat,(⟨k,0,none⟩:Addr).add i=⟨k,i,none⟩:=fun i=>by
  unfold Addr.add
  split
  ·rename_i h;simp [h]
  ·simp
 refine ⟨rfl,by decide,fun _=>⟨⟨k,0,none⟩,rfl,fun j p hj=>?_⟩⟩
 refine ⟨[.int .i64 p],rfl,rfl,fun i u hu=>?_⟩
 match i,hu with
 | 0,hu =>
  obtain rfl:Value.int .i64 p=u:=Option.some.inj hu
  rw [ea]
  match j,hj with
  | 0,hj=>obtain rfl:(1:Int)=p:=Option.some.inj hj;exact (mblk_cell h 0).trans rfl
  | 1,hj=>obtain rfl:(0:Int)=p:=Option.some.inj hj;exact (mblk_cell h 1).trans rfl
  | 2,hj=>obtain rfl:(-1:Int)=p:=Option.some.inj hj;exact (mblk_cell h 2).trans rfl
  | j+3,hj=>simp at hj
 | i+1,hu=>simp at hu
set_option maxRecDepth 100000 in
set_option maxHeartbeats 4000000 in
theorem awake_calls (w:World):Calls Try.prog 39 #[] w fun e w'=>e=.returned (.bool true)/\Below w.heap.size w w':=by
 obtain ⟨w1,hw1⟩:∃w1,w1=w.alloc (.cells #[.int .i64 (-1),.int .i64 1,.int .i64 2,.int .i64 0,.int .i64 1,.int .i64 3] 71):=⟨_,rfl⟩
 have HB1:=Aside0.mk (show Below w.heap.size w w1 by rw [hw1];exact below_alloc (Below.refl _ _) _)
 have HM1:=Aside0.mk (show MBlk w1 w.heap.size 71 #[.int .i64 (-1),.int .i64 1,.int .i64 2,.int .i64 0,.int .i64 1,.int .i64 3] by rw [hw1];exact mblk_new _ _ _)
 have HJ:=Aside0.mk (And.intro join_a join_b)
 go_enter Try.func39,Try.ntmps39
 go_upto_region 2 with fail
 rw [<-hw1]
 clear hw1
 go_wp2_with fail
 refine (regattalaw13_one.calls 5 ((1:Nat):Int) ((1:Nat):Int) _ _ _ (one_f 5 1 1 (by decide) (by decide) (Nat.le_refl _))).mono ?_
 rintro e w2 ⟨v0,v1,rfl,h1,h2,hb⟩
 have HV2:=Aside0.mk (RV.ofR h1 h2)
 obtain ⟨P1,p1,P2,p2,rfl,rfl⟩:=HV2.out.shape
 have HB2:=Aside0.mk (below_step HB1.out hb)
 have HM2:=Aside0.mk ((hb.block _ (mblk_lt HM1.out)).trans HM1.out)
 clear h1 h2 hb HM1 HB1
 go_wp2_with fail
 have hnew:=new_tree (.slice P1 (limbs 1).length p1) (.slice P2 (limbs 1).length p2) 1 1 2 (some ⟨w.heap.size,0,none⟩) 2 sv2 w2 HV2.out (show (1:Nat)<4294967296 ^ 2 by decide) (show (1:Nat)<4294967296 ^ 2 by decide) (by decide) (by decide) (C_sv2 HM2.out) (by decide) sv2_ok
 refine hnew.mono ?_
 clear hnew
 rintro e w3 ⟨M,rfl,hT,hwr,hb⟩
 have HT3:=Aside0.mk hT
 have HWR:=Aside0.mk hwr
 have HB3:=Aside0.mk (below_step HB2.out hb)
 have HSZ:=Aside0.mk HB2.out.size
 have HS3:=Aside0.mk hb.size
 clear hT hwr hb
 go_wp2_with fail
 refine (tjoin_calls HT3.out (by decide) 1 1 ⟨1,2⟩ (wfI_of (by decide) (by decide))).mono ?_
 rintro e w4 ⟨rfl,hT,hk⟩
 have hja:joinTH sv2 (alT sv2 (mkRat ((1:Nat):Int) 1)) [] 1 1 ⟨1,2⟩ = []:=by
  unfold joinTH
  rw [if_neg (by rw [show joinTE sv2 (alT sv2 (mkRat ((1:Nat):Int) 1)) [] 1 1 ⟨1,2⟩=18 from HJ.out.1];decide)]
 rw [hja] at hT
 rw [show joinTE sv2 (alT sv2 (mkRat ((1:Nat):Int) 1)) [] 1 1 ⟨1,2⟩=18 from HJ.out.1]
 have HT4:=Aside0.mk hT
 have HK4:=Aside0.mk hk
 clear hT hk hja
 go_wp2_with fail
 refine (tjoin_calls HT4.out (by decide) 1 1 ⟨1,3⟩ (wfI_of (by decide) (by decide))).mono ?_
 rintro e w5 ⟨rfl,hT,hk⟩
 rw [show joinTE sv2 (alT sv2 (mkRat ((1:Nat):Int) 1)) [] 1 1 ⟨1,3⟩=0 from HJ.out.2]
 have HB5:=Aside0.mk (show Below w.heap.size w w5 from by
  have hkk:=HK4.out.trans hk
  have h1:Below w.heap.size w3 w5:=hkk.below (fun k hk=>Nat.le_trans HSZ.out (HWR.out k hk)) HB3.out.size
  exact ⟨h1.os.trans HB3.out.os,h1.tape.trans HB3.out.tape,h1.output.trans HB3.out.output,Nat.le_trans HB3.out.size h1.size,fun k hk=>(h1.block k hk).trans (HB3.out.block k hk)⟩)
 obtain ⟨at_,ls,ht,hi,hg⟩:=hT
 have HT5:=Aside0.mk (And.intro ht hg)
 clear ht hi hg hk
 go_wp2_with (first
  | (go_at_call 43;have hp:=Path_calls HT5.out.1 HT5.out.2 1;rw [show pathT sv2 1 = [1,0, -1] from path2] at hp;refine hp.mono ?_;clear hp;rintro e w6 ⟨A6,c6,rfl,hl,hC,hb⟩;have HC6:=Aside0.mk (And.intro hl hC);have HB6:=Aside0.mk (below_step HB5.out hb);clear hl hC hb)
  | (go_at_call 54;refine (regattaref07_Same.calls 4 A6 c6 [1,0, -1] (some ⟨w6.heap.size,0,none⟩) 3 [1,0, -1] true _ (Kd.C_below HC6.out.2 (below_alloc (Below.refl _ _) _)) HC6.out.1 (C_p3 (mblk_new _ _ _)) (by decide) (same_f _ (by decide))).mono ?_;rintro e w7 ⟨rfl,hd⟩;have HB7:=Aside0.mk (below_step (below_alloc HB6.out _) hd.below);clear hd))
 go_ret
 exact ⟨by simp,HB7.out⟩
end Go.Proofs.Ytfldklimlcnnnaa.XQAwake
end

section
namespace Go.Proofs.Ytfldklimlcnnnaa.QTr
open Go.RowKit Go.Proofs.Ytfldklimlcnnnaa.PHq Go.Proofs.YtfldklimlcnnnaaW.PrintWords Go.Proofs.YtfldklimlcnnnaaW.PrintLast Go.Proofs.YtfldklimlcnnnaaW.PrintMore Go.Proofs.Ytfldklimlcnnnaa.MWords
open Go.Proofs.Ytfldklimlcnnnaa.MNat Go.Proofs.Ytfldklimlcnnnaa.QRatio Go.Proofs.Ytfldklimlcnnnaa.XRV Go.Proofs.Ytfldklimlcnnnaa.XHold Go.Proofs.Ytfldklimlcnnnaa.XWts Go.Proofs.Ytfldklimlcnnnaa.XLed Go.Proofs.Ytfldklimlcnnnaa.XFits Go.Proofs.Ytfldklimlcnnnaa.XJoin Go.Proofs.Ytfldklimlcnnnaa.XMeth Go.Proofs.Ytfldklimlcnnnaa.XAsk Go.Proofs.Ytfldklimlcnnnaa.XEnd Go.Proofs.Ytfldklimlcnnnaa.QHold Go.Proofs.Ytfldklimlcnnnaa.XTree Go.Proofs.Ytfldklimlcnnnaa.QTree Go.Proofs.Ytfldklimlcnnnaa.XTCl Go.Proofs.Ytfldklimlcnnnaa.XAllW Go.Proofs.Ytfldklimlcnnnaa.XOf
section
variable {sv:List S71} {al:Int->Rat} {at_:List (Int × Int)} {ls:Int->List (Int × Hd)} {H:List Hol} {m:Nat}
def askF (sv:List S71) (al:Int->Rat) (H:List Hol) (k:Hd) (x:S34) (y:Int):Bool:=fitsQ (al y) (heldH sv H y) (wt (hv (asks k x))) (wt (wN k))
theorem Inv.askE (h:Inv sv al at_ ls H m) {a:Hol} (ha:a∈H) {x:S34} (hm:mayW x=true) {y:Int} (hy:inR sv.length y) (hp:y∈pathS sv a.srv) :
  askE (al y) (heldL (ls y)) (ls y) a.id x=if a.hd.a=true then 13 else if askF sv al H a.hd x y=true then 0 else 18:=by
 unfold XAsk.askE
 rw [if_neg (by simp [hm]),h.getL ha hy hp,h.held hy]
 show (if a.hd.a=true then (13:Int) else if fitsQ (al y) (heldH sv H y) (wt (hv (asks a.hd x))) (wt (wN a.hd))=false then 18 else 0)=_
 unfold askF
 by_cases c:a.hd.a=true
 ·rw [if_pos c,if_pos c]
 ·rw [if_neg c,if_neg c]
  cases fitsQ (al y) (heldH sv H y) (wt (hv (asks a.hd x))) (wt (wN a.hd)) <;> rfl
theorem Inv.askL (h:Inv sv al at_ ls H m) {a:Hol} (ha:a∈H) {x:S34} (hm:mayW x=true) (hna:a.hd.a=false) {y:Int} (hy:inR sv.length y) (hp:y∈pathS sv a.srv) (hf:askF sv al H a.hd x y=true) :
  XAsk.askL (al y) (heldL (ls y)) (ls y) a.id x=setL (ls y) a.id (asks a.hd x):=by
 have h1:=h.askE ha hm hy hp
 rw [if_neg (by rw [hna];decide),if_pos hf] at h1
 unfold XAsk.askL
 rw [if_pos h1,h.getL ha hy hp]
 rfl
theorem Inv.ask (h:Inv sv al at_ ls H m) (hG:GoodSv sv) {a:Hol} (ha:a∈H) {x:S34} (hm:mayW x=true) (hna:a.hd.a=false) (hf:∀y∈pathS sv a.srv,askF sv al H a.hd x y=true) :
  Inv sv al at_ (stp (fun all l=>XAsk.askL all (heldL l) l a.id x) al ls (pathS sv a.srv)) (setH H a.id (asks a.hd x)) m:=by
 have ho:=h.ok a ha
 refine h.set (k:=asks a.hd x) (A:=fun all l=>XAsk.askL all (heldL l) l a.id x) ha ⟨⟨ho.ok.1,fun _=>(may_okW hm).1⟩,fun c=>(by cases c),ho.now,fun _=>hm,ho.wf⟩ (fun y hp hy=>h.askL ha hm hna hy hp (hf y hp)) (fun y hp hy=>?_)
 have h1:=hf y hp
 unfold askF fitsQ at h1
 rw [Bool.and_eq_true,decide_eq_true_iff,decide_eq_true_iff] at h1
 rw [hv_plain hna]
 have h2:=h1.2
 unfold heldH at h2
 grind
theorem del_set (l:List (Int × Hd)) (z:Int) (k:Hd):delL (setL l z k) z=delL l z:=by
 unfold setL
 split
 ·unfold delL
  rename_i h
  clear h
  induction l with
  | nil=>rfl
  | cons y l ih =>
   rw [List.map_cons,List.filter_cons,List.filter_cons,ih]
   by_cases e:y.1=z
   ·rw [if_pos e,if_neg (by simp),if_neg (by simp [e])]
   ·rw [if_neg e]
 ·unfold delL
  rw [List.filter_append]
  simp
theorem now_new {k:Hd} (ha:k.a=false) (hc:k.e2=0/\k.p2=0):newH (wN k)=k:=by
 cases k
 simp only at ha hc
 obtain ⟨rfl,rfl⟩:=hc
 subst ha
 rfl
theorem Inv.unask (h:Inv sv al at_ ls H m) {a:Hol} (ha:a∈H) {x:S34} (hm:mayW x=true) (hna:a.hd.a=false) {pre:List Int} (hp:∀y∈pre,inR sv.length y/\y∈pathS sv a.srv) (hE:∀y∈pre,XAsk.askE (al y) (heldL (ls y)) (ls y) a.id x=0) :
  Inv sv al at_ (stp (fun all l=>backL all ((fun all l=>XAsk.askL all (heldL l) l a.id x) all l) a.id (wN a.hd)) al ls pre) H m:=by
 refine ⟨h.at_,fun y hy=>?_,h.nod,h.srv,h.ok,h.len,h.le,h.sz⟩
 by_cases hyp:y∈pre
 ·obtain ⟨hy1,hy2⟩:=hp y hyp
  have h1:=hE y hyp
  rw [h.askE ha hm hy1 hy2,if_neg (by rw [hna];decide)] at h1
  have hf:askF sv al H a.hd x y=true:=by
   cases c:askF sv al H a.hd x y with
   | true=>rfl
   | false=>rw [c,if_neg (by decide)] at h1;cases h1
  have hgl:=h.getL ha hy1 hy2
  have hno:=h.ok a ha
  have hnk:NodK (ls y):=nodk_perm (h.ls y hy1) (sub_nod h.nod y)
  unfold stp
  rw [if_pos hyp]
  show (backL (al y) (XAsk.askL (al y) (heldL (ls y)) (ls y) a.id x) a.id (wN a.hd)).Perm _
  rw [h.askL ha hm hna hy1 hy2 hf]
  unfold backL
  rw [free_eq_del,del_set]
  have hgone:=held_gone hnk hgl
  rw [hv_plain hna] at hgone
  have hdn:hasL (delL (ls y) a.id) a.id=false:=by
   unfold hasL delL
   rw [List.any_eq_false]
   intro q hq
   simpa using (List.mem_filter.1 hq).2
  have hle:heldL (delL (ls y) a.id)+wt (wN a.hd)<=al y:=by
   rw [hgone,h.held hy1]
   exact h.le y hy1
  have hj:XMeth.joinE (al y) (heldL (delL (ls y) a.id)) (delL (ls y) a.id) a.id (wN a.hd)=0:=by rw [join_new (held_nonneg _) hno.now hdn,if_pos hle]
  have hjl:XMeth.joinL (al y) (heldL (delL (ls y) a.id)) (delL (ls y) a.id) a.id (wN a.hd)=delL (ls y) a.id ++ [(a.id,a.hd)]:=by
   unfold XMeth.joinL
   rw [if_pos hj,set_new hdn]
   show _ ++ [(a.id,newH (wN a.hd))]=_
   rw [now_new hna (hno.cl hna)]
  rw [hjl]
  obtain ⟨b,c,e1,_,e3⟩:=set_split hnk hgl a.hd
  refine List.Perm.trans ?_ (h.ls y hy1)
  rw [e3,e1]
  have:=(List.perm_middle (a:=(a.id,a.hd)) (l₁:=b) (l₂:=c)).symm
  refine List.Perm.trans ?_ this
  exact List.perm_append_singleton _ _
 ·rw [stp_other hyp]
  exact h.ls y hy
theorem Inv.settleE (h:Inv sv al at_ ls H m) {a:Hol} (ha:a∈H) {y:Int} (hy:inR sv.length y) (hp:y∈pathS sv a.srv):settleE (ls y) a.id=if a.hd.a=true then 0 else 13:=by
 unfold XEnd.settleE
 rw [h.getL ha hy hp]
theorem Inv.settleL (h:Inv sv al at_ ls H m) {a:Hol} (ha:a∈H) (hna:a.hd.a=true) {y:Int} (hy:inR sv.length y) (hp:y∈pathS sv a.srv):XEnd.settleL (ls y) a.id=setL (ls y) a.id (settled a.hd):=by
 have h1:=h.settleE ha hy hp
 rw [if_pos hna] at h1
 unfold XEnd.settleL
 rw [if_pos h1,h.getL ha hy hp]
 rfl
theorem Inv.settle (h:Inv sv al at_ ls H m) (hG:GoodSv sv) {a:Hol} (ha:a∈H) (hna:a.hd.a=true) :
  Inv sv al at_ (stp (fun _ l=>XEnd.settleL l a.id) al ls (pathS sv a.srv)) (setH H a.id (settled a.hd)) m:=by
 have ho:=h.ok a ha
 have hmx:=ho.nxt hna
 refine h.set (k:=settled a.hd) (A:=fun _ l=>XEnd.settleL l a.id) ha ⟨⟨(may_okW hmx).1,fun c=>by cases c⟩,fun _=>⟨rfl,rfl⟩,hmx,fun c=>(by cases c),ho.wf⟩ (fun y hp hy=>h.settleL ha hna hy hp) (fun y hp hy=>?_)
 have h1:=h.le y hy
 have h2:wt (hv (settled a.hd))<=wt (hv a.hd):=by
  rw [hv_plain (h:=settled a.hd) rfl]
  exact hv_next hna
 unfold heldH at h1
 grind
theorem Inv.unsettle (h:Inv sv al at_ ls H m) {a:Hol} (ha:a∈H) (hna:a.hd.a=false) (hG:GoodSv sv):stp (fun _ l=>XEnd.settleL l a.id) al ls (pathS sv a.srv)=ls:=by
 funext y
 unfold stp
 split
 ·rename_i hy
  have hyi:=(path_in hG a.srv (h.srv a ha) y hy).1
  refine settleL_same ?_
  rw [h.settleE ha hyi hy,hna]
  decide
 ·rfl
theorem Inv.freeE (h:Inv sv al at_ ls H m) {a:Hol} (ha:a∈H) {y:Int} (hy:inR sv.length y) (hp:y∈pathS sv a.srv):XEnd.freeE (ls y) a.id=0:=by
 unfold XEnd.freeE
 rw [if_pos]
 rw [hasL_perm (h.ls y hy)]
 exact sub_has.2 ⟨a,ha,rfl,onB_iff.2 hp⟩
end
end Go.Proofs.Ytfldklimlcnnnaa.QTr
end

section
namespace Go.Proofs.Ytfldklimlcnnnaa.XAllA
open Go.RowKit Go.Proofs.Ytfldklimlcnnnaa.PHq Go.Proofs.YtfldklimlcnnnaaW.PrintWords Go.Proofs.YtfldklimlcnnnaaW.PrintLast Go.Proofs.YtfldklimlcnnnaaW.PrintMore Go.Proofs.Ytfldklimlcnnnaa.MWords
open Go.Proofs.Ytfldklimlcnnnaa.MNat Go.Proofs.Ytfldklimlcnnnaa.XRV Go.Proofs.Ytfldklimlcnnnaa.XHold Go.Proofs.Ytfldklimlcnnnaa.XLed Go.Proofs.Ytfldklimlcnnnaa.XTree Go.Proofs.Ytfldklimlcnnnaa.QTree Go.Proofs.Ytfldklimlcnnnaa.XPath Go.Proofs.Ytfldklimlcnnnaa.XOf Go.Proofs.Ytfldklimlcnnnaa.XGo Go.Proofs.Ytfldklimlcnnnaa.XCollect Go.Proofs.Ytfldklimlcnnnaa.XRowP Go.Proofs.Ytfldklimlcnnnaa.XAllW
attribute [local go_sem] Oper.semAt_some
section
variable {w:World} {M:Tm} {sv:List S71} {at_:List (Int × Int)} {al:Int->Rat} {ls:Int->List (Int × Hd)} {bx:List (Nat × TypeId × Array Value)}
set_option maxRecDepth 100000 in
set_option maxHeartbeats 8000000 in
theorem all_calls (hT:Tre w M sv at_ al ls) (hG:GoodSv sv) {s:Int} (hs:inR sv.length s) {k1 k2 k3:Nat} (hb1:∀x∈bx,x.1<w.heap.size) (hb2:∀x∈bx,x.2.1≠97) (hok:OkB bx w)
  {E Eu:Rat->List (Int × Hd)->Int} {A U:Rat->List (Int × Hd)->List (Int × Hd)} {Pa Pu:Rat->List (Int × Hd)->Prop}
  (hca:LedCall 91 (fun p=>#[p,.pointer (some ⟨k1,0,none⟩),.pointer (some ⟨k2,0,none⟩)]) bx E A Pa) (hcu:LedCall 90 (fun p=>#[p,.pointer (some ⟨k1,0,none⟩),.pointer (some ⟨k3,0,none⟩)]) bx Eu U Pu)
  (hPa:∀x∈pathS sv s,Pa (al x) (ls x)) (hPu:∀x∈pathS sv s,E (al x) (ls x)=0->Pu (al x) (A (al x) (ls x))) (hA:∀x∈pathS sv s,E (al x) (ls x)≠0->A (al x) (ls x)=ls x) :
  Calls Try.prog 86 #[.pointer (some ⟨M.t,0,none⟩),.int .i64 s,.func (.func 91) #[] #[.pointer (some ⟨k1,0,none⟩),.pointer (some ⟨k2,0,none⟩)],.func (.func 90) #[] #[.pointer (some ⟨k1,0,none⟩),.pointer (some ⟨k3,0,none⟩)]] w fun e w' =>
   ∃ls',Kt M sv.length w w'/\Tre w' M sv at_ al ls' ∧
    ((e=.returned (.int .i64 0)/\(∀x∈pathS sv s,E (al x) (ls x)=0)/\ls'=stp A al ls (pathS sv s)) ∨
     ∃pre x r,pathS sv s=pre ++ x :: r/\(∀y∈pre,E (al y) (ls y)=0)/\E (al x) (ls x)≠0/\e=.returned (.int .i64 (E (al x) (ls x)))/\ls'=stp (fun a l=>U a (A a l)) al ls pre):=by
 have HPN:=Aside0.mk (And.intro (path_in hG s hs) (And.intro (path_nodup hG s hs) (path_len hG s hs)))
 have HG:=Aside0.mk hG
 have HT:=Aside0.mk hT
 have HSM:=Aside0.mk hT.small
 have HS:=Aside0.mk hs
 have HBX:=Aside0.mk (And.intro hb1 (And.intro hb2 hok))
 have HCA:=Aside0.mk hca
 have HCU:=Aside0.mk hcu
 have HPA:=Aside0.mk (And.intro hPa (And.intro hPu hA))
 obtain ⟨pa,hpa⟩:∃pa,pa=pathS sv s:=⟨_,rfl⟩
 rw [<-hpa] at HPN HPA ⊢
 have HPE:=Aside0.mk hpa
 clear hT hG hs hb1 hb2 hok hca hcu hPa hPu hA hpa
 obtain ⟨w1,hw1⟩:∃w1,w1=(((w.alloc (.cells #[.pointer (some ⟨M.t,0,none⟩)] 67)).alloc (.cells #[.func (.func 91) #[] #[.pointer (some ⟨k1,0,none⟩),.pointer (some ⟨k2,0,none⟩)]] 126)).alloc (.cells #[.slice none 0 0] 117)).alloc (.cells #[.int .i64 0] 31):=⟨_,rfl⟩
 have HW1:=Aside0.mk (show Below w.heap.size w w1/\w1.heap.size=w.heap.size+4/\MBlk w1 w.heap.size 67 #[.pointer (some ⟨M.t,0,none⟩)]/\MBlk w1 (w.heap.size+1) 126 #[.func (.func 91) #[] #[.pointer (some ⟨k1,0,none⟩),.pointer (some ⟨k2,0,none⟩)]]/\MBlk w1 (w.heap.size+2) 117 #[.slice none 0 0]/\MBlk w1 (w.heap.size+3) 31 #[.int .i64 0] by
  rw [hw1]
  refine ⟨below_alloc (below_alloc (below_alloc (below_alloc (Below.refl _ _) _) _) _) _,by simp,mblk_alloc (mblk_alloc (mblk_alloc (mblk_new _ _ _) _) _) _, ?_, ?_, ?_⟩
  ·have:=mblk_new (w.alloc (.cells #[.pointer (some ⟨M.t,0,none⟩)] 67)) 126 #[.func (.func 91) #[] #[.pointer (some ⟨k1,0,none⟩),.pointer (some ⟨k2,0,none⟩)]]
   rw [World.size_alloc] at this
   exact mblk_alloc (mblk_alloc this _) _
  ·have:=mblk_new ((w.alloc (.cells #[.pointer (some ⟨M.t,0,none⟩)] 67)).alloc (.cells #[.func (.func 91) #[] #[.pointer (some ⟨k1,0,none⟩),.pointer (some ⟨k2,0,none⟩)]] 126)) 117 #[.slice none 0 0]
   rw [World.size_alloc,World.size_alloc] at this
   exact mblk_alloc this _
  ·have:=mblk_new (((w.alloc (.cells #[.pointer (some ⟨M.t,0,none⟩)] 67)).alloc (.cells #[.func (.func 91) #[] #[.pointer (some ⟨k1,0,none⟩),.pointer (some ⟨k2,0,none⟩)]] 126)).alloc (.cells #[.slice none 0 0] 117)) 31 #[.int .i64 0]
   rw [World.size_alloc,World.size_alloc,World.size_alloc] at this
   exact this)
 refine (callsIn_wide (n:=6)).1 (callsIn_of_wp_marks Try.func86 rfl trivial (wpIn_wide.2 ?_) rfl)
 simp only [Try.ntmps86,List.size_toArray,List.length_cons,List.length_nil,Nat.reduceAdd,Nat.reduceSub,Array.replicate_succ,Array.replicate_zero,List.push_toArray,List.append_toArray,List.nil_append,List.cons_append]
 have k0:w1.cell? ⟨w.heap.size,0,none⟩=some (.pointer (some ⟨M.t,0,none⟩)):=(mblk_cell HW1.out.2.2.1 0).trans rfl
 rw [hw1] at k0
 have HW:=Aside0.mk hw1
 clear hw1
 go_wp2_with fail
 go_step3
 go_wp2_with fail
 go_step3
 go_wp2_with fail
 rw [<-HW.out]
 clear HW k0
 refine (path_calls M.t s _).mono ?_
 rintro e w2 ⟨rfl,hw2⟩
 have HB:=Aside0.mk (show Below w.heap.size w w2/\w2.heap.size=w.heap.size+6 by
  rw [hw2]
  exact ⟨below_alloc (below_alloc HW1.out.1 _) _,by simp;have:=HW1.out.2.1;omega⟩)
 have HT2:=Aside0.mk (HT.out.below HB.out.1)
 have HBX5:=Aside0.mk (show MBlk w2 (w.heap.size+5) 3 #[.int .i64 s] by
  have:=mblk_new (w1.alloc (.cells #[.pointer (some ⟨M.t,0,none⟩)] 67)) 3 #[.int .i64 s]
  rw [World.size_alloc,HW1.out.2.1] at this
  rw [hw2]
  exact this)
 have HI2:=Aside0.mk (show AInv w M sv at_ al bx (.func (.func 91) #[] #[.pointer (some ⟨k1,0,none⟩),.pointer (some ⟨k2,0,none⟩)]) ls 0 [] w2 by
  have hb:∀ {k:Nat} {cs:Array Value} {T:TypeId},MBlk w1 k T cs->MBlk w2 k T cs:=fun h=>by rw [hw2];exact mblk_alloc (mblk_alloc h _) _
  refine ⟨HT2.out,hb HW1.out.2.2.1,hb HW1.out.2.2.2.1,⟨none,0,hb HW1.out.2.2.2.2.1,VRow.nil _ _ _⟩,hb HW1.out.2.2.2.2.2, ?_,fun x hx=>(HB.out.1.block _ (HBX.out.1 x hx)).trans (HBX.out.2.2 x hx),Kt.of HB.out.1⟩
  have:=mblk_new w1 67 #[.pointer (some ⟨M.t,0,none⟩)]
  rw [HW1.out.2.1] at this
  rw [hw2]
  exact mblk_alloc this _)
 rw [HW1.out.2.1]
 clear hw2 HW1
 go_wp2_with fail
 have HSEQ:=Aside0.mk (path_seq M sv (w.heap.size+4) (w.heap.size+5) s w2 HG.out HSM.out HS.out (Rd.of HT2.out HI2.out.pb) HBX5.out)
 rw [<-HPE.out] at HSEQ
 refine (wpIn_wide (n:=6)).1 ?_
 refine range_g (F:=Fence.wide) (n:=6) rfl (by omega) (gf:=114) (lb:=#[.pointer (some ⟨w.heap.size+5,0,none⟩),.pointer (some ⟨w.heap.size+4,0,none⟩)]) rfl trivial (enters_of Try.func114 (by kernel_rfl) rfl)
  (w0:=w2) HSEQ.out (Below.refl _ _) (fun _=>rfl) (fun h k=>h.trans k)
  (fun W l o o' hl ho _ _=>kq_put (N:=w2.heap.size) (by rw [HB.out.2];omega) (fun k hk=>HT2.out.own_lt (by rcases hk with c|c;exact .inl c;exact .inr (.inl c))) W l o o' hl ho)
  (fun pre W=>AInv w M sv at_ al bx (.func (.func 91) #[] #[.pointer (some ⟨k1,0,none⟩),.pointer (some ⟨k2,0,none⟩)]) (stp A al ls pre) 0 pre W/\∀x∈pre,E (al x) (ls x)=0)
  (fun c pre W=>c=.exit 0/\∃pre' x,pre=pre' ++ [x]/\(∀y∈pre',E (al y) (ls y)=0)/\E (al x) (ls x)≠0/\AInv w M sv at_ al bx (.func (.func 91) #[] #[.pointer (some ⟨k1,0,none⟩),.pointer (some ⟨k2,0,none⟩)]) (stp A al ls pre') (E (al x) (ls x)) pre' W)
  (fun pre X Y row h hg hr=>⟨AInv.own HT.out HBX.out.2.1 (B:=w2.heap.size) (by rw [HB.out.2];omega) h.1 hg hr,h.2⟩)
  (fun c pre X Y row h hg hr=>by
   obtain ⟨h1,pre',x,h2,h3,h4,h5⟩:=h
   exact ⟨h1,pre',x,h2,h3,h4,AInv.own HT.out HBX.out.2.1 (B:=w2.heap.size) (by rw [HB.out.2];omega) h5 hg hr⟩)
  ⟨by rw [stp_nil];exact HI2.out,fun x hx=>by cases hx⟩
  (fun x=>{ tmps:=#[.pointer (some ⟨M.t,0,none⟩),.int .i64 s,.func (.func 91) #[] #[.pointer (some ⟨k1,0,none⟩),.pointer (some ⟨k2,0,none⟩)],.func (.func 90) #[] #[.pointer (some ⟨k1,0,none⟩),.pointer (some ⟨k3,0,none⟩)],.pointer (some ⟨w.heap.size,0,none⟩),undef,.pointer (some ⟨w.heap.size+1,0,none⟩),undef,.int .i64 0,.pointer (some ⟨w.heap.size+2,0,none⟩),.pointer (some ⟨w.heap.size+3,0,none⟩),.int .i64 x,undef,undef,undef,.pointer (some ⟨M.t,0,none⟩),.int .i64 s,.func (.func 114) #[] #[.pointer (some ⟨w.heap.size+5,0,none⟩),.pointer (some ⟨w.heap.size+4,0,none⟩)],.int .i64 x,undef,undef,undef,undef,undef,undef,undef,undef,undef,undef,undef,undef,undef,undef,undef,undef,undef,undef,undef,undef,undef,undef,undef,undef,undef],defers:=[] })
  ?assign ?body ?done ?stop
 case assign =>
  intro lo x W K hK
  gi_wp2
  exact hK
 case body =>
  rintro lo pre x W ⟨hI,hz⟩ ⟨r,hr⟩ hlt
  have hxp:x∈pa:=by rw [hr];simp
  have hxi:=(HPN.out.1 x hxp).1
  have hxn:x ∉ pre:=fun hx=>by
   have:=HPN.out.2.1
   rw [hr,List.nodup_append] at this
   exact this.2.2 x hx x (by simp) rfl
  have HI:=Aside0.mk hI
  have HZ:=Aside0.mk hz
  have HX:=Aside0.mk (And.intro hxp (And.intro hxi hxn))
  have HLEN:=Aside0.mk (show pre.length<1001 by
   have h1:=HPN.out.2.2
   have h2:=HSM.out
   rw [hr,List.length_append,List.length_cons] at h1
   omega)
  have k0:W.cell? ⟨w.heap.size,0,none⟩=some (.pointer (some ⟨M.t,0,none⟩)):=(mblk_cell hI.tb 0).trans rfl
  have h11:1<=6-1-1:=by omega
  clear hI hz hr hxp hxi hxn
  obtain ⟨q,hq⟩:∃q,q=E (al x) (ls x):=⟨_,rfl⟩
  have HQ:=Aside0.mk hq
  clear hq
  gi_wp2
  refine ⟨trivial,(CallsIn.inRound lo (callsIn_wide.2 (of_calls HI.out.tre HX.out.2.1))).mono ?_⟩
  rintro e W1 ⟨rfl,hb⟩
  have HK1:=Aside0.mk (kf_below (D:=w2.heap.size) hb)
  have HI1:=Aside0.mk (HI.out.below HBX.out.2.1 hb)
  have k1:W1.cell? ⟨w.heap.size+1,0,none⟩=some (.func (.func 91) #[] #[.pointer (some ⟨k1,0,none⟩),.pointer (some ⟨k2,0,none⟩)]):=(mblk_cell HI1.out.kb 0).trans rfl
  clear hb k0
  gi_wp2
  have hc:=HCA.out (M.g x) (M.b x) (al x) (ls x) W1 HI1.out.ok (by have:=HI1.out.tre.led x HX.out.2.1;rw [stp_other HX.out.2.2] at this;exact this) (HPA.out.1 x HX.out.1)
  rw [<-HQ.out] at hc
  refine ⟨trivial,(CallsIn.inRound lo (callsIn_wide.2 hc)).mono ?_⟩
  clear hc
  rintro e W2 ⟨rfl,hL,hK⟩
  have hi:=HI1.out.kp HBX.out.2.1 HX.out.2.1 hK hL
  rw [stp_snoc HX.out.2.2] at hi
  have HI3:=Aside0.mk hi
  have HK2:=Aside0.mk (HK1.out.trans (kf_kp HT.out (by rw [HB.out.2];omega) HX.out.2.1 hK))
  have k3:W2.cell? ⟨w.heap.size+3,0,none⟩=some (.int .i64 0):=(mblk_cell HI3.out.bad 0).trans rfl
  have f3:W2.frozen? ⟨w.heap.size+3,0,none⟩=false:=mblk_frozen HI3.out.bad 0
  clear hL hK hi HI1 HK1 k1
  by_cases hq0:q=0
  ·subst hq0
   have HI4:=Aside0.mk (HI3.out.bad_ HT.out HBX.out.1 0)
   have HK3:=Aside0.mk (HK2.out.trans (kf_set (D:=w2.heap.size) W2 ⟨w.heap.size+3,0,none⟩ (.int .i64 0)))
   obtain ⟨A1,c1,hm,hv⟩:=HI4.out.row
   have HR:=Aside0.mk (And.intro hm hv)
   have k4:(W2.setCell ⟨w.heap.size+3,0,none⟩ (.int .i64 0)).cell? ⟨w.heap.size+2,0,none⟩=some (.slice A1 pre.length c1):=(mblk_cell hm 0).trans rfl
   have HSZ:=Aside0.mk (show w.heap.size+6<=(W2.setCell ⟨w.heap.size+3,0,none⟩ (.int .i64 0)).heap.size from by have h1:=HK3.out.size;have h2:=HB.out.2;omega)
   have HNO:=Aside0.mk (show ∀k,(Value.slice A1 pre.length c1).ownBlock=some k->w.heap.size+6<=k from fun k hk=>(hv.typed k hk).1)
   clear hm hv
   gi_wp2_with (gi_at_builtin;refine appendV (W:=(W2.setCell ⟨w.heap.size+3,0,none⟩ (.int .i64 0))) (w.heap.size+6) rfl (.tmp 27) (.tmp 29) 117 24 (.pointer none) 8 rfl Try.underlying117 (by kernel_rfl) rfl (fun _ h=>by cases h) (.slice A1 pre.length c1) (ptrs M.g pre) (.pointer (some ⟨M.g x,0,none⟩)) rfl (by first|rfl|(simp [World.setCell,go_sem];done)) rfl (fun _ h=>by cases h) HR.out.2 HSZ.out (by rw [ptrs_len];have:=HLEN.out;omega) (by rw [ptrs_len];have:=HLEN.out;omega) ?_;intro v1 w5 hR5 hg5;rw [show ptrs M.g pre ++ [.pointer (some ⟨M.g x,0,none⟩)]=ptrs M.g (pre ++ [x]) by simp [ptrs]] at hR5;obtain ⟨A2,c2,e2,_⟩:=hR5.shape;rw [ptrs_len] at e2;subst e2;have HR5:=Aside0.mk hR5;have HG5:=Aside0.mk hg5;have HM5:=Aside0.mk (show MBlk w5 (w.heap.size+2) 117 #[.slice A1 pre.length c1] from (hg5.block _ (mblk_lt HR.out.1) (fun e=>by have:=HNO.out _ e.symm;omega)).trans HR.out.1);have k9:w5.cell? ⟨w.heap.size+2,0,none⟩=some (.slice A1 pre.length c1):=(mblk_cell HM5.out 0).trans rfl;have kf9:w5.frozen? ⟨w.heap.size+2,0,none⟩=false:=mblk_frozen HM5.out 0;clear hR5 hg5)
   have hfin:=HI4.out.app HT.out HBX.out.1 HR.out.1 HR.out.2 HR5.out HG5.out
   have hkf:=(HK3.out.trans (kf_row HR.out.2 HG5.out)).trans (kf_set (D:=w2.heap.size) w5 ⟨w.heap.size+2,0,none⟩ (.slice A2 (pre ++ [x]).length c2))
   have hz2:∀y∈pre ++ [x],E (al y) (ls y)=0:=fun y hy=>by
    rcases List.mem_append.1 hy with h|h
    ·exact HZ.out y h
    ·rw [List.mem_singleton.1 h];exact HQ.out.symm
   have hkq:=ainv_kq HT.out HI.out hfin hkf.size
   simp only [List.length_append,List.length_cons,List.length_nil,Nat.zero_add] at hfin hkf hkq
   exact ⟨hkf,hkq,hfin,hz2⟩
  ·have c1:(q == (0:Int))=false:=beq_eq_false_iff_ne.mpr hq0
   have c2:(q != (0:Int))=true:=bne_iff_ne.mpr hq0
   have c3:(q=(0:Int))=False:=eq_false hq0
   have HI4:=Aside0.mk (HI3.out.bad_ HT.out HBX.out.1 q)
   have HK3:=Aside0.mk (HK2.out.trans (kf_set (D:=w2.heap.size) W2 ⟨w.heap.size+3,0,none⟩ (.int .i64 q)))
   have HQ0:=Aside0.mk hq0
   clear hq0
   gi_wp2
   have hn:E (al x) (ls x)≠0:=by rw [<-HQ.out];exact HQ0.out
   have hAx:=HPA.out.2.2 x HX.out.1 hn
   have hst:stp A al ls (pre ++ [x])=stp A al ls pre:=by
    rw [<-stp_snoc HX.out.2.2,hAx]
    funext y
    unfold upd
    split
    ·rename_i e;rw [e,stp_other HX.out.2.2]
    ·rfl
   have hfin:=HI4.out
   rw [hst,HQ.out] at hfin
   have hkf:=HK3.out
   rw [HQ.out] at hkf
   rw [HQ.out]
   exact ⟨hkf,rfl,pre,x,rfl,HZ.out,hn,hfin⟩
 case done =>
  rintro xs W rfl ⟨hI,hz⟩ hD
  have k3:W.cell? ⟨w.heap.size+3,0,none⟩=some (.int .i64 0):=(mblk_cell hI.bad 0).trans rfl
  have HI:=Aside0.mk hI
  have HZ:=Aside0.mk hz
  have HD:=Aside0.mk hD
  clear hI hz hD
  go_wp2_with fail
  have hfar:=HI.out.far HT.out (k:=w2.heap.size) (by rw [HB.out.2];omega)
  refine ⟨by simp,.inl ⟨_,_,rfl,run_takeDeferred HD.out, ?_⟩⟩
  exact ⟨_,results_tmp rfl _ _ _,_,kt_put HI.out.kt (by rw [HB.out.2];omega),tre_put HI.out.tre HD.out hfar.1 hfar.2,.inl ⟨rfl,HZ.out,rfl⟩⟩
 case stop =>
  rintro c pre W ⟨r,hr⟩ ⟨rfl,pre',x,rfl,hz,hne,hI⟩ hD
  obtain ⟨q,hq⟩:∃q,q=E (al x) (ls x):=⟨_,rfl⟩
  rw [<-hq] at hI hne
  have k3:W.cell? ⟨w.heap.size+3,0,none⟩=some (.int .i64 q):=(mblk_cell hI.bad 0).trans rfl
  have c1:(q == (0:Int))=false:=beq_eq_false_iff_ne.mpr hne
  have c2:(q != (0:Int))=true:=bne_iff_ne.mpr hne
  have c3:(q=(0:Int))=False:=eq_false hne
  obtain ⟨A1,c1',hm,hv⟩:=hI.row
  have k4:W.cell? ⟨w.heap.size+2,0,none⟩=some (.slice A1 pre'.length c1'):=(mblk_cell hm 0).trans rfl
  have HV:=Aside0.mk hv
  have HI:=Aside0.mk (show AInv w M sv at_ al bx (.func (.func 91) #[] #[.pointer (some ⟨k1,0,none⟩),.pointer (some ⟨k2,0,none⟩)]) (und A U al ls pre' 0) q pre' W by rw [und_zero];exact hI)
  have HD:=Aside0.mk hD
  have HQ:=Aside0.mk (And.intro hq hne)
  have HPRE:=Aside0.mk (show pa=pre' ++ x :: r/\(∀y∈pre',E (al y) (ls y)=0) by rw [hr];exact ⟨by simp,hz⟩)
  have HND:=Aside0.mk (show pre'.Nodup/\pre'.length<1001/\∀y∈pre',y∈pa from by
   have h1:=HPN.out.2.1
   have h2:=HPN.out.2.2
   have h3:=HSM.out
   rw [HPRE.out.1] at h1 h2
   rw [List.length_append,List.length_cons] at h2
   exact ⟨(List.nodup_append.1 h1).1,by omega,fun y hy=>by rw [HPRE.out.1];simp [hy]⟩)
  clear hz hne hI hD hq hm hv hr
  refine wpIn_wide.2 ?_
  go_wp2_with fail
  go_loopw [35] (fun v wr=>∃i:Nat,v=.int .i64 (i:Int)/\i<=pre'.length/\Aside0 (AInv w M sv at_ al bx (.func (.func 91) #[] #[.pointer (some ⟨k1,0,none⟩),.pointer (some ⟨k2,0,none⟩)]) (und A U al ls pre' i) q pre' wr)/\Aside0 (VRow wr (w.heap.size+6) 24 (.slice A1 pre'.length c1') (ptrs M.g pre'))/\Aside0 (wr.heap[w2.heap.size]? = some (.deferred (some [])))) (fun v _=>pre'.length-(intOf v).toNat)
  case atStart=>exact ⟨0,rfl,by omega,HI,HV,HD⟩
  case round =>
   clear HI HV HD k3 k4
   obtain ⟨i,rfl,hi,HI,HV,HD⟩:=hrel
   by_cases hlt:i<pre'.length
   ·have d1:decide ((i:Int)<(pre'.length:Int))=true:=decide_eq_true (by omega)
    have d2:decide (i<pre'.length)=true:=decide_eq_true hlt
    have q1:(i<pre'.length)=True:=eq_true hlt
    have hc:=HV.out.cell rfl i (by rw [ptrs_len];exact hlt)
    obtain ⟨ad,hA1,hcell⟩:=hc
    have hcell':wr.cell? (ad.add i)=some (.pointer (some ⟨M.g pre'[i],0,none⟩)):=by rw [hcell];simp [ptrs]
    obtain ⟨y,hy⟩:∃y,y=pre'[i]:=⟨_,rfl⟩
    rw [<-hy] at hcell'
    have hyp:y∈pre':=by rw [hy];exact List.getElem_mem hlt
    have HY:=Aside0.mk (show y∈pa/\inR sv.length y/\y∈pre' from ⟨HND.out.2.2 y hyp,(HPN.out.1 y (HND.out.2.2 y hyp)).1,hyp⟩)
    have hu1:=und_at (A:=A) (U:=U) (al:=al) (ls:=ls) HND.out.1 hlt
    have hu2:=und_step (A:=A) (U:=U) (al:=al) (ls:=ls) hlt
    rw [<-hy] at hu1 hu2
    have HU:=Aside0.mk (And.intro hu1 hu2)
    have HLT:=Aside0.mk hlt
    have HLN:=Aside0.mk (show i<1001 by have:=HND.out.2.1;omega)
    subst hA1
    clear hcell hu1 hu2 hy hyp hlt hi
    go_wp2_with fail
    have hc:=HCU.out (M.g y) (M.b y) (al y) (A (al y) (ls y)) wr HI.out.ok (by have:=HI.out.tre.led y HY.out.2.1;rw [HU.out.1] at this;exact this) (HPA.out.2.1 y HY.out.1 (HPRE.out.2 y HY.out.2.2))
    refine hc.mono ?_
    clear hc
    rintro e W2 ⟨rfl,hL,hK⟩
    have hi2:=HI.out.kp HBX.out.2.1 HY.out.2.1 hK hL
    rw [HU.out.2] at hi2
    have HI2:=Aside0.mk hi2
    have HV2:=Aside0.mk (row_stay HI.out.tre (Kt.kp HY.out.2.1 hK) HV.out)
    have HD2:=Aside0.mk (kp_def hK HD.out (fun e=>by have:=HT.out.wr_lt (k:=M.g y) (.inr ⟨y,HY.out.2.1,.inl rfl⟩);have:=HB.out.2;omega) (fun e=>by have:=HT.out.wr_lt (k:=M.b y) (.inr ⟨y,HY.out.2.1,.inr rfl⟩);have:=HB.out.2;omega))
    clear hL hK hi2 hcell'
    have hw:wrap64 ((i:Int)+1)=((i+1:Nat):Int):=by have:=HLN.out;rw [QNat.w64 (by omega) (by omega)];omega
    go_wp2_with fail
    go_roundw
    case rel=>exact ⟨i+1,by first|rw [hw]|rfl|(simp;done),by have:=HLT.out;omega,HI2,HV2,HD2⟩
    case measure =>
     rw [hw]
     show pre'.length-(i+1)<pre'.length-i
     have:=HLT.out
     omega
   ·have d1:decide ((i:Int)<(pre'.length:Int))=false:=decide_eq_false (by omega)
    have d2:decide (i<pre'.length)=false:=decide_eq_false hlt
    obtain rfl:i=pre'.length:=by omega
    have k3:wr.cell? ⟨w.heap.size+3,0,none⟩=some (.int .i64 q):=(mblk_cell HI.out.bad 0).trans rfl
    clear hlt hi
    go_wp2_with fail
    have hfar:=HI.out.far HT.out (k:=w2.heap.size) (by rw [HB.out.2];omega)
    refine ⟨by simp,.inl ⟨_,_,rfl,run_takeDeferred HD.out, ?_⟩⟩
    have htr:=tre_put (o':=.deferred none) HI.out.tre HD.out hfar.1 hfar.2
    rw [und_all] at htr
    exact ⟨_,results_tmp rfl _ _ _,_,kt_put HI.out.kt (by rw [HB.out.2];omega),htr,.inr ⟨pre',x,r,HPRE.out.1,HPRE.out.2,by rw [<-HQ.out.1];exact HQ.out.2,by rw [<-HQ.out.1];rfl,rfl⟩⟩
end
end Go.Proofs.Ytfldklimlcnnnaa.XAllA
end

section
namespace Go.Proofs.Ytfldklimlcnnnaa.XTAsk
open Go.RowKit Go.Shelf Go.Proofs.Ytfldklimlcnnnaa.PHq Go.Proofs.YtfldklimlcnnnaaW.PrintWords Go.Proofs.YtfldklimlcnnnaaW.PrintLast Go.Proofs.YtfldklimlcnnnaaW.PrintMore Go.Proofs.Ytfldklimlcnnnaa.MWords
open Go.Proofs.Ytfldklimlcnnnaa.MNat Go.Proofs.Ytfldklimlcnnnaa.QRatio Go.Proofs.Ytfldklimlcnnnaa.XRV Go.Proofs.Ytfldklimlcnnnaa.XHold Go.Proofs.Ytfldklimlcnnnaa.XWts Go.Proofs.Ytfldklimlcnnnaa.XLed Go.Proofs.Ytfldklimlcnnnaa.XJoin Go.Proofs.Ytfldklimlcnnnaa.XAsk Go.Proofs.Ytfldklimlcnnnaa.QHold Go.Proofs.Ytfldklimlcnnnaa.XTree Go.Proofs.Ytfldklimlcnnnaa.QTree Go.Proofs.Ytfldklimlcnnnaa.XOf Go.Proofs.Ytfldklimlcnnnaa.XTCl Go.Proofs.Ytfldklimlcnnnaa.XAllW Go.Proofs.Ytfldklimlcnnnaa.QTr Go.Proofs.Ytfldklimlcnnnaa.XTJoin
section
variable {w W W':World} {M:Tm} {sv:List S71} {al:Int->Rat} {H:List Hol} {m:Nat}
def askP (sv:List S71) (al:Int->Rat) (H:List Hol) (a:Hol) (x:S34):Bool:=(pathS sv a.srv).all fun y=>askF sv al H a.hd x y
def askTE (sv:List S71) (al:Int->Rat) (H:List Hol) (z:Int) (x:S34):Int :=
 if mayW x=false then 1 else match getH H z with
  | none=>12
  | some a=>if a.hd.a=true then 13 else if askP sv al H a x=true then 0 else 18
def askTH (sv:List S71) (al:Int->Rat) (H:List Hol) (z:Int) (x:S34):List Hol :=
 if askTE sv al H z x=0 then (match getH H z with|none=>H|some a=>setH H z (asks a.hd x)) else H
theorem ask_no {z:Int} {x:S34} (h:mayW x=false):askTE sv al H z x=1/\askTH sv al H z x=H:=by
 have e:askTE sv al H z x=1:=by unfold askTE;rw [h];rfl
 refine ⟨e, ?_⟩
 unfold askTH
 rw [e];rfl
theorem ask_none {z:Int} {x:S34} (h:mayW x=true) (hz:getH H z=none):askTE sv al H z x=12/\askTH sv al H z x=H:=by
 have e:askTE sv al H z x=12:=by unfold askTE;rw [h,hz];rfl
 refine ⟨e, ?_⟩
 unfold askTH
 rw [e];rfl
theorem ask_some {z:Int} {x:S34} {a:Hol} (h:mayW x=true) (hz:getH H z=some a):askTE sv al H z x=(if a.hd.a=true then 13 else if askP sv al H a x=true then 0 else 18)/\askTH sv al H z x=if askTE sv al H z x=0 then setH H z (asks a.hd x) else H:=by
 have e:askTE sv al H z x=(if a.hd.a=true then 13 else if askP sv al H a x=true then 0 else 18):=by unfold askTE;rw [h,hz];rfl
 refine ⟨e, ?_⟩
 unfold askTH
 rw [hz]
def task.T6:Bool × List (List Nat × List Nat):=(true, [([], []),([], []),([0,1], [0,1]),([], []),([2,3,2], [2,3]),([4], [4]),([5], [5]),([5], [5]),([5], [5]),([], []),([], []),([9,6,4,0,1,2,3,4,5,6,9,10], [6,9]),([10,7,11,0,1,2,3,4,5,6,7,9,10,11], [7,10]),([8,12,0,1,2,3,4,5,6,7,8,9,10,11,12], [8])])
def task.B6:List Nat:=[0,0,3,0,15,31,63,63,63,0,0,1663,3839,8191]
theorem task.tab6:rtab .any (opsOf Try.f47 6)=task.T6:=by kernel_rfl
theorem task.bits6:waitsOk task.T6.2 task.B6=true:=by kernel_rfl
set_option maxRecDepth 100000 in
set_option maxHeartbeats 8000000 in
theorem task_calls (hT:TH w M sv al H m) (hm:m<400) (z:Int) (x:S34) (hz:wfI z) :
  Calls Try.prog 47 #[.pointer (some ⟨M.t,0,none⟩),.int .i64 z,.agg #[.int .i64 x.f0,.int .i64 x.f1]] w fun e w'=>e=.returned (.int .i64 (askTE sv al H z x))/\TH w' M sv al (askTH sv al H z x) (m+1)/\Kt M sv.length w w':=by
 have mixed:Try.prog.follows Departure.mixedOrders=true:=by kernel_rfl
 obtain ⟨at_,ls,hT,hI,hG⟩:=hT
 obtain ⟨W0,hW0⟩:∃W0,W0=(w.alloc (.cells #[.int .i64 z] 3)).alloc (.cells #[.int .i64 x.f0,.int .i64 x.f1] 34):=⟨_,rfl⟩
 have hb0:Below w.heap.size w W0:=by rw [hW0];exact below_alloc (below_alloc (Below.refl _ _) _) _
 have HB0:=Aside0.mk hb0
 have HM0:=Aside0.mk (show MBlk W0 w.heap.size 3 #[.int .i64 z]/\MBlk W0 (w.heap.size+1) 34 #[.int .i64 x.f0,.int .i64 x.f1]/\W0.heap.size=w.heap.size+2 by
  rw [hW0]
  refine ⟨mblk_alloc (mblk_new _ _ _) _, ?_,by simp⟩
  have:=mblk_new (w.alloc (.cells #[.int .i64 z] 3)) 34 #[.int .i64 x.f0,.int .i64 x.f1]
  rwa [World.size_alloc] at this)
 have HT0:=Aside0.mk (hT.below hb0)
 have HI:=Aside0.mk hI
 have HG:=Aside0.mk hG
 have HZ:=Aside0.mk (And.intro hz hm)
 have HC:=Aside0.mk (wcheck_f x)
 obtain ⟨r,hr⟩:∃r,r=askTE sv al H z x:=⟨_,rfl⟩
 obtain ⟨H',hH'⟩:∃H',H'=askTH sv al H z x:=⟨_,rfl⟩
 rw [<-hr, <-hH']
 have HR:=Aside0.mk (And.intro hr hH')
 clear hT hI hG hz hm hb0 hr hH'
 have c0:W0.cell? ⟨w.heap.size,0,none⟩=some (.int .i64 z):=(mblk_cell HM0.out.1 0).trans rfl
 have x0:W0.cell? ⟨w.heap.size+1,0,none⟩=some (.int .i64 x.f0):=(mblk_cell HM0.out.2.1 0).trans rfl
 have x1:W0.cell? ⟨w.heap.size+1,1,none⟩=some (.int .i64 x.f1):=(mblk_cell HM0.out.2.1 1).trans rfl
 obtain ⟨y,hy⟩:∃y,y=srvA at_ z:=⟨_,rfl⟩
 have HY:=Aside0.mk hy
 clear hy
 go_enter Try.func47,Try.ntmps47
 go_upto_region 1 with fail
 rw [<-hW0]
 clear hW0
 go_upto_region 2 with (go_at_call 58;refine (server_calls HT0.out HZ.out.1).mono ?_;rw [<-HY.out];rintro e w1 ⟨rfl,rfl⟩)
 cases hmw:mayW x with
 | false =>
  have hr1:r=1:=by rw [HR.out.1];exact (ask_no hmw).1
  have hH:H'=H:=by rw [HR.out.2];exact (ask_no hmw).2
  subst hr1
  go_wp2_with (go_at_call 66;refine (window_Check.calls x.f0 x.f1 _ _ HC.out).mono ?_;rw [hmw];rintro e w3 ⟨rfl,hb⟩;have HB3:=Aside0.mk hb;clear hb)
  go_ret
  exact ⟨rfl,by rw [hH];exact ⟨at_,ls,HT0.out.below HB3.out,Inv.mono HI.out (by omega),HG.out⟩,Kt.of (below_step HB0.out HB3.out)⟩
 | true =>
  have HMW:=Aside0.mk hmw
  cases ha:getH H z with
  | none =>
   have hr1:r=12:=by rw [HR.out.1];exact (ask_none hmw ha).1
   have hH:H'=H:=by rw [HR.out.2];exact (ask_none hmw ha).2
   have hy2:y = -2:=by
    rw [HY.out,HI.out.srvA]
    unfold srvH
    rw [ha]
   subst hr1
   subst hy2
   go_wp2_with (go_at_call 66;refine (window_Check.calls x.f0 x.f1 _ _ HC.out).mono ?_;rw [hmw];rintro e w3 ⟨rfl,hb⟩;have HB3:=Aside0.mk hb;clear hb)
   go_ret
   exact ⟨rfl,by rw [hH];exact ⟨at_,ls,HT0.out.below HB3.out,Inv.mono HI.out (by omega),HG.out⟩,Kt.of (below_step HB0.out HB3.out)⟩
  | some a =>
   obtain ⟨ha1,ha2⟩:=getH_mem ha
   have hya:y=a.srv:=by
    rw [HY.out,HI.out.srvA]
    unfold srvH
    rw [ha]
   have hin:inR sv.length y:=by rw [hya];exact HI.out.srv a ha1
   have HA:=Aside0.mk (And.intro ha (And.intro ha1 (And.intro ha2 (And.intro hya hin))))
   have s1:(y == (-2:Int))=false:=beq_eq_false_iff_ne.mpr (by have:=hin.1;omega)
   have s2:(y=(-2:Int))=False:=eq_false (by have:=hin.1;omega)
   clear ha ha1 ha2 hya hin
   go_upto_region 6 with (go_at_call 66;refine (window_Check.calls x.f0 x.f1 _ _ HC.out).mono ?_;rw [hmw];rintro e w4 ⟨rfl,hb⟩;have HB4:=Aside0.mk (below_step HB0.out hb);have HM4:=Aside0.mk (And.intro ((hb.block _ (mblk_lt HM0.out.1)).trans HM0.out.1) ((hb.block _ (mblk_lt HM0.out.2.1)).trans HM0.out.2.1));have HT4:=Aside0.mk (HT0.out.below hb);have HSZ:=Aside0.mk (show 2<=w4.heap.size from by have h1:=hb.size;have h2:=HM0.out.2.2;omega);clear hb)
   clear c0 x0 x1 s1 s2 hmw
   have HGE:=Aside0.mk (show getL (ls y) z=some a.hd by
    have:=HI.out.getL HA.out.2.1 HA.out.2.2.2.2 (y:=y) (by rw [HA.out.2.2.2.1];obtain ⟨rr,hrr⟩:=path_head HG.out a.srv (HI.out.srv a HA.out.2.1);rw [hrr];simp)
    rwa [HA.out.2.2.1] at this)
   obtain ⟨e1,he1⟩:∃e1,e1=a.hd.e:=⟨_,rfl⟩
   obtain ⟨p1,hp1⟩:∃p1,p1=a.hd.p:=⟨_,rfl⟩
   obtain ⟨e2,he2⟩:∃e2,e2=a.hd.e2:=⟨_,rfl⟩
   obtain ⟨p2,hp2⟩:∃p2,p2=a.hd.p2:=⟨_,rfl⟩
   have HEP:=Aside0.mk (And.intro he1 (And.intro hp1 (And.intro he2 hp2)))
   clear he1 hp1 he2 hp2
   have HOF:∀W,Below w4.heap.size w4 W->Calls Try.prog 27 #[.pointer (some ⟨M.g y,0,none⟩),.int .i64 z] W fun e w'=>e=.returned (.tuple #[.agg #[.int .i64 e1,.int .i64 p1],.agg #[.int .i64 e2,.int .i64 p2],.bool true])/\Below W.heap.size W w':=fun W hW=>by
    have hled:=(HT4.out.below hW).led y HA.out.2.2.2.2
    have h:=XPuts.of_calls _ _ _ _ _ z a.hd W hled HZ.out.1 (by rw [HGE.out];rfl)
    rw [show hasL (ls y) z=true by rw [getL_has,HGE.out];rfl] at h
    rw [HEP.out.1,HEP.out.2.1,HEP.out.2.2.1,HEP.out.2.2.2]
    exact h
   have HOF:=Aside0.mk HOF
   have HTO:=Aside0.mk (show ∀W,Below w4.heap.size w4 W->Calls Try.prog 89 #[.pointer (some ⟨M.t,0,none⟩),.int .i64 y] W fun e w'=>e=.returned (.pointer (some ⟨M.g y,0,none⟩))/\Below W.heap.size W w' from fun W hW=>of_calls (HT4.out.below hW) HA.out.2.2.2.2)
   go_cut [8,9,10] (fun v8 v9 v10 wc=>∃g8 g9:Nat,v8=.pointer (some ⟨g8,0,none⟩)/\v9=.pointer (some ⟨g9,0,none⟩)/\v10=.bool true/\Aside0 (MBlk wc g8 34 #[.int .i64 e1,.int .i64 p1])/\Aside0 (Below w4.heap.size w4 wc)/\Aside0 (w4.heap.size<=g8))
   case first =>
    refine start_ (n:=14) (S:=fun w'=>True) (ds:=[]) #[false,false,false,false,false,false,false,false,false,false,false,false,false,false] (by kernel_rfl) rfl rfl trivial (fun hHeld=>?_)
    refine with_tabW task.tab6 task.bits6 (fun HT_ HW_=>?_)
    have FB:=Aside0.mk (below_drew (Below.refl w4.heap.size w4))
    have FL:=Aside0.mk (show 0<w4.drew.heap.size/\1<w4.drew.heap.size from ⟨by have:=HSZ.out;show 0<w4.heap.size;omega,by have:=HSZ.out;show 1<w4.heap.size;omega⟩)
    have NE:=Aside0.mk (show (0:Nat)≠1 by decide)
    refine pure_ (i:=0) (N:=some 27) (v:=?_) (a':=?_) #[true,false,false,false,false,false,false,false,false,false,false,false,false,false] rfl rfl (any_of HT_.out (by kernel_rfl)) (fun _ _ _ h=>h) (Or.inl ⟨by rfl, ?_⟩) ?_ ?_
    rotate_left
    ·intro w'
     go_simp
     with_reducible rfl
    rotate_left
    ·simp only [Act.put,List.setIfInBounds_toArray,List.set_cons_zero,List.set_cons_succ,i64_w,i32_w]
     rfl
    refine pure_ (i:=1) (N:=some 28) (v:=?_) (a':=?_) #[true,true,false,false,false,false,false,false,false,false,false,false,false,false] rfl rfl (any_of HT_.out (by kernel_rfl)) (fun _ _ _ h=>h) (Or.inl ⟨by rfl, ?_⟩) ?_ ?_
    rotate_left
    ·intro w'
     go_simp
     with_reducible rfl
    rotate_left
    ·simp only [Act.put,List.setIfInBounds_toArray,List.set_cons_zero,List.set_cons_succ,i64_w,i32_w]
     rfl
    refine inv_at [2,3,4,5,6,7,8,9,10,11,12,13] (fun a0_ b a w'=>∃ (g8:Nat) (g9:Nat) (m9_:Value) (m10_:Value),a=putSel a0_ b [(2,29,.pointer (some ⟨M.g y,0,none⟩)),(3,30,.int .i64 z),(4,31,.tuple #[.agg #[.int .i64 e1,.int .i64 p1],.agg #[.int .i64 e2,.int .i64 p2],.bool true]),(5,26,.tuple #[.agg #[.int .i64 e1,.int .i64 p1],.agg #[.int .i64 e2,.int .i64 p2],.bool true]),(6,32,.agg #[.int .i64 e1,.int .i64 p1]),(7,33,.agg #[.int .i64 e2,.int .i64 p2]),(8,34,.bool true),(9,8,m9_),(10,9,m10_),(13,10,.bool true)]/\(Below w4.heap.size w4 w')/\(g8<w'.heap.size/\g9<w'.heap.size)/\(g8≠g9)/\(b 9=true->w4.heap.size<=g8)/\(b 10=true->w4.heap.size<=g9)/\(b 9=true->b 11=false->MBlk w' g8 34 #[.int .i64 0,.int .i64 0])/\(b 10=true->b 12=false->MBlk w' g9 34 #[.int .i64 0,.int .i64 0])/\(b 11=true->MBlk w' g8 34 #[.int .i64 e1,.int .i64 p1])/\(b 9=true->(m9_:Value)=.pointer (some ⟨g8,0,none⟩))/\(b 10=true->(m10_:Value)=.pointer (some ⟨g9,0,none⟩))) HT_.out HW_.out (by kernel_rfl) (by kernel_rfl) ?_ ?_ ?_
    ·exact ⟨0,1,.bool false,.bool false,by simp only [putSel,Bool.false_eq_true,if_false],FB.out,FL.out,NE.out,fun h_=>absurd h_ (by decide),fun h_=>absurd h_ (by decide),fun h_=>absurd h_ (by decide),fun h_=>absurd h_ (by decide),fun h_=>absurd h_ (by decide),fun h_=>absurd h_ (by decide),fun h_=>absurd h_ (by decide)⟩
    ·skip
     clear FB FL NE
     refine steps_cons ?_ ?_
     ·rintro b a w' ⟨g8,g9,m9_,m10_,ha,Q_FB,Q_FL,Q_NE,Q_G8,Q_G9,Q_F9,Q_F10,Q_F11,Q_X9_,Q_X10_⟩ hb_ hon hoff
      refine ⟨_,rfl,fun K hK=>?_⟩
      have e27:a.tmps[27]? = some (.pointer (some ⟨M.t,0,none⟩)):=by rw [ha];exact (putSel_off rfl).trans rfl
      have e28:a.tmps[28]? = some (.int .i64 y):=by rw [ha];exact (putSel_off rfl).trans rfl
      replace ha:=Aside0.mk ha
      have FB:=Aside0.mk Q_FB
      have FL:=Aside0.mk Q_FL
      have NE:=Aside0.mk Q_NE
      refine goes_ Try.func89 (by kernel_rfl) rfl #[.pointer (some ⟨M.t,0,none⟩),.int .i64 y] (by rfl) rfl rfl (by simp only [List.map_toArray,List.map_cons,List.map_nil,Act.eval,Array.getD_eq_getD_getElem?,e27,e28,Option.getD_some]) ?_
      refine (HTO.out _ FB.out).mono ?_
      rintro e1_ w1 ⟨rfl,hb⟩
      refine ⟨_,rfl, ?_⟩
      refine hK.out _ _ ⟨g8,g9,m9_,m10_,(by rw [ha.out];exact putSel_upk 0 hb_ rfl rfl rfl),below_step FB.out hb,⟨Nat.lt_of_lt_of_le FL.out.1 hb.size,Nat.lt_of_lt_of_le FL.out.2 hb.size⟩,Q_NE,Q_G8,Q_G9,fun h0_ h1_=>(hb.block _ (mblk_lt (Q_F9 h0_ h1_))).trans (Q_F9 h0_ h1_),fun h0_ h1_=>(hb.block _ (mblk_lt (Q_F10 h0_ h1_))).trans (Q_F10 h0_ h1_),fun h0_=>absurd ((hoff 11 (by kernel_rfl)).symm.trans h0_) (by decide),Q_X9_,Q_X10_⟩
     refine steps_cons ?_ ?_
     ·rintro b a w' ⟨g8,g9,m9_,m10_,ha,Q_FB,Q_FL,Q_NE,Q_G8,Q_G9,Q_F9,Q_F10,Q_F11,Q_X9_,Q_X10_⟩ hb_ hon hoff
      refine ⟨_,rfl,fun K hK=>?_⟩
      have e4:a.tmps[4]? = some (.pointer (some ⟨w.heap.size,0,none⟩)):=by rw [ha];exact (putSel_off rfl).trans rfl
      replace ha:=Aside0.mk ha
      have FB:=Aside0.mk Q_FB
      have FL:=Aside0.mk Q_FL
      have NE:=Aside0.mk Q_NE
      have hx0:w'.cell? ⟨w.heap.size,0,none⟩=some (.int .i64 z):=(mblk_cell ((FB.out.block _ (mblk_lt HM4.out.1)).trans HM4.out.1) 0).trans rfl
      refine value_ (w1:=w') (v:=.int .i64 z) (by rfl) rfl ?_ ?_
      ·go_simp
       (try simp only [i64_w])
       try rfl
      refine hK.out _ _ ⟨g8,g9,m9_,m10_,(by rw [ha.out];exact putSel_upk 1 hb_ rfl rfl rfl),Q_FB,Q_FL,Q_NE,Q_G8,Q_G9,Q_F9,Q_F10,fun h0_=>absurd ((hoff 11 (by kernel_rfl)).symm.trans h0_) (by decide),Q_X9_,Q_X10_⟩
     refine steps_cons ?_ ?_
     ·rintro b a w' ⟨g8,g9,m9_,m10_,ha,Q_FB,Q_FL,Q_NE,Q_G8,Q_G9,Q_F9,Q_F10,Q_F11,Q_X9_,Q_X10_⟩ hb_ hon hoff
      refine ⟨_,rfl,fun K hK=>?_⟩
      have e29:a.tmps[29]? = some (.pointer (some ⟨M.g y,0,none⟩)):=by rw [ha];exact putSel_on (e:=(2,29,.pointer (some ⟨M.g y,0,none⟩))) 0 rfl rfl (hon 2 (by kernel_rfl)) rfl
      have e30:a.tmps[30]? = some (.int .i64 z):=by rw [ha];exact putSel_on (e:=(3,30,.int .i64 z)) 1 rfl rfl (hon 3 (by kernel_rfl)) rfl
      replace ha:=Aside0.mk ha
      have FB:=Aside0.mk Q_FB
      have FL:=Aside0.mk Q_FL
      have NE:=Aside0.mk Q_NE
      refine goes_ Try.func27 (by kernel_rfl) rfl #[.pointer (some ⟨M.g y,0,none⟩),.int .i64 z] (by rfl) rfl rfl (by simp only [List.map_toArray,List.map_cons,List.map_nil,Act.eval,Array.getD_eq_getD_getElem?,e29,e30,Option.getD_some]) ?_
      refine (HOF.out _ FB.out).mono ?_
      rintro e1_ w1 ⟨rfl,hb⟩
      refine ⟨_,rfl, ?_⟩
      refine hK.out _ _ ⟨g8,g9,m9_,m10_,(by rw [ha.out];exact putSel_upk 2 hb_ rfl rfl rfl),below_step FB.out hb,⟨Nat.lt_of_lt_of_le FL.out.1 hb.size,Nat.lt_of_lt_of_le FL.out.2 hb.size⟩,Q_NE,Q_G8,Q_G9,fun h0_ h1_=>(hb.block _ (mblk_lt (Q_F9 h0_ h1_))).trans (Q_F9 h0_ h1_),fun h0_ h1_=>(hb.block _ (mblk_lt (Q_F10 h0_ h1_))).trans (Q_F10 h0_ h1_),fun h0_=>absurd ((hoff 11 (by kernel_rfl)).symm.trans h0_) (by decide),Q_X9_,Q_X10_⟩
     refine steps_cons ?_ ?_
     ·rintro b a w' ⟨g8,g9,m9_,m10_,ha,Q_FB,Q_FL,Q_NE,Q_G8,Q_G9,Q_F9,Q_F10,Q_F11,Q_X9_,Q_X10_⟩ hb_ hon hoff
      refine ⟨_,rfl,fun K hK=>?_⟩
      have e31:a.tmps[31]? = some (.tuple #[.agg #[.int .i64 e1,.int .i64 p1],.agg #[.int .i64 e2,.int .i64 p2],.bool true]):=by rw [ha];exact putSel_on (e:=(4,31,.tuple #[.agg #[.int .i64 e1,.int .i64 p1],.agg #[.int .i64 e2,.int .i64 p2],.bool true])) 2 rfl rfl (hon 4 (by kernel_rfl)) rfl
      replace ha:=Aside0.mk ha
      have FB:=Aside0.mk Q_FB
      have FL:=Aside0.mk Q_FL
      have NE:=Aside0.mk Q_NE
      refine value_ (w1:=w') (v:=.tuple #[.agg #[.int .i64 e1,.int .i64 p1],.agg #[.int .i64 e2,.int .i64 p2],.bool true]) (by rfl) rfl ?_ ?_
      ·go_simp
       (try simp only [i64_w])
       try rfl
      refine hK.out _ _ ⟨g8,g9,m9_,m10_,(by rw [ha.out];exact putSel_upk 3 hb_ rfl rfl rfl),Q_FB,Q_FL,Q_NE,Q_G8,Q_G9,Q_F9,Q_F10,fun h0_=>absurd ((hoff 11 (by kernel_rfl)).symm.trans h0_) (by decide),Q_X9_,Q_X10_⟩
     refine steps_cons ?_ ?_
     ·rintro b a w' ⟨g8,g9,m9_,m10_,ha,Q_FB,Q_FL,Q_NE,Q_G8,Q_G9,Q_F9,Q_F10,Q_F11,Q_X9_,Q_X10_⟩ hb_ hon hoff
      refine ⟨_,rfl,fun K hK=>?_⟩
      have e26:a.tmps[26]? = some (.tuple #[.agg #[.int .i64 e1,.int .i64 p1],.agg #[.int .i64 e2,.int .i64 p2],.bool true]):=by rw [ha];exact putSel_on (e:=(5,26,.tuple #[.agg #[.int .i64 e1,.int .i64 p1],.agg #[.int .i64 e2,.int .i64 p2],.bool true])) 3 rfl rfl (hon 5 (by kernel_rfl)) rfl
      replace ha:=Aside0.mk ha
      have FB:=Aside0.mk Q_FB
      have FL:=Aside0.mk Q_FL
      have NE:=Aside0.mk Q_NE
      refine value_ (w1:=w') (v:=.agg #[.int .i64 e1,.int .i64 p1]) (by rfl) rfl ?_ ?_
      ·go_simp
       (try simp only [i64_w])
       try rfl
      refine hK.out _ _ ⟨g8,g9,m9_,m10_,(by rw [ha.out];exact putSel_upk 4 hb_ rfl rfl rfl),Q_FB,Q_FL,Q_NE,Q_G8,Q_G9,Q_F9,Q_F10,fun h0_=>absurd ((hoff 11 (by kernel_rfl)).symm.trans h0_) (by decide),Q_X9_,Q_X10_⟩
     refine steps_cons ?_ ?_
     ·rintro b a w' ⟨g8,g9,m9_,m10_,ha,Q_FB,Q_FL,Q_NE,Q_G8,Q_G9,Q_F9,Q_F10,Q_F11,Q_X9_,Q_X10_⟩ hb_ hon hoff
      refine ⟨_,rfl,fun K hK=>?_⟩
      have e26:a.tmps[26]? = some (.tuple #[.agg #[.int .i64 e1,.int .i64 p1],.agg #[.int .i64 e2,.int .i64 p2],.bool true]):=by rw [ha];exact putSel_on (e:=(5,26,.tuple #[.agg #[.int .i64 e1,.int .i64 p1],.agg #[.int .i64 e2,.int .i64 p2],.bool true])) 3 rfl rfl (hon 5 (by kernel_rfl)) rfl
      replace ha:=Aside0.mk ha
      have FB:=Aside0.mk Q_FB
      have FL:=Aside0.mk Q_FL
      have NE:=Aside0.mk Q_NE
      refine value_ (w1:=w') (v:=.agg #[.int .i64 e2,.int .i64 p2]) (by rfl) rfl ?_ ?_
      ·go_simp
       (try simp only [i64_w])
       try rfl
      refine hK.out _ _ ⟨g8,g9,m9_,m10_,(by rw [ha.out];exact putSel_upk 5 hb_ rfl rfl rfl),Q_FB,Q_FL,Q_NE,Q_G8,Q_G9,Q_F9,Q_F10,Q_F11,Q_X9_,Q_X10_⟩
     refine steps_cons ?_ ?_
     ·rintro b a w' ⟨g8,g9,m9_,m10_,ha,Q_FB,Q_FL,Q_NE,Q_G8,Q_G9,Q_F9,Q_F10,Q_F11,Q_X9_,Q_X10_⟩ hb_ hon hoff
      refine ⟨_,rfl,fun K hK=>?_⟩
      have e26:a.tmps[26]? = some (.tuple #[.agg #[.int .i64 e1,.int .i64 p1],.agg #[.int .i64 e2,.int .i64 p2],.bool true]):=by rw [ha];exact putSel_on (e:=(5,26,.tuple #[.agg #[.int .i64 e1,.int .i64 p1],.agg #[.int .i64 e2,.int .i64 p2],.bool true])) 3 rfl rfl (hon 5 (by kernel_rfl)) rfl
      replace ha:=Aside0.mk ha
      have FB:=Aside0.mk Q_FB
      have FL:=Aside0.mk Q_FL
      have NE:=Aside0.mk Q_NE
      refine value_ (w1:=w') (v:=.bool true) (by rfl) rfl ?_ ?_
      ·go_simp
       (try simp only [i64_w])
       try rfl
      refine hK.out _ _ ⟨g8,g9,m9_,m10_,(by rw [ha.out];exact putSel_upk 6 hb_ rfl rfl rfl),Q_FB,Q_FL,Q_NE,Q_G8,Q_G9,Q_F9,Q_F10,Q_F11,Q_X9_,Q_X10_⟩
     refine steps_cons ?_ ?_
     ·rintro b a w' ⟨g8,g9,m9_,m10_,ha,Q_FB,Q_FL,Q_NE,Q_G8,Q_G9,Q_F9,Q_F10,Q_F11,Q_X9_,Q_X10_⟩ hb_ hon hoff
      refine ⟨_,rfl,fun K hK=>?_⟩
      replace ha:=Aside0.mk ha
      have FB:=Aside0.mk Q_FB
      have FL:=Aside0.mk Q_FL
      have NE:=Aside0.mk Q_NE
      refine value_ (w1:=w'.alloc (.cells #[.int .i64 0,.int .i64 0] 34)) (v:=.pointer (some ⟨w'.heap.size,0,none⟩)) (by rfl) rfl ?_ ?_
      ·go_simp
      refine hK.out _ _ ⟨w'.heap.size,g9,(.pointer (some ⟨w'.heap.size,0,none⟩)),m10_,(by rw [ha.out];exact putSel_upk 7 hb_ rfl rfl rfl),below_alloc FB.out _,⟨by simp,by have:=FL.out.2;simp;omega⟩,by have:=FL.out.2;omega,fun _=>FB.out.size,Q_G9,fun _ _=>mblk_new _ _ _,fun h0_ h1_=>mblk_alloc (Q_F10 h0_ h1_) _,fun h0_=>absurd ((hoff 11 (by kernel_rfl)).symm.trans h0_) (by decide),fun _=>rfl,Q_X10_⟩
     refine steps_cons ?_ ?_
     ·rintro b a w' ⟨g8,g9,m9_,m10_,ha,Q_FB,Q_FL,Q_NE,Q_G8,Q_G9,Q_F9,Q_F10,Q_F11,Q_X9_,Q_X10_⟩ hb_ hon hoff
      refine ⟨_,rfl,fun K hK=>?_⟩
      replace ha:=Aside0.mk ha
      have FB:=Aside0.mk Q_FB
      have FL:=Aside0.mk Q_FL
      have NE:=Aside0.mk Q_NE
      refine value_ (w1:=w'.alloc (.cells #[.int .i64 0,.int .i64 0] 34)) (v:=.pointer (some ⟨w'.heap.size,0,none⟩)) (by rfl) rfl ?_ ?_
      ·go_simp
      refine hK.out _ _ ⟨g8,w'.heap.size,m9_,(.pointer (some ⟨w'.heap.size,0,none⟩)),(by rw [ha.out];exact putSel_upk 8 hb_ rfl rfl rfl),below_alloc FB.out _,⟨by have:=FL.out.1;simp;omega,by simp⟩,by have:=FL.out.1;omega,Q_G8,fun _=>FB.out.size,fun h0_ h1_=>mblk_alloc (Q_F9 h0_ h1_) _,fun _ _=>mblk_new _ _ _,fun h0_=>absurd ((hoff 11 (by kernel_rfl)).symm.trans h0_) (by decide),Q_X9_,fun _=>rfl⟩
     refine steps_cons ?_ ?_
     ·rintro b a w' ⟨g8,g9,m9_,m10_,ha,Q_FB,Q_FL,Q_NE,Q_G8,Q_G9,Q_F9,Q_F10,Q_F11,Q_X9_,Q_X10_⟩ hb_ hon hoff
      refine ⟨_,rfl,fun K hK=>?_⟩
      have e8:a.tmps[8]? = some (m9_):=by rw [ha];exact putSel_on (e:=(9,8,m9_)) 7 rfl rfl (hon 9 (by kernel_rfl)) rfl
      rw [Q_X9_ (hon 9 (by kernel_rfl))] at e8
      have e32:a.tmps[32]? = some (.agg #[.int .i64 e1,.int .i64 p1]):=by rw [ha];exact putSel_on (e:=(6,32,.agg #[.int .i64 e1,.int .i64 p1])) 4 rfl rfl (hon 6 (by kernel_rfl)) rfl
      replace ha:=Aside0.mk ha
      have FB:=Aside0.mk Q_FB
      have FL:=Aside0.mk Q_FL
      have NE:=Aside0.mk Q_NE
      have G8:=Aside0.mk (Q_G8 (hon 9 (by kernel_rfl)))
      have G9:=Aside0.mk (Q_G9 (hon 10 (by kernel_rfl)))
      have F9:=Aside0.mk (Q_F9 (hon 9 (by kernel_rfl)) hb_)
      have F10:=Aside0.mk (Q_F10 (hon 10 (by kernel_rfl)) (hoff 12 (by kernel_rfl)))
      have z0:=(mblk_cell F9.out 0).trans rfl
      have z1:=(mblk_cell F9.out 1).trans rfl
      have r0:=mblk_frozen F9.out 0
      have r1:=mblk_frozen F9.out 1
      refine skip_ (w1:=(w'.setCell ⟨g8,0,none⟩ (.int .i64 e1)).setCell ⟨g8,1,none⟩ (.int .i64 p1)) (by rfl) rfl ?_ ?_
      ·go_simp
      refine hK.out _ _ ⟨g8,g9,m9_,m10_,(by rw [ha.out];exact putSel_none (v:=undef) rfl),(FB.out.setCell (p:=⟨g8,0,none⟩) G8.out _).setCell (p:=⟨g8,1,none⟩) G8.out _,⟨by simp [World.setCell];exact FL.out.1,by simp [World.setCell];exact FL.out.2⟩,Q_NE,Q_G8,Q_G9,fun _ h1_=>absurd ((up_self b 11).symm.trans h1_) (by decide),fun _ _=>mblk_far (mblk_far F10.out (p:=⟨g8,0,none⟩) (fun e=>NE.out e.symm) _) (p:=⟨g8,1,none⟩) (fun e=>NE.out e.symm) _,fun _=>mblk_set (mblk_set F9.out 0 _) 1 _,Q_X9_,Q_X10_⟩
     refine steps_cons ?_ ?_
     ·rintro b a w' ⟨g8,g9,m9_,m10_,ha,Q_FB,Q_FL,Q_NE,Q_G8,Q_G9,Q_F9,Q_F10,Q_F11,Q_X9_,Q_X10_⟩ hb_ hon hoff
      refine ⟨_,rfl,fun K hK=>?_⟩
      have e9:a.tmps[9]? = some (m10_):=by rw [ha];exact putSel_on (e:=(10,9,m10_)) 8 rfl rfl (hon 10 (by kernel_rfl)) rfl
      rw [Q_X10_ (hon 10 (by kernel_rfl))] at e9
      have e33:a.tmps[33]? = some (.agg #[.int .i64 e2,.int .i64 p2]):=by rw [ha];exact putSel_on (e:=(7,33,.agg #[.int .i64 e2,.int .i64 p2])) 5 rfl rfl (hon 7 (by kernel_rfl)) rfl
      replace ha:=Aside0.mk ha
      have FB:=Aside0.mk Q_FB
      have FL:=Aside0.mk Q_FL
      have NE:=Aside0.mk Q_NE
      have G8:=Aside0.mk (Q_G8 (hon 9 (by kernel_rfl)))
      have G9:=Aside0.mk (Q_G9 (hon 10 (by kernel_rfl)))
      have F10:=Aside0.mk (Q_F10 (hon 10 (by kernel_rfl)) hb_)
      have F11:=Aside0.mk (Q_F11 (hon 11 (by kernel_rfl)))
      have z0:=(mblk_cell F10.out 0).trans rfl
      have z1:=(mblk_cell F10.out 1).trans rfl
      have r0:=mblk_frozen F10.out 0
      have r1:=mblk_frozen F10.out 1
      refine skip_ (w1:=(w'.setCell ⟨g9,0,none⟩ (.int .i64 e2)).setCell ⟨g9,1,none⟩ (.int .i64 p2)) (by rfl) rfl ?_ ?_
      ·go_simp
      refine hK.out _ _ ⟨g8,g9,m9_,m10_,(by rw [ha.out];exact putSel_none (v:=undef) rfl),(FB.out.setCell (p:=⟨g9,0,none⟩) G9.out _).setCell (p:=⟨g9,1,none⟩) G9.out _,⟨by simp [World.setCell];exact FL.out.1,by simp [World.setCell];exact FL.out.2⟩,Q_NE,Q_G8,Q_G9,fun _ h1_=>absurd ((hon 11 (by kernel_rfl)).symm.trans h1_) (by decide),fun _ h1_=>absurd ((up_self b 12).symm.trans h1_) (by decide),fun _=>mblk_far (mblk_far F11.out (p:=⟨g9,0,none⟩) NE.out _) (p:=⟨g9,1,none⟩) NE.out _,Q_X9_,Q_X10_⟩
     refine steps_cons ?_ ?_
     ·rintro b a w' ⟨g8,g9,m9_,m10_,ha,Q_FB,Q_FL,Q_NE,Q_G8,Q_G9,Q_F9,Q_F10,Q_F11,Q_X9_,Q_X10_⟩ hb_ hon hoff
      refine ⟨_,rfl,fun K hK=>?_⟩
      have e34:a.tmps[34]? = some (.bool true):=by rw [ha];exact putSel_on (e:=(8,34,.bool true)) 6 rfl rfl (hon 8 (by kernel_rfl)) rfl
      replace ha:=Aside0.mk ha
      have FB:=Aside0.mk Q_FB
      have FL:=Aside0.mk Q_FL
      have NE:=Aside0.mk Q_NE
      have G8:=Aside0.mk (Q_G8 (hon 9 (by kernel_rfl)))
      have G9:=Aside0.mk (Q_G9 (hon 10 (by kernel_rfl)))
      have F11:=Aside0.mk (Q_F11 (hon 11 (by kernel_rfl)))
      refine value_ (w1:=w') (v:=.bool true) (by rfl) rfl ?_ ?_
      ·go_simp
       (try simp only [i64_w])
       try rfl
      refine hK.out _ _ ⟨g8,g9,m9_,m10_,(by rw [ha.out];exact putSel_upk 9 hb_ rfl rfl rfl),Q_FB,Q_FL,Q_NE,Q_G8,Q_G9,fun _ h1_=>absurd ((hon 11 (by kernel_rfl)).symm.trans h1_) (by decide),fun _ h1_=>absurd ((hon 12 (by kernel_rfl)).symm.trans h1_) (by decide),Q_F11,Q_X9_,Q_X10_⟩
     exact steps_nil
    rintro b a wz hall ⟨g8,g9,m9_,m10_,ha,Q_FB,Q_FL,Q_NE,Q_G8,Q_G9,Q_F9,Q_F10,Q_F11,Q_X9_,Q_X10_⟩
    clear FB FL NE
    have hb2_:=hall 2 (by kernel_rfl)
    have hb3_:=hall 3 (by kernel_rfl)
    have hb4_:=hall 4 (by kernel_rfl)
    have hb5_:=hall 5 (by kernel_rfl)
    have hb6_:=hall 6 (by kernel_rfl)
    have hb7_:=hall 7 (by kernel_rfl)
    have hb8_:=hall 8 (by kernel_rfl)
    have hb9_:=hall 9 (by kernel_rfl)
    have hb10_:=hall 10 (by kernel_rfl)
    have hb11_:=hall 11 (by kernel_rfl)
    have hb12_:=hall 12 (by kernel_rfl)
    have hb13_:=hall 13 (by kernel_rfl)
    subst ha
    obtain rfl:=Q_X9_ hb9_
    obtain rfl:=Q_X10_ hb10_
    simp only [putSel,hb2_,hb3_,hb4_,hb5_,hb6_,hb7_,hb8_,hb9_,hb10_,hb11_,hb12_,hb13_,if_true,Act.put,List.setIfInBounds_toArray,List.set_cons_zero,List.set_cons_succ]
    have FB:=Aside0.mk Q_FB
    clear Q_FB
    have FL:=Aside0.mk Q_FL
    clear Q_FL
    have NE:=Aside0.mk Q_NE
    clear Q_NE
    have G8:=Aside0.mk (Q_G8 hb9_)
    clear Q_G8
    have G9:=Aside0.mk (Q_G9 hb10_)
    clear Q_G9
    clear Q_F9
    clear Q_F10
    have F11:=Aside0.mk (Q_F11 hb11_)
    clear Q_F11
    clear hall hb2_ hb3_ hb4_ hb5_ hb6_ hb7_ hb8_ hb9_ hb10_ hb11_ hb12_ hb13_
    go_wp2_with fail
    go_meet
    case rel=>exact ⟨g8,g9,rfl,rfl,rfl,F11,FB,G8⟩
   case rest =>
    obtain ⟨g8,g9,rfl,rfl,rfl,HG8,HBc,HGL⟩:=hcut
    have HB5:=Aside0.mk (below_step HB4.out HBc.out)
    have HT5:=Aside0.mk (HT4.out.below HBc.out)
    have HM5:=Aside0.mk (And.intro ((HBc.out.block _ (mblk_lt HM4.out.1)).trans HM4.out.1) ((HBc.out.block _ (mblk_lt HM4.out.2)).trans HM4.out.2))
    have HNW:=Aside0.mk (show OkB [bxI w.heap.size z,bxW (w.heap.size+1) x,bxW g8 (wN a.hd)] wc from fun q hq=>by
     rcases List.mem_cons.1 hq with rfl|hq
     ·exact HM5.out.1
     rcases List.mem_cons.1 hq with rfl|hq
     ·exact HM5.out.2
     ·rw [List.mem_singleton.1 hq]
      have h:=HG8.out
      rw [HEP.out.1,HEP.out.2.1] at h
      exact h)
    clear HOF HTO HBc HGL HT4 HM4 HEP HGE HG8 HSZ HT0 HM0 HB4 HB0
    go_wp2_with fail
    obtain ⟨h0_,ha1,ha2,hya,hin⟩:=HA.out
    have hz400:=HZ.out.2
    have hIN:=path_in HG.out y hin
    have hall:=XAllA.all_calls (bx:=[bxI w.heap.size z,bxW (w.heap.size+1) x,bxW g8 (wN a.hd)]) HT5.out HG.out hin (k1:=w.heap.size) (k2:=w.heap.size+1) (k3:=g8)
     (fun q hq=>mblk_lt (HNW.out q hq))
     (fun q hq=>by
      rcases List.mem_cons.1 hq with rfl|hq
      ·exact bxI_ty _ _
      rcases List.mem_cons.1 hq with rfl|hq
      ·exact bxW_ty _ _
      ·rw [List.mem_singleton.1 hq];exact bxW_ty _ _)
     HNW.out (ask2 w.heap.size (w.heap.size+1) z x _ (by simp) (by simp) HZ.out.1) (ask1 w.heap.size g8 z (wN a.hd) _ (by simp) (by simp) HZ.out.1)
     (fun q hq=>HI.out.pa (by omega) (hIN q hq).1)
     (fun q hq h0=>by
      have hqi:=(hIN q hq).1
      have hqp:q∈pathS sv a.srv:=by rw [<-hya];exact hq
      have h1:=HI.out.askE ha1 HMW.out hqi hqp
      rw [ha2] at h1
      rw [h0] at h1
      by_cases c:a.hd.a=true
      ·rw [if_pos c] at h1;cases h1
      ·rw [if_neg c] at h1
       have hf:askF sv al H a.hd x q=true:=by
        cases c2:askF sv al H a.hd x q with
        | true=>rfl
        | false=>rw [c2,if_neg (by decide)] at h1;cases h1
       have h2:=HI.out.askL ha1 HMW.out (by simpa using c) hqi hqp hf
       rw [ha2] at h2
       have hpa:=HI.out.pa (by omega) hqi
       have hhas:hasL (ls q) z=true:=by
        rw [hasL_perm (HI.out.ls q hqi), <-ha2]
        exact sub_has.2 ⟨a,ha1,rfl,onB_iff.2 hqp⟩
       show PaL (al q) (XAsk.askL (al q) (heldL (ls q)) (ls q) z x)
       rw [h2]
       exact ⟨hpa.1,XMeth.set_good hpa.2.1 hpa.2.2 ⟨(HI.out.ok a ha1).ok.1,fun _=>(may_okW HMW.out).1⟩,by rw [set_len,hhas,if_pos rfl];exact hpa.2.2⟩)
     (fun q hq h0=>askL_same h0)
    refine hall.mono ?_
    clear hall
    have hEq:∀q∈pathS sv y,XAsk.askE (al q) (heldL (ls q)) (ls q) z x=if a.hd.a=true then 13 else if askF sv al H a.hd x q=true then 0 else 18:=fun q hq=>by
     have h1:=HI.out.askE ha1 HMW.out (hIN q hq).1 (by rw [<-hya];exact hq)
     rwa [ha2] at h1
    obtain ⟨hr1,hH1⟩:=ask_some (sv:=sv) (al:=al) HMW.out h0_
    rintro e w5 ⟨ls',hkt,htr,⟨rfl,hE,rfl⟩|⟨pre,q,rr,hp,hE,hne,rfl,rfl⟩⟩
    ·have HF:=Aside0.mk (show r=0/\TH w5 M sv al H' (m+1)/\Kt M sv.length w w5 by
      obtain ⟨rr,hrr⟩:=path_head HG.out y hin
      have hna:a.hd.a=false:=by
       cases c:a.hd.a with
       | false=>rfl
       | true =>
        have h1:=hE y (by rw [hrr];simp)
        have h2:=hEq y (by rw [hrr];simp)
        rw [c,if_pos rfl] at h2
        have h3:XAsk.askE (al y) (heldL (ls y)) (ls y) z x=0:=h1
        rw [h3] at h2
        cases h2
      have hff:∀q∈pathS sv a.srv,askF sv al H a.hd x q=true:=fun q hq=>by
       rw [<-hya] at hq
       have h2:=hEq q hq
       have h3:XAsk.askE (al q) (heldL (ls q)) (ls q) z x=0:=hE q hq
       rw [h3,hna,if_neg (by decide)] at h2
       cases c2:askF sv al H a.hd x q with
       | true=>rfl
       | false=>rw [c2,if_neg (by decide)] at h2;cases h2
      have hr0:askTE sv al H z x=0:=by
       rw [hr1,hna,if_neg (by decide),if_pos]
       unfold askP
       rw [List.all_eq_true]
       exact hff
      refine ⟨by rw [HR.out.1,hr0], ?_,(Kt.of HB5.out).trans hkt⟩
      rw [HR.out.2,hH1,if_pos hr0]
      have hi:=HI.out.ask HG.out ha1 HMW.out hna hff
      rw [ha2, <-hya] at hi
      exact ⟨at_,_,htr,Inv.mono hi (by omega),HG.out⟩)
     clear hkt htr hE hEq hr1 hH1 ha1 ha2 hya hin hIN hz400 h0_
     go_wp2_with fail
     go_ret
     exact ⟨by rw [HF.out.1];rfl,HF.out.2⟩
    ·obtain ⟨q2,hq2⟩:∃q2,q2=XAsk.askE (al q) (heldL (ls q)) (ls q) z x:=⟨_,rfl⟩
     have HF:=Aside0.mk (show r=q2/\TH w5 M sv al H' (m+1)/\Kt M sv.length w w5 by
      have hqp:q∈pathS sv y:=by rw [hp];simp
      have hq3:=hEq q hqp
      have hpre:∀q'∈pre,inR sv.length q'/\q'∈pathS sv a.srv:=fun q' hq'=>by
       have:q'∈pathS sv y:=by rw [hp];simp [hq']
       exact ⟨(hIN q' this).1,by rw [<-hya];exact this⟩
      have hEp:∀q'∈pre,XAsk.askE (al q') (heldL (ls q')) (ls q') z x=0:=hE
      cases c:a.hd.a with
      | true =>
       rw [c,if_pos rfl] at hr1 hq3
       have hpn:pre = []:=by
        cases pre with
        | nil=>rfl
        | cons q' pre' =>
         have h1:=hEp q' (by simp)
         have h2:=hEq q' (by rw [hp];simp)
         rw [h1,c,if_pos rfl] at h2
         cases h2
       subst hpn
       rw [stp_nil] at htr
       refine ⟨by rw [HR.out.1,hr1,hq2,hq3], ?_,(Kt.of HB5.out).trans hkt⟩
       rw [HR.out.2,hH1,if_neg (by rw [hr1];decide)]
       exact ⟨at_,ls,htr,Inv.mono HI.out (by omega),HG.out⟩
      | false =>
       rw [c,if_neg (by decide)] at hr1 hq3
       have hnf:¬ askF sv al H a.hd x q=true:=fun c2=>by
        rw [if_pos c2] at hq3
        exact hne hq3
       rw [if_neg hnf] at hq3
       rw [if_neg (by
        unfold askP
        rw [List.all_eq_true]
        exact fun h=>hnf (h q (by rw [<-hya];exact hqp)))] at hr1
       refine ⟨by rw [HR.out.1,hr1,hq2,hq3], ?_,(Kt.of HB5.out).trans hkt⟩
       rw [HR.out.2,hH1,if_neg (by rw [hr1];decide)]
       have hi:=HI.out.unask ha1 HMW.out c hpre (by rw [ha2];exact hEp)
       rw [ha2] at hi
       exact ⟨at_,_,htr,Inv.mono hi (by omega),HG.out⟩)
     show _
     rw [<-hq2]
     clear hkt htr hE hEq hr1 hH1 ha1 ha2 hya hin hIN hz400 h0_ hne hp hq2
     go_wp2_with fail
     go_ret
     exact ⟨by rw [HF.out.1];rfl,HF.out.2⟩
end
end Go.Proofs.Ytfldklimlcnnnaa.XTAsk
end

section
namespace Go.Proofs.Ytfldklimlcnnnaa.XEachW
open Go.RowKit Go.Proofs.Ytfldklimlcnnnaa.PHq Go.Proofs.YtfldklimlcnnnaaW.PrintWords Go.Proofs.YtfldklimlcnnnaaW.PrintLast Go.Proofs.YtfldklimlcnnnaaW.PrintMore Go.Proofs.Ytfldklimlcnnnaa.MWords
open Go.Proofs.Ytfldklimlcnnnaa.MNat Go.Proofs.Ytfldklimlcnnnaa.XRV Go.Proofs.Ytfldklimlcnnnaa.XHold Go.Proofs.Ytfldklimlcnnnaa.XLed Go.Proofs.Ytfldklimlcnnnaa.XTree Go.Proofs.Ytfldklimlcnnnaa.QTree Go.Proofs.Ytfldklimlcnnnaa.XPath Go.Proofs.Ytfldklimlcnnnaa.XOf Go.Proofs.Ytfldklimlcnnnaa.XCollect Go.Proofs.Ytfldklimlcnnnaa.XAllW
section
variable {w W W':World} {M:Tm} {sv:List S71} {at_:List (Int × Int)} {al:Int->Rat} {ls ls2:Int->List (Int × Hd)} {bx:List (Nat × TypeId × Array Value)} {ask:Value} {e:Int}
structure EInv (w:World) (M:Tm) (sv:List S71) (at_:List (Int × Int)) (al:Int->Rat) (bx:List (Nat × TypeId × Array Value)) (ask:Value) (ls2:Int->List (Int × Hd)) (e:Int) (W:World):Prop where
 tre:Tre W M sv at_ al ls2
 tb:MBlk W w.heap.size 67 #[.pointer (some ⟨M.t,0,none⟩)]
 kb:MBlk W (w.heap.size+1) 126 #[ask]
 eb:MBlk W (w.heap.size+2) 31 #[.int .i64 e]
 pb:MBlk W (w.heap.size+3) 67 #[.pointer (some ⟨M.t,0,none⟩)]
 ok:OkB bx W
 kt:Kt M sv.length w W
theorem EInv.of_kt (h:EInv w M sv at_ al bx ask ls2 e W) (hbx:∀x∈bx,x.2.1≠97) (hk:Kt M sv.length W W') {ls3:Int->List (Int × Hd)} (ht:Tre W' M sv at_ al ls3):EInv w M sv at_ al bx ask ls3 e W' where
 tre:=ht
 tb:=mblk_stay h.tre hk h.tb (by decide)
 kb:=mblk_stay h.tre hk h.kb (by decide)
 eb:=mblk_stay h.tre hk h.eb (by decide)
 pb:=mblk_stay h.tre hk h.pb (by decide)
 ok:=fun x hx=>mblk_stay h.tre hk (h.ok x hx) (hbx x hx)
 kt:=h.kt.trans hk
theorem EInv.below (h:EInv w M sv at_ al bx ask ls2 e W) (hbx:∀x∈bx,x.2.1≠97) (hb:Below W.heap.size W W'):EInv w M sv at_ al bx ask ls2 e W':=h.of_kt hbx (Kt.of hb) (h.tre.below hb)
theorem EInv.kp (h:EInv w M sv at_ al bx ask ls2 e W) (hbx:∀x∈bx,x.2.1≠97) {s:Int} {l':List (Int × Hd)} (hs:inR sv.length s) (hk:Kp (M.g s) (M.b s) W W') (hl:Led W' (M.g s) (M.b s) (al s) (heldL l') l'):EInv w M sv at_ al bx ask (upd ls2 s l') e W' :=
 h.of_kt hbx (Kt.kp hs hk) (h.tre.kp hs hk hl)
theorem EInv.far (h0:Tre w M sv at_ al ls) {k:Nat} (hk:w.heap.size<=k):¬ M.own sv.length k/\¬ M.wr sv.length k :=
 ⟨fun c=>by have:=h0.own_lt c;omega,fun c=>by have:=h0.wr_lt c;omega⟩
theorem EInv.set (h:EInv w M sv at_ al bx ask ls2 e W) (h0:Tre w M sv at_ al ls) (hbx:∀x∈bx,x.1<w.heap.size) (e':Int):EInv w M sv at_ al bx ask ls2 e' (W.setCell ⟨w.heap.size+2,0,none⟩ (.int .i64 e')) where
 tre:=h.tre.box (EInv.far h0 (by omega)).1 (EInv.far h0 (by omega)).2 (noLimb_one h.eb (fun n=>by simp))
 tb:=mblk_far h.tb (p:=⟨w.heap.size+2,0,none⟩) (by show w.heap.size≠w.heap.size+2;omega) _
 kb:=mblk_far h.kb (p:=⟨w.heap.size+2,0,none⟩) (by show w.heap.size+1≠w.heap.size+2;omega) _
 eb:=mblk_set h.eb 0 _
 pb:=mblk_far h.pb (p:=⟨w.heap.size+2,0,none⟩) (by show w.heap.size+3≠w.heap.size+2;omega) _
 ok:=fun x hx=>mblk_far (h.ok x hx) (p:=⟨w.heap.size+2,0,none⟩) (by have:=hbx x hx;show x.1≠w.heap.size+2;omega) _
 kt:=kt_box h.kt (by omega)
theorem EInv.own (h0:Tre w M sv at_ al ls) {B:Nat} (hB:w.heap.size<=B) {X Y:World} {row:Option Nat} (h:EInv w M sv at_ al bx ask ls2 e X) (hg:X.grownBy Y row) (hr:∀r,row=some r->B<=r/\∃o:Obj,X.heap[r]? = some o/\o.isCells=false):EInv w M sv at_ al bx ask ls2 e Y:=by
 have hr':∀r,row=some r->∃o:Obj,X.heap[r]? = some o/\o.isCells=false:=fun r e=>(hr r e).2
 refine ⟨h.tre.near (fun k hk hc=>hg.block k hk (fun e=>?_)),mblk_walk h.tb hg hr',mblk_walk h.kb hg hr',mblk_walk h.eb hg hr',mblk_walk h.pb hg hr',fun x hx=>mblk_walk (h.ok x hx) hg hr', ?_⟩
 ·obtain ⟨h1,o,ho,hn⟩:=hr k e.symm
  rcases hc with c|c|c
  ·have:=h0.own_lt c;omega
  ·have:=h0.wr_lt c;omega
  ·refine c fun p hp n hc=>?_
   unfold World.cell? at hc
   rw [hp,ho] at hc
   cases o <;> simp_all [Obj.isCells]
 ·exact ⟨hg.os.trans h.kt.os,hg.tape.trans h.kt.tape,hg.output.trans h.kt.output,Nat.le_trans h.kt.size hg.size,fun k hk hn=>(hg.block k (Nat.lt_of_lt_of_le hk h.kt.size) (fun e=>by have:=(hr k e.symm).1;omega)).trans (h.kt.same k hk hn)⟩
theorem einv_kq (h0:Tre w M sv at_ al ls) {X Y:World} {l1 l2:Int->List (Int × Hd)} {e1 e2:Int} (hX:EInv w M sv at_ al bx ask l1 e1 X) (hY:EInv w M sv at_ al bx ask l2 e2 Y) (hs:X.heap.size<=Y.heap.size):Kq M sv.length (w.heap.size+3) X Y :=
 ⟨hs,fun k hk hlt=>by
  rcases hk with rfl|hk
  ·exact (show Y.heap[w.heap.size+3]? = _ from hY.pb).trans (show X.heap[w.heap.size+3]? = _ from hX.pb).symm
  ·have ho:M.own sv.length k:=by
    rcases hk with c|c
    ·exact .inl c
    ·exact .inr (.inl c)
   have h1:=h0.own_lt ho
   obtain ⟨cs,T,fr,hc,hT⟩:=h0.own_cells ho
   have h2:=h0.not_wr hc hT
   exact (hY.kt.same k h1 h2).trans (hX.kt.same k h1 h2).symm⟩
end
end Go.Proofs.Ytfldklimlcnnnaa.XEachW
end

section
namespace Go.Proofs.Ytfldklimlcnnnaa.XEachS
open Go.RowKit Go.Proofs.Ytfldklimlcnnnaa.PHq Go.Proofs.YtfldklimlcnnnaaW.PrintWords Go.Proofs.YtfldklimlcnnnaaW.PrintLast Go.Proofs.YtfldklimlcnnnaaW.PrintMore Go.Proofs.Ytfldklimlcnnnaa.MWords
open Go.Proofs.Ytfldklimlcnnnaa.MNat Go.Proofs.Ytfldklimlcnnnaa.XRV Go.Proofs.Ytfldklimlcnnnaa.XHold Go.Proofs.Ytfldklimlcnnnaa.XLed Go.Proofs.Ytfldklimlcnnnaa.XTree Go.Proofs.Ytfldklimlcnnnaa.QTree Go.Proofs.Ytfldklimlcnnnaa.XPath Go.Proofs.Ytfldklimlcnnnaa.XOf Go.Proofs.Ytfldklimlcnnnaa.XGo Go.Proofs.Ytfldklimlcnnnaa.XCollect Go.Proofs.Ytfldklimlcnnnaa.XAllW Go.Proofs.Ytfldklimlcnnnaa.XEachW
attribute [local go_sem] Oper.semAt_some
section
variable {w:World} {M:Tm} {sv:List S71} {at_:List (Int × Int)} {al:Int->Rat} {ls:Int->List (Int × Hd)} {bx:List (Nat × TypeId × Array Value)}
set_option maxRecDepth 100000 in
set_option maxHeartbeats 8000000 in
theorem each_calls (hT:Tre w M sv at_ al ls) (hG:GoodSv sv) {s z:Int} (hz:wfI z) (hsz:srvA at_ z=s) (hs:inR sv.length s) {k1:Nat} (hb1:∀x∈bx,x.1<w.heap.size) (hb2:∀x∈bx,x.2.1≠97) (hok:OkB bx w)
  {E:Rat->List (Int × Hd)->Int} {A:Rat->List (Int × Hd)->List (Int × Hd)} {Pa:Rat->List (Int × Hd)->Prop} {q:Int}
  (hca:LedCall 94 (fun p=>#[p,.pointer (some ⟨k1,0,none⟩)]) bx E A Pa)
  (hPa:∀x∈pathS sv s,Pa (al x) (ls x)) (hE:∀x∈pathS sv s,E (al x) (ls x)=q) :
  Calls Try.prog 93 #[.pointer (some ⟨M.t,0,none⟩),.int .i64 z,.func (.func 94) #[] #[.pointer (some ⟨k1,0,none⟩)]] w fun e w' =>
   e=.returned (.int .i64 q)/\Kt M sv.length w w'/\Tre w' M sv at_ al (stp A al ls (pathS sv s)):=by
 have mixed:Try.prog.follows Departure.mixedOrders=true:=by kernel_rfl
 have HPN:=Aside0.mk (And.intro (path_in hG s hs) (And.intro (path_nodup hG s hs) (path_len hG s hs)))
 have HNE:=Aside0.mk (path_head hG s hs)
 have HG:=Aside0.mk hG
 have HT:=Aside0.mk hT
 have HZ:=Aside0.mk (And.intro hz hsz)
 have HSM:=Aside0.mk hT.small
 have HS:=Aside0.mk hs
 have HBX:=Aside0.mk (And.intro hb1 (And.intro hb2 hok))
 have HCA:=Aside0.mk hca
 have HPA:=Aside0.mk (And.intro hPa hE)
 obtain ⟨pa,hpa⟩:∃pa,pa=pathS sv s:=⟨_,rfl⟩
 rw [<-hpa] at HPN HPA HNE ⊢
 have HPE:=Aside0.mk hpa
 have s1:(s == (-2:Int))=false:=beq_eq_false_iff_ne.mpr (by have:=hs.1;omega)
 have s2:(s=(-2:Int))=False:=eq_false (by have:=hs.1;omega)
 clear hT hG hs hb1 hb2 hok hca hPa hE hpa hz hsz
 obtain ⟨w1,hw1⟩:∃w1,w1=(w.alloc (.cells #[.pointer (some ⟨M.t,0,none⟩)] 67)).alloc (.cells #[.func (.func 94) #[] #[.pointer (some ⟨k1,0,none⟩)]] 126):=⟨_,rfl⟩
 have HW1:=Aside0.mk (show Below w.heap.size w w1/\w1.heap.size=w.heap.size+2/\MBlk w1 w.heap.size 67 #[.pointer (some ⟨M.t,0,none⟩)]/\MBlk w1 (w.heap.size+1) 126 #[.func (.func 94) #[] #[.pointer (some ⟨k1,0,none⟩)]] by
  rw [hw1]
  refine ⟨below_alloc (below_alloc (Below.refl _ _) _) _,by simp,mblk_alloc (mblk_new _ _ _) _, ?_⟩
  have:=mblk_new (w.alloc (.cells #[.pointer (some ⟨M.t,0,none⟩)] 67)) 126 #[.func (.func 94) #[] #[.pointer (some ⟨k1,0,none⟩)]]
  rw [World.size_alloc] at this
  exact this)
 have HT1:=Aside0.mk (HT.out.below HW1.out.1)
 refine (callsIn_wide (n:=6)).1 (callsIn_of_wp_marks Try.func93 rfl trivial (wpIn_wide.2 ?_) rfl)
 simp only [Try.ntmps93,List.size_toArray,List.length_cons,List.length_nil,Nat.reduceAdd,Nat.reduceSub,Array.replicate_succ,Array.replicate_zero,List.push_toArray,List.append_toArray,List.nil_append,List.cons_append]
 have k0:w1.cell? ⟨w.heap.size,0,none⟩=some (.pointer (some ⟨M.t,0,none⟩)):=(mblk_cell HW1.out.2.2.1 0).trans rfl
 go_upto_region 1 with fail
 rw [<-hw1]
 clear hw1
 go_wp2_with fail
 refine (server_calls HT1.out HZ.out.1).mono ?_
 rw [HZ.out.2]
 rintro e w1' ⟨rfl,rfl⟩
 obtain ⟨w3,hw3⟩:∃w3,w3=w1'.alloc (.cells #[.int .i64 0] 31):=⟨_,rfl⟩
 have HW3:=Aside0.mk (show Below w.heap.size w w3/\w3.heap.size=w.heap.size+3/\MBlk w3 w.heap.size 67 #[.pointer (some ⟨M.t,0,none⟩)]/\MBlk w3 (w.heap.size+1) 126 #[.func (.func 94) #[] #[.pointer (some ⟨k1,0,none⟩)]]/\MBlk w3 (w.heap.size+2) 31 #[.int .i64 0] by
  have:=mblk_new w1' 31 #[.int .i64 0]
  rw [HW1.out.2.1] at this
  rw [hw3]
  exact ⟨below_alloc HW1.out.1 _,by simp;exact HW1.out.2.1,mblk_alloc HW1.out.2.2.1 _,mblk_alloc HW1.out.2.2.2 _,this⟩)
 have k3:w3.cell? ⟨w.heap.size,0,none⟩=some (.pointer (some ⟨M.t,0,none⟩)):=(mblk_cell HW3.out.2.2.1 0).trans rfl
 have hz1:w1'.heap.size=w.heap.size+2:=HW1.out.2.1
 go_upto_region 7 with fail
 rw [<-hw3]
 clear hw3 k0 hz1
 go_wp2_with fail
 refine (path_calls M.t s _).mono ?_
 rintro e w2 ⟨rfl,hw2⟩
 have HB:=Aside0.mk (show Below w.heap.size w w2/\w2.heap.size=w.heap.size+5 by
  rw [hw2]
  exact ⟨below_alloc (below_alloc HW3.out.1 _) _,by simp;have:=HW3.out.2.1;omega⟩)
 have HT2:=Aside0.mk (HT.out.below HB.out.1)
 have HBX5:=Aside0.mk (show MBlk w2 (w.heap.size+4) 3 #[.int .i64 s] by
  have:=mblk_new (w3.alloc (.cells #[.pointer (some ⟨M.t,0,none⟩)] 67)) 3 #[.int .i64 s]
  rw [World.size_alloc,HW3.out.2.1] at this
  rw [hw2]
  exact this)
 have HI2:=Aside0.mk (show EInv w M sv at_ al bx (.func (.func 94) #[] #[.pointer (some ⟨k1,0,none⟩)]) ls 0 w2 by
  have hb:∀ {k:Nat} {cs:Array Value} {T:TypeId},MBlk w3 k T cs->MBlk w2 k T cs:=fun h=>by rw [hw2];exact mblk_alloc (mblk_alloc h _) _
  refine ⟨HT2.out,hb HW3.out.2.2.1,hb HW3.out.2.2.2.1,hb HW3.out.2.2.2.2, ?_,fun x hx=>(HB.out.1.block _ (HBX.out.1 x hx)).trans (HBX.out.2.2 x hx),Kt.of HB.out.1⟩
  have:=mblk_new w3 67 #[.pointer (some ⟨M.t,0,none⟩)]
  rw [HW3.out.2.1] at this
  rw [hw2]
  exact mblk_alloc this _)
 rw [HW3.out.2.1]
 clear hw2 k3 HW3 HW1
 go_wp2_with fail
 have HSEQ:=Aside0.mk (path_seq M sv (w.heap.size+3) (w.heap.size+4) s w2 HG.out HSM.out HS.out (Rd.of HT2.out HI2.out.pb) HBX5.out)
 rw [<-HPE.out] at HSEQ
 refine (wpIn_wide (n:=6)).1 ?_
 refine range_g (F:=Fence.wide) (n:=6) rfl (by omega) (gf:=114) (lb:=#[.pointer (some ⟨w.heap.size+4,0,none⟩),.pointer (some ⟨w.heap.size+3,0,none⟩)]) rfl trivial (enters_of Try.func114 (by kernel_rfl) rfl)
  (w0:=w2) HSEQ.out (Below.refl _ _) (fun _=>rfl) (fun h k=>h.trans k)
  (fun W l o o' hl ho _ _=>kq_put (N:=w2.heap.size) (by rw [HB.out.2];omega) (fun k hk=>HT2.out.own_lt (by rcases hk with c|c;exact .inl c;exact .inr (.inl c))) W l o o' hl ho)
  (fun pre W=>EInv w M sv at_ al bx (.func (.func 94) #[] #[.pointer (some ⟨k1,0,none⟩)]) (stp A al ls pre) (if pre = [] then 0 else q) W)
  (fun _ _ _=>False)
  (fun pre X Y row h hg hr=>EInv.own HT.out (B:=w2.heap.size) (by rw [HB.out.2];omega) h hg hr)
  (fun _ _ _ _ _ h _ _=>h)
  (by rw [stp_nil,if_pos rfl];exact HI2.out)
  (fun x=>{ tmps:=#[.pointer (some ⟨M.t,0,none⟩),.int .i64 z,.func (.func 94) #[] #[.pointer (some ⟨k1,0,none⟩)],.pointer (some ⟨w.heap.size,0,none⟩),undef,.pointer (some ⟨w.heap.size+1,0,none⟩),.int .i64 0,.int .i64 s,.pointer (some ⟨w.heap.size+2,0,none⟩),.int .i64 x,.pointer (some ⟨M.t,0,none⟩),.int .i64 z,.int .i64 s,.bool false,.pointer (some ⟨M.t,0,none⟩),.bool false,.bool false,.int .i64 s,.bool false,.pointer (some ⟨M.t,0,none⟩),.int .i64 s,.func (.func 114) #[] #[.pointer (some ⟨w.heap.size+4,0,none⟩),.pointer (some ⟨w.heap.size+3,0,none⟩)],.int .i64 x,undef,undef,undef,undef,undef,undef],defers:=[] })
  ?assign ?body ?done ?stop
 case assign =>
  intro lo x W K hK
  gi_wp2
  exact hK
 case body =>
  rintro lo pre x W hI ⟨r,hr⟩ hlt
  have hxp:x∈pa:=by rw [hr];simp
  have hxi:=(HPN.out.1 x hxp).1
  have hxn:x ∉ pre:=fun hx=>by
   have:=HPN.out.2.1
   rw [hr,List.nodup_append] at this
   exact this.2.2 x hx x (by simp) rfl
  obtain ⟨e0,he0⟩:∃e0:Int,e0=if pre = [] then 0 else q:=⟨_,rfl⟩
  rw [<-he0] at hI
  have HI:=Aside0.mk hI
  have HX:=Aside0.mk (And.intro hxp (And.intro hxi hxn))
  have k0:W.cell? ⟨w.heap.size,0,none⟩=some (.pointer (some ⟨M.t,0,none⟩)):=(mblk_cell hI.tb 0).trans rfl
  have k1':W.cell? ⟨w.heap.size+1,0,none⟩=some (.func (.func 94) #[] #[.pointer (some ⟨k1,0,none⟩)]):=(mblk_cell hI.kb 0).trans rfl
  have h11:1<=6-1-1:=by omega
  have HE:=Aside0.mk (show E (al x) (ls x)=q from HPA.out.2 x hxp)
  clear hI hr hxp hxi hxn he0
  gi_wp2
  gi_region_with_o (first
   | (refine ⟨trivial,(CallsIn.inRound lo (callsIn_wide.2 (of_calls (HI.out.below HBX.out.2.1 (below_drew (Below.refl _ W))).tre HX.out.2.1))).mono ?_⟩;rintro e W1 ⟨rfl,hb⟩;have hbw:=below_step (below_drew (Below.refl _ W)) hb;have HK1:=Aside0.mk (kf_below (D:=w2.heap.size) hbw);have HI1:=Aside0.mk (HI.out.below HBX.out.2.1 hbw);have k5:W1.cell? ⟨w.heap.size,0,none⟩=some (.pointer (some ⟨M.t,0,none⟩)):=(mblk_cell HI1.out.tb 0).trans rfl;have k6:W1.cell? ⟨w.heap.size+1,0,none⟩=some (.func (.func 94) #[] #[.pointer (some ⟨k1,0,none⟩)]):=(mblk_cell HI1.out.kb 0).trans rfl;clear hb hbw)
   | (have hc:=HCA.out (M.g x) (M.b x) (al x) (ls x) W1 HI1.out.ok (by have:=HI1.out.tre.led x HX.out.2.1;rw [stp_other HX.out.2.2] at this;exact this) (HPA.out.1 x HX.out.1);rw [HE.out] at hc;refine ⟨trivial,(CallsIn.inRound lo (callsIn_wide.2 hc)).mono ?_⟩;clear hc;rintro e W2 ⟨rfl,hL,hK⟩;have hi:=HI1.out.kp HBX.out.2.1 HX.out.2.1 hK hL;rw [stp_snoc HX.out.2.2] at hi;have HI3:=Aside0.mk hi;have HK2:=Aside0.mk (HK1.out.trans (kf_kp HT.out (by rw [HB.out.2];omega) HX.out.2.1 hK));have k3:W2.cell? ⟨w.heap.size+2,0,none⟩=some (.int .i64 e0):=(mblk_cell HI3.out.eb 0).trans rfl;have f3:W2.frozen? ⟨w.heap.size+2,0,none⟩=false:=mblk_frozen HI3.out.eb 0;clear hL hK hi))
  all_goals
   have hfin:=HI3.out.set HT.out HBX.out.1 q
   have hkf:=HK2.out.trans (kf_set (D:=w2.heap.size) W2 ⟨w.heap.size+2,0,none⟩ (.int .i64 q))
   exact ⟨hkf,einv_kq HT.out HI.out hfin hkf.size,by show EInv _ _ _ _ _ _ _ _ (if pre ++ [x] = [] then 0 else q) _;rw [if_neg (by simp)];exact hfin⟩
 case done =>
  rintro xs W rfl hI hD
  obtain ⟨rr,hrr⟩:=HNE.out
  rw [if_neg (by rw [hrr];simp)] at hI
  have k3:W.cell? ⟨w.heap.size+2,0,none⟩=some (.int .i64 q):=(mblk_cell hI.eb 0).trans rfl
  have HI:=Aside0.mk hI
  have HD:=Aside0.mk hD
  clear hI hD hrr
  go_wp2_with fail
  have hfar:=EInv.far HT.out (k:=w2.heap.size) (by rw [HB.out.2];omega)
  refine ⟨by simp,.inl ⟨_,_,rfl,run_takeDeferred HD.out, ?_⟩⟩
  exact ⟨_,results_tmp rfl _ _ _,rfl,kt_put HI.out.kt (by rw [HB.out.2];omega),tre_put HI.out.tre HD.out hfar.1 hfar.2⟩
 case stop =>
  rintro c pre W _ h _
  exact h.elim
set_option maxRecDepth 100000 in
set_option maxHeartbeats 2000000 in
theorem each_none (hT:Tre w M sv at_ al ls) {z:Int} (hz:wfI z) (hsz:srvA at_ z = -2) (k1:Nat) :
  Calls Try.prog 93 #[.pointer (some ⟨M.t,0,none⟩),.int .i64 z,.func (.func 94) #[] #[.pointer (some ⟨k1,0,none⟩)]] w fun e w'=>e=.returned (.int .i64 12)/\Below w.heap.size w w':=by
 obtain ⟨w1,hw1⟩:∃w1,w1=(w.alloc (.cells #[.pointer (some ⟨M.t,0,none⟩)] 67)).alloc (.cells #[.func (.func 94) #[] #[.pointer (some ⟨k1,0,none⟩)]] 126):=⟨_,rfl⟩
 have HW1:=Aside0.mk (show Below w.heap.size w w1/\MBlk w1 w.heap.size 67 #[.pointer (some ⟨M.t,0,none⟩)] by
  rw [hw1]
  exact ⟨below_alloc (below_alloc (Below.refl _ _) _) _,mblk_alloc (mblk_new _ _ _) _⟩)
 have HT1:=Aside0.mk (hT.below HW1.out.1)
 have HZ:=Aside0.mk (And.intro hz hsz)
 clear hT hz hsz
 have k0:w1.cell? ⟨w.heap.size,0,none⟩=some (.pointer (some ⟨M.t,0,none⟩)):=(mblk_cell HW1.out.2 0).trans rfl
 go_enter Try.func93,Try.ntmps93
 go_upto_region 1 with fail
 rw [<-hw1]
 clear hw1
 go_wp2_with fail
 refine (server_calls HT1.out HZ.out.1).mono ?_
 rw [HZ.out.2]
 rintro e w2 ⟨rfl,rfl⟩
 go_wp2_with fail
 go_ret
 exact ⟨rfl,HW1.out.1⟩
end
end Go.Proofs.Ytfldklimlcnnnaa.XEachS
end

section
namespace Go.Proofs.Ytfldklimlcnnnaa.XEachF
open Go.RowKit Go.Proofs.Ytfldklimlcnnnaa.PHq Go.Proofs.YtfldklimlcnnnaaW.PrintWords Go.Proofs.YtfldklimlcnnnaaW.PrintLast Go.Proofs.YtfldklimlcnnnaaW.PrintMore Go.Proofs.Ytfldklimlcnnnaa.MWords
open Go.Proofs.Ytfldklimlcnnnaa.MNat Go.Proofs.Ytfldklimlcnnnaa.XRV Go.Proofs.Ytfldklimlcnnnaa.XHold Go.Proofs.Ytfldklimlcnnnaa.XLed Go.Proofs.Ytfldklimlcnnnaa.XTree Go.Proofs.Ytfldklimlcnnnaa.QTree Go.Proofs.Ytfldklimlcnnnaa.XPath Go.Proofs.Ytfldklimlcnnnaa.XOf Go.Proofs.Ytfldklimlcnnnaa.XGo Go.Proofs.Ytfldklimlcnnnaa.XCollect Go.Proofs.Ytfldklimlcnnnaa.XAllW Go.Proofs.Ytfldklimlcnnnaa.XEachW
attribute [local go_sem] Oper.semAt_some
section
variable {w:World} {M:Tm} {sv:List S71} {at_:List (Int × Int)} {al:Int->Rat} {ls:Int->List (Int × Hd)} {bx:List (Nat × TypeId × Array Value)}
set_option maxRecDepth 100000 in
set_option maxHeartbeats 8000000 in
theorem each_calls (hT:Tre w M sv at_ al ls) (hG:GoodSv sv) {s z:Int} (hz:wfI z) (hsz:srvA at_ z=s) (hs:inR sv.length s) {k1:Nat} (hb1:∀x∈bx,x.1<w.heap.size) (hb2:∀x∈bx,x.2.1≠97) (hok:OkB bx w)
  {E:Rat->List (Int × Hd)->Int} {A:Rat->List (Int × Hd)->List (Int × Hd)} {Pa:Rat->List (Int × Hd)->Prop} {q:Int}
  (hca:LedCall 95 (fun p=>#[p,.pointer (some ⟨k1,0,none⟩)]) bx E A Pa)
  (hPa:∀x∈pathS sv s,Pa (al x) (ls x)) (hE:∀x∈pathS sv s,E (al x) (ls x)=q) :
  Calls Try.prog 93 #[.pointer (some ⟨M.t,0,none⟩),.int .i64 z,.func (.func 95) #[] #[.pointer (some ⟨k1,0,none⟩)]] w fun e w' =>
   e=.returned (.int .i64 q)/\Kt M sv.length w w'/\Tre w' M sv at_ al (stp A al ls (pathS sv s)):=by
 have mixed:Try.prog.follows Departure.mixedOrders=true:=by kernel_rfl
 have HPN:=Aside0.mk (And.intro (path_in hG s hs) (And.intro (path_nodup hG s hs) (path_len hG s hs)))
 have HNE:=Aside0.mk (path_head hG s hs)
 have HG:=Aside0.mk hG
 have HT:=Aside0.mk hT
 have HZ:=Aside0.mk (And.intro hz hsz)
 have HSM:=Aside0.mk hT.small
 have HS:=Aside0.mk hs
 have HBX:=Aside0.mk (And.intro hb1 (And.intro hb2 hok))
 have HCA:=Aside0.mk hca
 have HPA:=Aside0.mk (And.intro hPa hE)
 obtain ⟨pa,hpa⟩:∃pa,pa=pathS sv s:=⟨_,rfl⟩
 rw [<-hpa] at HPN HPA HNE ⊢
 have HPE:=Aside0.mk hpa
 have s1:(s == (-2:Int))=false:=beq_eq_false_iff_ne.mpr (by have:=hs.1;omega)
 have s2:(s=(-2:Int))=False:=eq_false (by have:=hs.1;omega)
 clear hT hG hs hb1 hb2 hok hca hPa hE hpa hz hsz
 obtain ⟨w1,hw1⟩:∃w1,w1=(w.alloc (.cells #[.pointer (some ⟨M.t,0,none⟩)] 67)).alloc (.cells #[.func (.func 95) #[] #[.pointer (some ⟨k1,0,none⟩)]] 126):=⟨_,rfl⟩
 have HW1:=Aside0.mk (show Below w.heap.size w w1/\w1.heap.size=w.heap.size+2/\MBlk w1 w.heap.size 67 #[.pointer (some ⟨M.t,0,none⟩)]/\MBlk w1 (w.heap.size+1) 126 #[.func (.func 95) #[] #[.pointer (some ⟨k1,0,none⟩)]] by
  rw [hw1]
  refine ⟨below_alloc (below_alloc (Below.refl _ _) _) _,by simp,mblk_alloc (mblk_new _ _ _) _, ?_⟩
  have:=mblk_new (w.alloc (.cells #[.pointer (some ⟨M.t,0,none⟩)] 67)) 126 #[.func (.func 95) #[] #[.pointer (some ⟨k1,0,none⟩)]]
  rw [World.size_alloc] at this
  exact this)
 have HT1:=Aside0.mk (HT.out.below HW1.out.1)
 refine (callsIn_wide (n:=6)).1 (callsIn_of_wp_marks Try.func93 rfl trivial (wpIn_wide.2 ?_) rfl)
 simp only [Try.ntmps93,List.size_toArray,List.length_cons,List.length_nil,Nat.reduceAdd,Nat.reduceSub,Array.replicate_succ,Array.replicate_zero,List.push_toArray,List.append_toArray,List.nil_append,List.cons_append]
 have k0:w1.cell? ⟨w.heap.size,0,none⟩=some (.pointer (some ⟨M.t,0,none⟩)):=(mblk_cell HW1.out.2.2.1 0).trans rfl
 go_upto_region 1 with fail
 rw [<-hw1]
 clear hw1
 go_wp2_with fail
 refine (server_calls HT1.out HZ.out.1).mono ?_
 rw [HZ.out.2]
 rintro e w1' ⟨rfl,rfl⟩
 obtain ⟨w3,hw3⟩:∃w3,w3=w1'.alloc (.cells #[.int .i64 0] 31):=⟨_,rfl⟩
 have HW3:=Aside0.mk (show Below w.heap.size w w3/\w3.heap.size=w.heap.size+3/\MBlk w3 w.heap.size 67 #[.pointer (some ⟨M.t,0,none⟩)]/\MBlk w3 (w.heap.size+1) 126 #[.func (.func 95) #[] #[.pointer (some ⟨k1,0,none⟩)]]/\MBlk w3 (w.heap.size+2) 31 #[.int .i64 0] by
  have:=mblk_new w1' 31 #[.int .i64 0]
  rw [HW1.out.2.1] at this
  rw [hw3]
  exact ⟨below_alloc HW1.out.1 _,by simp;exact HW1.out.2.1,mblk_alloc HW1.out.2.2.1 _,mblk_alloc HW1.out.2.2.2 _,this⟩)
 have k3:w3.cell? ⟨w.heap.size,0,none⟩=some (.pointer (some ⟨M.t,0,none⟩)):=(mblk_cell HW3.out.2.2.1 0).trans rfl
 have hz1:w1'.heap.size=w.heap.size+2:=HW1.out.2.1
 go_upto_region 7 with fail
 rw [<-hw3]
 clear hw3 k0 hz1
 go_wp2_with fail
 refine (path_calls M.t s _).mono ?_
 rintro e w2 ⟨rfl,hw2⟩
 have HB:=Aside0.mk (show Below w.heap.size w w2/\w2.heap.size=w.heap.size+5 by
  rw [hw2]
  exact ⟨below_alloc (below_alloc HW3.out.1 _) _,by simp;have:=HW3.out.2.1;omega⟩)
 have HT2:=Aside0.mk (HT.out.below HB.out.1)
 have HBX5:=Aside0.mk (show MBlk w2 (w.heap.size+4) 3 #[.int .i64 s] by
  have:=mblk_new (w3.alloc (.cells #[.pointer (some ⟨M.t,0,none⟩)] 67)) 3 #[.int .i64 s]
  rw [World.size_alloc,HW3.out.2.1] at this
  rw [hw2]
  exact this)
 have HI2:=Aside0.mk (show EInv w M sv at_ al bx (.func (.func 95) #[] #[.pointer (some ⟨k1,0,none⟩)]) ls 0 w2 by
  have hb:∀ {k:Nat} {cs:Array Value} {T:TypeId},MBlk w3 k T cs->MBlk w2 k T cs:=fun h=>by rw [hw2];exact mblk_alloc (mblk_alloc h _) _
  refine ⟨HT2.out,hb HW3.out.2.2.1,hb HW3.out.2.2.2.1,hb HW3.out.2.2.2.2, ?_,fun x hx=>(HB.out.1.block _ (HBX.out.1 x hx)).trans (HBX.out.2.2 x hx),Kt.of HB.out.1⟩
  have:=mblk_new w3 67 #[.pointer (some ⟨M.t,0,none⟩)]
  rw [HW3.out.2.1] at this
  rw [hw2]
  exact mblk_alloc this _)
 rw [HW3.out.2.1]
 clear hw2 k3 HW3 HW1
 go_wp2_with fail
 have HSEQ:=Aside0.mk (path_seq M sv (w.heap.size+3) (w.heap.size+4) s w2 HG.out HSM.out HS.out (Rd.of HT2.out HI2.out.pb) HBX5.out)
 rw [<-HPE.out] at HSEQ
 refine (wpIn_wide (n:=6)).1 ?_
 refine range_g (F:=Fence.wide) (n:=6) rfl (by omega) (gf:=114) (lb:=#[.pointer (some ⟨w.heap.size+4,0,none⟩),.pointer (some ⟨w.heap.size+3,0,none⟩)]) rfl trivial (enters_of Try.func114 (by kernel_rfl) rfl)
  (w0:=w2) HSEQ.out (Below.refl _ _) (fun _=>rfl) (fun h k=>h.trans k)
  (fun W l o o' hl ho _ _=>kq_put (N:=w2.heap.size) (by rw [HB.out.2];omega) (fun k hk=>HT2.out.own_lt (by rcases hk with c|c;exact .inl c;exact .inr (.inl c))) W l o o' hl ho)
  (fun pre W=>EInv w M sv at_ al bx (.func (.func 95) #[] #[.pointer (some ⟨k1,0,none⟩)]) (stp A al ls pre) (if pre = [] then 0 else q) W)
  (fun _ _ _=>False)
  (fun pre X Y row h hg hr=>EInv.own HT.out (B:=w2.heap.size) (by rw [HB.out.2];omega) h hg hr)
  (fun _ _ _ _ _ h _ _=>h)
  (by rw [stp_nil,if_pos rfl];exact HI2.out)
  (fun x=>{ tmps:=#[.pointer (some ⟨M.t,0,none⟩),.int .i64 z,.func (.func 95) #[] #[.pointer (some ⟨k1,0,none⟩)],.pointer (some ⟨w.heap.size,0,none⟩),undef,.pointer (some ⟨w.heap.size+1,0,none⟩),.int .i64 0,.int .i64 s,.pointer (some ⟨w.heap.size+2,0,none⟩),.int .i64 x,.pointer (some ⟨M.t,0,none⟩),.int .i64 z,.int .i64 s,.bool false,.pointer (some ⟨M.t,0,none⟩),.bool false,.bool false,.int .i64 s,.bool false,.pointer (some ⟨M.t,0,none⟩),.int .i64 s,.func (.func 114) #[] #[.pointer (some ⟨w.heap.size+4,0,none⟩),.pointer (some ⟨w.heap.size+3,0,none⟩)],.int .i64 x,undef,undef,undef,undef,undef,undef],defers:=[] })
  ?assign ?body ?done ?stop
 case assign =>
  intro lo x W K hK
  gi_wp2
  exact hK
 case body =>
  rintro lo pre x W hI ⟨r,hr⟩ hlt
  have hxp:x∈pa:=by rw [hr];simp
  have hxi:=(HPN.out.1 x hxp).1
  have hxn:x ∉ pre:=fun hx=>by
   have:=HPN.out.2.1
   rw [hr,List.nodup_append] at this
   exact this.2.2 x hx x (by simp) rfl
  obtain ⟨e0,he0⟩:∃e0:Int,e0=if pre = [] then 0 else q:=⟨_,rfl⟩
  rw [<-he0] at hI
  have HI:=Aside0.mk hI
  have HX:=Aside0.mk (And.intro hxp (And.intro hxi hxn))
  have k0:W.cell? ⟨w.heap.size,0,none⟩=some (.pointer (some ⟨M.t,0,none⟩)):=(mblk_cell hI.tb 0).trans rfl
  have k1':W.cell? ⟨w.heap.size+1,0,none⟩=some (.func (.func 95) #[] #[.pointer (some ⟨k1,0,none⟩)]):=(mblk_cell hI.kb 0).trans rfl
  have h11:1<=6-1-1:=by omega
  have HE:=Aside0.mk (show E (al x) (ls x)=q from HPA.out.2 x hxp)
  clear hI hr hxp hxi hxn he0
  gi_wp2
  gi_region_with_o (first
   | (refine ⟨trivial,(CallsIn.inRound lo (callsIn_wide.2 (of_calls (HI.out.below HBX.out.2.1 (below_drew (Below.refl _ W))).tre HX.out.2.1))).mono ?_⟩;rintro e W1 ⟨rfl,hb⟩;have hbw:=below_step (below_drew (Below.refl _ W)) hb;have HK1:=Aside0.mk (kf_below (D:=w2.heap.size) hbw);have HI1:=Aside0.mk (HI.out.below HBX.out.2.1 hbw);have k5:W1.cell? ⟨w.heap.size,0,none⟩=some (.pointer (some ⟨M.t,0,none⟩)):=(mblk_cell HI1.out.tb 0).trans rfl;have k6:W1.cell? ⟨w.heap.size+1,0,none⟩=some (.func (.func 95) #[] #[.pointer (some ⟨k1,0,none⟩)]):=(mblk_cell HI1.out.kb 0).trans rfl;clear hb hbw)
   | (have hc:=HCA.out (M.g x) (M.b x) (al x) (ls x) W1 HI1.out.ok (by have:=HI1.out.tre.led x HX.out.2.1;rw [stp_other HX.out.2.2] at this;exact this) (HPA.out.1 x HX.out.1);rw [HE.out] at hc;refine ⟨trivial,(CallsIn.inRound lo (callsIn_wide.2 hc)).mono ?_⟩;clear hc;rintro e W2 ⟨rfl,hL,hK⟩;have hi:=HI1.out.kp HBX.out.2.1 HX.out.2.1 hK hL;rw [stp_snoc HX.out.2.2] at hi;have HI3:=Aside0.mk hi;have HK2:=Aside0.mk (HK1.out.trans (kf_kp HT.out (by rw [HB.out.2];omega) HX.out.2.1 hK));have k3:W2.cell? ⟨w.heap.size+2,0,none⟩=some (.int .i64 e0):=(mblk_cell HI3.out.eb 0).trans rfl;have f3:W2.frozen? ⟨w.heap.size+2,0,none⟩=false:=mblk_frozen HI3.out.eb 0;clear hL hK hi))
  all_goals
   have hfin:=HI3.out.set HT.out HBX.out.1 q
   have hkf:=HK2.out.trans (kf_set (D:=w2.heap.size) W2 ⟨w.heap.size+2,0,none⟩ (.int .i64 q))
   exact ⟨hkf,einv_kq HT.out HI.out hfin hkf.size,by show EInv _ _ _ _ _ _ _ _ (if pre ++ [x] = [] then 0 else q) _;rw [if_neg (by simp)];exact hfin⟩
 case done =>
  rintro xs W rfl hI hD
  obtain ⟨rr,hrr⟩:=HNE.out
  rw [if_neg (by rw [hrr];simp)] at hI
  have k3:W.cell? ⟨w.heap.size+2,0,none⟩=some (.int .i64 q):=(mblk_cell hI.eb 0).trans rfl
  have HI:=Aside0.mk hI
  have HD:=Aside0.mk hD
  clear hI hD hrr
  go_wp2_with fail
  have hfar:=EInv.far HT.out (k:=w2.heap.size) (by rw [HB.out.2];omega)
  refine ⟨by simp,.inl ⟨_,_,rfl,run_takeDeferred HD.out, ?_⟩⟩
  exact ⟨_,results_tmp rfl _ _ _,rfl,kt_put HI.out.kt (by rw [HB.out.2];omega),tre_put HI.out.tre HD.out hfar.1 hfar.2⟩
 case stop =>
  rintro c pre W _ h _
  exact h.elim
set_option maxRecDepth 100000 in
set_option maxHeartbeats 2000000 in
theorem each_none (hT:Tre w M sv at_ al ls) {z:Int} (hz:wfI z) (hsz:srvA at_ z = -2) (k1:Nat) :
  Calls Try.prog 93 #[.pointer (some ⟨M.t,0,none⟩),.int .i64 z,.func (.func 95) #[] #[.pointer (some ⟨k1,0,none⟩)]] w fun e w'=>e=.returned (.int .i64 12)/\Below w.heap.size w w':=by
 obtain ⟨w1,hw1⟩:∃w1,w1=(w.alloc (.cells #[.pointer (some ⟨M.t,0,none⟩)] 67)).alloc (.cells #[.func (.func 95) #[] #[.pointer (some ⟨k1,0,none⟩)]] 126):=⟨_,rfl⟩
 have HW1:=Aside0.mk (show Below w.heap.size w w1/\MBlk w1 w.heap.size 67 #[.pointer (some ⟨M.t,0,none⟩)] by
  rw [hw1]
  exact ⟨below_alloc (below_alloc (Below.refl _ _) _) _,mblk_alloc (mblk_new _ _ _) _⟩)
 have HT1:=Aside0.mk (hT.below HW1.out.1)
 have HZ:=Aside0.mk (And.intro hz hsz)
 clear hT hz hsz
 have k0:w1.cell? ⟨w.heap.size,0,none⟩=some (.pointer (some ⟨M.t,0,none⟩)):=(mblk_cell HW1.out.2 0).trans rfl
 go_enter Try.func93,Try.ntmps93
 go_upto_region 1 with fail
 rw [<-hw1]
 clear hw1
 go_wp2_with fail
 refine (server_calls HT1.out HZ.out.1).mono ?_
 rw [HZ.out.2]
 rintro e w2 ⟨rfl,rfl⟩
 go_wp2_with fail
 go_ret
 exact ⟨rfl,HW1.out.1⟩
end
end Go.Proofs.Ytfldklimlcnnnaa.XEachF
end

section
namespace Go.Proofs.Ytfldklimlcnnnaa.XTSettle
open Go.RowKit Go.Proofs.Ytfldklimlcnnnaa.PHq Go.Proofs.YtfldklimlcnnnaaW.PrintWords Go.Proofs.YtfldklimlcnnnaaW.PrintLast Go.Proofs.YtfldklimlcnnnaaW.PrintMore Go.Proofs.Ytfldklimlcnnnaa.MWords
open Go.Proofs.Ytfldklimlcnnnaa.MNat Go.Proofs.Ytfldklimlcnnnaa.QRatio Go.Proofs.Ytfldklimlcnnnaa.XRV Go.Proofs.Ytfldklimlcnnnaa.XHold Go.Proofs.Ytfldklimlcnnnaa.XLed Go.Proofs.Ytfldklimlcnnnaa.XEnd Go.Proofs.Ytfldklimlcnnnaa.QHold Go.Proofs.Ytfldklimlcnnnaa.XTree Go.Proofs.Ytfldklimlcnnnaa.QTree Go.Proofs.Ytfldklimlcnnnaa.XOf Go.Proofs.Ytfldklimlcnnnaa.XTCl Go.Proofs.Ytfldklimlcnnnaa.XAllW Go.Proofs.Ytfldklimlcnnnaa.QTr Go.Proofs.Ytfldklimlcnnnaa.XTJoin
section
variable {w W W':World} {M:Tm} {sv:List S71} {al:Int->Rat} {H:List Hol} {m:Nat}
def settleTE (H:List Hol) (z:Int):Int:=match getH H z with|none=>12|some a=>if a.hd.a=true then 0 else 13
def settleTH (H:List Hol) (z:Int):List Hol:=match getH H z with|none=>H|some a=>if a.hd.a=true then setH H z (settled a.hd) else H
def freeTE (H:List Hol) (z:Int):Int:=if hasH H z=true then 0 else 12
def freeTH (H:List Hol) (z:Int):List Hol:=if hasH H z=true then delH H z else H
theorem srv_of {at_:List (Int × Int)} {ls:Int->List (Int × Hd)} (h:Inv sv al at_ ls H m) {z:Int} {a:Hol} (ha:getH H z=some a):srvA at_ z=a.srv/\a∈H/\a.id=z:=by
 refine ⟨?_,getH_mem ha⟩
 rw [h.srvA]
 unfold srvH
 rw [ha]
theorem srv_none {at_:List (Int × Int)} {ls:Int->List (Int × Hd)} (h:Inv sv al at_ ls H m) {z:Int} (ha:getH H z=none):srvA at_ z = -2:=by
 rw [h.srvA]
 unfold srvH
 rw [ha]
theorem settle_some {z:Int} {a:Hol} (ha:getH H z=some a):settleTE H z=(if a.hd.a=true then 0 else 13)/\settleTH H z=if a.hd.a=true then setH H z (settled a.hd) else H:=by
 unfold settleTE settleTH
 rw [ha]
 exact ⟨rfl,rfl⟩
theorem settle_none {z:Int} (ha:getH H z=none):settleTE H z=12/\settleTH H z=H:=by
 unfold settleTE settleTH
 rw [ha]
 exact ⟨rfl,rfl⟩
set_option maxRecDepth 100000 in
set_option maxHeartbeats 4000000 in
theorem tsettle_calls (hT:TH w M sv al H m) (hm:m<400) (z:Int) (hz:wfI z) :
  Calls Try.prog 50 #[.pointer (some ⟨M.t,0,none⟩),.int .i64 z] w fun e w'=>e=.returned (.int .i64 (settleTE H z))/\TH w' M sv al (settleTH H z) (m+1)/\Kt M sv.length w w':=by
 obtain ⟨at_,ls,hT,hI,hG⟩:=hT
 obtain ⟨W0,hW0⟩:∃W0,W0=w.alloc (.cells #[.int .i64 z] 3):=⟨_,rfl⟩
 have hb0:Below w.heap.size w W0:=by rw [hW0];exact below_alloc (Below.refl _ _) _
 have HB0:=Aside0.mk hb0
 have hM0:MBlk W0 w.heap.size 3 #[.int .i64 z]:=by rw [hW0];exact mblk_new _ _ _
 have HT0:=Aside0.mk (hT.below hb0)
 have c0:W0.cell? ⟨w.heap.size,0,none⟩=some (.int .i64 z):=(mblk_cell hM0 0).trans rfl
 have HRES:=Aside0.mk (show Calls Try.prog 93 #[.pointer (some ⟨M.t,0,none⟩),.int .i64 z,.func (.func 94) #[] #[.pointer (some ⟨w.heap.size,0,none⟩)]] W0 fun e w'=>e=.returned (.int .i64 (settleTE H z))/\TH w' M sv al (settleTH H z) (m+1)/\Kt M sv.length w w' by
  cases ha:getH H z with
  | none =>
   refine (XEachS.each_none HT0.out hz (srv_none hI ha) _).mono ?_
   rintro e w' ⟨rfl,hb⟩
   rw [(settle_none ha).1,(settle_none ha).2]
   exact ⟨rfl,⟨at_,ls,HT0.out.below hb,Inv.mono hI (by omega),hG⟩,Kt.of (below_step HB0.out hb)⟩
  | some a =>
   obtain ⟨h1,h2,h3⟩:=srv_of hI ha
   have hin:=hI.srv a h2
   refine (XEachS.each_calls (q:=if a.hd.a=true then 0 else 13) (bx:=[bxI w.heap.size z]) HT0.out hG hz h1 hin (k1:=w.heap.size) (fun y hy=>by rw [List.mem_singleton.1 hy];exact mblk_lt hM0) (fun y hy=>by rw [List.mem_singleton.1 hy];exact bxI_ty _ _) (fun y hy=>by rw [List.mem_singleton.1 hy];exact hM0)
    (settle1 w.heap.size z hz) (fun y hy=>hI.pa (by omega) (path_in hG _ hin y hy).1) (fun y hy=>by
     show settleE (ls y) z=_
     rw [<-h3]
     exact hI.settleE h2 (path_in hG _ hin y hy).1 hy)).mono ?_
   rintro e w' ⟨rfl,hk,ht⟩
   rw [(settle_some ha).1,(settle_some ha).2]
   refine ⟨rfl, ?_,(Kt.of HB0.out).trans hk⟩
   rw [<-h3] at ht ⊢
   cases c:a.hd.a with
   | true =>
    rw [if_pos rfl]
    exact ⟨at_,_,ht,Inv.mono (hI.settle hG h2 c) (by omega),hG⟩
   | false =>
    rw [if_neg (by decide)]
    rw [hI.unsettle h2 c hG] at ht
    exact ⟨at_,ls,ht,Inv.mono hI (by omega),hG⟩)
 clear hT hI hG hb0 hM0 hz hm
 go_enter Try.func50,Try.ntmps50
 go_upto_region 1 with fail
 rw [<-hW0]
 clear hW0
 go_wp2_with fail
 refine HRES.out.mono ?_
 rintro e w1 ⟨rfl,h⟩
 have HF:=Aside0.mk h
 clear h HRES
 go_wp2_with fail
 go_ret
 exact ⟨rfl,HF.out⟩
theorem free_no {z:Int} (ha:hasH H z=false):freeTE H z=12/\freeTH H z=H:=by
 unfold freeTE freeTH
 rw [ha]
 exact ⟨rfl,rfl⟩
theorem free_yes {z:Int} (ha:hasH H z=true):freeTE H z=0/\freeTH H z=delH H z:=by
 unfold freeTE freeTH
 rw [ha]
 exact ⟨rfl,rfl⟩
set_option maxRecDepth 100000 in
set_option maxHeartbeats 4000000 in
theorem tfree_calls (hT:TH w M sv al H m) (hm:m<400) (z:Int) (hz:wfI z) :
  Calls Try.prog 52 #[.pointer (some ⟨M.t,0,none⟩),.int .i64 z] w fun e w'=>e=.returned (.int .i64 (freeTE H z))/\TH w' M sv al (freeTH H z) (m+1)/\Kt M sv.length w w':=by
 have mixed:Try.prog.follows Departure.mixedOrders=true:=by kernel_rfl
 obtain ⟨at_,ls,hT,hI,hG⟩:=hT
 obtain ⟨W0,hW0⟩:∃W0,W0=w.alloc (.cells #[.int .i64 z] 3):=⟨_,rfl⟩
 have hb0:Below w.heap.size w W0:=by rw [hW0];exact below_alloc (Below.refl _ _) _
 have HB0:=Aside0.mk hb0
 have HM0:=Aside0.mk (show MBlk W0 w.heap.size 3 #[.int .i64 z] by rw [hW0];exact mblk_new _ _ _)
 have HT0:=Aside0.mk (hT.below hb0)
 have HI:=Aside0.mk hI
 have HG:=Aside0.mk hG
 have HZ:=Aside0.mk (And.intro hz hm)
 have c0:W0.cell? ⟨w.heap.size,0,none⟩=some (.int .i64 z):=(mblk_cell HM0.out 0).trans rfl
 clear hT hI hG hb0 hz hm
 go_enter Try.func52,Try.ntmps52
 go_upto_region 1 with fail
 rw [<-hW0]
 clear hW0
 go_wp2_with fail
 cases ha:getH H z with
 | none =>
  refine (XEachF.each_none HT0.out HZ.out.1 (srv_none HI.out ha) _).mono ?_
  rintro e w1 ⟨rfl,hb⟩
  have HF:=Aside0.mk (show freeTE H z=12/\TH w1 M sv al (freeTH H z) (m+1)/\Kt M sv.length w w1 by
   have hn:=getH_none ha
   rw [(free_no hn).1,(free_no hn).2]
   exact ⟨rfl,⟨at_,ls,HT0.out.below hb,Inv.mono HI.out (by omega),HG.out⟩,Kt.of (below_step HB0.out hb)⟩)
  clear hb ha
  go_wp2_with fail
  go_ret
  exact ⟨by rw [HF.out.1];rfl,HF.out.2⟩
 | some a =>
  obtain ⟨h1,h2,h3⟩:=srv_of HI.out ha
  have hin:=HI.out.srv a h2
  refine (XEachF.each_calls (q:=0) (bx:=[bxI w.heap.size z]) HT0.out HG.out HZ.out.1 h1 hin (k1:=w.heap.size) (fun y hy=>by rw [List.mem_singleton.1 hy];exact mblk_lt HM0.out) (fun y hy=>by rw [List.mem_singleton.1 hy];exact bxI_ty _ _) (fun y hy=>by rw [List.mem_singleton.1 hy];exact HM0.out)
   (free1 w.heap.size z HZ.out.1) (fun y hy=>HI.out.pa (by have:=HZ.out.2;omega) (path_in HG.out _ hin y hy).1) (fun y hy=>by
    show freeE (ls y) z=_
    rw [<-h3]
    exact HI.out.freeE h2 (path_in HG.out _ hin y hy).1 hy)).mono ?_
  rintro e w1 ⟨rfl,hk,ht⟩
  have hn:hasH H z=true:=hasH_iff.2 ⟨a,h2,h3⟩
  have m1:MBlk w1 w.heap.size 3 #[.int .i64 z]:=mblk_stay HT0.out hk HM0.out (by decide)
  have c1:w1.cell? ⟨w.heap.size,0,none⟩=some (.int .i64 z):=(mblk_cell m1 0).trans rfl
  have k1:=ht.cell2
  have htd:=ht.below (below_drew (Below.refl w1.heap.size w1))
  obtain ⟨w2,hrun,hm2,ht2⟩:=XAt.map_del htd.map HZ.out.1
  have HF:=Aside0.mk (show freeTE H z=0/\TH w2 M sv al (freeTH H z) (m+1)/\Kt M sv.length w w2 by
   rw [(free_yes hn).1,(free_yes hn).2]
   have hf:=HI.out.free h2
   rw [h3] at hf
   exact ⟨rfl,⟨_,_,htd.turn ht2 hm2,Inv.mono hf (by omega),HG.out⟩,(Kt.of HB0.out).trans (hk.trans ((Kt.of (below_drew (Below.refl w1.heap.size w1))).trans (Kt.turn ht2)))⟩)
  clear hn m1 ht htd hm2 ht2 hk h1 h2 h3 hin ha
  go_wp2_with fail
  go_region
  go_wp2_with fail
  go_ret
  exact ⟨by rw [HF.out.1];rfl,HF.out.2⟩
end
end Go.Proofs.Ytfldklimlcnnnaa.XTSettle
end

section
namespace Go.Proofs.Ytfldklimlcnnnaa.XTHeld
open Go.RowKit Go.Proofs.Ytfldklimlcnnnaa.PHq Go.Proofs.YtfldklimlcnnnaaW.PrintWords Go.Proofs.YtfldklimlcnnnaaW.PrintLast Go.Proofs.YtfldklimlcnnnaaW.PrintMore Go.Proofs.Ytfldklimlcnnnaa.MWords
open Go.Proofs.Ytfldklimlcnnnaa.MNat Go.Proofs.Ytfldklimlcnnnaa.QNat Go.Proofs.Ytfldklimlcnnnaa.QEv Go.Proofs.Ytfldklimlcnnnaa.QRatio Go.Proofs.Ytfldklimlcnnnaa.XRV Go.Proofs.Ytfldklimlcnnnaa.XHold Go.Proofs.Ytfldklimlcnnnaa.XLed Go.Proofs.Ytfldklimlcnnnaa.XNew Go.Proofs.Ytfldklimlcnnnaa.XTree Go.Proofs.Ytfldklimlcnnnaa.QTree Go.Proofs.Ytfldklimlcnnnaa.XOf
theorem noLimb_rat {X:World} {g7:Nat} {o1 o2:Option Addr} {n1 n2 m1 m2:Nat} {t:TypeId} (hG:MBlk X g7 t #[.slice o1 n1 m1,.slice o2 n2 m2]):NoLimb X g7:=by
 intro p hp n hc
 unfold World.cell? at hc
 rw [hp,show X.heap[g7]? = _ from hG] at hc
 simp only at hc
 split at hc
 ·cases hc
 ·match ho:p.off,hc with
  | 0,hc=>simp at hc
  | 1,hc=>simp at hc
  | k+2,hc=>simp at hc
theorem rat_put {X w:World} {k N:Nat} {p p':Value} {r1 r2:List Int} {o1 o2:Option Addr} {n1 n2 m1 m2:Nat} (hG:MBlk X k 28 #[.slice o1 n1 m1,.slice o2 n2 m2]) (hV:RV X p p' r1 r2) (hB:Below N w X) (hN:N<=k) :
  MBlk ((X.setCell ⟨k,0,none⟩ p).setCell ⟨k,1,none⟩ p') k 28 #[p,p']/\RV ((X.setCell ⟨k,0,none⟩ p).setCell ⟨k,1,none⟩ p') p p' r1 r2/\Below N w ((X.setCell ⟨k,0,none⟩ p).setCell ⟨k,1,none⟩ p'):=by
 have hn:=noLimb_rat hG
 have hs:∀j,j≠k->((X.setCell ⟨k,0,none⟩ p).setCell ⟨k,1,none⟩ p').heap[j]? = X.heap[j]?:=fun j hk=>(Below.heap_setCell _ ⟨k,1,none⟩ _ j hk).trans (Below.heap_setCell _ ⟨k,0,none⟩ _ j hk)
 exact ⟨mblk_set (mblk_set hG 0 _) 1 _,hV.near (fun j _ h=>hs j (fun e=>h (by rw [e];exact hn))),(hB.setCell (p:=⟨k,0,none⟩) hN _).setCell (p:=⟨k,1,none⟩) hN _⟩
section
variable {w:World} {M:Tm} {sv:List S71} {at_:List (Int × Int)} {al:Int->Rat} {ls:Int->List (Int × Hd)}
def heldT (n:Nat) (ls:Int->List (Int × Hd)) (s:Int):Rat:=if thereB n s=true then heldL (ls s) else ((0:Nat):Rat)
set_option maxRecDepth 100000 in
set_option maxHeartbeats 4000000 in
theorem theld_calls (hT:Tre w M sv at_ al ls) (s:Int) (hs:∀s,inR sv.length s->Sz 100000 (heldL (ls s))) :
  Calls Try.prog 46 #[.pointer (some ⟨M.t,0,none⟩),.int .i64 s] w fun e w'=>∃p p':Value,e=.returned (.agg #[p,p'])/\RV w' p p' (L (heldT sv.length ls s)).1 (L (heldT sv.length ls s)).2/\Below w.heap.size w w':=by
 obtain ⟨W0,hW0⟩:∃W0,W0=w.alloc (.cells #[.slice none 0 0,.slice none 0 0] 28):=⟨_,rfl⟩
 have hb0:Below w.heap.size w W0:=by rw [hW0];exact below_alloc (Below.refl _ _) _
 have HB0:=Aside0.mk hb0
 have HR0:=Aside0.mk (show MBlk W0 w.heap.size 28 #[.slice none 0 0,.slice none 0 0] by rw [hW0];exact mblk_new _ _ _)
 have HT0:=Aside0.mk (hT.below hb0)
 have HS:=Aside0.mk hs
 obtain ⟨q,hq⟩:∃q,q=heldT sv.length ls s:=⟨_,rfl⟩
 rw [<-hq]
 have HQ0:=Aside0.mk hq
 clear hT hb0 hs hq
 go_enter Try.func46,Try.ntmps46
 go_upto_region 1 with fail
 rw [<-hW0]
 clear hW0
 cases ht:thereB sv.length s with
 | true =>
  have HE:=Aside0.mk (show heldL (ls s)=q by rw [HQ0.out];unfold heldT;rw [ht,if_pos rfl])
  have HI:=Aside0.mk (there_in.1 ht)
  go_wp2_with (go_at_call 83;refine (there_calls HT0.out s).mono ?_;rw [ht];rintro e w1 ⟨rfl,rfl⟩;clear ht)
  refine (of_calls HT0.out HI.out).mono ?_
  rintro e w2 ⟨rfl,hb⟩
  have HB2:=Aside0.mk (below_step HB0.out hb)
  have HT2:=Aside0.mk (HT0.out.below hb)
  have HR2:=Aside0.mk ((hb.block _ (mblk_lt HR0.out)).trans HR0.out)
  clear hb HT0 HR0
  go_wp2_with fail
  refine (held_calls _ _ _ _ _ _ (HT2.out.led s HI.out) (HS.out s HI.out)).mono ?_
  rintro e w3 ⟨p,p',rfl,hr,hb⟩
  rw [HE.out] at hr
  obtain ⟨A1,c1,A2,c2,rfl,rfl⟩:=hr.shape
  obtain ⟨u0,hu0⟩:∃u0,u0=(L q).1:=⟨_,rfl⟩
  obtain ⟨u1,hu1⟩:∃u1,u1=(L q).2:=⟨_,rfl⟩
  rw [<-hu0, <-hu1] at hr ⊢
  have HU:=Aside0.mk (And.intro hu0 hu1)
  have hR3:MBlk w3 w.heap.size 28 #[.slice none 0 0,.slice none 0 0]:=(hb.block _ (mblk_lt HR2.out)).trans HR2.out
  have HQ:=Aside0.mk (rat_put hR3 hr (below_step HB2.out hb) (Nat.le_refl _))
  obtain ⟨w5,hw5⟩:∃w5,w5=(w3.setCell ⟨w.heap.size,0,none⟩ (.slice A1 u0.length c1)).setCell ⟨w.heap.size,1,none⟩ (.slice A2 u1.length c2):=⟨_,rfl⟩
  rw [<-hw5] at HQ
  have HW5:=Aside0.mk hw5
  have z0:w3.cell? ⟨w.heap.size,0,none⟩=some (.slice none 0 0):=(mblk_cell hR3 0).trans rfl
  have z1:w3.cell? ⟨w.heap.size,1,none⟩=some (.slice none 0 0):=(mblk_cell hR3 1).trans rfl
  have f0:w3.frozen? ⟨w.heap.size,0,none⟩=false:=mblk_frozen hR3 0
  have f1:w3.frozen? ⟨w.heap.size,1,none⟩=false:=mblk_frozen hR3 1
  clear hw5 hb hR3 hr hu0 hu1
  go_wp2_with fail
  rw [<-HW5.out]
  clear HW5 z0 z1 f0 f1
  have e0:w5.cell? ⟨w.heap.size,0,none⟩=some (.slice A1 u0.length c1):=(mblk_cell HQ.out.1 0).trans rfl
  have e1:w5.cell? ⟨w.heap.size,1,none⟩=some (.slice A2 u1.length c2):=(mblk_cell HQ.out.1 1).trans rfl
  exact bodyPost_ret (v:=.agg #[.slice A1 u0.length c1,.slice A2 u1.length c2]) (by simp [results,Try.results46,go_sem,e0,e1]) rfl ⟨_,_,rfl,by rw [<-HU.out.1, <-HU.out.2];exact HQ.out.2.1,HQ.out.2.2⟩
 | false =>
  have HW:=Aside0.mk (show ratio_Whole.f 0=some ((L q).1,(L q).2) by rw [HQ0.out];unfold heldT;rw [ht,if_neg (by decide)];exact whole_n 0 (by omega))
  go_wp2_with (go_at_call 83;refine (there_calls HT0.out s).mono ?_;rw [ht];rintro e w1 ⟨rfl,rfl⟩;clear ht)
  refine (whole_rv HW.out).mono ?_
  rintro e w2 ⟨p,p',rfl,hr,hb⟩
  obtain ⟨A1,c1,A2,c2,rfl,rfl⟩:=hr.shape
  obtain ⟨u0,hu0⟩:∃u0,u0=(L q).1:=⟨_,rfl⟩
  obtain ⟨u1,hu1⟩:∃u1,u1=(L q).2:=⟨_,rfl⟩
  rw [<-hu0, <-hu1] at hr ⊢
  have HU:=Aside0.mk (And.intro hu0 hu1)
  have hR3:MBlk w2 w.heap.size 28 #[.slice none 0 0,.slice none 0 0]:=(hb.block _ (mblk_lt HR0.out)).trans HR0.out
  have HQ:=Aside0.mk (rat_put hR3 hr (below_step HB0.out hb) (Nat.le_refl _))
  obtain ⟨w5,hw5⟩:∃w5,w5=(w2.setCell ⟨w.heap.size,0,none⟩ (.slice A1 u0.length c1)).setCell ⟨w.heap.size,1,none⟩ (.slice A2 u1.length c2):=⟨_,rfl⟩
  rw [<-hw5] at HQ
  have HW5:=Aside0.mk hw5
  have z0:w2.cell? ⟨w.heap.size,0,none⟩=some (.slice none 0 0):=(mblk_cell hR3 0).trans rfl
  have z1:w2.cell? ⟨w.heap.size,1,none⟩=some (.slice none 0 0):=(mblk_cell hR3 1).trans rfl
  have f0:w2.frozen? ⟨w.heap.size,0,none⟩=false:=mblk_frozen hR3 0
  have f1:w2.frozen? ⟨w.heap.size,1,none⟩=false:=mblk_frozen hR3 1
  clear hw5 hb hR3 hr hu0 hu1
  go_wp2_with fail
  rw [<-HW5.out]
  clear HW5 z0 z1 f0 f1
  have e0:w5.cell? ⟨w.heap.size,0,none⟩=some (.slice A1 u0.length c1):=(mblk_cell HQ.out.1 0).trans rfl
  have e1:w5.cell? ⟨w.heap.size,1,none⟩=some (.slice A2 u1.length c2):=(mblk_cell HQ.out.1 1).trans rfl
  exact bodyPost_ret (v:=.agg #[.slice A1 u0.length c1,.slice A2 u1.length c2]) (by simp [results,Try.results46,go_sem,e0,e1]) rfl ⟨_,_,rfl,by rw [<-HU.out.1, <-HU.out.2];exact HQ.out.2.1,HQ.out.2.2⟩
end
end Go.Proofs.Ytfldklimlcnnnaa.XTHeld
end

section
namespace Go.Proofs.Ytfldklimlcnnnaa.XOp
open Go.RowKit Go.Shelf Go.Proofs.Ytfldklimlcnnnaa.PHq Go.Proofs.YtfldklimlcnnnaaW.PrintWords Go.Proofs.YtfldklimlcnnnaaW.PrintLast Go.Proofs.YtfldklimlcnnnaaW.PrintMore Go.Proofs.Ytfldklimlcnnnaa.MWords Go.Proofs.Ytfldklimlcnnnaa.MOpen
open Go.Proofs.Ytfldklimlcnnnaa.MNat Go.Proofs.Ytfldklimlcnnnaa.QNat Go.Proofs.Ytfldklimlcnnnaa.QText Go.Proofs.Ytfldklimlcnnnaa.QEv Go.Proofs.Ytfldklimlcnnnaa.QRatio Go.Proofs.Ytfldklimlcnnnaa.XHold Go.Proofs.Ytfldklimlcnnnaa.XLed Go.Proofs.Ytfldklimlcnnnaa.QHold
def kP2:Kd (Int × Int):=Kd.pair (Kd.int .i64) (Kd.int .i64)
theorem kP2_open {w:World} {x:Int × Int} {cs:List Value} (h:kP2.K w x cs):cs = [.int .i64 x.1,.int .i64 x.2]:=by
 obtain ⟨_,_,rfl,rfl,rfl⟩:=h
 rfl
theorem opensP2:Opens Try.prog 39 kP2 (fun p=>(Lit.int .i64 p.1).wf=true/\(Lit.int .i64 p.2).wf=true) :=
 Opens.array Try.underlying39 (Ts:=[3,3]) (OpensL.cons (Opens.int Try.underlying3) (OpensL.one (Opens.int Try.underlying3))) rfl (by kernel_rfl) (by kernel_rfl)
theorem cmp_same {l:List (Int × Hd)} (hG:GoodL l) (hl:l.length<=490):∃k,regattaref03_Cmp.f k (L (heldL l)).1 (L (heldL l)).2 (L (heldL l)).1 (L (heldL l)).2=some 0:=by
 have hs:=held_szN hG
 have h:=r3cmp_t (1+2*l.length) (1+2*l.length) (heldL l).num.natAbs (heldL l).den (heldL l).num.natAbs (heldL l).den hs.2.1 hs.2.2 hs.2.1 hs.2.2 (by omega) (Rat.den_pos _) (Rat.den_pos _)
 rw [cmpR_self] at h
 exact h.get
def madeW (p q:Int):S34:=⟨wrap64 ((Go.bits .and .i64 p 31)-1),Go.bits .and .i64 q 31⟩
end Go.Proofs.Ytfldklimlcnnnaa.XOp
end

section
namespace Go.Proofs.Ytfldklimlcnnnaa.XTKt
open Go.RowKit Go.Proofs.Ytfldklimlcnnnaa.PHq Go.Proofs.YtfldklimlcnnnaaW.PrintWords Go.Proofs.YtfldklimlcnnnaaW.PrintLast Go.Proofs.YtfldklimlcnnnaaW.PrintMore Go.Proofs.Ytfldklimlcnnnaa.MWords
open Go.Proofs.Ytfldklimlcnnnaa.MNat Go.Proofs.Ytfldklimlcnnnaa.QNat Go.Proofs.Ytfldklimlcnnnaa.QEv Go.Proofs.Ytfldklimlcnnnaa.QRatio Go.Proofs.Ytfldklimlcnnnaa.XRV Go.Proofs.Ytfldklimlcnnnaa.XHold Go.Proofs.Ytfldklimlcnnnaa.XWts Go.Proofs.Ytfldklimlcnnnaa.XLed Go.Proofs.Ytfldklimlcnnnaa.XNew Go.Proofs.Ytfldklimlcnnnaa.XFits Go.Proofs.Ytfldklimlcnnnaa.XMeth Go.Proofs.Ytfldklimlcnnnaa.QHold Go.Proofs.Ytfldklimlcnnnaa.XOp Go.Proofs.Ytfldklimlcnnnaa.XTree Go.Proofs.Ytfldklimlcnnnaa.QTree Go.Proofs.Ytfldklimlcnnnaa.XOf Go.Proofs.Ytfldklimlcnnnaa.QTr Go.Proofs.Ytfldklimlcnnnaa.XTHeld Go.Proofs.Ytfldklimlcnnnaa.XTJoin
section
variable {W W':World} {M:Tm} {sv:List S71} {al:Int->Rat} {H:List Hol} {m:Nat}
theorem TH.not_wr (h:TH W M sv al H m) {k:Nat} {cs:Array Value} {T:TypeId} {fr:Nat × Nat} (hk:W.heap[k]? = some (.cells cs T fr)) (hT:T≠97):¬ M.wr sv.length k:=by
 obtain ⟨_,_,h1,_,_⟩:=h
 exact h1.not_wr hk hT
theorem mblk_kt (h:TH W M sv al H m) (hk:Kt M sv.length W W') {g:Nat} {t:TypeId} {cs:Array Value} (hb:MBlk W g t cs) (ht:t≠97):MBlk W' g t cs :=
 (hk.same g (mblk_lt hb) (TH.not_wr h hb ht)).trans hb
theorem noLimb_wr (h:TH W M sv al H m) {k:Nat} (hw:M.wr sv.length k):NoLimb W k:=by
 obtain ⟨_,_,h1,_,_⟩:=h
 rcases hw with rfl|⟨s,hs,rfl|rfl⟩
 ·obtain ⟨es,c,e⟩:=h1.map.obj
  exact noLimb_map e
 ·obtain ⟨x,y,u,v,e1,e2,e3⟩:=(h1.led s hs).cells
  exact noLimb_led e1 e2 e3
 ·obtain ⟨es,c,e⟩:=(h1.led s hs).map.obj
  exact noLimb_map e
theorem RV_kt (h:TH W M sv al H m) (hk:Kt M sv.length W W') {x y:Value} {a b:List Int} (hv:RV W x y a b):RV W' x y a b :=
 hv.near (fun k hlt hn=>hk.same k hlt (fun hw=>hn (noLimb_wr h hw)))
theorem below_kt {w:World} (hB:Below w.heap.size w W) (hw:∀k,M.wr sv.length k->w.heap.size<=k) (hk:Kt M sv.length W W'):Below w.heap.size w W':=by
 have h1:Below w.heap.size W W':=hk.below hw hB.size
 exact ⟨h1.os.trans hB.os,h1.tape.trans hB.tape,h1.output.trans hB.output,Nat.le_trans hB.size h1.size,fun k hk=>(h1.block k hk).trans (hB.block k hk)⟩
theorem noLimb_all {W:World} {b:Nat} {t:TypeId} {cs:Array Value} (h:MBlk W b t cs) (hn:∀ (i:Nat) (n:Int),cs[i]? ≠ some (Value.int .u32 n)):NoLimb W b:=by
 intro p hp n hc
 unfold World.cell? at hc
 rw [hp,show W.heap[b]? = _ from h] at hc
 simp only at hc
 split at hc
 ·cases hc
 ·exact hn _ _ hc
theorem own_ne (h:TH W M sv al H m) {b:Nat} {t:TypeId} {cs:Array Value} (hb:MBlk W b t cs) (h1:t≠119) (h2:t≠71) (h3:t≠24):¬ M.own sv.length b:=by
 obtain ⟨_,_,hT,_,_⟩:=h
 have hb':W.heap[b]? = some (.cells cs t (0,0)):=hb
 rintro (rfl|⟨h0,ad,e,rfl⟩|rfl)
 ·have:=hT.cells
  rw [show W.heap[M.t]? = _ from this] at hb'
  cases hb'
  exact h1 rfl
 ·obtain ⟨cs',fr,h4⟩:=hT.rowt h0 ad e
  rw [h4] at hb'
  cases hb'
  exact h2 rfl
 ·obtain ⟨cs',fr,h4,_⟩:=hT.ptr
  rw [h4] at hb'
  cases hb'
  exact h3 rfl
def heldA (sv:List S71) (H:List Hol) (s:Int):Rat:=if thereB sv.length s=true then heldH sv H s else ((0:Nat):Rat)
theorem theldH (h:TH W M sv al H m) (hm:m<=490) (s:Int) :
  Calls Try.prog 46 #[.pointer (some ⟨M.t,0,none⟩),.int .i64 s] W fun e w'=>∃p p':Value,e=.returned (.agg #[p,p'])/\RV w' p p' (L (heldA sv H s)).1 (L (heldA sv H s)).2/\Below W.heap.size W w':=by
 obtain ⟨_,ls,h1,h2,h3⟩:=h
 have e:heldT sv.length ls s=heldA sv H s:=by
  unfold heldT heldA
  cases ht:thereB sv.length s with
  | false=>rfl
  | true=>rw [if_pos rfl,if_pos rfl];exact h2.held (there_in.1 ht)
 rw [<-e]
 exact theld_calls h1 s (fun s hs=>sz_mono (XMeth.held_sz (h2.good (by omega) hs)) (by omega))
theorem heldA_in {s:Int} (hs:inR sv.length s):heldA sv H s=heldH sv H s:=by
 unfold heldA
 rw [if_pos (there_in.2 hs)]
end
end Go.Proofs.Ytfldklimlcnnnaa.XTKt
end

section
namespace Go.Proofs.Ytfldklimlcnnnaa.XOpen13
open Go.RowKit Go.Proofs.Ytfldklimlcnnnaa.PHq Go.Proofs.Ytfldklimlcnnnaa.MOpen Go.Proofs.YtfldklimlcnnnaaW.PrintWords Go.Proofs.YtfldklimlcnnnaaW.PrintLast Go.Proofs.YtfldklimlcnnnaaW.PrintMore
theorem opensP:Opens Try.prog 39 k39 (fun p=>(Lit.int .i64 p.f0).wf=true/\(Lit.int .i64 p.f1).wf=true) :=
 Opens.array Try.underlying39 (Ts:=[3,3]) (OpensL.iso (OpensL.cons (Opens.int Try.underlying3) (OpensL.one (Opens.int Try.underlying3))) (fun x:S39=>(x.f0,x.f1)) (fun x=>⟨x.1,x.2⟩) (fun _=>rfl)) rfl (by kernel_rfl) (by kernel_rfl)
abbrev SpecV:=List Int × (List S39 × S39)
def kSpec:Kd SpecV:=Kd.pair (Kd.slice 3 (Kd.int .i64)) (Kd.pair (Kd.slice 39 k39) k39)
theorem kSpec_open {w:World} {x:SpecV} {cs:List Value} (h:kSpec.K w x cs):∃A0 c0 A1 c1,cs = [.slice A0 x.1.length c0,.slice A1 x.2.1.length c1,.int .i64 x.2.2.f0,.int .i64 x.2.2.f1]/\(x.1.length<=c0/\Kd.C (Kd.int .i64) w A0 x.1.length x.1)/\(x.2.1.length<=c1/\Kd.C k39 w A1 x.2.1.length x.2.1):=by
 obtain ⟨_,_,rfl,⟨A0,c0,rfl,h1,h2⟩,_,_,rfl,⟨A1,c1,rfl,h3,h4⟩,h5⟩:=h
 obtain rfl:=k39_open h5
 exact ⟨A0,c0,A1,c1,rfl,⟨h1,h2⟩,h3,h4⟩
theorem opensSpec:Opens Try.prog 64 kSpec (fun p=>(p.1.length<=9223372036854775807/\∀x∈p.1,(Lit.int .i64 x).wf=true)/\(p.2.1.length<=9223372036854775807/\∀x∈p.2.1,(Lit.int .i64 x.f0).wf=true/\(Lit.int .i64 x.f1).wf=true)/\((Lit.int .i64 p.2.2.f0).wf=true/\(Lit.int .i64 p.2.2.f1).wf=true)) :=
 Opens.struct Try.underlying64 (Ts:=[22,38,39]) (OpensL.cons (Opens.slice Try.underlying22 (by kernel_rfl) (Opens.int Try.underlying3)) (OpensL.cons (Opens.slice Try.underlying38 (by kernel_rfl) opensP) (OpensL.one opensP))) rfl (by kernel_rfl) (by kernel_rfl)
end Go.Proofs.Ytfldklimlcnnnaa.XOpen13
end

section
namespace Go.Proofs.Ytfldklimlcnnnaa.XQOp
open Go.RowKit Go.Proofs.Ytfldklimlcnnnaa.PHq Go.Proofs.YtfldklimlcnnnaaW.PrintWords Go.Proofs.YtfldklimlcnnnaaW.PrintLast Go.Proofs.YtfldklimlcnnnaaW.PrintMore Go.Proofs.Ytfldklimlcnnnaa.MWords
open Go.Proofs.Ytfldklimlcnnnaa.MNat Go.Proofs.Ytfldklimlcnnnaa.MOpen Go.Proofs.Ytfldklimlcnnnaa.QNat Go.Proofs.Ytfldklimlcnnnaa.QEv Go.Proofs.Ytfldklimlcnnnaa.QRatio Go.Proofs.Ytfldklimlcnnnaa.XRV Go.Proofs.Ytfldklimlcnnnaa.XHold Go.Proofs.Ytfldklimlcnnnaa.XWts Go.Proofs.Ytfldklimlcnnnaa.XLed Go.Proofs.Ytfldklimlcnnnaa.XNew Go.Proofs.Ytfldklimlcnnnaa.XFits Go.Proofs.Ytfldklimlcnnnaa.XJoin Go.Proofs.Ytfldklimlcnnnaa.QHold Go.Proofs.Ytfldklimlcnnnaa.XOp Go.Proofs.Ytfldklimlcnnnaa.XTree Go.Proofs.Ytfldklimlcnnnaa.QTree Go.Proofs.Ytfldklimlcnnnaa.XOf Go.Proofs.Ytfldklimlcnnnaa.QTr Go.Proofs.Ytfldklimlcnnnaa.XTHeld Go.Proofs.Ytfldklimlcnnnaa.XTJoin Go.Proofs.Ytfldklimlcnnnaa.XTAsk Go.Proofs.Ytfldklimlcnnnaa.XTSettle Go.Proofs.Ytfldklimlcnnnaa.XTKt
abbrev OpW:=Int × Int × Int × (Int × Int)
def kOpW:Kd OpW:=Kd.pair (Kd.int .i64) (Kd.pair (Kd.int .i64) (Kd.pair (Kd.int .i64) kP2))
theorem kOpW_open {w:World} {x:OpW} {cs:List Value} (h:kOpW.K w x cs):cs = [.int .i64 x.1,.int .i64 x.2.1,.int .i64 x.2.2.1,.int .i64 x.2.2.2.1,.int .i64 x.2.2.2.2]:=by
 obtain ⟨_,_,rfl,rfl,⟨_,_,rfl,rfl,⟨_,_,rfl,rfl,h1⟩⟩⟩:=h
 obtain rfl:=kP2_open h1
 rfl
theorem opensOpW:Opens Try.prog 83 kOpW (fun p=>(Lit.int .i64 p.1).wf=true/\(Lit.int .i64 p.2.1).wf=true/\(Lit.int .i64 p.2.2.1).wf=true/\((Lit.int .i64 p.2.2.2.1).wf=true/\(Lit.int .i64 p.2.2.2.2).wf=true)) :=
 Opens.struct Try.underlying83 (Ts:=[3,3,3,39]) (OpensL.cons (Opens.int Try.underlying3) (OpensL.cons (Opens.int Try.underlying3) (OpensL.cons (Opens.int Try.underlying3) (OpensL.one opensP2)))) rfl (by kernel_rfl) (by kernel_rfl)
def opwZ:OpW:=(0,0,0,(0,0))
theorem at_OpW {w:World} {A:Option Addr} {n:Nat} {xs:List OpW} (h:Kd.C kOpW w A n xs) (i:Nat) (hi:i<n):∃ad,A=some ad/\w.cell? (ad.add (i*5))=some (.int .i64 (xs.getD i opwZ).1)
  ∧ w.cell? ⟨(ad.add (i*5)).block,(ad.add (i*5)).off+1,none⟩=some (.int .i64 (xs.getD i opwZ).2.1)
  ∧ w.cell? ⟨(ad.add (i*5)).block,(ad.add (i*5)).off+2,none⟩=some (.int .i64 (xs.getD i opwZ).2.2.1)
  ∧ w.cell? ⟨(ad.add (i*5)).block,(ad.add (i*5)).off+3,none⟩=some (.int .i64 (xs.getD i opwZ).2.2.2.1)
  ∧ w.cell? ⟨(ad.add (i*5)).block,(ad.add (i*5)).off+4,none⟩=some (.int .i64 (xs.getD i opwZ).2.2.2.2):=by
 obtain ⟨ad,c,e,_,hK,hc0⟩:=Kd.C_get h opwZ (i:Int) (by omega) (by omega)
 have hc:∀j u,c[j]? = some u->w.cell? (ad.add (i*5+j))=some u:=hc0
 have hK':kOpW.K w (xs.getD i opwZ) c:=hK
 obtain rfl:=kOpW_open hK'
 exact ⟨ad,e,hc 0 _ rfl,by rw [<-add_field _ _ 1 (by omega)];exact hc 1 _ rfl,by rw [<-add_field _ _ 2 (by omega)];exact hc 2 _ rfl,by rw [<-add_field _ _ 3 (by omega)];exact hc 3 _ rfl,by rw [<-add_field _ _ 4 (by omega)];exact hc 4 _ rfl⟩
theorem weight_calls (k z s a b:Int) (w:World):Calls Try.prog 48 #[.agg #[.int .i64 k,.int .i64 z,.int .i64 s,.int .i64 a,.int .i64 b]] w fun e w'=>e=.returned (.agg #[.int .i64 (madeW a b).f0,.int .i64 (madeW a b).f1])/\Below w.heap.size w w' :=
 regattalaw13_Op_weight.calls k z s a b (madeW a b).f0 (madeW a b).f1 w rfl
theorem plus_rv {k:Nat} {W:World} {x y u v:Value} {a b c d r1 r2:List Int} (h:RV W x y a b) (g:RV W u v c d) (hf:regattaref03_Plus.f k a b c d=some (r1,r2)) :
  Calls Try.prog 26 #[.agg #[x,y],.agg #[u,v]] W fun e w'=>∃p q:Value,e=.returned (.agg #[p,q])/\RV w' p q r1 r2/\Below W.heap.size W w':=by
 obtain ⟨⟨A1,c1,rfl,p1,q1⟩,A2,c2,rfl,p2,q2⟩:=h
 obtain ⟨⟨A3,c3,rfl,p3,q3⟩,A4,c4,rfl,p4,q4⟩:=g
 exact (regattaref03_Plus.calls k A1 c1 a A2 c2 b A3 c3 c A4 c4 d r1 r2 W q1 p1 q2 p2 q3 p3 q4 p4 hf).mono fun e w' ⟨p,q,he,h1,h2,hb⟩=>⟨p,q,he,RV.ofR h1 h2,hb⟩
theorem and_mask_nat (k:Nat) (hk:k<=62) (x m:Int) (hm:m=2 ^ k-1):∃n:Nat,Go.bits .and .i64 x m=(n:Int)/\(n:Int)<=m:=by
 have e:Go.bits .and .i64 x m=x % 2 ^ k:=QBits.and_mask k hk x m hm
 have h0:(0:Int)<2 ^ k:=Int.pow_pos (by omega)
 have b1:=Int.emod_nonneg x (show (2:Int) ^ k≠0 by omega)
 have b2:=Int.emod_lt_of_pos x h0
 obtain ⟨n,hn⟩:=Int.eq_ofNat_of_zero_le b1
 exact ⟨n,by rw [e,hn],by rw [hm];omega⟩
section
variable {W W':World} {M:Tm} {sv:List S71} {al:Int->Rat} {H:List Hol} {m:Nat}
theorem tserverH (h:TH W M sv al H m) {z:Int} (hz:wfI z) :
  Calls Try.prog 58 #[.pointer (some ⟨M.t,0,none⟩),.int .i64 z] W fun e w'=>e=.returned (.int .i64 (srvH H z))/\w'=W:=by
 obtain ⟨at_,ls,h1,h2,h3⟩:=h
 rw [<-h2.srvA z]
 exact server_calls h1 hz
theorem join_same {z s:Int} {x:S34} (h:joinTE sv al H z s x≠0):joinTH sv al H z s x=H:=by
 unfold joinTH
 rw [if_neg h]
end
end Go.Proofs.Ytfldklimlcnnnaa.XQOp
end

section
namespace Go.Proofs.Ytfldklimlcnnnaa.XHad
open Go.RowKit Go.Proofs.Ytfldklimlcnnnaa.PHq Go.Proofs.YtfldklimlcnnnaaW.PrintWords Go.Proofs.YtfldklimlcnnnaaW.PrintLast Go.Proofs.YtfldklimlcnnnaaW.PrintMore Go.Proofs.Ytfldklimlcnnnaa.MWords
open Go.Proofs.Ytfldklimlcnnnaa.MNat Go.Proofs.Ytfldklimlcnnnaa.QNat Go.Proofs.Ytfldklimlcnnnaa.QRatio Go.Proofs.Ytfldklimlcnnnaa.XRV Go.Proofs.Ytfldklimlcnnnaa.XHold Go.Proofs.Ytfldklimlcnnnaa.XLed Go.Proofs.Ytfldklimlcnnnaa.XTree Go.Proofs.Ytfldklimlcnnnaa.QTree Go.Proofs.Ytfldklimlcnnnaa.QTr Go.Proofs.Ytfldklimlcnnnaa.XTJoin Go.Proofs.Ytfldklimlcnnnaa.XTKt
def flat:List (Value × Value)->List Value
 | []=>[]
 | p :: r=>p.1 :: p.2 :: flat r
theorem flat_get:∀ (vs:List (Value × Value)) (k:Nat),(flat vs)[k*2]? = vs[k]?.map (·.1)/\(flat vs)[k*2+1]? = vs[k]?.map (·.2)
 | [],k=>⟨rfl,rfl⟩
 | p :: r,0=>⟨rfl,rfl⟩
 | p :: r,k+1=>by
  have h:=flat_get r k
  have e:(k+1)*2=k*2+1+1:=by omega
  rw [e]
  exact h
theorem flat_set:∀ (vs:List (Value × Value)) (k:Nat) (a b:Value),k<vs.length->((flat vs).set (k*2) a).set (k*2+1) b=flat (vs.set k (a,b))
 | [],k,a,b,h=>absurd h (by simp)
 | p :: r,0,a,b,h=>rfl
 | p :: r,k+1,a,b,h=>by
  have h:=flat_set r k a b (by simpa using h)
  have e:(k+1)*2=k*2+1+1:=by omega
  rw [e]
  show p.1 :: p.2 :: (((flat r).set (k*2) a).set (k*2+1) b)=_
  rw [h]
  rfl
def NoU (vs:List (Value × Value)):Prop:=∀p∈vs,(∀n,p.1 ≠ .int .u32 n)/\∀n,p.2 ≠ .int .u32 n
def Had (W:World) (b t:Nat) (vs:List (Value × Value)):Prop:=MBlk W b t (flat vs).toArray
section
variable {W W':World} {b t:Nat} {vs:List (Value × Value)}
theorem flat_noU (h:NoU vs):∀v∈flat vs, ∀n,v ≠ .int .u32 n:=by
 induction vs with
 | nil=>intro v hv;cases hv
 | cons p r ih =>
  intro v hv
  have h0:=h p List.mem_cons_self
  rcases List.mem_cons.1 hv with rfl|hv
  ·exact h0.1
  ·rcases List.mem_cons.1 hv with rfl|hv
   ·exact h0.2
   ·exact ih (fun q hq=>h q (List.mem_cons_of_mem _ hq)) v hv
theorem Had.noLimb (h:Had W b t vs) (hn:NoU vs):NoLimb W b :=
 noLimb_all h (fun i n e=>by
  have e':(flat vs)[i]? = some (Value.int .u32 n):=by simpa using e
  exact flat_noU hn _ (List.mem_of_getElem? e') n rfl)
theorem Had.at0 (h:Had W b t vs) (k:Nat) (hk:k<vs.length):W.cell? ⟨b,k*2,none⟩=some (vs.getD k (.slice none 0 0,.slice none 0 0)).1:=by
 refine (mblk_cell h (k*2)).trans ?_
 rw [List.getElem?_toArray,(flat_get vs k).1,List.getElem?_eq_getElem hk,List.getD_eq_getElem?_getD,List.getElem?_eq_getElem hk]
 rfl
theorem Had.at1 (h:Had W b t vs) (k:Nat) (hk:k<vs.length):W.cell? ⟨b,k*2+1,none⟩=some (vs.getD k (.slice none 0 0,.slice none 0 0)).2:=by
 refine (mblk_cell h (k*2+1)).trans ?_
 rw [List.getElem?_toArray,(flat_get vs k).2,List.getElem?_eq_getElem hk,List.getD_eq_getElem?_getD,List.getElem?_eq_getElem hk]
 rfl
theorem Had.put (h:Had W b t vs) (k:Nat) (hk:k<vs.length) (u v:Value):Had ((W.setCell ⟨b,k*2,none⟩ u).setCell ⟨b,k*2+1,none⟩ v) b t (vs.set k (u,v)):=by
 have h1:=mblk_set (mblk_set h (k*2) u) (k*2+1) v
 have e:(((flat vs).toArray.setIfInBounds (k*2) u).setIfInBounds (k*2+1) v)=(flat (vs.set k (u,v))).toArray:=by
  rw [List.setIfInBounds_toArray,List.setIfInBounds_toArray,flat_set vs k u v hk]
 unfold Had
 rw [<-e]
 exact h1
theorem NoU.set (h:NoU vs) (k:Nat) {u v:Value} (hu:∀n,u ≠ .int .u32 n) (hv:∀n,v ≠ .int .u32 n):NoU (vs.set k (u,v)):=by
 intro p hp
 rcases List.mem_or_eq_of_mem_set hp with hp|rfl
 ·exact h p hp
 ·exact ⟨hu,hv⟩
theorem two_far {i j:Nat} {u v:Value} : ∀k,k≠b->((W.setCell ⟨b,i,none⟩ u).setCell ⟨b,j,none⟩ v).heap[k]? = W.heap[k]? :=
 fun k hk=>(Below.heap_setCell _ ⟨b,j,none⟩ _ k hk).trans (Below.heap_setCell _ ⟨b,i,none⟩ _ k hk)
section
variable {M:Tm} {sv:List S71} {al:Int->Rat} {H:List Hol} {m:Nat}
theorem TH_far (h:TH W M sv al H m) {cs:Array Value} (hb:MBlk W b t cs) (h1:t≠119) (h2:t≠71) (h3:t≠24) (h4:t≠97) (hn:NoLimb W b) (hs:∀k,k≠b->W'.heap[k]? = W.heap[k]?):TH W' M sv al H m:=by
 have ho:=own_ne h hb h1 h2 h3
 have hw:=TH.not_wr h hb h4
 obtain ⟨at_,ls,hT,hI,hG⟩:=h
 refine ⟨at_,ls,hT.near (fun k _ hk=>hs k (fun e=>?_)),hI,hG⟩
 subst e
 rcases hk with c|c|c
 ·exact ho c
 ·exact hw c
 ·exact c hn
theorem RV_far {x y:Value} {a c:List Int} (hv:RV W x y a c) (hn:NoLimb W b) (hs:∀k,k≠b->W'.heap[k]? = W.heap[k]?):RV W' x y a c :=
 hv.near (fun k hlt h=>hs k (fun e=>h (by rw [e];exact hn)))
theorem mblk_other {g t':Nat} {cs cs':Array Value} (h:MBlk W g t' cs') (hb:MBlk W b t cs) (ht:t'≠t) (hs:∀k,k≠b->W'.heap[k]? = W.heap[k]?):MBlk W' g t' cs' :=
 (hs g (fun e=>by
  subst e
  have h':W.heap[g]? = some (.cells cs' t' (0,0)):=h
  rw [show W.heap[g]? = _ from hb] at h'
  cases h'
  exact ht rfl)).trans h
theorem below_two {w:World} (hB:Below w.heap.size w W) (hb:w.heap.size<=b) (i j:Nat) (u v:Value):Below w.heap.size w ((W.setCell ⟨b,i,none⟩ u).setCell ⟨b,j,none⟩ v) :=
 (hB.setCell (p:=⟨b,i,none⟩) hb _).setCell (p:=⟨b,j,none⟩) hb _
end
structure Hads (W:World) (sv:List S71) (H:List Hol) (k:Nat) (vs:List (Value × Value)):Prop where
 len:vs.length=9
 nu:NoU vs
 rv:∀j:Nat,j<k->RV W (vs.getD j (.slice none 0 0,.slice none 0 0)).1 (vs.getD j (.slice none 0 0,.slice none 0 0)).2 (L (heldH sv H ((j:Int)-1))).1 (L (heldH sv H ((j:Int)-1))).2
theorem Hads.imp {sv:List S71} {H:List Hol} {k:Nat} (h:Hads W sv H k vs) (hi:∀ {x y:Value} {a c:List Int},RV W x y a c->RV W' x y a c):Hads W' sv H k vs:=⟨h.len,h.nu,fun j hj=>hi (h.rv j hj)⟩
theorem Hads.next {sv:List S71} {H:List Hol} {k:Nat} {A B:Option Addr} {n m e f:Nat} {s:Int} (h:Hads W sv H k vs) (hs:s=(k:Int)-1) (hk:k<9) (hv:RV W (.slice A n e) (.slice B m f) (L (heldH sv H s)).1 (L (heldH sv H s)).2):Hads W sv H (k+1) (vs.set k (.slice A n e,.slice B m f)):=by
 refine ⟨by rw [List.length_set,h.len],h.nu.set k (fun n e=>by cases e) (fun n e=>by cases e),fun j hj=>?_⟩
 by_cases e:j=k
 ·subst e
  rw [List.getD_eq_getElem?_getD,List.getElem?_set_self (by rw [h.len];exact hk),Option.getD_some, <-hs]
  exact hv
 ·rw [List.getD_eq_getElem?_getD,List.getElem?_set_ne (fun c=>e c.symm), <-List.getD_eq_getElem?_getD]
  exact h.rv j (by omega)
theorem tcmp_same {M:Tm} {sv:List S71} {al:Int->Rat} {H:List Hol} {m:Nat} (h:TH W M sv al H m) (hm:m<=490) {s:Int} (hs:inR sv.length s) :
  ∃k,regattaref03_Cmp.f k (L (heldH sv H s)).1 (L (heldH sv H s)).2 (L (heldH sv H s)).1 (L (heldH sv H s)).2=some 0:=by
 obtain ⟨_,ls,_,h2,_⟩:=h
 have hG:=h2.good (by omega:m<=500) hs
 have hl:(ls s).length<=490:=by
  have h1:=(h2.ls s hs).length_eq
  have h3:=sub_len (sv:=sv) (H:=H) s
  have h4:=h2.len
  omega
 rw [<-h2.held hs]
 exact XOp.cmp_same hG hl
end
end Go.Proofs.Ytfldklimlcnnnaa.XHad
end

section
namespace Go.Proofs.Ytfldklimlcnnnaa.QBack
open Go.RowKit Go.Proofs.Ytfldklimlcnnnaa.PHq Go.Proofs.YtfldklimlcnnnaaW.PrintWords Go.Proofs.YtfldklimlcnnnaaW.PrintLast Go.Proofs.YtfldklimlcnnnaaW.PrintMore Go.Proofs.Ytfldklimlcnnnaa.MWords
open Go.Proofs.Ytfldklimlcnnnaa.MNat Go.Proofs.Ytfldklimlcnnnaa.QNat Go.Proofs.Ytfldklimlcnnnaa.QEv Go.Proofs.Ytfldklimlcnnnaa.QRatio Go.Proofs.Ytfldklimlcnnnaa.XRV Go.Proofs.Ytfldklimlcnnnaa.XHold Go.Proofs.Ytfldklimlcnnnaa.XWts Go.Proofs.Ytfldklimlcnnnaa.XLed Go.Proofs.Ytfldklimlcnnnaa.XFits Go.Proofs.Ytfldklimlcnnnaa.XJoin Go.Proofs.Ytfldklimlcnnnaa.XAsk Go.Proofs.Ytfldklimlcnnnaa.XEnd Go.Proofs.Ytfldklimlcnnnaa.QHold Go.Proofs.Ytfldklimlcnnnaa.XOp Go.Proofs.Ytfldklimlcnnnaa.XTree Go.Proofs.Ytfldklimlcnnnaa.QTree Go.Proofs.Ytfldklimlcnnnaa.XOf Go.Proofs.Ytfldklimlcnnnaa.QTr Go.Proofs.Ytfldklimlcnnnaa.XTJoin Go.Proofs.Ytfldklimlcnnnaa.XTAsk Go.Proofs.Ytfldklimlcnnnaa.XTSettle Go.Proofs.Ytfldklimlcnnnaa.XTKt Go.Proofs.Ytfldklimlcnnnaa.XQOp Go.Proofs.Ytfldklimlcnnnaa.XHad
section
variable {W W':World} {M:Tm} {sv:List S71} {al:Int->Rat} {H:List Hol} {m:Nat} {z s:Int}
def w4th:S34:=⟨1,4⟩
def w8th:S34:=⟨1,8⟩
theorem no77 (h:∀x∈H,x.id<=15):hasH H 77=false:=by
 cases e:hasH H 77 with
 | false=>rfl
 | true =>
  obtain ⟨x,hx,hi⟩:=hasH_iff.1 e
  have:=h x hx
  omega
theorem ids_join {z s:Int} {x:S34} (h:∀x∈H,x.id<=15) (hz:z<=15):∀y∈joinTH sv al H z s x,y.id<=15:=by
 intro y hy
 unfold joinTH at hy
 split at hy
 ·rcases List.mem_append.1 hy with hy|hy
  ·exact h y hy
  ·rw [List.mem_singleton.1 hy];exact hz
 ·exact h y hy
theorem join_in {z s:Int} {x:S34} (h:joinTE sv al H z s x=0):inR sv.length s/\joinTH sv al H z s x=H ++ [⟨z,s,newH x⟩]:=by
 refine ⟨?_,by unfold joinTH;rw [if_pos h]⟩
 unfold joinTE at h
 split at h
 ·cases h
 ·rename_i c
  refine there_in.1 ?_
  cases e:thereB sv.length s with
  | true=>rfl
  | false=>rw [e] at c;exact absurd rfl c
theorem get_app (h:hasH H z=false) (a:Hol) (ha:a.id=z):getH (H ++ [a]) z=some a:=by
 unfold getH
 rw [List.find?_append]
 have h1:H.find? (fun x=>decide (x.id=z))=none:=by
  rw [List.find?_eq_none]
  unfold hasH at h
  rw [List.any_eq_false] at h
  exact h
 rw [h1,List.find?_cons,decide_eq_true ha]
 rfl
theorem ne_of (h:hasH H z=false):∀x∈H,x.id≠z:=by
 intro x hx e
 rw [hasH_iff.2 ⟨x,hx,e⟩] at h
 cases h
theorem set_app (h:hasH H z=false) (a:Hol) (ha:a.id=z) (k:Hd):setH (H ++ [a]) z k=H ++ [⟨z,a.srv,k⟩]:=by
 unfold setH
 rw [List.map_append,List.map_singleton,if_pos ha]
 congr 1
 have h1:H.map (fun x=>if x.id=z then (⟨z,x.srv,k⟩:Hol) else x)=H.map id:=List.map_congr_left fun x hx=>if_neg (ne_of h x hx)
 rw [h1,List.map_id]
theorem del_app (h:hasH H z=false) (a:Hol) (ha:a.id=z):delH (H ++ [a]) z=H:=by
 unfold delH
 rw [List.filter_append,List.filter_eq_self.2 fun x hx=>decide_eq_true (ne_of h x hx),List.filter_cons,if_neg (by simp [ha])]
 exact List.append_nil _
theorem has_app (H:List Hol) (a:Hol):hasH (H ++ [a]) a.id=true:=hasH_iff.2 ⟨a,List.mem_append.2 (.inr (List.mem_singleton.2 rfl)),rfl⟩
theorem held_join (k:Hd) {s y:Int} (hy:y∈pathS sv s):heldH sv (H ++ [⟨77,s,k⟩]) y=heldH sv H y+wt (hv k):=by
 unfold heldH
 rw [sub_app,if_pos (onB_iff.2 hy),held_app,held_cons]
 show _+(wt (hv k)+0)=_
 rw [Rat.add_zero]
theorem hv_asks:hv (asks (newH w4th) w8th)=w4th:=by
 unfold hv
 rw [if_neg]
 ·rfl
 ·rintro ⟨_,h⟩
  exact absurd h (by decide +kernel)
theorem askP_yes {a:Hol} {x:S34} (h:∀y∈pathS sv a.srv,askF sv al H a.hd x y=true):askP sv al H a x=true:=by
 unfold askP
 rw [List.all_eq_true]
 exact h
theorem askF_yes {k:Hd} {x:S34} {y:Int} (h1:hv (asks k x)=wN k) (h0:0<=heldH sv H y) (hle:heldH sv H y<=al y):askF sv al H k x y=true:=by
 unfold askF
 rw [h1]
 generalize heldH sv H y=q at h0 hle ⊢
 generalize wt (wN k)=r
 unfold fitsQ
 rw [Bool.and_eq_true]
 exact ⟨decide_eq_true (by grind),decide_eq_true (by grind)⟩
theorem ask_app {a:Hol} {x:S34} (h:TH W M sv al (H ++ [a]) m) (hn:hasH H a.id=false) (hs:inR sv.length a.srv) (hx:mayW x=true) (ha:a.hd.a=false) (h1:hv (asks a.hd x)=wN a.hd) :
  askTE sv al (H ++ [a]) a.id x=0/\askTH sv al (H ++ [a]) a.id x=H ++ [⟨a.id,a.srv,asks a.hd x⟩]:=by
 have hp:askP sv al (H ++ [a]) a x=true:=by
  obtain ⟨_,_,_,h2,h3⟩:=h
  exact askP_yes fun y hy=>askF_yes h1 (held_nonneg _) (h2.le y (path_in h3 a.srv hs y hy).1)
 have h2:=ask_some (sv:=sv) (al:=al) (x:=x) hx (get_app hn a rfl)
 rw [if_neg (by rw [ha];decide),if_pos hp] at h2
 refine ⟨h2.1, ?_⟩
 rw [h2.2,if_pos h2.1]
 exact set_app hn _ rfl _
theorem ask8 (h:TH W M sv al (H ++ [⟨77,s,newH w4th⟩]) m) (hn:hasH H 77=false) (hs:inR sv.length s) :
  askTE sv al (H ++ [⟨77,s,newH w4th⟩]) 77 w8th=0/\askTH sv al (H ++ [⟨77,s,newH w4th⟩]) 77 w8th=H ++ [⟨77,s,asks (newH w4th) w8th⟩] :=
 ask_app (a:=⟨77,s,newH w4th⟩) h hn hs (by decide) rfl hv_asks
theorem settle8 (hn:hasH H 77=false):settleTE (H ++ [⟨77,s,asks (newH w4th) w8th⟩]) 77=0/\settleTH (H ++ [⟨77,s,asks (newH w4th) w8th⟩]) 77=H ++ [⟨77,s,newH w8th⟩]:=by
 have hg:=get_app hn ⟨77,s,asks (newH w4th) w8th⟩ rfl
 have ha:=settle_some hg
 exact ⟨ha.1.trans (if_pos rfl),ha.2.trans ((if_pos rfl).trans (set_app hn _ rfl _))⟩
theorem free8 (hn:hasH H 77=false):freeTE (H ++ [⟨77,s,newH w8th⟩]) 77=0/\freeTH (H ++ [⟨77,s,newH w8th⟩]) 77=H:=by
 have ha:=free_yes (has_app H ⟨77,s,newH w8th⟩)
 exact ⟨ha.1,ha.2.trans (del_app hn _ rfl)⟩
theorem get_no (hn:hasH H 77=false):getH H 77=none:=by
 cases e:getH H 77 with
 | none=>rfl
 | some x =>
  have h1:=getH_mem e
  rw [hasH_iff.2 ⟨x,h1⟩] at hn
  cases hn
theorem held_szM (h:TH W M sv al H m) (hm:m<=100) {s:Int} (hs:inR sv.length s):Sz 201 (heldH sv H s):=by
 obtain ⟨_,ls,_,h2,_⟩:=h
 have hG:=h2.good (by omega:m<=500) hs
 have h1:=(h2.ls s hs).length_eq
 have h3:=sub_len (sv:=sv) (H:=H) s
 have h4:=h2.len
 rw [<-h2.held hs]
 exact XFits.sz_mono (held_szN hG) (by omega)
theorem plus8 (h:TH W M sv al H m) (hm:m<=100) (h':TH W' M sv al (H ++ [⟨77,s,newH w8th⟩]) m) (hs:inR sv.length s) {y:Int} (hy:y∈pathS sv s) :
  ∃r1 r2,(∃k,regattaref03_Plus.f k (L (heldH sv H y)).1 (L (heldH sv H y)).2 (limbs 1) (limbs 8)=some (r1,r2))
   ∧ ∃k,regattaref03_Cmp.f k (L (heldH sv (H ++ [⟨77,s,newH w8th⟩]) y)).1 (L (heldH sv (H ++ [⟨77,s,newH w8th⟩]) y)).2 r1 r2=some 0:=by
 have hG:GoodSv sv:=by obtain ⟨_,_,_,_,h3⟩:=h;exact h3
 have hyR:=(path_in hG s hs y hy).1
 have s1:=held_szM h hm hyR
 have s2:=held_szM h' hm hyR
 have f1:F 1 1:=F.one (by omega)
 have f8:F 1 8:=F.one (by omega)
 have he:=held_join (sv:=sv) (H:=H) (newH w8th) hy
 rw [show wt (hv (newH w8th))=mkRat ((1:Nat):Int) 8 from rfl] at he
 generalize heldH sv (H ++ [⟨77,s,newH w8th⟩]) y=q at s2 he ⊢
 generalize heldH sv H y=p at s1 he ⊢
 refine ⟨_,_,(r3plus_t 201 1 _ _ 1 8 s1.2.1 s1.2.2 f1 f8 (by omega)).get, ?_⟩
 have h2:=r3cmp_t 201 (201+1+1) q.num.natAbs q.den (p.num.natAbs*8+1*p.den) (p.den*8) s2.2.1 s2.2.2 (F_cross s1.2.1 s1.2.2 f1 f8) ((s1.2.2.mul f8).mono (by omega)) (by omega) q.den_pos (Nat.mul_pos p.den_pos (by decide))
 rw [<-mk_add _ _ _ _ p.den_pos (by decide),self_mk p s1.1,self_mk q s2.1, <-he,cmpR_self] at h2
 exact h2.get
theorem cell_kt (h:TH W M sv al H m) (hk:Kt M sv.length W W') {a:Addr} {x:Int} (hc:W.cell? a=some (.int .i64 x)):W'.cell? a=some (.int .i64 x):=by
 have hlt:a.block<W.heap.size:=by
  unfold World.cell? at hc
  cases e:W.heap[a.block]? with
  | none=>rw [e] at hc;cases hc
  | some o=>exact (Array.getElem?_eq_some_iff.1 e).1
 have hnw:¬ M.wr sv.length a.block:=by
  obtain ⟨_,_,h1,_,_⟩:=h
  rintro (e|⟨s,hs,e|e⟩)
  ·obtain ⟨es,c,e2⟩:=h1.map.obj
   unfold World.cell? at hc
   rw [e,e2] at hc
   simp at hc
  ·obtain ⟨p,q,u,v,e1,e2,e3⟩:=(h1.led s hs).cells
   obtain ⟨A,c,A',c',rfl,rfl⟩:=e2.shape
   obtain ⟨B,d,B',d',rfl,rfl⟩:=e3.shape
   unfold World.cell? at hc
   rw [e,show W.heap[_]? = _ from e1] at hc
   simp only at hc
   split at hc
   ·cases hc
   ·match ho:a.off,hc with
    | 0,hc=>simp at hc
    | 1,hc=>simp at hc
    | 2,hc=>simp at hc
    | 3,hc=>simp at hc
    | 4,hc=>simp at hc
    | n+5,hc=>simp at hc
  ·obtain ⟨es,c,e2⟩:=(h1.led s hs).map.obj
   unfold World.cell? at hc
   rw [e,e2] at hc
   simp at hc
 rw [<-hc]
 exact cell_blk (hk.same _ hlt hnw)
theorem cell_lt {W:World} {a:Addr} {v:Value} (hc:W.cell? a=some v):a.block<W.heap.size:=by
 unfold World.cell? at hc
 cases e:W.heap[a.block]? with
 | none=>rw [e] at hc;cases hc
 | some o=>exact (Array.getElem?_eq_some_iff.1 e).1
def PRow (W:World) (ad:Addr) (p:List Int):Prop:=∀i:Nat,i<p.length->W.cell? (ad.add i)=some (.int .i64 (p.getD i 0))
theorem PRow.kt {ad:Addr} {p:List Int} (hP:PRow W ad p) (h:TH W M sv al H m) (hk:Kt M sv.length W W'):PRow W' ad p:=fun i hi=>cell_kt h hk (hP i hi)
theorem PRow.below {ad:Addr} {p:List Int} (hP:PRow W ad p) (hb:Below W.heap.size W W'):PRow W' ad p:=fun i hi=>by
 have h1:=hP i hi
 rw [<-h1]
 exact cell_blk (hb.block _ (cell_lt h1))
theorem PRow.of {A:Option Addr} {p:List Int} (h:Kd.C (Kd.int .i64) W A p.length p) (hp:0<p.length):∃ad,A=some ad/\PRow W ad p:=by
 obtain ⟨ad,e,h1⟩:=h.2.2 hp
 refine ⟨ad,e,fun i hi=>?_⟩
 obtain ⟨ad',c,e',_,hK,hc⟩:=Kd.C_get h 0 (i:Int) (by omega) (by omega)
 obtain rfl:ad=ad':=Option.some.inj (e.symm.trans e')
 have hK':c = [.int .i64 (p.getD (i:Int).toNat 0)]:=hK
 subst hK'
 have h2:=hc 0 _ rfl
 have e1:(i:Int).toNat*(Kd.int .i64).sz+0=i:=by show (i:Int).toNat*1+0=i;omega
 rw [e1,Int.toNat_natCast] at h2
 exact h2
theorem tpathH (h:TH W M sv al H m) (s:Int) :
  Calls Try.prog 43 #[.pointer (some ⟨M.t,0,none⟩),.int .i64 s] W fun e w'=>∃A c,e=.returned (.slice A (XCollect.pathT sv s).length c)/\(XCollect.pathT sv s).length<=c/\Kd.C (Kd.int .i64) w' A (XCollect.pathT sv s).length (XCollect.pathT sv s)/\Below W.heap.size W w':=by
 obtain ⟨_,_,h1,_,h3⟩:=h
 exact XCollect.Path_calls h1 h3 s
theorem path_of {s:Int} (hs:inR sv.length s):XCollect.pathT sv s=pathS sv s:=by
 unfold XCollect.pathT
 rw [if_pos (there_in.2 hs)]
end
end Go.Proofs.Ytfldklimlcnnnaa.QBack
end

section
namespace Go.Proofs.Ytfldklimlcnnnaa.PureQuotaBack
open Go.RowKit Go.Shelf Go.Proofs.Ytfldklimlcnnnaa.PHq Go.Proofs.YtfldklimlcnnnaaW.PrintWords Go.Proofs.YtfldklimlcnnnaaW.PrintLast Go.Proofs.YtfldklimlcnnnaaW.PrintMore Go.Proofs.Ytfldklimlcnnnaa.MWords
open Go.Proofs.Ytfldklimlcnnnaa.MNat Go.Proofs.Ytfldklimlcnnnaa.QNat Go.Proofs.Ytfldklimlcnnnaa.QEv Go.Proofs.Ytfldklimlcnnnaa.QRatio Go.Proofs.Ytfldklimlcnnnaa.XRV Go.Proofs.Ytfldklimlcnnnaa.XHold Go.Proofs.Ytfldklimlcnnnaa.XWts Go.Proofs.Ytfldklimlcnnnaa.XLed Go.Proofs.Ytfldklimlcnnnaa.XNew Go.Proofs.Ytfldklimlcnnnaa.XFits Go.Proofs.Ytfldklimlcnnnaa.XJoin Go.Proofs.Ytfldklimlcnnnaa.QHold Go.Proofs.Ytfldklimlcnnnaa.XOp Go.Proofs.Ytfldklimlcnnnaa.XTree Go.Proofs.Ytfldklimlcnnnaa.QTree Go.Proofs.Ytfldklimlcnnnaa.XOf Go.Proofs.Ytfldklimlcnnnaa.QTr Go.Proofs.Ytfldklimlcnnnaa.XTHeld Go.Proofs.Ytfldklimlcnnnaa.XTJoin Go.Proofs.Ytfldklimlcnnnaa.XTAsk Go.Proofs.Ytfldklimlcnnnaa.XTSettle Go.Proofs.Ytfldklimlcnnnaa.QTChk Go.Proofs.Ytfldklimlcnnnaa.XTNew2 Go.Proofs.Ytfldklimlcnnnaa.XTMade Go.Proofs.Ytfldklimlcnnnaa.QServ Go.Proofs.Ytfldklimlcnnnaa.XQAwake Go.Proofs.Ytfldklimlcnnnaa.XTKt Go.Proofs.Ytfldklimlcnnnaa.XQOp Go.Proofs.Ytfldklimlcnnnaa.XHad Go.Proofs.Ytfldklimlcnnnaa.QBack
def qback.T26:Bool × List (List Nat × List Nat):=(true, [([], []),([], []),([0,1], [0,1]),([2], [2]),([3], [3]),([4], [4]),([5], [5]),([], []),([6,7,7], [6,7]),([], []),([9,8,8,0,1,2,3,4,5,6,7,8,9], [8,9])])
def qback.B26:List Nat:=[0,0,3,7,15,31,63,0,255,0,1023]
theorem qback.tab26:rtab .any (opsOf Try.f14 26)=qback.T26:=by kernel_rfl
theorem qback.bits26:waitsOk qback.T26.2 qback.B26=true:=by kernel_rfl
set_option maxRecDepth 100000 in
set_option maxHeartbeats 8000000 in
theorem back_law (A0 A1 A2:Option Addr) (c0 c1 c2:Nat) (ps:List Int) (qs:List S39) (a b:Int) (xs:List OpW) (y0 y1 y2 y3 y4:Int) (w:World) (h0:Kd.C (Kd.int .i64) w A0 ps.length ps) (l0:ps.length<=c0) (h1:Kd.C k39 w A1 qs.length qs) (l1:qs.length<=c1) (h2:Kd.C kOpW w A2 xs.length xs) (l2:xs.length<=c2) :
  Calls Try.prog 14 #[.agg #[.slice A0 ps.length c0,.slice A1 qs.length c1,.int .i64 a,.int .i64 b],.slice A2 xs.length c2,.agg #[.int .i64 y0,.int .i64 y1,.int .i64 y2,.int .i64 y3,.int .i64 y4]] w fun e w'=>e=.returned (.bool true)/\Below w.heap.size w w':=by
 obtain ⟨sv,hsv,hS,hl8⟩:=servers_f ps qs a b
 obtain ⟨n,d,hn,hd1,hd2,hall⟩:=all_f ps qs a b
 obtain ⟨gs,hgs⟩:∃gs,gs=w.heap.size:=⟨_,rfl⟩
 obtain ⟨gp,hgp⟩:∃gp,gp=w.heap.size+1:=⟨_,rfl⟩
 obtain ⟨w0,hw0⟩:∃w0,w0=(w.alloc (.cells #[.slice A0 ps.length c0,.slice A1 qs.length c1,.int .i64 a,.int .i64 b] 64)).alloc (.cells #[.int .i64 y0,.int .i64 y1,.int .i64 y2,.int .i64 y3,.int .i64 y4] 83):=⟨_,rfl⟩
 have hb0:Below w.heap.size w w0:=by rw [hw0];exact below_alloc (below_alloc (Below.refl _ _) _) _
 have HB0:=Aside0.mk hb0
 have HM0:=Aside0.mk (show MBlk w0 gs 64 #[.slice A0 ps.length c0,.slice A1 qs.length c1,.int .i64 a,.int .i64 b] by rw [hw0,hgs];exact mblk_alloc (mblk_new _ _ _) _)
 have HP0:=Aside0.mk (show MBlk w0 gp 83 #[.int .i64 y0,.int .i64 y1,.int .i64 y2,.int .i64 y3,.int .i64 y4] by
  rw [hw0,hgp]
  have:=mblk_new (w.alloc (.cells #[.slice A0 ps.length c0,.slice A1 qs.length c1,.int .i64 a,.int .i64 b] 64)) 83 #[.int .i64 y0,.int .i64 y1,.int .i64 y2,.int .i64 y3,.int .i64 y4]
  rwa [World.size_alloc] at this)
 have HQ:=Aside0.mk (And.intro (And.intro h0 l0) (And.intro h1 l1))
 have HX:=Aside0.mk (And.intro h2 l2)
 have HSV:=Aside0.mk (And.intro hsv (And.intro hS hl8))
 have HAL:=Aside0.mk (And.intro hall (And.intro hn (And.intro hd1 hd2)))
 clear hsv hS hl8 hall hn hd1 hd2 h0 l0 h1 l1 h2 l2 hb0
 go_enter Try.func14,Try.ntmps14
 go_upto_region 1 with fail
 rw [<-hw0, <-hgp, <-hgs]
 have HGS:=Aside0.mk hgs
 clear hw0 hgs hgp
 go_upto_region 2 with (go_at_call 39;refine (awake_calls _).mono ?_;rintro e w1 ⟨rfl,hb⟩;have HB1:=Aside0.mk (below_step HB0.out hb);have HM1:=Aside0.mk ((hb.block _ (mblk_lt HM0.out)).trans HM0.out);have HP1:=Aside0.mk ((hb.block _ (mblk_lt HP0.out)).trans HP0.out);clear hb)
 have a0:w1.cell? ⟨gs,0,none⟩=some (.slice A0 ps.length c0):=(mblk_cell HM1.out 0).trans rfl
 have a1:w1.cell? ⟨gs,1,none⟩=some (.slice A1 qs.length c1):=(mblk_cell HM1.out 1).trans rfl
 have a2:w1.cell? ⟨gs,2,none⟩=some (.int .i64 a):=(mblk_cell HM1.out 2).trans rfl
 have a3:w1.cell? ⟨gs,3,none⟩=some (.int .i64 b):=(mblk_cell HM1.out 3).trans rfl
 clear HM0 HB0 HP0
 go_wp2_with fail
 refine (regattalaw13_Spec_servers.calls 20 A0 c0 ps A1 c1 qs a b sv _ (Kd.C_below HQ.out.1.1 HB1.out) HQ.out.1.2 (Kd.C_below HQ.out.2.1 HB1.out) HQ.out.2.2 HSV.out.1).mono ?_
 rintro e w2 ⟨v,rfl,hR,hb⟩
 obtain ⟨A,c,rfl⟩:=Kd.R_slice hR
 have HL2:=Aside0.mk (Kd.R_lower hR HB1.out.size)
 have HB2:=Aside0.mk (below_step HB1.out hb)
 have HM2:=Aside0.mk ((hb.block _ (mblk_lt HM1.out)).trans HM1.out)
 have HP2:=Aside0.mk (show MBlk w2 gp 83 #[.int .i64 y0,.int .i64 y1,.int .i64 y2,.int .i64 y3,.int .i64 y4] from (hb.block _ (mblk_lt HP1.out)).trans HP1.out)
 clear hR hb a0 a1 a2 a3 HB1 HM1 HP1
 have a0:w2.cell? ⟨gs,0,none⟩=some (.slice A0 ps.length c0):=(mblk_cell HM2.out 0).trans rfl
 have a1:w2.cell? ⟨gs,1,none⟩=some (.slice A1 qs.length c1):=(mblk_cell HM2.out 1).trans rfl
 have a2:w2.cell? ⟨gs,2,none⟩=some (.int .i64 a):=(mblk_cell HM2.out 2).trans rfl
 have a3:w2.cell? ⟨gs,3,none⟩=some (.int .i64 b):=(mblk_cell HM2.out 3).trans rfl
 go_wp2_with fail
 refine (regattalaw13_Spec_all.calls 5 A0 c0 ps A1 c1 qs a b _ _ _ (Kd.C_below HQ.out.1.1 HB2.out) HQ.out.1.2 (Kd.C_below HQ.out.2.1 HB2.out) HQ.out.2.2 HAL.out.1).mono ?_
 rintro e w3 ⟨v0,v1,rfl,h1,h2,hb⟩
 have HV3:=Aside0.mk (RV.ofR h1 h2)
 obtain ⟨P1,p1,P2,p2,rfl,rfl⟩:=HV3.out.shape
 have HB3:=Aside0.mk (below_step HB2.out hb)
 have HL3:=Aside0.mk (Kd.R_below HL2.out hb)
 have HM3:=Aside0.mk ((hb.block _ (mblk_lt HM2.out)).trans HM2.out)
 have HP3:=Aside0.mk (show MBlk w3 gp 83 #[.int .i64 y0,.int .i64 y1,.int .i64 y2,.int .i64 y3,.int .i64 y4] from (hb.block _ (mblk_lt HP2.out)).trans HP2.out)
 clear h1 h2 hb a0 a1 a2 a3 HB2 HM2 HP2 HL2
 go_wp2_with fail
 have hnew:=new_tree (.slice P1 (limbs n).length p1) (.slice P2 (limbs d).length p2) n d 2 A c sv w3 HV3.out (show n<4294967296 ^ 2 by have:=HAL.out;omega) (show d<4294967296 ^ 2 by have:=HAL.out;omega) (by decide) (by have:=HAL.out;omega) (Kd.R_reads' HL3.out).2.2 (Kd.R_reads' HL3.out).2.1 HSV.out.2.1
 refine hnew.mono ?_
 clear hnew
 rintro e w4 ⟨M,rfl,hT,hwr,hb⟩
 have HT4:=Aside0.mk hT
 have HWR:=Aside0.mk (show ∀k,M.wr sv.length k->w.heap.size<=k from fun k hk=>Nat.le_trans HB3.out.size (hwr k hk))
 have HB4:=Aside0.mk (below_step HB3.out hb)
 have HL4:=Aside0.mk (Kd.R_below HL3.out hb)
 have HM4:=Aside0.mk ((hb.block _ (mblk_lt HM3.out)).trans HM3.out)
 have HP4:=Aside0.mk (show MBlk w4 gp 83 #[.int .i64 y0,.int .i64 y1,.int .i64 y2,.int .i64 y3,.int .i64 y4] from (hb.block _ (mblk_lt HP3.out)).trans HP3.out)
 clear hT hwr hb HB3 HL3 HM3 HV3 HM4 HP3
 obtain ⟨al,hal⟩:∃al,al=alT sv (mkRat (n:Int) d):=⟨_,rfl⟩
 rw [<-hal] at HT4
 clear hal
 go_upto_block 0 with fail
 go_cut [10] (fun v10 wc=>∃ (u:Value) (H:List Hol) (m:Nat),v10=u/\Aside0 (m<=20)/\Aside0 (TH wc M sv al H m)/\Aside0 (∀x∈H,x.id<=15)/\Aside0 (MBlk wc gp 83 #[.int .i64 y0,.int .i64 y1,.int .i64 y2,.int .i64 y3,.int .i64 y4])/\Aside0 (Below w.heap.size w wc))
 case first =>
  go_wp2_with fail
  go_loopw [10] (fun v10 wr=>∃ (i:Nat) (H:List Hol),v10=.int .i64 i/\i<=20/\i<=xs.length/\Aside0 (TH wr M sv al H i)/\Aside0 (∀x∈H,x.id<=15)/\Aside0 (MBlk wr gp 83 #[.int .i64 y0,.int .i64 y1,.int .i64 y2,.int .i64 y3,.int .i64 y4])/\Aside0 (Below w.heap.size w wr)) (fun v10 _=>20-(intOf v10).toNat)
  case atStart=>exact ⟨0, [],rfl,by omega,by omega,HT4,⟨fun x hx=>by simp at hx⟩,HP4,HB4⟩
  case round =>
   clear HT4 HP4 HB4
   obtain ⟨i,H,rfl,hi,hix,HT,HID,HP,HB⟩:=hrel
   by_cases hlt:i<xs.length/\i<20
   case neg =>
    have HJ:=Aside0.mk (And.intro hi hix)
    by_cases h1:i<xs.length
    ·have dd:decide ((i:Int)<(xs.length:Int))=true:=decide_eq_true (by omega)
     have dd':decide ((i:Int)<20)=false:=decide_eq_false (by omega)
     clear hlt hi hix
     go_wp2_with fail
     go_meet
     case rel=>exact ⟨_,H,i,rfl,⟨HJ.out.1⟩,HT,HID,HP,HB⟩
    ·have dd:decide ((i:Int)<(xs.length:Int))=false:=decide_eq_false (by omega)
     clear hlt hi hix
     go_wp2_with fail
     go_meet
     case rel=>exact ⟨_,H,i,rfl,⟨HJ.out.1⟩,HT,HID,HP,HB⟩
   obtain ⟨hlx,hl20⟩:=hlt
   have dd1:decide ((i:Int)<(xs.length:Int))=true:=decide_eq_true (by omega)
   have dd2:decide ((i:Int)<20)=true:=decide_eq_true (by omega)
   obtain ⟨ad,e,a0,a1,a2,a3,a4⟩:=at_OpW (Kd.C_below HX.out.1 HB.out) i hlx
   have HXC:=Aside0.mk HX.out.2
   subst e
   generalize xs.getD i opwZ=o at a0 a1 a2 a3 a4
   obtain ⟨o0,o1,o2,o3,o4⟩:=o
   simp only at a0 a1 a2 a3 a4
   have f1:(0:Int)<=(i:Int):=by omega
   go_upto_region 10 with fail
   obtain ⟨go,hgo⟩:∃go,go=wr.heap.size:=⟨_,rfl⟩
   obtain ⟨w6,hw6⟩:∃w6,w6=wr.alloc (.cells #[.int .i64 o0,.int .i64 o1,.int .i64 o2,.int .i64 o3,.int .i64 o4] 83):=⟨_,rfl⟩
   have hb6:Below wr.heap.size wr w6:=by rw [hw6];exact below_alloc (Below.refl _ _) _
   have HX6:=Aside0.mk (show MBlk w6 go 83 #[.int .i64 o0,.int .i64 o1,.int .i64 o2,.int .i64 o3,.int .i64 o4] by rw [hw6,hgo];exact mblk_new _ _ _)
   have HT6:=Aside0.mk (HT.out.below hb6)
   have HB6:=Aside0.mk (below_step HB.out hb6)
   have HP6:=Aside0.mk (show MBlk w6 gp 83 #[.int .i64 y0,.int .i64 y1,.int .i64 y2,.int .i64 y3,.int .i64 y4] from (hb6.block _ (mblk_lt HP.out)).trans HP.out)
   rw [<-hw6, <-hgo]
   clear hw6 hgo hb6 HT HB HP a0 a1 a2 a3 a4 f1 dd1 dd2
   obtain ⟨z,hz,z15⟩:=and_mask_nat 4 (by omega) o1 15 rfl
   have HZ:=Aside0.mk (And.intro (wfI_of (x:=(z:Int)) (by omega) (by omega)) z15)
   have HIX:=Aside0.mk (And.intro hlx hl20)
   obtain ⟨X,hX⟩:∃X,X=madeW o3 o4:=⟨_,rfl⟩
   have HMW:=Aside0.mk hX
   clear hX z15 hi hix hlx hl20
   have oc0:w6.cell? ⟨go,0,none⟩=some (.int .i64 o0):=(mblk_cell HX6.out 0).trans rfl
   have oc1:w6.cell? ⟨go,1,none⟩=some (.int .i64 o1):=(mblk_cell HX6.out 1).trans rfl
   have oc2:w6.cell? ⟨go,2,none⟩=some (.int .i64 o2):=(mblk_cell HX6.out 2).trans rfl
   have oc3:w6.cell? ⟨go,3,none⟩=some (.int .i64 o3):=(mblk_cell HX6.out 3).trans rfl
   have oc4:w6.cell? ⟨go,4,none⟩=some (.int .i64 o4):=(mblk_cell HX6.out 4).trans rfl
   go_region_held3 (fun w'=>w'.cell? ⟨go,0,none⟩=some (.int .i64 o0)/\w'.cell? ⟨go,1,none⟩=some (.int .i64 o1)/\w'.cell? ⟨go,2,none⟩=some (.int .i64 o2)/\w'.cell? ⟨go,3,none⟩=some (.int .i64 o3)/\w'.cell? ⟨go,4,none⟩=some (.int .i64 o4))
    (first|(exact ⟨oc0,oc1,oc2,oc3,oc4⟩)|go_keep)
    (first
     | (go_at_call 48;refine (weight_calls o0 o1 o2 o3 o4 _).mono ?_;rw [<-HMW.out];rintro e w11 ⟨rfl,hb⟩;have hbb:Below w6.heap.size w6 w11:=below_step (below_drew (Below.refl _ _)) hb;have HB11:=Aside0.mk hbb;have HT11:=Aside0.mk (HT6.out.below hbb);have hx:MBlk w11 go 83 _:=(hbb.block _ (mblk_lt HX6.out)).trans HX6.out;have HX11:=Aside0.mk hx;have oc0:w11.cell? ⟨go,0,none⟩=some (.int .i64 o0):=(mblk_cell hx 0).trans rfl;have oc1:w11.cell? ⟨go,1,none⟩=some (.int .i64 o1):=(mblk_cell hx 1).trans rfl;have oc2:w11.cell? ⟨go,2,none⟩=some (.int .i64 o2):=(mblk_cell hx 2).trans rfl;have oc3:w11.cell? ⟨go,3,none⟩=some (.int .i64 o3):=(mblk_cell hx 3).trans rfl;have oc4:w11.cell? ⟨go,4,none⟩=some (.int .i64 o4):=(mblk_cell hx 4).trans rfl;clear hb hbb hx)
     | (go_at_call 45;refine (tjoin_calls HT11.out (by have:=HIX.out;omega) (z:Int) _ X HZ.out.1).mono ?_;rintro e w12 ⟨rfl,hl,hk⟩;have hx:MBlk w12 go 83 _:=mblk_kt HT11.out hk HX11.out (by decide);have HT12:=Aside0.mk hl;have HK12:=Aside0.mk ((Kt.of HB11.out).trans hk);have oc0:w12.cell? ⟨go,0,none⟩=some (.int .i64 o0):=(mblk_cell hx 0).trans rfl;have oc1:w12.cell? ⟨go,1,none⟩=some (.int .i64 o1):=(mblk_cell hx 1).trans rfl;have oc2:w12.cell? ⟨go,2,none⟩=some (.int .i64 o2):=(mblk_cell hx 2).trans rfl;have oc3:w12.cell? ⟨go,3,none⟩=some (.int .i64 o3):=(mblk_cell hx 3).trans rfl;have oc4:w12.cell? ⟨go,4,none⟩=some (.int .i64 o4):=(mblk_cell hx 4).trans rfl;clear hl hk hx))
   all_goals
    have HP12:=Aside0.mk (mblk_kt HT6.out HK12.out HP6.out (by decide))
    have HB12:=Aside0.mk (below_kt HB6.out HWR.out HK12.out)
    have HE1:Aside0 (wrap64 ((i:Int)+1)=((i+1:Nat):Int)):=⟨by
     have h1:=HIX.out
     rw [w64 (by omega) (by omega)]
     rfl⟩
    clear oc0 oc1 oc2 oc3 oc4 hz
    go_wp2_with fail
    rw [HE1.out]
    refine ⟨⟨i+1,_,rfl,by have:=HIX.out;omega,by have:=HIX.out;omega,HT12,⟨ids_join HID.out HZ.out.2⟩,HP12,HB12⟩, ?_⟩
    have h1:=HIX.out
    simp only [intOf]
    omega
 case rest =>
  clear HT4 HP4 HB4
  obtain ⟨u,H,m,rfl,HMM,HT,HID,HP,HB⟩:=hcut
  obtain ⟨w4,hw4⟩:∃w4,w4=wc:=⟨_,rfl⟩
  subst hw4
  obtain ⟨bh,hbh⟩:∃bh,bh=w4.heap.size:=⟨_,rfl⟩
  obtain ⟨w5,hw5⟩:∃w5,w5=w4.alloc (.cells #[.slice none 0 0,.slice none 0 0,.slice none 0 0,.slice none 0 0,.slice none 0 0,.slice none 0 0,.slice none 0 0,.slice none 0 0,.slice none 0 0,.slice none 0 0,.slice none 0 0,.slice none 0 0,.slice none 0 0,.slice none 0 0,.slice none 0 0,.slice none 0 0,.slice none 0 0,.slice none 0 0] 88):=⟨_,rfl⟩
  have hb5:Below w4.heap.size w4 w5:=by rw [hw5];exact below_alloc (Below.refl _ _) _
  have HH5:=Aside0.mk (show Had w5 bh 88 (List.replicate 9 (.slice none 0 0,.slice none 0 0)) by rw [hw5,hbh];exact mblk_new _ _ _)
  have HT5:=Aside0.mk (HT.out.below hb5)
  have HB5:=Aside0.mk (below_step HB.out hb5)
  have HP5:=Aside0.mk (show MBlk w5 gp 83 #[.int .i64 y0,.int .i64 y1,.int .i64 y2,.int .i64 y3,.int .i64 y4] from (hb5.block _ (mblk_lt HP.out)).trans HP.out)
  have HBH:=Aside0.mk (show w.heap.size<=bh by rw [hbh];exact HB.out.size)
  go_upto_region 12 with fail
  rw [<-hw5, <-hbh]
  clear hw5 hbh hb5 HT HB HP
  have HN5:Aside0 (NoU (List.replicate 9 ((.slice none 0 0,.slice none 0 0):Value × Value))):=⟨fun p hp=>by rw [List.eq_of_mem_replicate hp];exact ⟨fun n e=>(by cases e),fun n e=>(by cases e)⟩⟩
  go_upto_block 2 with fail
  go_cut [13] (fun v13 wc=>∃ (u:Value) (vs:List (Value × Value)),v13=u/\Aside0 (TH wc M sv al H m)/\Aside0 (Had wc bh 88 vs)/\Aside0 (Hads wc sv H (sv.length+1) vs)/\Aside0 (MBlk wc gp 83 #[.int .i64 y0,.int .i64 y1,.int .i64 y2,.int .i64 y3,.int .i64 y4])/\Aside0 (Below w.heap.size w wc))
  case first =>
   go_wp2_with fail
   go_loopw [13] (fun v13 wq=>∃ (k:Nat) (vs:List (Value × Value)),v13=.int .i64 ((k:Int)-1)/\k<=sv.length+1/\Aside0 (TH wq M sv al H m)/\Aside0 (Had wq bh 88 vs)/\Aside0 (Hads wq sv H k vs)/\Aside0 (MBlk wq gp 83 #[.int .i64 y0,.int .i64 y1,.int .i64 y2,.int .i64 y3,.int .i64 y4])/\Aside0 (Below w.heap.size w wq)) (fun v _=>(sv.length-intOf v).toNat)
   case atStart=>exact ⟨0,_,rfl,by omega,HT5,HH5,⟨⟨rfl,HN5.out,fun j hj=>absurd hj (by omega)⟩⟩,HP5,HB5⟩
   case round =>
    clear HT5 HH5 HN5 HP5 HB5
    obtain ⟨k,vs,rfl,hk,HT,HH,HHS,HP,HB⟩:=hrel
    by_cases hlt:k<sv.length+1
    case neg =>
     have hke:k=sv.length+1:=by omega
     subst hke
     have d1:decide (((sv.length+1:Nat):Int)-1<(sv.length:Int))=false:=decide_eq_false (by omega)
     clear hlt hk
     go_wp2_with fail
     go_meet
     case rel=>exact ⟨_,vs,rfl,HT,HH,HHS,HP,HB⟩
    case pos =>
     have hl8:sv.length<=8:=HSV.out.2.2
     obtain ⟨s,hs⟩:∃s,s=(k:Int)-1:=⟨_,rfl⟩
     have hsi:inR sv.length s:=⟨by omega,by omega⟩
     have d1:decide (s<(sv.length:Int))=true:=decide_eq_true (by omega)
     have g1:(s+1:Int)=(k:Int):=by omega
     have g2 : -9223372036854775808<=(k:Int)/\(k:Int)<=9223372036854775807:=by omega
     have f2:(0:Int)<=(k:Int):=by omega
     have f3:(k:Int)<9:=by omega
     have f5:(k:Int)<=8:=by omega
     have f6:k<9:=by omega
     have f1:wrap64 (s+1)=(k:Int):=by rw [g1];exact w64 g2.1 g2.2
     have f1':IntKind.i64.wrap (s+1)=(k:Int):=by rw [i64_w];exact f1
     obtain ⟨Q,hQ⟩:∃Q:List Int × List Int,Q=L (heldH sv H s):=⟨_,rfl⟩
     have HHD:=Aside0.mk (show L (heldA sv H s)=Q by rw [heldA_in hsi,hQ])
     have HS1:=Aside0.mk (And.intro hs (And.intro hQ hlt))
     rw [<-hs] at ⊢
     clear hs hQ hsi g1 g2 hlt hk hl8
     go_upto_region 14 with (go_at_call 46;refine (theldH HT.out (by have:=HMM.out;omega) s).mono ?_;rw [HHD.out];rintro e w20 ⟨t,t',rfl,h,hb⟩;obtain ⟨R1,r1,R2,r2,rfl,rfl⟩:=h.shape;have HR20:=Aside0.mk h;have HH20:=Aside0.mk (show Had w20 bh 88 vs from (hb.block _ (mblk_lt HH.out)).trans HH.out);have z1:=mblk_frozen HH20.out (k*2);have z2:=mblk_frozen HH20.out (k*2+1);have z3:=Had.at0 HH20.out k (by rw [HHS.out.len];exact f6);have z4:=Had.at1 HH20.out k (by rw [HHS.out.len];exact f6);have HT20:=Aside0.mk (HT.out.below hb);have HP20:=Aside0.mk (show MBlk w20 gp 83 _ from (hb.block _ (mblk_lt HP.out)).trans HP.out);have HB20:=Aside0.mk (below_step HB.out hb);have HS20:=Aside0.mk (show Hads w20 sv H k vs from HHS.out.imp (fun r=>r.below hb));clear h hb)
     have hnl:=Had.noLimb HH20.out HHS.out.nu
     have HH21:=Aside0.mk (HH20.out.put k (by rw [HHS.out.len];exact f6) (.slice R1 Q.1.length r1) (.slice R2 Q.2.length r2))
     have HT21:=Aside0.mk (TH_far HT20.out HH20.out (by decide) (by decide) (by decide) (by decide) hnl (two_far (i:=k*2) (j:=k*2+1) (u:=.slice R1 Q.1.length r1) (v:=.slice R2 Q.2.length r2)))
     have HP21:=Aside0.mk (mblk_other HP20.out HH20.out (by decide) (two_far (i:=k*2) (j:=k*2+1) (u:=.slice R1 Q.1.length r1) (v:=.slice R2 Q.2.length r2)))
     have HB21:=Aside0.mk (below_two HB20.out HBH.out (k*2) (k*2+1) (.slice R1 Q.1.length r1) (.slice R2 Q.2.length r2))
     have HS21:=Aside0.mk (((HS20.out.next HS1.out.1 f6 (by rw [<-HS1.out.2.1];exact HR20.out)).imp (fun r=>RV_far r hnl (two_far (i:=k*2) (j:=k*2+1) (u:=.slice R1 Q.1.length r1) (v:=.slice R2 Q.2.length r2)))))
     generalize hwn:(w20.setCell ⟨bh,k*2,none⟩ (.slice R1 Q.1.length r1)).setCell ⟨bh,k*2+1,none⟩ (.slice R2 Q.2.length r2)=wn at HH21 HT21 HP21 HB21 HS21 ⊢
     have HG5:Aside0 (wrap64 (s+1)=((k+1:Nat):Int)-1):=⟨by rw [f1];omega⟩
     clear hwn z1 z2 z3 z4 hnl HT HH HHS HP HB HH20 HR20 HT20 HP20 HB20 HS20 d1 f1 f1' f2 f3 f5
     go_wp2_with fail
     rw [HG5.out]
     refine ⟨⟨k+1,_,rfl,by have:=HS1.out.2.2;omega,HT21,HH21,HS21,HP21,HB21⟩, ?_⟩
     have h1:=HS1.out
     simp only [intOf]
     omega
  case rest =>
   clear HT5 HH5 HN5 HP5 HB5
   obtain ⟨u,vs,rfl,HT,HH,HHS,HP,HB⟩:=hcut
   obtain ⟨w7,hw7⟩:∃w7,w7=wc:=⟨_,rfl⟩
   subst hw7
   go_upto_region 16 with fail
   go_cut [14] (fun v14 wc=>∃s:Int,v14=.int .i64 s/\wc=w7)
   case first =>
    have z:w7.cell? ⟨gp,2,none⟩=some (.int .i64 y2):=(mblk_cell HP.out 2).trans rfl
    go_wp2_with fail
    go_meet
    case rel=>exact ⟨_,rfl,rfl⟩
   case rest =>
    obtain ⟨s,rfl,hwc⟩:=hcut
    subst hwc
    have HWF:=Aside0.mk (wfI_of (x:=(77:Int)) (by omega) (by omega))
    have HNO:=Aside0.mk (no77 HID.out)
    go_upto_region 18 with (go_at_call 43;refine (tpathH HT.out s).mono ?_;rintro e w8 ⟨Ap,cp,rfl,hl,hC,hb⟩;have HC8:=Aside0.mk (And.intro hl hC);have HT8:=Aside0.mk (HT.out.below hb);have HH8:=Aside0.mk (show Had w8 bh 88 vs from (hb.block _ (mblk_lt HH.out)).trans HH.out);have HS8:=Aside0.mk (HHS.out.imp (fun r=>r.below hb));have HB8:=Aside0.mk (below_step HB.out hb);clear hl hC hb)
    clear HT HH HHS HP HB
    obtain ⟨p,hp⟩:∃p,p=XCollect.pathT sv s:=⟨_,rfl⟩
    rw [<-hp] at HC8 ⊢
    have HPE:=Aside0.mk hp
    clear hp
    by_cases hj:joinTE sv al H 77 s w4th=0
    case neg =>
     obtain ⟨E,hE⟩:∃E,E=joinTE sv al H 77 s w4th:=⟨_,rfl⟩
     have HJH:=Aside0.mk (show joinTE sv al H 77 s w4th=E/\joinTH sv al H 77 s w4th=H from ⟨hE.symm,join_same hj⟩)
     have e1:(E == 0)=false:=beq_eq_false_iff_ne.2 (by rw [hE];exact hj)
     have e2:(E != 0)=true:=by rw [bne,e1];rfl
     have HSR:=Aside0.mk (srvH_no HNO.out)
     clear hE hj
     go_wp2_with (first
      | (go_at_call 45;refine (tjoin_calls HT8.out (by have:=HMM.out;omega) 77 s w4th HWF.out).mono ?_;rw [HJH.out.1,HJH.out.2];rintro e w9 ⟨rfl,hT,hk⟩;have HT9:=Aside0.mk hT;have HB9:=Aside0.mk (below_kt HB8.out HWR.out hk);clear hT hk)
      | (go_at_call 58;refine (tserverH HT9.out HWF.out).mono ?_;rw [HSR.out];rintro e w10 ⟨rfl,rfl⟩))
     first
      | exact bodyPost_ret (results_tmp rfl _ _ _) rfl ⟨rfl,HB9.out⟩
      | (go_ret;exact ⟨rfl,HB9.out⟩)
    case pos =>
     obtain ⟨hsi,hjh⟩:=join_in hj
     have HJH:=Aside0.mk (show joinTE sv al H 77 s w4th=0/\joinTH sv al H 77 s w4th=H ++ [⟨77,s,newH w4th⟩] from ⟨hj,hjh⟩)
     have HSI:=Aside0.mk hsi
     have hG:GoodSv sv:=by obtain ⟨_,_,_,_,h3⟩:=HT8.out;exact h3
     have hpp:p=pathS sv s:=by rw [HPE.out];exact path_of hsi
     have hpl:0<p.length:=by
      obtain ⟨r,hr⟩:=path_head hG s hsi
      rw [hpp,hr]
      simp
     have HPI:=Aside0.mk (show ∀y∈p,y∈pathS sv s/\inR sv.length y from fun y hy=>by rw [hpp] at hy;exact ⟨hy,(path_in hG s hsi y hy).1⟩)
     obtain ⟨ad,hA,hPR⟩:=PRow.of HC8.out.2 hpl
     subst hA
     have HR8:=Aside0.mk hPR
     have HPL:=Aside0.mk (And.intro hpl HC8.out.1)
     have HP9:=Aside0.mk (show p.length<=9 by
      have h1:=path_len hG s hsi
      have h2:=HSV.out.2.2
      rw [hpp]
      omega)
     clear hj hsi hjh hpp hPR hpl HC8 hG
     go_upto_region 21 with (go_at_call 45;refine (tjoin_calls HT8.out (by have:=HMM.out;omega) 77 s w4th HWF.out).mono ?_;rw [HJH.out.1,HJH.out.2];rintro e w9 ⟨rfl,hT,hk⟩;have HT9:=Aside0.mk hT;have HK9:=Aside0.mk hk;clear hT hk)
     have HAH:=Aside0.mk (ask8 HT9.out HNO.out HSI.out)
     have HSH:=Aside0.mk (settle8 (s:=s) HNO.out)
     have HFH:=Aside0.mk (free8 (s:=s) HNO.out)
     go_upto_region 23 with (first
      | (go_at_call 47;refine (task_calls HT9.out (by have:=HMM.out;omega) 77 w8th HWF.out).mono ?_;rw [HAH.out.1,HAH.out.2];rintro e w10 ⟨rfl,hT,hk⟩;have HT10:=Aside0.mk hT;have HK10:=Aside0.mk (HK9.out.trans hk);clear hT hk)
      | (go_at_call 50;refine (tsettle_calls HT10.out (by have:=HMM.out;omega) 77 HWF.out).mono ?_;rw [HSH.out.1,HSH.out.2];rintro e w11 ⟨rfl,hT,hk⟩;have HT11:=Aside0.mk hT;have HK11:=Aside0.mk (HK10.out.trans hk);clear hT hk))
     have HH11:=Aside0.mk (show Had w11 bh 88 vs from mblk_kt HT8.out HK11.out HH8.out (by decide))
     have HS11:=Aside0.mk (HS8.out.imp (fun r=>RV_kt HT8.out HK11.out r))
     have HB11:=Aside0.mk (below_kt HB8.out HWR.out HK11.out)
     have HR11:=Aside0.mk (HR8.out.kt HT8.out HK11.out)
     have HT0:=Aside0.mk (HT8.out.mono (show m<=60 by have:=HMM.out;omega))
     have HTN:=Aside0.mk (HT11.out.mono (show m+1+1+1<=60 by have:=HMM.out;omega))
     clear HT9 HT10 HK9 HK10 HK11 HH8 HS8 HB8 HR8 HJH HAH HSH
     go_upto_block 4 with fail
     go_cut [19] (fun v19 wc=>∃u:Value,v19=u/\Aside0 (Below w11.heap.size w11 wc))
     case first =>
      go_wp2_with fail
      go_loopw [19] (fun v19 wr=>∃i:Nat,v19=.int .i64 i/\i<=p.length/\Aside0 (Below w11.heap.size w11 wr)) (fun v _=>(p.length-(intOf v)).toNat)
      case atStart=>exact ⟨0,rfl,by omega,⟨Below.refl _ _⟩⟩
      case round =>
       obtain ⟨i,rfl,hi,HW⟩:=hrel
       by_cases hlt:i<p.length
       case neg =>
        have d1:decide ((i:Int)<(p.length:Int))=false:=decide_eq_false (by omega)
        have d2:¬ ((i:Int)<(p.length:Int)):=by omega
        have d3:¬ (i<p.length):=hlt
        clear hlt hi
        go_wp2_with fail
        go_meet
        case rel=>exact ⟨_,rfl,HW⟩
       case pos =>
        have d1:decide ((i:Int)<(p.length:Int))=true:=decide_eq_true (by omega)
        obtain ⟨y,hy⟩:∃y,y=p.getD i 0:=⟨_,rfl⟩
        have hym:y∈p:=by rw [hy,List.getD_eq_getElem?_getD,List.getElem?_eq_getElem hlt];exact List.getElem_mem hlt
        obtain ⟨hyp,hyR⟩:=HPI.out y hym
        obtain ⟨r1,r2,⟨kp,hkp⟩,kc,hkc⟩:=plus8 HT0.out (by omega) HTN.out HSI.out hyp
        obtain ⟨Q,hQ⟩:∃Q:List Int × List Int,Q=L (heldH sv H y):=⟨_,rfl⟩
        obtain ⟨Q',hQ'⟩:∃Q':List Int × List Int,Q'=L (heldH sv (H ++ [⟨77,s,newH w8th⟩]) y):=⟨_,rfl⟩
        rw [<-hQ] at hkp
        rw [<-hQ'] at hkc
        have HKP:=Aside0.mk hkp
        have HKC:=Aside0.mk hkc
        have HHD:=Aside0.mk (show L (heldA sv (H ++ [⟨77,s,newH w8th⟩]) y)=Q' by rw [heldA_in hyR,hQ'])
        obtain ⟨k,hk⟩:∃k:Nat,(k:Int)=y+1:=⟨(y+1).toNat,by have:=hyR.1;omega⟩
        have hk9:k<sv.length+1:=by have:=hyR.2;omega
        have hrv:=HS11.out.rv k hk9
        rw [show (k:Int)-1=y by omega, <-hQ] at hrv
        obtain ⟨Y1,e1,Y2,e2,ey1,ey2⟩:=hrv.shape
        rw [ey1,ey2] at hrv
        have HRK:=Aside0.mk (hrv.below HW.out)
        have HC0:Aside0 (∀ {W:World},Had W bh 88 vs->W.cell? ⟨bh,k*2,none⟩=some (.slice Y1 Q.1.length e1)):=⟨fun h=>(Had.at0 h k (by rw [HS11.out.len];have:=HSV.out.2.2;omega)).trans (congrArg some ey1)⟩
        have HC1:Aside0 (∀ {W:World},Had W bh 88 vs->W.cell? ⟨bh,k*2+1,none⟩=some (.slice Y2 Q.2.length e2)):=⟨fun h=>(Had.at1 h k (by rw [HS11.out.len];have:=HSV.out.2.2;omega)).trans (congrArg some ey2)⟩
        have HHr:=Aside0.mk (show Had wr bh 88 vs from (HW.out.block _ (mblk_lt HH11.out)).trans HH11.out)
        have HRr:=Aside0.mk (HR11.out.below HW.out)
        have HTr:=Aside0.mk (HT11.out.below HW.out)
        have z0:wr.cell? (ad.add i)=some (.int .i64 y):=by rw [hy];exact HRr.out i hlt
        have z1:=HC0.out HHr.out
        have z2:=HC1.out HHr.out
        have f1:wrap64 (y+1)=(k:Int):=by
         have h1:=HSV.out.2.2
         rw [<-hk]
         exact w64 (by omega) (by omega)
        have f1':IntKind.i64.wrap (y+1)=(k:Int):=by rw [i64_w];exact f1
        have f2:(0:Int)<=(k:Int):=by omega
        have f5:(k:Int)<=8:=by have:=HSV.out.2.2;omega
        have f8:¬ ((9:Int)<=(k:Int)):=by have:=HSV.out.2.2;omega
        have f6:(0:Int)<=(i:Int):=by omega
        have f7:(i:Int)<(p.length:Int):=by omega
        have b1:bh<wr.heap.size:=mblk_lt HHr.out
        have b2:ad.block<wr.heap.size:=by have:=cell_lt z0;rwa [add_blk] at this
        have HLT:=Aside0.mk (And.intro hlt hi)
        have HPC:=Aside0.mk HPL.out.2
        clear hy hym hyp hyR hkp hkc hQ hQ' hk hk9 hrv ey1 ey2 hlt hi
        go_upto_region 26 with fail
        go_cut [20] (fun v20 wc=>∃ (g:Nat) (P1 P2:Option Addr) (n1 n2 e1 e2:Nat),v20=.pointer (some ⟨g,0,none⟩)/\Aside0 (MBlk wc g 28 #[.slice P1 n1 e1,.slice P2 n2 e2])/\Aside0 (RV wc (.slice P1 n1 e1) (.slice P2 n2 e2) r1 r2)/\Aside0 (Below wr.heap.size wr wc))
        case first =>
         have HZ:=Aside0.mk (show ∀w':World,Below wr.heap.size wr w'->w'.cell? (ad.add i)=some (.int .i64 y)/\w'.cell? ⟨bh,k*2,none⟩=some (.slice Y1 Q.1.length e1)/\w'.cell? ⟨bh,k*2+1,none⟩=some (.slice Y2 Q.2.length e2) from fun w' h=>⟨(cell_blk (h.block _ (by rw [add_blk];exact b2))).trans z0,(cell_blk (a:=⟨bh,k*2,none⟩) (h.block _ b1)).trans z1,(cell_blk (a:=⟨bh,k*2+1,none⟩) (h.block _ b1)).trans z2⟩)
         refine start_ (n:=11) (S:=fun w'=>True) (ds:=[]) #[false,false,false,false,false,false,false,false,false,false,false] (by kernel_rfl) rfl rfl trivial (fun hHeld=>?_)
         refine with_tabW qback.tab26 qback.bits26 (fun HT_ HW_=>?_)
         have FB:=Aside0.mk (below_drew (Below.refl wr.heap.size wr))
         refine pure_ (i:=0) (N:=some 103) (v:=?_) (a':=?_) #[true,false,false,false,false,false,false,false,false,false,false] rfl rfl (any_of HT_.out (by kernel_rfl)) (fun _ _ _ h=>h) (Or.inl ⟨by rfl, ?_⟩) ?_ ?_
         rotate_left
         ·intro w'
          go_simp
          with_reducible rfl
         rotate_left
         ·simp only [Act.put,List.setIfInBounds_toArray,List.set_cons_zero,List.set_cons_succ,i64_w,i32_w]
          rfl
         refine pure_ (i:=1) (N:=some 104) (v:=?_) (a':=?_) #[true,true,false,false,false,false,false,false,false,false,false] rfl rfl (any_of HT_.out (by kernel_rfl)) (fun _ _ _ h=>h) (Or.inl ⟨by rfl, ?_⟩) ?_ ?_
         rotate_left
         ·intro w'
          go_simp
          with_reducible rfl
         rotate_left
         ·simp only [Act.put,List.setIfInBounds_toArray,List.set_cons_zero,List.set_cons_succ,i64_w,i32_w]
          rfl
         refine pure_ (i:=2) (N:=some 105) (v:=?_) (a':=?_) #[true,true,true,false,false,false,false,false,false,false,false] rfl rfl (any_of HT_.out (by kernel_rfl)) (fun _ _ _ h=>h) (Or.inl ⟨by rfl, ?_⟩) ?_ ?_
         rotate_left
         ·intro w'
          go_simp
          with_reducible rfl
         rotate_left
         ·simp only [Act.put,List.setIfInBounds_toArray,List.set_cons_zero,List.set_cons_succ,i64_w,i32_w]
          rfl
         refine inv_at [3,4,5,6,7,8,9,10] (fun a0_ b a w'=>∃ (T1:Option Addr) (t1:Nat) (T2:Option Addr) (t2:Nat) (P1:Option Addr) (p1:Nat) (P2:Option Addr) (p2:Nat) (g:Nat) (m7_:Value) (m8_:Value) (m9_:Value),a=putSel a0_ b [(3,106,.int .i64 y),(4,107,.int .i64 k),(5,108,.pointer (some ⟨bh,k*2,none⟩)),(6,109,.agg #[.slice Y1 Q.1.length e1,.slice Y2 Q.2.length e2]),(7,110,m7_),(8,111,m8_),(9,20,m9_)]/\(Below wr.heap.size wr w')/\(b 7=true->b 8=false->RV w' (.slice T1 (limbs 1).length t1) (.slice T2 (limbs 8).length t2) (limbs 1) (limbs 8))/\(b 8=true->RV w' (.slice P1 r1.length p1) (.slice P2 r2.length p2) r1 r2)/\(b 9=true->wr.heap.size<=g)/\(b 9=true->b 10=false->MBlk w' g 28 #[.slice none 0 0,.slice none 0 0])/\(b 10=true->MBlk w' g 28 #[.slice P1 r1.length p1,.slice P2 r2.length p2])/\(b 7=true->(m7_:Value)=.agg #[.slice T1 (limbs 1).length t1,.slice T2 (limbs 8).length t2])/\(b 8=true->(m8_:Value)=.agg #[.slice P1 r1.length p1,.slice P2 r2.length p2])/\(b 9=true->(m9_:Value)=.pointer (some ⟨g,0,none⟩))) HT_.out HW_.out (by kernel_rfl) (by kernel_rfl) ?_ ?_ ?_
         ·exact ⟨none,0,none,0,none,0,none,0,0,.bool false,.bool false,.bool false,by simp only [putSel,Bool.false_eq_true,if_false],FB.out,fun h_=>absurd h_ (by decide),fun h_=>absurd h_ (by decide),fun h_=>absurd h_ (by decide),fun h_=>absurd h_ (by decide),fun h_=>absurd h_ (by decide),fun h_=>absurd h_ (by decide),fun h_=>absurd h_ (by decide),fun h_=>absurd h_ (by decide)⟩
         ·skip
          clear FB
          refine steps_cons ?_ ?_
          ·rintro b a w' ⟨T1,t1,T2,t2,P1,p1,P2,p2,g,m7_,m8_,m9_,ha,Q_FB,Q_F7,Q_F8,Q_G9,Q_F9,Q_F10,Q_X7_,Q_X8_,Q_X9_⟩ hb_ hon hoff
           refine ⟨_,rfl,fun K hK=>?_⟩
           have e105:a.tmps[105]? = some (.pointer (some (ad.add i))):=by rw [ha];exact (putSel_off rfl).trans rfl
           replace ha:=Aside0.mk ha
           have FB:=Aside0.mk Q_FB
           have hx0:=(HZ.out w' FB.out).1
           refine value_ (w1:=w') (v:=.int .i64 y) (by rfl) rfl ?_ ?_
           ·go_simp
            (try simp only [i64_w])
            try rfl
           refine hK.out _ _ ⟨T1,t1,T2,t2,P1,p1,P2,p2,g,m7_,m8_,m9_,(by rw [ha.out];exact putSel_upk 0 hb_ rfl rfl rfl),Q_FB,Q_F7,fun h0_=>absurd ((hoff 8 (by kernel_rfl)).symm.trans h0_) (by decide),Q_G9,Q_F9,fun h0_=>absurd ((hoff 10 (by kernel_rfl)).symm.trans h0_) (by decide),Q_X7_,fun h0_=>absurd ((hoff 8 (by kernel_rfl)).symm.trans h0_) (by decide),Q_X9_⟩
          refine steps_cons ?_ ?_
          ·rintro b a w' ⟨T1,t1,T2,t2,P1,p1,P2,p2,g,m7_,m8_,m9_,ha,Q_FB,Q_F7,Q_F8,Q_G9,Q_F9,Q_F10,Q_X7_,Q_X8_,Q_X9_⟩ hb_ hon hoff
           refine ⟨_,rfl,fun K hK=>?_⟩
           have e106:a.tmps[106]? = some (.int .i64 y):=by rw [ha];exact putSel_on (e:=(3,106,.int .i64 y)) 0 rfl rfl (hon 3 (by kernel_rfl)) rfl
           replace ha:=Aside0.mk ha
           have FB:=Aside0.mk Q_FB
           refine value_ (w1:=w') (v:=.int .i64 k) (by rfl) rfl ?_ ?_
           ·go_simp
            (try simp only [i64_w])
            try rfl
           refine hK.out _ _ ⟨T1,t1,T2,t2,P1,p1,P2,p2,g,m7_,m8_,m9_,(by rw [ha.out];exact putSel_upk 1 hb_ rfl rfl rfl),Q_FB,Q_F7,fun h0_=>absurd ((hoff 8 (by kernel_rfl)).symm.trans h0_) (by decide),Q_G9,Q_F9,fun h0_=>absurd ((hoff 10 (by kernel_rfl)).symm.trans h0_) (by decide),Q_X7_,fun h0_=>absurd ((hoff 8 (by kernel_rfl)).symm.trans h0_) (by decide),Q_X9_⟩
          refine steps_cons ?_ ?_
          ·rintro b a w' ⟨T1,t1,T2,t2,P1,p1,P2,p2,g,m7_,m8_,m9_,ha,Q_FB,Q_F7,Q_F8,Q_G9,Q_F9,Q_F10,Q_X7_,Q_X8_,Q_X9_⟩ hb_ hon hoff
           refine ⟨_,rfl,fun K hK=>?_⟩
           have e12:a.tmps[12]? = some (.pointer (some ⟨bh,0,none⟩)):=by rw [ha];exact (putSel_off rfl).trans rfl
           have e107:a.tmps[107]? = some (.int .i64 k):=by rw [ha];exact putSel_on (e:=(4,107,.int .i64 k)) 1 rfl rfl (hon 4 (by kernel_rfl)) rfl
           replace ha:=Aside0.mk ha
           have FB:=Aside0.mk Q_FB
           refine value_ (w1:=w') (v:=.pointer (some ⟨bh,k*2,none⟩)) (by rfl) rfl ?_ ?_
           ·go_simp
            (try simp only [i64_w])
            try rfl
           refine hK.out _ _ ⟨T1,t1,T2,t2,P1,p1,P2,p2,g,m7_,m8_,m9_,(by rw [ha.out];exact putSel_upk 2 hb_ rfl rfl rfl),Q_FB,Q_F7,fun h0_=>absurd ((hoff 8 (by kernel_rfl)).symm.trans h0_) (by decide),Q_G9,Q_F9,fun h0_=>absurd ((hoff 10 (by kernel_rfl)).symm.trans h0_) (by decide),Q_X7_,fun h0_=>absurd ((hoff 8 (by kernel_rfl)).symm.trans h0_) (by decide),Q_X9_⟩
          refine steps_cons ?_ ?_
          ·rintro b a w' ⟨T1,t1,T2,t2,P1,p1,P2,p2,g,m7_,m8_,m9_,ha,Q_FB,Q_F7,Q_F8,Q_G9,Q_F9,Q_F10,Q_X7_,Q_X8_,Q_X9_⟩ hb_ hon hoff
           refine ⟨_,rfl,fun K hK=>?_⟩
           have e108:a.tmps[108]? = some (.pointer (some ⟨bh,k*2,none⟩)):=by rw [ha];exact putSel_on (e:=(5,108,.pointer (some ⟨bh,k*2,none⟩))) 2 rfl rfl (hon 5 (by kernel_rfl)) rfl
           replace ha:=Aside0.mk ha
           have FB:=Aside0.mk Q_FB
           have hx1:=(HZ.out w' FB.out).2.1
           have hx2:=(HZ.out w' FB.out).2.2
           refine value_ (w1:=w') (v:=.agg #[.slice Y1 Q.1.length e1,.slice Y2 Q.2.length e2]) (by rfl) rfl ?_ ?_
           ·go_simp
            (try simp only [i64_w])
            try rfl
           refine hK.out _ _ ⟨T1,t1,T2,t2,P1,p1,P2,p2,g,m7_,m8_,m9_,(by rw [ha.out];exact putSel_upk 3 hb_ rfl rfl rfl),Q_FB,Q_F7,fun h0_=>absurd ((hoff 8 (by kernel_rfl)).symm.trans h0_) (by decide),Q_G9,Q_F9,fun h0_=>absurd ((hoff 10 (by kernel_rfl)).symm.trans h0_) (by decide),Q_X7_,fun h0_=>absurd ((hoff 8 (by kernel_rfl)).symm.trans h0_) (by decide),Q_X9_⟩
          refine steps_cons ?_ ?_
          ·rintro b a w' ⟨T1,t1,T2,t2,P1,p1,P2,p2,g,m7_,m8_,m9_,ha,Q_FB,Q_F7,Q_F8,Q_G9,Q_F9,Q_F10,Q_X7_,Q_X8_,Q_X9_⟩ hb_ hon hoff
           refine ⟨_,rfl,fun K hK=>?_⟩
           replace ha:=Aside0.mk ha
           have FB:=Aside0.mk Q_FB
           refine goes_ Try.func44 (by kernel_rfl) rfl #[.int .u64 1,.int .u64 8] (by rfl) rfl rfl (by first|rfl|simp only [List.map_toArray,List.map_cons,List.map_nil,Act.eval,Array.getD_eq_getD_getElem?,List.map_nil,Option.getD_some]) ?_
           refine (regattalaw13_one.calls 5 ((1:Nat):Int) ((8:Nat):Int) _ _ _ (one_f 5 1 8 (by decide) (by decide) (Nat.le_refl _))).mono ?_
           rintro e1_ w1 ⟨v0,v1,rfl,h1,h2,hb⟩
           have h7:=RV.ofR h1 h2
           obtain ⟨U1,u1,U2,u2,rfl,rfl⟩:=h7.shape
           refine ⟨_,rfl, ?_⟩
           refine hK.out _ _ ⟨U1,u1,U2,u2,P1,p1,P2,p2,g,(.agg #[.slice U1 (limbs 1).length u1,.slice U2 (limbs 8).length u2]),m8_,m9_,(by rw [ha.out];exact putSel_upk 4 hb_ rfl rfl rfl),below_step FB.out hb,fun _ _=>h7,fun h0_=>absurd ((hoff 8 (by kernel_rfl)).symm.trans h0_) (by decide),Q_G9,fun h0_ h1_=>(hb.block _ (mblk_lt (Q_F9 h0_ h1_))).trans (Q_F9 h0_ h1_),fun h0_=>absurd ((hoff 10 (by kernel_rfl)).symm.trans h0_) (by decide),fun _=>rfl,fun h0_=>absurd ((hoff 8 (by kernel_rfl)).symm.trans h0_) (by decide),Q_X9_⟩
          refine steps_cons ?_ ?_
          ·rintro b a w' ⟨T1,t1,T2,t2,P1,p1,P2,p2,g,m7_,m8_,m9_,ha,Q_FB,Q_F7,Q_F8,Q_G9,Q_F9,Q_F10,Q_X7_,Q_X8_,Q_X9_⟩ hb_ hon hoff
           refine ⟨_,rfl,fun K hK=>?_⟩
           have e109:a.tmps[109]? = some (.agg #[.slice Y1 Q.1.length e1,.slice Y2 Q.2.length e2]):=by rw [ha];exact putSel_on (e:=(6,109,.agg #[.slice Y1 Q.1.length e1,.slice Y2 Q.2.length e2])) 3 rfl rfl (hon 6 (by kernel_rfl)) rfl
           have e110:a.tmps[110]? = some (m7_):=by rw [ha];exact putSel_on (e:=(7,110,m7_)) 4 rfl rfl (hon 7 (by kernel_rfl)) rfl
           rw [Q_X7_ (hon 7 (by kernel_rfl))] at e110
           replace ha:=Aside0.mk ha
           have FB:=Aside0.mk Q_FB
           have F7:=Aside0.mk (Q_F7 (hon 7 (by kernel_rfl)) hb_)
           refine goes_ Try.func26 (by kernel_rfl) rfl #[.agg #[.slice Y1 Q.1.length e1,.slice Y2 Q.2.length e2],.agg #[.slice T1 (limbs 1).length t1,.slice T2 (limbs 8).length t2]] (by rfl) rfl rfl (by first|rfl|simp only [List.map_toArray,List.map_cons,List.map_nil,Act.eval,Array.getD_eq_getD_getElem?,e109,e110,Option.getD_some]) ?_
           refine (XQOp.plus_rv (HRK.out.below FB.out) F7.out HKP.out).mono ?_
           rintro e1_ w1 ⟨u,u',rfl,h8,hb⟩
           obtain ⟨U3,u3,U4,u4,rfl,rfl⟩:=h8.shape
           refine ⟨_,rfl, ?_⟩
           refine hK.out _ _ ⟨T1,t1,T2,t2,U3,u3,U4,u4,g,m7_,(.agg #[.slice U3 r1.length u3,.slice U4 r2.length u4]),m9_,(by rw [ha.out];exact putSel_upk 5 hb_ rfl rfl rfl),below_step FB.out hb,fun _ h1_=>absurd ((up_self b 8).symm.trans h1_) (by decide),fun _=>h8,Q_G9,fun h0_ h1_=>(hb.block _ (mblk_lt (Q_F9 h0_ h1_))).trans (Q_F9 h0_ h1_),fun h0_=>absurd ((hoff 10 (by kernel_rfl)).symm.trans h0_) (by decide),Q_X7_,fun _=>rfl,Q_X9_⟩
          refine steps_cons ?_ ?_
          ·rintro b a w' ⟨T1,t1,T2,t2,P1,p1,P2,p2,g,m7_,m8_,m9_,ha,Q_FB,Q_F7,Q_F8,Q_G9,Q_F9,Q_F10,Q_X7_,Q_X8_,Q_X9_⟩ hb_ hon hoff
           refine ⟨_,rfl,fun K hK=>?_⟩
           replace ha:=Aside0.mk ha
           have FB:=Aside0.mk Q_FB
           refine value_ (w1:=w'.alloc (.cells #[.slice none 0 0,.slice none 0 0] 28)) (v:=.pointer (some ⟨w'.heap.size,0,none⟩)) (by rfl) rfl ?_ ?_
           ·go_simp
           refine hK.out _ _ ⟨T1,t1,T2,t2,P1,p1,P2,p2,w'.heap.size,m7_,m8_,(.pointer (some ⟨w'.heap.size,0,none⟩)),(by rw [ha.out];exact putSel_upk 6 hb_ rfl rfl rfl),below_alloc FB.out _,fun h0_ h1_=>(Q_F7 h0_ h1_).below (below_alloc (Below.refl _ _) _),fun h0_=>(Q_F8 h0_).below (below_alloc (Below.refl _ _) _),fun _=>FB.out.size,fun _ _=>mblk_new _ _ _,fun h0_=>absurd ((hoff 10 (by kernel_rfl)).symm.trans h0_) (by decide),Q_X7_,Q_X8_,fun _=>rfl⟩
          refine steps_cons ?_ ?_
          ·rintro b a w' ⟨T1,t1,T2,t2,P1,p1,P2,p2,g,m7_,m8_,m9_,ha,Q_FB,Q_F7,Q_F8,Q_G9,Q_F9,Q_F10,Q_X7_,Q_X8_,Q_X9_⟩ hb_ hon hoff
           refine ⟨_,rfl,fun K hK=>?_⟩
           have e20:a.tmps[20]? = some (m9_):=by rw [ha];exact putSel_on (e:=(9,20,m9_)) 6 rfl rfl (hon 9 (by kernel_rfl)) rfl
           rw [Q_X9_ (hon 9 (by kernel_rfl))] at e20
           have e111:a.tmps[111]? = some (m8_):=by rw [ha];exact putSel_on (e:=(8,111,m8_)) 5 rfl rfl (hon 8 (by kernel_rfl)) rfl
           rw [Q_X8_ (hon 8 (by kernel_rfl))] at e111
           replace ha:=Aside0.mk ha
           have FB:=Aside0.mk Q_FB
           have F8:=Aside0.mk (Q_F8 (hon 8 (by kernel_rfl)))
           have G9:=Aside0.mk (Q_G9 (hon 9 (by kernel_rfl)))
           have F9:=Aside0.mk (Q_F9 (hon 9 (by kernel_rfl)) hb_)
           have z0:=(mblk_cell F9.out 0).trans rfl
           have z1:=(mblk_cell F9.out 1).trans rfl
           have r0:=mblk_frozen F9.out 0
           have r1_:=mblk_frozen F9.out 1
           have HQ9:=Aside0.mk (rat_put F9.out F8.out FB.out G9.out)
           refine skip_ (w1:=(w'.setCell ⟨g,0,none⟩ (.slice P1 r1.length p1)).setCell ⟨g,1,none⟩ (.slice P2 r2.length p2)) (by rfl) rfl ?_ ?_
           ·go_simp
           refine hK.out _ _ ⟨T1,t1,T2,t2,P1,p1,P2,p2,g,m7_,m8_,m9_,(by rw [ha.out];exact putSel_none (v:=undef) rfl),HQ9.out.2.2,fun _ h1_=>absurd ((hon 8 (by kernel_rfl)).symm.trans h1_) (by decide),fun _=>HQ9.out.2.1,fun _=>G9.out,fun _ h1_=>absurd ((up_self b 10).symm.trans h1_) (by decide),fun _=>HQ9.out.1,Q_X7_,Q_X8_,Q_X9_⟩
          exact steps_nil
         rintro b a wz hall ⟨T1,t1,T2,t2,P1,p1,P2,p2,g,m7_,m8_,m9_,ha,Q_FB,Q_F7,Q_F8,Q_G9,Q_F9,Q_F10,Q_X7_,Q_X8_,Q_X9_⟩
         clear FB
         have hb3_:=hall 3 (by kernel_rfl)
         have hb4_:=hall 4 (by kernel_rfl)
         have hb5_:=hall 5 (by kernel_rfl)
         have hb6_:=hall 6 (by kernel_rfl)
         have hb7_:=hall 7 (by kernel_rfl)
         have hb8_:=hall 8 (by kernel_rfl)
         have hb9_:=hall 9 (by kernel_rfl)
         have hb10_:=hall 10 (by kernel_rfl)
         subst ha
         obtain rfl:=Q_X7_ hb7_
         obtain rfl:=Q_X8_ hb8_
         obtain rfl:=Q_X9_ hb9_
         simp only [putSel,hb3_,hb4_,hb5_,hb6_,hb7_,hb8_,hb9_,hb10_,if_true,Act.put,List.setIfInBounds_toArray,List.set_cons_zero,List.set_cons_succ]
         have FB:=Aside0.mk Q_FB
         clear Q_FB
         clear Q_F7
         have F8:=Aside0.mk (Q_F8 hb8_)
         clear Q_F8
         have G9:=Aside0.mk (Q_G9 hb9_)
         clear Q_G9
         clear Q_F9
         have F10:=Aside0.mk (Q_F10 hb10_)
         clear Q_F10
         clear hall hb3_ hb4_ hb5_ hb6_ hb7_ hb8_ hb9_ hb10_
         go_wp2_with fail
         go_meet
         case rel=>exact ⟨g,P1,P2,_,_,p1,p2,rfl,F10,F8,FB⟩
        case rest =>
         obtain ⟨g,P1,P2,n1,n2,p1,p2,rfl,HG,HV,HW2⟩:=hcut
         obtain ⟨w14,hw14⟩:∃w14,w14=wc:=⟨_,rfl⟩
         subst hw14
         have HTq:=Aside0.mk (HTr.out.below HW2.out)
         have x0:w14.cell? (ad.add i)=some (.int .i64 y):=(cell_blk (HW2.out.block _ (by rw [add_blk];exact b2))).trans z0
         have x1:w14.cell? ⟨g,0,none⟩=some (.slice P1 n1 p1):=(mblk_cell HG.out 0).trans rfl
         have x2:w14.cell? ⟨g,1,none⟩=some (.slice P2 n2 p2):=(mblk_cell HG.out 1).trans rfl
         have HZ:=Aside0.mk (show ∀w':World,Below w14.heap.size w14 w'->w'.cell? (ad.add i)=some (.int .i64 y)/\w'.cell? ⟨g,0,none⟩=some (.slice P1 n1 p1)/\w'.cell? ⟨g,1,none⟩=some (.slice P2 n2 p2) from fun w' h=>⟨(cell_blk (h.block _ (cell_lt x0))).trans x0,(cell_blk (h.block _ (cell_lt x1))).trans x1,(cell_blk (h.block _ (cell_lt x2))).trans x2⟩)
         have HE1:Aside0 (wrap64 ((i:Int)+1)=((i+1:Nat):Int)):=⟨by
          have h1:=HLT.out.1
          have h2:=HP9.out
          rw [w64 (by omega) (by omega)]
          rfl⟩
         clear z0 z1 z2 f1 f1' f2 f5 f8 b1 b2
         go_upto_region 27 with fail
         go_region_held3 (fun w'=>w'.cell? (ad.add i)=some (.int .i64 y)/\w'.cell? ⟨g,0,none⟩=some (.slice P1 n1 p1)/\w'.cell? ⟨g,1,none⟩=some (.slice P2 n2 p2))
          (first|(exact ⟨x0,x1,x2⟩)|go_keep)
          (first
           | (go_at_call 46;refine (theldH (HTq.out.below (by first|exact below_drew (Below.refl _ _)|exact Below.refl _ _)) (by have:=HMM.out;omega) y).mono ?_;rw [HHD.out];rintro e w15 ⟨t,t',rfl,h,hb⟩;obtain ⟨R1,q1,R2,q2,rfl,rfl⟩:=h.shape;have hbb:Below w14.heap.size w14 w15:=(by first|exact below_step (below_drew (Below.refl _ _)) hb|exact below_step (Below.refl _ _) hb);have HB15:=Aside0.mk hbb;have HU15:=Aside0.mk h;have hz:=HZ.out w15 hbb;obtain ⟨x0,x1,x2⟩:=hz;clear h hb hbb)
           | (go_at_call 19;refine (rcmp_rv HU15.out (HV.out.below HB15.out) HKC.out).mono ?_;rintro e w16 ⟨rfl,hb⟩;have hbb:Below w14.heap.size w14 w16:=below_step HB15.out hb;have HB16:=Aside0.mk hbb;have hz:=HZ.out w16 hbb;obtain ⟨x0,x1,x2⟩:=hz;clear hb hbb))
         all_goals
          clear x0 x1 x2 f6 f7 d1
          go_wp2_with fail
          rw [HE1.out]
          refine ⟨⟨i+1,rfl,by have:=HLT.out.1;omega,⟨below_step (below_step HW.out HW2.out) HB16.out⟩⟩, ?_⟩
          have h1:=HLT.out.1
          simp only [intOf]
          omega
     case rest =>
      obtain ⟨u,rfl,HBw⟩:=hcut
      obtain ⟨w12,hw12⟩:∃w12,w12=wc:=⟨_,rfl⟩
      subst hw12
      have HT12:=Aside0.mk (HT11.out.below HBw.out)
      have HH12:=Aside0.mk (show Had w12 bh 88 vs from (HBw.out.block _ (mblk_lt HH11.out)).trans HH11.out)
      have HS12:=Aside0.mk (HS11.out.imp (fun r=>r.below HBw.out))
      have HB12:=Aside0.mk (below_step HB11.out HBw.out)
      clear HT11 HH11 HS11 HB11 HBw HR11 HT0 HTN
      go_upto_region 30 with (go_at_call 52;refine (tfree_calls HT12.out (by have:=HMM.out;omega) 77 HWF.out).mono ?_;rw [HFH.out.1,HFH.out.2];rintro e w13 ⟨rfl,hT,hk⟩;have HT13:=Aside0.mk hT;have HK13:=Aside0.mk hk;clear hT hk)
      have HH13:=Aside0.mk (show Had w13 bh 88 vs from mblk_kt HT12.out HK13.out HH12.out (by decide))
      have HS13:=Aside0.mk (HS12.out.imp (fun r=>RV_kt HT12.out HK13.out r))
      have HB13:=Aside0.mk (below_kt HB12.out HWR.out HK13.out)
      have HN13:=Aside0.mk (settle_none (get_no HNO.out))
      clear HT12 HH12 HS12 HB12 HK13 HFH
      go_wp2_with fail
      go_loopw [22] (fun v22 wr=>∃k:Nat,v22=.int .i64 ((k:Int)-1)/\k<=sv.length+1/\Aside0 (Below w13.heap.size w13 wr)) (fun v _=>(sv.length-intOf v).toNat)
      case atStart=>exact ⟨0,rfl,by omega,⟨Below.refl _ _⟩⟩
      case round =>
       obtain ⟨k,rfl,hk,HW⟩:=hrel
       by_cases hlt:k<sv.length+1
       case neg =>
        have d1:decide ((k:Int)-1<(sv.length:Int))=false:=decide_eq_false (by omega)
        clear hlt hk
        go_wp2_with (go_at_call 50;refine (tsettle_calls (HT13.out.below HW.out) (by have:=HMM.out;omega) 77 HWF.out).mono ?_;rw [HN13.out.1];rintro e w20 ⟨rfl,hT,hk⟩;have HB20:=Aside0.mk (below_kt (below_step HB13.out HW.out) HWR.out hk);clear hT hk)
        first
         | exact bodyPost_ret (results_tmp rfl _ _ _) rfl ⟨rfl,HB20.out⟩
         | (go_ret;exact ⟨rfl,HB20.out⟩)
       case pos =>
        have hl8:sv.length<=8:=HSV.out.2.2
        obtain ⟨y,hy⟩:∃y,y=(k:Int)-1:=⟨_,rfl⟩
        have hyR:inR sv.length y:=⟨by omega,by omega⟩
        have d1:decide (y<(sv.length:Int))=true:=decide_eq_true (by omega)
        obtain ⟨Q,hQ⟩:∃Q:List Int × List Int,Q=L (heldH sv H y):=⟨_,rfl⟩
        have HHD:=Aside0.mk (show L (heldA sv H y)=Q by rw [heldA_in hyR,hQ])
        obtain ⟨kc,hkc⟩:=tcmp_same HT13.out (by have:=HMM.out;omega) hyR
        rw [<-hQ] at hkc
        have HKC:=Aside0.mk hkc
        have hrv:=HS13.out.rv k hlt
        rw [<-hy, <-hQ] at hrv
        obtain ⟨Y1,e1,Y2,e2,ey1,ey2⟩:=hrv.shape
        rw [ey1,ey2] at hrv
        have HRK:=Aside0.mk (hrv.below HW.out)
        have HHr:=Aside0.mk (show Had wr bh 88 vs from (HW.out.block _ (mblk_lt HH13.out)).trans HH13.out)
        have HTr:=Aside0.mk (HT13.out.below HW.out)
        have z1:wr.cell? ⟨bh,k*2,none⟩=some (.slice Y1 Q.1.length e1):=(Had.at0 HHr.out k (by rw [HS13.out.len];omega)).trans (congrArg some ey1)
        have z2:wr.cell? ⟨bh,k*2+1,none⟩=some (.slice Y2 Q.2.length e2):=(Had.at1 HHr.out k (by rw [HS13.out.len];omega)).trans (congrArg some ey2)
        have HZ:=Aside0.mk (show ∀w':World,Below wr.heap.size wr w'->w'.cell? ⟨bh,k*2,none⟩=some (.slice Y1 Q.1.length e1)/\w'.cell? ⟨bh,k*2+1,none⟩=some (.slice Y2 Q.2.length e2) from fun w' h=>⟨(cell_blk (h.block _ (cell_lt z1))).trans z1,(cell_blk (h.block _ (cell_lt z2))).trans z2⟩)
        have f2:(0:Int)<=(k:Int):=by omega
        have f3:(k:Int)<9:=by omega
        have f5:(k:Int)<=8:=by omega
        have g1:(y+1:Int)=(k:Int):=by omega
        have g2 : -9223372036854775808<=(k:Int)/\(k:Int)<=9223372036854775807:=by omega
        have f1:wrap64 (y+1)=(k:Int):=by rw [g1];exact w64 g2.1 g2.2
        have f1':IntKind.i64.wrap (y+1)=(k:Int):=by rw [i64_w];exact f1
        have HLT:=Aside0.mk (And.intro hlt (And.intro hy hl8))
        rw [<-hy] at ⊢
        clear hy hyR hQ hkc hrv ey1 ey2 hlt hk hl8 g1 g2
        go_upto_region 33 with fail
        go_region_held3 (fun w'=>w'.cell? ⟨bh,k*2,none⟩=some (.slice Y1 Q.1.length e1)/\w'.cell? ⟨bh,k*2+1,none⟩=some (.slice Y2 Q.2.length e2))
         (first|(exact ⟨z1,z2⟩)|go_keep)
         (first
          | (go_at_call 46;refine (theldH (HTr.out.below (by first|exact below_drew (Below.refl _ _)|exact Below.refl _ _)) (by have:=HMM.out;omega) y).mono ?_;rw [HHD.out];rintro e w15 ⟨t,t',rfl,h,hb⟩;obtain ⟨R1,q1,R2,q2,rfl,rfl⟩:=h.shape;have hbb:Below wr.heap.size wr w15:=(by first|exact below_step (below_drew (Below.refl _ _)) hb|exact below_step (Below.refl _ _) hb);have HB15:=Aside0.mk hbb;have HU15:=Aside0.mk h;have hz:=HZ.out w15 hbb;obtain ⟨z1,z2⟩:=hz;clear h hb hbb)
          | (go_at_call 19;refine (rcmp_rv HU15.out (HRK.out.below HB15.out) HKC.out).mono ?_;rintro e w16 ⟨rfl,hb⟩;have hbb:Below wr.heap.size wr w16:=below_step HB15.out hb;have HB16:=Aside0.mk hbb;have hz:=HZ.out w16 hbb;obtain ⟨z1,z2⟩:=hz;clear hb hbb))
        all_goals
         have HG5:Aside0 ((k:Int)=((k+1:Nat):Int)-1):=⟨by omega⟩
         clear z1 z2 d1
         go_wp2_with fail
         refine ⟨⟨k+1,by first|rw [<-HG5.out]|(rw [f1, <-HG5.out]),by have:=HLT.out;omega,⟨below_step HW.out HB16.out⟩⟩, ?_⟩
         have h1:=HLT.out
         simp only [intOf]
         omega
end Go.Proofs.Ytfldklimlcnnnaa.PureQuotaBack
end

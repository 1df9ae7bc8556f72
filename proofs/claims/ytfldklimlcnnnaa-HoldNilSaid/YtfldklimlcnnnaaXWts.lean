/- The walk of hold's weights: what all holders hold, in whatever order. -/
import Derived.Test.YtfldklimlcnnnaaXBy
import Derived.Test.YtfldklimlcnnnaaXHold
import Derived.Test.YtfldklimlcnnnaaProg
import Derived.BigRegion
import Derived.WalkKit
import Derived.OwnWalkIn
import Derived.TacticsInMore
import Derived.LoopNIn
import Derived.LoopIn
import Derived.Test.YtfldklimlcnnnaaPHqx9
import Derived.Test.YtfldklimlcnnnaaPHqx14
import Derived.Test.YtfldklimlcnnnaaPHqx19
namespace Go.Proofs.Ytfldklimlcnnnaa.XWts
open Go.RowKit Go.Proofs.Ytfldklimlcnnnaa.PHq Go.Proofs.YtfldklimlcnnnaaW.PrintWords Go.Proofs.YtfldklimlcnnnaaW.PrintLast Go.Proofs.YtfldklimlcnnnaaW.PrintMore Go.Proofs.Ytfldklimlcnnnaa.MWords
open Go.Proofs.Ytfldklimlcnnnaa.MNat Go.Proofs.Ytfldklimlcnnnaa.QNat Go.Proofs.Ytfldklimlcnnnaa.QText Go.Proofs.Ytfldklimlcnnnaa.QEv Go.Proofs.Ytfldklimlcnnnaa.QRatio Go.Proofs.Ytfldklimlcnnnaa.XRV Go.Proofs.Ytfldklimlcnnnaa.XHold Go.Proofs.Ytfldklimlcnnnaa.XBy
set_option linter.unusedVariables false
set_option linter.unusedSimpArgs false
attribute [local go_sem] Oper.semAt_some
-- hold_holder_holds.calls

def wN (h : Hd) : S34 := ⟨h.e, h.p⟩
def wX (h : Hd) : S34 := ⟨h.e2, h.p2⟩
def hv (h : Hd) : S34 := if h.a = true ∧ wt (wN h) < wt (wX h) then wX h else wN h
def okH (h : Hd) : Prop := okW (wN h) ∧ (h.a = true → okW (wX h))
theorem hv_ok {h : Hd} (k : okH h) : okW (hv h) := by
  unfold hv
  split
  · rename_i c; exact k.2 c.1
  · exact k.1
theorem hv_t (h : Hd) (k : okH h) : Tell (fun f => hold_holder_holds.f f h.e h.p h.e2 h.p2 h.a) ((hv h).f0, (hv h).f1) := by
  by_cases ha : h.a = true
  · have k2 := k.2 ha
    have o1 := of_w (wX h) k2
    have o2 := of_w (wN h) k.1
    have c := rcmp_t 1 1 _ _ _ _ (okW_F k2).1 (okW_F k2).2 (okW_F k.1).1 (okW_F k.1).2 (by omega) (okW_pos k2) (okW_pos k.1)
    have o1' : ratio_Of.f h.e2 h.p2 = some (limbs (wX h).f0.toNat, limbs (wX h).f1.toNat) := o1
    have o2' : ratio_Of.f h.e h.p = some (limbs (wN h).f0.toNat, limbs (wN h).f1.toNat) := o2
    refine Tell.of (g := fun f => (ratio_Cmp.f f (limbs (wX h).f0.toNat) (limbs (wX h).f1.toNat) (limbs (wN h).f0.toNat) (limbs (wN h).f1.toNat)).bind fun t => if t > 0 then some (h.e2, h.p2) else some (h.e, h.p)) (fun f => by
      unfold hold_holder_holds.f
      rw [if_pos ha, o1', Option.bind_some, o2', Option.bind_some]) ?_
    refine Tell.bind c ?_
    unfold hv
    show Tell (fun _ => if cmpR (wt (wX h)) (wt (wN h)) > 0 then some (h.e2, h.p2) else some (h.e, h.p)) _
    by_cases hlt : wt (wN h) < wt (wX h)
    · have : cmpR (wt (wX h)) (wt (wN h)) > 0 := by
        unfold cmpR
        rw [if_neg (fun h2 => (Rat.lt_iff_le_and_not_ge.1 hlt).2 (Rat.lt_iff_le_and_not_ge.1 h2).1), if_neg (fun e => by rw [e] at hlt; exact Rat.lt_irrefl hlt)]
        decide
      rw [show (if h.a = true ∧ wt (wN h) < wt (wX h) then wX h else wN h) = wX h from if_pos ⟨ha, hlt⟩]
      exact Tell.of (g := fun _ => some (h.e2, h.p2)) (fun _ => if_pos this) (Tell.const _)
    · have : ¬ cmpR (wt (wX h)) (wt (wN h)) > 0 := by
        unfold cmpR
        split
        · decide
        split
        · decide
        · rename_i h1 h2
          exact absurd (Rat.lt_of_le_of_ne (Rat.not_lt.1 h1) (fun e => h2 e.symm)) hlt
      rw [show (if h.a = true ∧ wt (wN h) < wt (wX h) then wX h else wN h) = wN h from if_neg (fun c => hlt c.2)]
      exact Tell.of (g := fun _ => some (h.e, h.p)) (fun _ => if_neg this) (Tell.const _)
  · unfold hv
    rw [if_neg (fun c => ha c.1)]
    exact Tell.of (g := fun _ => some (h.e, h.p)) (fun f => by unfold hold_holder_holds.f; rw [if_neg ha]) (Tell.const _)
theorem walks_below {W W' : World} (hb : Below W.heap.size W W') : KeepsWalks W W' := ⟨hb.size, fun k o hk _ => (hb.block k (Array.getElem?_eq_some_iff.1 hk).1).trans hk⟩
theorem left_step (l : List (Int × Hd)) (hn : (l.map (·.1)).Nodup) (left : Lit → Bool) {x : Int} {c : Hd} (hm : (x, c) ∈ l) (hl : left (.int .i64 x) = true) :
    ((l.filter fun y => left (.int .i64 y.1)).map (·.2)).Perm (c :: (l.filter fun y => (left (.int .i64 y.1) && !(Lit.int .i64 y.1).sameKey (.int .i64 x))).map (·.2)) := by
  have hs : ∀ a b : Int, (Lit.int .i64 a).sameKey (.int .i64 b) = decide (a = b) := fun a b => by
    by_cases h : a = b
    · subst h; simp [Lit.sameKey]
    · rw [decide_eq_false h]; exact Maps.sameKey_ne (lit_ne h)
  induction l with
  | nil => simp at hm
  | cons y l ih =>
    rw [List.map_cons, List.nodup_cons] at hn
    rcases List.mem_cons.1 hm with e | hm'
    · subst e
      have hrest : (l.filter fun y => (left (.int .i64 y.1) && !(Lit.int .i64 y.1).sameKey (.int .i64 x))) = l.filter fun y => left (.int .i64 y.1) := by
        refine List.filter_congr fun z hz => ?_
        have : z.1 ≠ x := fun e => hn.1 (List.mem_map.2 ⟨z, hz, e⟩)
        rw [hs, decide_eq_false this]
        simp
      rw [List.filter_cons, List.filter_cons, if_pos hl, hs, decide_eq_true rfl, if_neg (by simp), hrest]
      exact List.Perm.refl _
    · have hne : y.1 ≠ x := fun e => hn.1 (List.mem_map.2 ⟨_, hm', e.symm⟩)
      have ih := ih hn.2 hm'
      rw [List.filter_cons, List.filter_cons, hs, decide_eq_false hne]
      by_cases hly : left (.int .i64 y.1) = true
      · rw [if_pos hly, if_pos (by simp [hly]), List.map_cons, List.map_cons]
        exact (ih.cons y.2).trans (List.Perm.swap _ _ _)
      · rw [if_neg hly, if_neg (by simp [hly])]
        exact ih
set_option maxRecDepth 100000 in
set_option maxHeartbeats 4000000 in
theorem weights_seq (Bs g b : Nat) (x y u v : Value) (l : List (Int × Hd)) (w : World) (hBs : MBlk w Bs 24 #[.pointer (some ⟨g, 0, none⟩)]) (hg : MBlk w g 97 #[x, y, .map (some b), u, v]) (hm : MapIs w b l) (hl : l.length ≤ 1000000) (hok : ∀ z ∈ l, okH z.2) :
    SeqBy Fence.wide 5 Try.prog 126 #[.pointer (some ⟨Bs, 0, none⟩)] (fun s : S34 => #[.agg #[.int .i64 s.f0, .int .i64 s.f1]]) KeepsWalks (fun xs => xs.Perm (l.map fun z => hv z.2)) l.length w := by
  intro lo J Jx W hW hJ hJb hY h0
  obtain ⟨D, hD, hV⟩ := hm
  have HD := Aside0.mk (show W.ownsMap Try.prog 3 hdR b l.length D by
    obtain ⟨es, clock, h1, h2⟩ := hD
    exact ⟨es, clock, (hW.block b (Array.getElem?_eq_some_iff.1 h1).1).trans h1, h2⟩)
  have HV := Aside0.mk hV
  have k0 : W.cell? ⟨Bs, 0, none⟩ = some (.pointer (some ⟨g, 0, none⟩)) := (mblk_cell ((hW.block _ (mblk_lt hBs)).trans hBs) 0).trans rfl
  have k1 : W.cell? ⟨g, 1 + 1, none⟩ = some (.map (some b)) := (mblk_cell ((hW.block _ (mblk_lt hg)).trans hg) 2).trans rfl
  have HJ := Aside0.mk hJ
  have HJB := Aside0.mk hJb
  have HY := Aside0.mk hY
  have HOK := Aside0.mk hok
  clear hJ hJb hY hD hV hok hBs hg hW
  refine callsIn_of_wp Try.func126 rfl trivial ?_ rfl
  simp only [Try.ntmps126, List.size_toArray, List.length_cons, List.length_nil, Nat.reduceAdd, Nat.reduceSub, Array.replicate_succ, Array.replicate_zero, List.push_toArray, List.append_toArray, List.nil_append, List.cons_append]
  gi_wp2_with (gi_at_range; refine wpListIn_range_own _ rfl (.tmp 8) 94 rfl 3 102 keyed Try.underlying94 hdR b l.length D rfl HD.out ?_; intro w0 hrg0 hg0 hs0)
  have hJ0 := HJ.out _ _ _ none h0 hg0 (fun r e => by cases e)
  have HS0 := Aside0.mk hs0
  have hr0 : W.heap.size = W.heap.size := rfl
  gi_loopw [10] (fun _ wr => ∃ (left : Lit → Bool) (cnt : Nat) (pre : List Hd), wr.ranges Try.prog 3 hdR b W.heap.size l.length D left cnt ∧ Aside0 (J (pre.map hv) wr) ∧ Aside0 ((pre ++ (l.filter fun z => left (.int .i64 z.1)).map (·.2)).Perm (l.map (·.2))) ∧ Aside0 (W.heap.size ≤ wr.heap.size)) (fun _ wr => wr.rangeLeft b W.heap.size)
  case atStart =>
    refine ⟨Maps.has D, Maps.size D, [], hrg0, ⟨hJ0⟩, ⟨?_⟩, ⟨by rw [HS0.out]; omega⟩⟩
    rw [List.nil_append, List.filter_eq_self.2]
    · intro z hz
      rw [HV.out.has z.1, List.any_eq_true]
      exact ⟨z, hz, by simp⟩
  case round =>
    clear hJ0 hrg0 hg0 HS0 hr0 h0
    obtain ⟨left, cnt, pre, hrg, HJp, HP, HW⟩ := hrel
    have HRG := Aside0.mk hrg
    rw [hrg.left_eq]
    clear hrg
    gi_wp2_with (gi_at_next; refine wpListIn_next_ranges _ rfl (.tmp 9) rfl 3 keyed hdR (Value.int .i64) hdV (fun key kl hk => by obtain ⟨z, e, _⟩ := Maps.keyOf_int_inv Try.underlying3 hk; exact ⟨z, e⟩) (fun z y hz => by obtain ⟨c, e, _⟩ := hdR_inv hz; exact ⟨c, e⟩) b W.heap.size l.length D left cnt rfl HRG.out ?_ ?_)
    · intro _ hno
      have HX := Aside0.mk (show (pre.map hv).Perm (l.map fun z => hv z.2) by
        have h1 := HP.out
        have h2 : (l.filter fun z => left (.int .i64 z.1)) = [] := List.filter_eq_nil_iff.2 fun z _ => by simp [hno]
        rw [h2, List.map_nil, List.append_nil] at h1
        have h3 := h1.map hv
        rwa [List.map_map] at h3)
      gi_wp2
      go_end0
      exact ⟨⟨_, rfl⟩, .inl ⟨_, HX.out, HJp.out⟩⟩
    · intro z c kl y1 y2 w1 cnt1 hkey hlk hy hat hrg1 hlt hg1 hs1 hen
      have HLT := Aside0.mk hlt
      obtain ⟨z', ez, rfl, hwz⟩ := Maps.keyOf_int_inv Try.underlying3 hkey
      obtain rfl : z = z' := by injection ez
      obtain rfl : y1 = hdD c := by rw [hdR_mk] at hy; exact (congrArg (fun o => (o.getD (default, [])).1) hy).symm
      have hmem : (z, c) ∈ l := by
        have h1 := Maps.has_true_of_atKey hat
        rw [HV.out.has] at h1
        obtain ⟨q, hq, hqz⟩ := List.any_eq_true.1 h1
        have hqz' : q.1 = z := by simpa using hqz
        have h2 := HV.out.at_ q hq (hdD zeroH)
        rw [hqz', hat] at h2
        have h3 := hdD_inj h2
        rw [← hqz', h3]
        exact hq
      have HP2 := Aside0.mk (show ((pre ++ [c]) ++ (l.filter fun q => (left (.int .i64 q.1) && !(Lit.int .i64 q.1).sameKey (.int .i64 z))).map (·.2)).Perm (l.map (·.2)) by
        refine List.Perm.trans ?_ HP.out
        rw [List.append_assoc]
        exact (left_step l HV.out.nodup left hmem hlk).symm.append_left pre)
      have hpl : pre.length < l.length := by
        have h1 := HP2.out.length_eq
        simp only [List.length_append, List.length_map, List.length_cons, List.length_nil] at h1
        omega
      have hokc := HOK.out (z, c) hmem
      have hj1 := HJ.out _ _ _ (some W.heap.size) HJp.out hg1 (fun r e => by
        cases e
        exact ⟨Nat.le_refl _, HRG.out.iter_walk⟩)
      obtain ⟨f, hf⟩ := (hv_t c hokc).get
      have HF := Aside0.mk hf
      have HJ1 := Aside0.mk hj1
      have HR1 := Aside0.mk hrg1
      have HW1 := Aside0.mk (show W.heap.size ≤ w1.heap.size by rw [hs1]; exact HW.out)
      have HPL := Aside0.mk hpl
      simp only [hdV] at hen ⊢
      clear hkey hlk hy hat hrg1 hg1 hs1 hmem hj1 hf hwz ez hlt hpl hokc HJp HP HRG HW
      have h11 : 1 ≤ 5 := by omega
      gi_wp2
      refine ⟨trivial, (callsIn_wide.2 (hold_holder_holds.calls f c.e c.p c.e2 c.p2 c.a _ _ _ HF.out)).mono ?_⟩
      rintro e w2 ⟨rfl, hb⟩
      have hb1 : Below w1.heap.size w1 w2 := below_step (below_alloc (Below.refl _ _) _) hb
      have HJ2 := Aside0.mk (HJB.out _ _ _ HJ1.out hb1)
      have HR2 := Aside0.mk (World.ranges.of_walks HR1.out (walks_below hb1))
      have HW2 := Aside0.mk (Nat.le_trans HW1.out hb1.size)
      obtain ⟨fn, tmps, assign, body, hy, hR⟩ := HY.out (pre.map hv) (hv c) w2 HJ2.out (by rw [List.length_map]; exact HPL.out) HW2.out
      clear hb hb1 hen HJ1 HR1 HW1
      gi_wp2
      refine hR.mono ?_
      rintro e W3 (⟨rfl, hJ3, hk3, hs3⟩ | ⟨rfl, hJx3⟩)
      · have HJ3 := Aside0.mk (show J ((pre ++ [c]).map hv) W3 by rw [List.map_append]; exact hJ3)
        have HR3 := Aside0.mk (World.ranges.of_walks HR2.out hk3)
        have HW3 := Aside0.mk (Nat.le_trans HW2.out hs3)
        clear hJ3 hk3 hs3 hy hR
        gi_wp2
        go_roundw
        case rel => exact ⟨_, cnt1, pre ++ [c], HR3.out, HJ3, HP2, HW3⟩
        case measure => rw [HR3.out.left_eq]; exact HLT.out
      · have HJx := Aside0.mk hJx3
        clear hJx3 hy hR
        gi_wp2
        refine bodyPost_ret (results_none rfl _ _ _) rfl ?_
        exact ⟨⟨_, rfl⟩, .inr ⟨_, HJx.out⟩⟩
/-- The method weights: the pointer is boxed; the function value captures the box. -/
theorem weights_calls (g : Nat) (w : World) :
    Calls Try.prog 109 #[.pointer (some ⟨g, 0, none⟩)] w fun e w' => e = .returned (.func (.func 126) #[] #[.pointer (some ⟨w.heap.size, 0, none⟩)]) ∧ w' = w.alloc (.cells #[.pointer (some ⟨g, 0, none⟩)] 24) := by
  go_enter Try.func109, Try.ntmps109
  go_wp2_with fail
  go_ret
  exact ⟨rfl, rfl⟩
end Go.Proofs.Ytfldklimlcnnnaa.XWts

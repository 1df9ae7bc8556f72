/- A ledger in the heap; the walk of counts. -/
import Derived.Test.YtfldklimlcnnnaaXWts
import Derived.Laws.IdiomStrings
import Derived.RangeFuncFrom
import Derived.Shelf.Abstract
import Derived.RangeFuncBox
import Derived.Test.YtfldklimlcnnnaaPHqx14
namespace Go.Proofs.Ytfldklimlcnnnaa.XLed
open Go.RowKit Go.Shelf Go.Proofs.Ytfldklimlcnnnaa.PHq Go.Proofs.YtfldklimlcnnnaaW.PrintWords Go.Proofs.YtfldklimlcnnnaaW.PrintLast Go.Proofs.YtfldklimlcnnnaaW.PrintMore Go.Proofs.Ytfldklimlcnnnaa.MWords
open Go.Proofs.Ytfldklimlcnnnaa.MNat Go.Proofs.Ytfldklimlcnnnaa.QNat Go.Proofs.Ytfldklimlcnnnaa.QText Go.Proofs.Ytfldklimlcnnnaa.QEv Go.Proofs.Ytfldklimlcnnnaa.QRatio Go.Proofs.Ytfldklimlcnnnaa.XRV Go.Proofs.Ytfldklimlcnnnaa.XHold Go.Proofs.Ytfldklimlcnnnaa.XBy Go.Proofs.Ytfldklimlcnnnaa.XWts
set_option linter.unusedVariables false
set_option linter.unusedSimpArgs false
attribute [local go_sem] Oper.semAt_some
-- ratio_Sum.calls k34_mkM info34

/-- The ledger at g, its map at b: of how much, how much is held, who holds. -/
structure Led (W : World) (g b : Nat) (all q : Rat) (l : List (Int × Hd)) : Prop where
  cells : ∃ x y u v : Value, MBlk W g 97 #[x, y, .map (some b), u, v] ∧ RV W x y (L all).1 (L all).2 ∧ RV W u v (L q).1 (L q).2
  map : MapIs W b l
/-- What a method may write: the ledger and its map. -/
structure Kp (g b : Nat) (W W' : World) : Prop where
  os : W'.os = W.os
  tape : W'.tape = W.tape
  output : W'.output = W.output
  size : W.heap.size ≤ W'.heap.size
  same : ∀ k, k < W.heap.size → k ≠ g → k ≠ b → W'.heap[k]? = W.heap[k]?
theorem Kp.refl (g b : Nat) (W : World) : Kp g b W W := ⟨rfl, rfl, rfl, Nat.le_refl _, fun _ _ _ _ => rfl⟩
theorem Kp.trans {g b : Nat} {X Y Z : World} (h : Kp g b X Y) (k : Kp g b Y Z) : Kp g b X Z := ⟨k.os.trans h.os, k.tape.trans h.tape, k.output.trans h.output, Nat.le_trans h.size k.size, fun i hi h1 h2 => (k.same i (Nat.lt_of_lt_of_le hi h.size) h1 h2).trans (h.same i hi h1 h2)⟩
theorem Kp.of {g b : Nat} {W W' : World} (h : Below W.heap.size W W') : Kp g b W W' := ⟨h.os, h.tape, h.output, h.size, fun k hk _ _ => h.block k hk⟩
theorem Led.below {W W' : World} {g b : Nat} {all q : Rat} {l : List (Int × Hd)} (h : Led W g b all q l) (hb : Below W.heap.size W W') : Led W' g b all q l := by
  obtain ⟨x, y, u, v, h1, h2, h3⟩ := h.cells
  exact ⟨⟨x, y, u, v, (hb.block _ (mblk_lt h1)).trans h1, h2.below hb, h3.below hb⟩, h.map.kept (hb.block _ h.map.lt)⟩
theorem noLimb_map {W : World} {b : Nat} {es : Array MapEntry} {c : Nat} (h : W.heap[b]? = some (.map es c)) : NoLimb W b := by
  intro p hp n hc
  unfold World.cell? at hc
  rw [hp, h] at hc
  simp at hc
theorem noLimb_def {W : World} {b : Nat} {d : Option (List Deferred)} (h : W.heap[b]? = some (.deferred d)) : NoLimb W b := by
  intro p hp n hc
  unfold World.cell? at hc
  rw [hp, h] at hc
  simp at hc
theorem noLimb_led {W : World} {g b : Nat} {x y u v : Value} {xa ya ua va : List Int} (h : MBlk W g 97 #[x, y, .map (some b), u, v]) (h2 : RV W x y xa ya) (h3 : RV W u v ua va) : NoLimb W g := by
  obtain ⟨A, c, A', c', rfl, rfl⟩ := h2.shape
  obtain ⟨B, d, B', d', rfl, rfl⟩ := h3.shape
  intro p hp n hc
  unfold World.cell? at hc
  rw [hp, show W.heap[g]? = _ from h] at hc
  simp only at hc
  split at hc
  · cases hc
  · match ho : p.off, hc with
    | 0, hc => simp at hc
    | 1, hc => simp at hc
    | 2, hc => simp at hc
    | 3, hc => simp at hc
    | 4, hc => simp at hc
    | k + 5, hc => simp at hc
theorem Led.near {W W' : World} {g b : Nat} {all q : Rat} {l : List (Int × Hd)} (h : Led W g b all q l) (hg : W'.heap[g]? = W.heap[g]?) (hb : W'.heap[b]? = W.heap[b]?) (hk : ∀ k, k < W.heap.size → ¬ NoLimb W k → W'.heap[k]? = W.heap[k]?) : Led W' g b all q l := by
  obtain ⟨x, y, u, v, h1, h2, h3⟩ := h.cells
  exact ⟨⟨x, y, u, v, hg.trans h1, h2.near hk, h3.near hk⟩, h.map.kept hb⟩
theorem RV.kp {W W' : World} {g b : Nat} {all q : Rat} {l : List (Int × Hd)} {x y : Value} {xa ya : List Int} (h : RV W x y xa ya) (hL : Led W g b all q l) (hk : Kp g b W W') : RV W' x y xa ya := by
  obtain ⟨_, _, _, _, h1, h2, h3⟩ := hL.cells
  obtain ⟨es, c, h4⟩ := hL.map.obj
  refine h.near fun k hlt hn => hk.same k hlt (fun e => hn ?_) (fun e => hn ?_)
  · subst e; exact noLimb_led h1 h2 h3
  · subst e; exact noLimb_map h4
theorem Led.store {W : World} {g b : Nat} {all q q' : Rat} {l : List (Int × Hd)} {p p' : Value} (h : Led W g b all q l) (hp : RV W p p' (L q').1 (L q').2) : Led ((W.setCell ⟨g, 3, none⟩ p).setCell ⟨g, 4, none⟩ p') g b all q' l := by
  obtain ⟨x, y, u, v, h1, h2, h3⟩ := h.cells
  have hn := noLimb_led h1 h2 h3
  have hs : ∀ k, k ≠ g → ((W.setCell ⟨g, 3, none⟩ p).setCell ⟨g, 4, none⟩ p').heap[k]? = W.heap[k]? := fun k hk => (Below.heap_setCell _ ⟨g, 4, none⟩ _ k hk).trans (Below.heap_setCell _ ⟨g, 3, none⟩ _ k hk)
  have hk : ∀ k, k < W.heap.size → ¬ NoLimb W k → ((W.setCell ⟨g, 3, none⟩ p).setCell ⟨g, 4, none⟩ p').heap[k]? = W.heap[k]? := fun k _ hk => hs k (fun e => hk (by rw [e]; exact hn))
  have hb : b ≠ g := by
    rintro rfl
    obtain ⟨es, c, h4⟩ := h.map.obj
    rw [show W.heap[b]? = _ from h1] at h4
    cases h4
  exact ⟨⟨x, y, p, p', mblk_set (mblk_set h1 3 p) 4 p', h2.near hk, hp.near hk⟩, h.map.kept (hs b hb)⟩
theorem Kp.store (W : World) (g b : Nat) (p p' : Value) : Kp g b W ((W.setCell ⟨g, 3, none⟩ p).setCell ⟨g, 4, none⟩ p') :=
  ⟨by simp [World.setCell], by simp [World.setCell], by simp [World.setCell], by simp [World.setCell], fun k _ hk _ => (Below.heap_setCell _ ⟨g, 4, none⟩ _ k hk).trans (Below.heap_setCell _ ⟨g, 3, none⟩ _ k hk)⟩
theorem Led.ne {W : World} {g b : Nat} {all q : Rat} {l : List (Int × Hd)} (h : Led W g b all q l) : g ≠ b := by
  rintro rfl
  obtain ⟨x, y, u, v, h1, _⟩ := h.cells
  obtain ⟨es, c, h2⟩ := h.map.obj
  rw [show W.heap[g]? = _ from h1] at h2
  cases h2
theorem perm_sum {a b : List S34} (h : a.Perm b) : sumR a = sumR b := by
  induction h with
  | nil => rfl
  | cons x _ ih => show wt x + sumR _ = wt x + sumR _; rw [ih]
  | swap x y l => show wt y + (wt x + sumR l) = wt x + (wt y + sumR l); rw [← Rat.add_assoc, ← Rat.add_assoc, Rat.add_comm (wt y)]
  | trans _ _ ih1 ih2 => exact ih1.trans ih2
def heldL (l : List (Int × Hd)) : Rat := sumR (l.map fun z => hv z.2)
structure GoodL (l : List (Int × Hd)) : Prop where
  len : l.length ≤ 500
  ok : ∀ z ∈ l, okH z.2
/-- What a round of counts keeps: the box of the weights at B0. -/
structure CInv (B0 : Nat) (w : World) (pre : List S34) (W : World) : Prop where
  out : ∃ A c, MBlk W B0 112 #[.slice A pre.length c] ∧ Kd.R k34 34 W (B0 + 2) (fun _ => True) (.slice A pre.length c) pre
  keep : Below B0 w W
theorem mblk_walk {W W' : World} {row : Option Nat} {g : Nat} {t : TypeId} {cs : Array Value} (h : MBlk W g t cs) (hg : W.grownBy W' row) (hr : ∀ r, row = some r → ∃ o : Obj, W.heap[r]? = some o ∧ o.isCells = false) : MBlk W' g t cs :=
  (hg.block g (mblk_lt h) (fun e => by
    obtain ⟨o, ho, hc⟩ := hr g e.symm
    unfold MBlk at h
    rw [h] at ho
    obtain rfl := Option.some.inj ho
    simp [Obj.isCells] at hc)).trans h
theorem R_walk {α : Type} {d : Kd α} {e : Nat} {W W' : World} {base : Nat} {v : Value} {xs : List α} {row : Option Nat} (h : Kd.R d e W base (fun _ => True) v xs) (hg : W.grownBy W' row) (hr : ∀ r, row = some r → ∃ o : Obj, W.heap[r]? = some o ∧ o.isCells = false) : Kd.R d e W' base (fun _ => True) v xs :=
  Kd.R_mono (Kd.R_grown (Kd.R_bound h) hg (fun k hk e => by
    obtain ⟨_, _, _, q, _, cells, hc⟩ := hk
    obtain ⟨o, ho, hn⟩ := hr k e.symm
    rw [hc] at ho
    obtain rfl := Option.some.inj ho
    simp [Obj.isCells] at hn)) (fun _ _ => trivial)
theorem keeps_append {α : Type} {d : Kd α} {e base : Nat} {ok : Nat → Prop} {W W' : World} {v : Value} {xs : List α} (h : Kd.R d e W base ok v xs) (hg : W.grownBy W' v.ownBlock) : KeepsOthers W W' :=
  KeepsOthers.of_grownBy hg fun k o e hk => by
    obtain ⟨cells, hc⟩ := Kd.R_typed h k e
    rw [hc] at hk
    obtain rfl := Option.some.inj hk
    rfl
theorem CInv.own (B0 n : Nat) (w : World) (hw : B0 ≤ w.heap.size) (hn : B0 ≤ n) : OwnFrom n (CInv B0 w) := fun s X Y row h hg hr => by
  have hr' : ∀ r, row = some r → ∃ o : Obj, X.heap[r]? = some o ∧ o.isCells = false := fun r e => (hr r e).2
  obtain ⟨A, c, h1, h2⟩ := h.out
  exact ⟨⟨A, c, mblk_walk h1 hg hr', R_walk h2 hg hr'⟩, h.keep.grown hg (Nat.le_trans hw h.keep.size) (fun k e => by have := (hr k e).1; omega)⟩
theorem CInv.below (B0 : Nat) (w : World) (hw : B0 ≤ w.heap.size) (s : List S34) (X Y : World) (h : CInv B0 w s X) (hb : Below X.heap.size X Y) : CInv B0 w s Y := by
  obtain ⟨A, c, h1, h2⟩ := h.out
  exact ⟨⟨A, c, (hb.block _ (mblk_lt h1)).trans h1, Kd.R_below h2 hb⟩, h.keep.trans (hb.mono (Nat.le_trans hw h.keep.size))⟩
section
variable {F : Fence} {n : Nat} {P : Program} {ops : Array Oper} {rest : List Oper} {o : Oper} {a : Act} {Q : Exit → Act → World → Prop} {α : Type}
/-- append(v, x) of one element inside a fence. -/
theorem appendIn (d : Kd α) {W : World} (base : Nat) (hgd : o.guard = none) (s x : Operand) (t e : TypeId) (z : Value) (bytes : Nat)
    (ho : o.op = .call { callee := .builtin .append, args := #[s, x], argTypes := #[t, t] }) (ht : P.underlying t = some (.slice e))
    (hinfo : (P.info? e).map (fun i => (i.zero, i.size, i.bytes)) = some (some z, d.sz, bytes)) (hz : z.cells.size = d.sz) (hs0 : 0 < d.sz) (hb0 : 0 < bytes)
    (v : Value) (xs : List α) (p : α) (cs : List Value) (ok okp : Nat → Prop) (hs : a.eval s = v) (hx : a.eval x = .slice (some ⟨W.heap.size, 0, none⟩) 1 1) (hp : d.M W base okp p cs) (hokp : ∀ k, okp k → ok k ∧ some k ≠ v.ownBlock) (hfresh : ∀ k, W.heap.size ≤ k → ok k)
    (HO : d.R e W base ok v xs) (hbase : base ≤ W.heap.size) (hl : (xs.length + 1) * bytes ≤ 140737488355328)
    (h : ∀ v1 w1, d.R e w1 base ok v1 (xs ++ [p]) → W.grownBy w1 v.ownBlock → wpListIn F n P ops Q rest (a.put o.dst v1) w1) :
    wpListIn F n P ops Q (o :: rest) a (W.alloc (.cells cs.toArray e)) := by
  obtain ⟨h0, inner, hown, hr⟩ := HO
  obtain ⟨i, hi, hi'⟩ := Option.map_eq_some_iff.1 hinfo
  obtain ⟨i1, i2⟩ := Prod.mk.inj hi'
  obtain ⟨i2, i3⟩ := Prod.mk.inj i2
  have hlen := d.K_len (d.K_of_M hp)
  have hmax : xs.length + 1 ≤ 140737488355328 := Nat.le_trans (Nat.le_mul_of_pos_right _ hb0) hl
  refine wpListIn_append_own_at (W.alloc (.cells cs.toArray e)) hgd s x t ho base e i z d.sz bytes ht hi i1 i2 i3 hz hs0 v xs.length inner hs (hown.alloc _) ⟨W.heap.size, 0, none⟩ 1 1 cs hx (by rw [hlen, Nat.one_mul])
    (by simpa using World.news_of_block (cs := cs.toArray) (t := e) (fr := (0, 0)) (heap_alloc_new W (.cells cs.toArray e))) (d.K_one (d.K_of_M hp)) (by simp only [maxLen]; omega) hl (by simp; omega) ?_
  intro v1 w1 hown1 hg _ hat
  have hg1 := World.grownBy.trans (World.grownBy_alloc W (.cells cs.toArray e) v.ownBlock) hg
  refine h v1 w1 (Kd.R_appended h0 hr hp hokp hfresh hown1 hg1 ?_) hg1
  rcases hat with hat | hat
  · exact .inl hat
  · exact .inr ⟨_, hat, by simp⟩
end
set_option maxRecDepth 100000 in
set_option maxHeartbeats 4000000 in
theorem counts_calls (g b : Nat) (all q : Rat) (l : List (Int × Hd)) (w : World) (hL : Led w g b all q l) (hG : GoodL l) :
    Calls Try.prog 74 #[.pointer (some ⟨g, 0, none⟩)] w fun e w' => (∃ v, e = .returned v) ∧ Led w' g b all (heldL l) l ∧ Kp g b w w' := by
  have HL := Aside0.mk hL
  have HG := Aside0.mk hG
  obtain ⟨x, y, u, v, hM, hXY, hUV⟩ := hL.cells
  have HM := Aside0.mk hM
  clear hL hG
  refine (callsIn_wide (n := 6)).1 (callsIn_of_wp_marks Try.func74 rfl trivial (wpIn_wide.2 ?_) rfl)
  simp only [Try.ntmps74, List.size_toArray, List.length_cons, List.length_nil, Nat.reduceAdd, Nat.reduceSub, Array.replicate_succ, Array.replicate_zero, List.push_toArray, List.append_toArray, List.nil_append, List.cons_append]
  go_wp2_with fail
  refine (weights_calls g _).mono ?_
  rintro e w1 ⟨rfl, hw1⟩
  have ha : (w.alloc (.cells #[.slice none 0 0] 112)).heap.size = w.heap.size + 1 := by simp
  rw [ha]
  have HS1 := Aside0.mk (show w1.heap.size = w.heap.size + 2 by rw [hw1]; simp)
  have HB1 := Aside0.mk (show Below w.heap.size w w1 by rw [hw1]; exact below_alloc (below_alloc (Below.refl _ _) _) _)
  have HO1 := Aside0.mk (show MBlk w1 w.heap.size 112 #[.slice none 0 0] by rw [hw1]; exact mblk_alloc (mblk_new _ _ _) _)
  have HP1 := Aside0.mk (show MBlk w1 (w.heap.size + 1) 24 #[.pointer (some ⟨g, 0, none⟩)] by rw [hw1, ← ha]; exact mblk_new _ _ _)
  have HM1 := Aside0.mk ((HB1.out.block _ (mblk_lt HM.out)).trans HM.out)
  have HMP := Aside0.mk ((HL.out.below HB1.out).map)
  clear hw1 ha
  go_wp2_with fail
  have HN := Aside0.mk HG.out.len
  refine (wpIn_wide (n := 6)).1 ?_
  refine range_by (F := Fence.wide) (n := 6) rfl (by omega) (gf := 126) (lb := #[.pointer (some ⟨w.heap.size + 1, 0, none⟩)]) rfl trivial (enters_of Try.func126 (by kernel_rfl) rfl)
    (w0 := w1) (weights_seq (w.heap.size + 1) g b x y u v l w1 HP1.out HM1.out HMP.out (by have := HN.out; omega) HG.out.ok) (Below.refl _ _) (fun _ => rfl)
    (fun h k => h.trans k) (fun W k o o' hk ho hw => ⟨by simp [World.putObj], fun j ob hj hob => by
      by_cases e : j = k
      · subst e; rw [hk] at hj; cases hj; rw [hw] at hob; cases hob
      · exact (World.putObj_heap_other e).trans hj⟩)
    (CInv w.heap.size w) (fun _ _ => False) (CInv.own _ _ w (Nat.le_refl _) (by rw [HS1.out]; omega)) (fun _ _ _ _ h _ _ => h) (CInv.below _ w (Nat.le_refl _))
    ⟨⟨none, 0, HO1.out, Kd.R_nil _ _ _ _ _⟩, HB1.out⟩
    (fun s a' W => ∃ Bx, w1.heap.size ≤ Bx ∧ MBlk W Bx 34 #[.int .i64 s.f0, .int .i64 s.f1] ∧ a' = { tmps := #[.pointer (some ⟨g, 0, none⟩), undef, .pointer (some ⟨w.heap.size, 0, none⟩), .pointer (some ⟨Bx, 0, none⟩), .pointer (some ⟨g, 0, none⟩), .func (.func 126) #[] #[.pointer (some ⟨w.heap.size + 1, 0, none⟩)], .agg #[.int .i64 s.f0, .int .i64 s.f1], undef, undef, undef, undef, undef, undef, undef, undef, undef], defers := [] })
    (fun s a' _ X Y row hs hg hr => by obtain ⟨Bx, h1, h2, h3⟩ := hs; exact ⟨Bx, h1, mblk_walk h2 hg (fun r e => (hr r e).2), h3⟩)
    ?assign ?body ?done ?stop
  case assign =>
    rintro lo pre s W K hI hW hK
    gi_wp2
    obtain ⟨A, c, h1, h2⟩ := hI.out
    exact hK _ _ ((KeepsOthers.alloc _ _).from _) (walks_below (below_alloc (Below.refl _ _) _)) (CInv.below _ w (Nat.le_refl _) _ _ _ hI (below_alloc (Below.refl _ _) _)) ⟨W.heap.size, by omega, mblk_new _ _ _, rfl⟩
  case body =>
    rintro lo pre s a' W hI ⟨Bx, hBx, bX, rfl⟩ hlen hW
    obtain ⟨A, c, hO, hOR⟩ := hI.out
    have hwz := HS1.out
    have HI := Aside0.mk hI
    have HO := Aside0.mk hO
    have HOR := Aside0.mk hOR
    have hn := HN.out
    have k2 : W.cell? ⟨w.heap.size, 0, none⟩ = some (.slice A pre.length c) := (mblk_cell hO 0).trans rfl
    have x0 : W.cell? ⟨Bx, 0, none⟩ = some (.int .i64 s.f0) := (mblk_cell bX 0).trans rfl
    have x1 : W.cell? ⟨Bx, 1, none⟩ = some (.int .i64 s.f1) := (mblk_cell bX 1).trans rfl
    have HOB := Aside0.mk (show ∀ k, (Value.slice A pre.length c).ownBlock = some k → w.heap.size + 2 ≤ k from Kd.R_base hOR)
    have HWS := Aside0.mk (show w.heap.size + 2 ≤ W.heap.size by omega)
    have HLEN := Aside0.mk (show pre.length < 500 by omega)
    clear hI hO hOR bX
    gi_wp2_with (gi_at_builtin; refine appendIn k34 (w.heap.size + 2) rfl (.tmp 7) (.tmp 9) 112 34 (.agg #[.int .i64 0, .int .i64 0]) 16 rfl Try.underlying112 info34 rfl (by decide) (by omega) (.slice A pre.length c) pre s [.int .i64 s.f0, .int .i64 s.f1] (fun _ => True) (fun _ => False) rfl rfl (k34_mkM W _ _ s) (fun _ h => h.elim) (fun _ _ => trivial) HOR.out HWS.out (by have := HLEN.out; omega) ?_; intro v1 w2 hR1 hg1; obtain ⟨A2, c2, e2⟩ := Kd.R_slice hR1; subst e2; have HR2 := Aside0.mk hR1; have HG2 := Aside0.mk hg1; have HO3 := Aside0.mk (show MBlk w2 w.heap.size 112 #[.slice A pre.length c] from (hg1.block w.heap.size (mblk_lt HO.out) (fun e => by have := HOB.out _ e.symm; omega)).trans HO.out); have k9 : w2.cell? ⟨w.heap.size, 0, none⟩ = some (.slice A pre.length c) := (mblk_cell HO3.out 0).trans rfl; have kf9 : w2.frozen? ⟨w.heap.size, 0, none⟩ = false := mblk_frozen HO3.out 0; clear hR1 hg1)
    have hK := (keeps_append HOR.out HG2.out).trans (KeepsOthers.setCell w2 ⟨w.heap.size, 0, none⟩ (.slice A2 (pre ++ [s]).length c2))
    have hb2 : Below w.heap.size w w2 := HI.out.keep.grown HG2.out (Nat.le_trans (Nat.le_add_right _ _) HWS.out) (fun k e => by have := HOB.out k e; omega)
    have hh : CInv w.heap.size w (pre ++ [s]) (w2.setCell ⟨w.heap.size, 0, none⟩ (.slice A2 (pre ++ [s]).length c2)) :=
      ⟨⟨A2, c2, mblk_set HO3.out 0 _, Kd.R_mono (Kd.R_step (Kd.R_bound HR2.out) (fun k hk _ => Below.heap_setCell w2 ⟨w.heap.size, 0, none⟩ _ k (by have := hk.2.1; show k ≠ w.heap.size; omega))) (fun _ _ => trivial)⟩, hb2.setCell (p := ⟨w.heap.size, 0, none⟩) (Nat.le_refl _) _⟩
    simp only [List.length_append, List.length_cons, List.length_nil, Nat.zero_add] at hh hK
    exact ⟨hK.from _, hK.walks, hh⟩
  case done =>
    rintro xs W hp hI hD
    obtain ⟨A, c, hO, hOR⟩ := hI.out
    have k2 : W.cell? ⟨w.heap.size, 0, none⟩ = some (.slice A xs.length c) := (mblk_cell hO 0).trans rfl
    have hxl := hp.length_eq
    rw [List.length_map] at hxl
    have hok : ∀ z ∈ xs, okW z := fun z hz => by
      obtain ⟨y, hy, rfl⟩ := List.mem_map.1 (hp.mem_iff.1 hz)
      exact hv_ok (HG.out.ok y hy)
    obtain ⟨f, hf⟩ := (sum_t xs (by have := HN.out; omega) hok).1.get
    rw [show sumR xs = heldL l from perm_sum hp] at hf
    have HF := Aside0.mk hf
    have HR := Aside0.mk (Kd.R_reads' hOR)
    have HI := Aside0.mk hI
    have HD := Aside0.mk hD
    clear hf hOR hO hI hD hp hxl hok
    go_wp2_with fail
    refine (sum_rv (A := A) (c := c) ⟨HR.out.2.1, HR.out.2.2⟩ HF.out).mono ?_
    rintro e w5 ⟨p, q', rfl, hpq, hb⟩
    obtain ⟨A1, c1, A3, c3, rfl, rfl⟩ := hpq.shape
    have hbw : Below w.heap.size w w5 := below_step HI.out.keep hb
    have HM5 := Aside0.mk ((hbw.block _ (mblk_lt HM.out)).trans HM.out)
    have k3 : w5.cell? ⟨g, 3, none⟩ = some u := (mblk_cell HM5.out 3).trans rfl
    have k4 : w5.cell? ⟨g, 4, none⟩ = some v := (mblk_cell HM5.out 4).trans rfl
    have f3 : w5.frozen? ⟨g, 3, none⟩ = false := mblk_frozen HM5.out 3
    have f4 : w5.frozen? ⟨g, 4, none⟩ = false := mblk_frozen HM5.out 4
    have HB5 := Aside0.mk hbw
    have HD5 := Aside0.mk ((hb.block _ (Array.getElem?_eq_some_iff.1 HD.out).1).trans HD.out)
    have HPQ := Aside0.mk hpq
    clear hb hbw hpq
    go_wp2_with fail
    have hL5 : Led w5 g b all q l := HL.out.below HB5.out
    have hL6 := hL5.store HPQ.out
    have hK6 : Kp g b w ((w5.setCell ⟨g, 3, none⟩ (.slice A1 (L (heldL l)).1.length c1)).setCell ⟨g, 4, none⟩ (.slice A3 (L (heldL l)).2.length c3)) := (Kp.of HB5.out).trans (Kp.store _ _ _ _ _)
    have hne : w1.heap.size ≠ g := by have := mblk_lt HM.out; have := HS1.out; omega
    have hD6 : ((w5.setCell ⟨g, 3, none⟩ (.slice A1 (L (heldL l)).1.length c1)).setCell ⟨g, 4, none⟩ (.slice A3 (L (heldL l)).2.length c3)).heap[w1.heap.size]? = some (.deferred (some [])) :=
      ((Below.heap_setCell _ ⟨g, 4, none⟩ _ _ hne).trans (Below.heap_setCell _ ⟨g, 3, none⟩ _ _ hne)).trans HD5.out
    have hneb : w1.heap.size ≠ b := by have := HL.out.map.lt; have := HS1.out; omega
    refine ⟨by simp, .inl ⟨_, _, rfl, run_takeDeferred hD6, ?_⟩⟩
    have ho : ∀ k, k ≠ w1.heap.size → (World.putObj ((w5.setCell ⟨g, 3, none⟩ (.slice A1 (L (heldL l)).1.length c1)).setCell ⟨g, 4, none⟩ (.slice A3 (L (heldL l)).2.length c3)) w1.heap.size (.deferred none)).heap[k]? = ((w5.setCell ⟨g, 3, none⟩ (.slice A1 (L (heldL l)).1.length c1)).setCell ⟨g, 4, none⟩ (.slice A3 (L (heldL l)).2.length c3)).heap[k]? := fun k hk => World.putObj_heap_other hk
    refine ⟨_, results_none rfl _ _ _, ⟨_, rfl⟩, hL6.near (ho _ hne.symm) (ho _ hneb.symm) (fun k _ hk => ho k (fun e => hk (by rw [e]; exact noLimb_def hD6))), ⟨hK6.os, hK6.tape, hK6.output, Nat.le_trans hK6.size (by simp [World.putObj]), fun k hlt h1 h2 => (ho k (by have := HS1.out; omega)).trans (hK6.same k hlt h1 h2)⟩⟩
  case stop =>
    rintro pre W h _
    exact h.elim
end Go.Proofs.Ytfldklimlcnnnaa.XLed

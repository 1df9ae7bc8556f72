/- The walk of slices.Values over fields: what a range over it hands to its body. -/
import Derived.RangeFuncNested
import Derived.RangeFuncBound
import Derived.RangeFuncCalls
import Derived.RangeFuncLeaves
import Derived.RangeFuncBox
import Derived.Shelf.Abstract
import Derived.Shelf.RegionOpen
import Derived.WalkKit
import Derived.OwnWalkIn
import Derived.TacticsInMore
import Derived.LoopNIn
import Derived.LoopIn
import Derived.Test.YtfcoaneffdddkaaProg
import Derived.Test.YtfcoaneffdddkaaMWords
import Derived.Test.YtfcoaneffdddkaaMPut
import Derived.Test.YtfcoaneffdddkaaPWtx0

namespace Go.Proofs.Ytfcoaneffdddkaa.XVal
open Go.RowKit Go.Shelf Go.Proofs.Ytfcoaneffdddkaa.PWt Go.Proofs.YtfcoaneffdddkaaW.PrintWords Go.Proofs.YtfcoaneffdddkaaW.PrintLast Go.Proofs.YtfcoaneffdddkaaW.PrintMore Go.Proofs.Ytfcoaneffdddkaa.MWords
set_option linter.unusedVariables false
set_option linter.unusedSimpArgs false
attribute [local go_sem] Oper.semAt_some

theorem cell_of_block {W W' : World} {p : Addr} (h : W'.heap[p.block]? = W.heap[p.block]?) : W'.cell? p = W.cell? p := by
  unfold World.cell?
  rw [h]
theorem add_block (ad : Addr) (n : Nat) : (ad.add n).block = ad.block := by
  unfold Addr.add
  split <;> rfl
/-- A field: its number, how great it may be. -/
def kF : Kd (Int × Int) := Kd.pair (Kd.int .i64) (Kd.int .i64)
theorem kF_open {w : World} {x : Int × Int} {cs : List Value} (h : kF.K w x cs) : cs = [.int .i64 x.1, .int .i64 x.2] := by
  obtain ⟨_, _, rfl, rfl, rfl⟩ := h
  exact rfl
def rdF (xs : List (Int × Int)) (i : Nat) : Int × Int := xs.getD i (0, 0)
theorem at_F {w : World} {A : Option Addr} {n : Nat} {xs : List (Int × Int)} (h : Kd.C kF w A n xs) (i : Nat) (h1 : i < n) : ∃ ad, A = some ad ∧ w.cell? (ad.add (i * 2)) = some (.int .i64 (rdF xs i).1) ∧ w.cell? ⟨(ad.add (i * 2)).block, (ad.add (i * 2)).off + 1, none⟩ = some (.int .i64 (rdF xs i).2) := by
  obtain ⟨ad, c, e, _, hK, hc0⟩ := Kd.C_get h (0, 0) (i : Int) (by omega) (by omega)
  have hc : ∀ j u, c[j]? = some u → w.cell? (ad.add (i * 2 + j)) = some u := hc0
  obtain rfl := kF_open hK
  exact ⟨ad, e, hc 0 _ rfl, by rw [← add_field _ _ 1 (by omega)]; exact hc 1 _ rfl⟩
/-- What a round keeps: the blocks of G. -/
structure KpG (G : Nat → Prop) (W W' : World) : Prop where
  size : W.heap.size ≤ W'.heap.size
  same : ∀ k, G k → W'.heap[k]? = W.heap[k]?
theorem KpG.refl (G : Nat → Prop) (W : World) : KpG G W W := ⟨Nat.le_refl _, fun _ _ => rfl⟩
theorem KpG.trans {G : Nat → Prop} {A B C : World} (h : KpG G A B) (k : KpG G B C) : KpG G A C := ⟨Nat.le_trans h.size k.size, fun i hi => (k.same i hi).trans (h.same i hi)⟩
theorem KpG.putObj {G : Nat → Prop} {w : World} (hG : ∀ k, G k → k < w.heap.size) (W : World) (l : Nat) (o o' : Obj) (hl : w.heap.size ≤ l) (_ : W.heap[l]? = some o) (_ : o.isCells = false) (_ : o.isWalk = false) : KpG G W (W.putObj l o') :=
  ⟨by simp [World.putObj], fun k hk => World.putObj_heap_other (by have := hG k hk; omega)⟩
theorem take_snoc {α : Type} (l : List α) (i : Nat) (h : i < l.length) : l.take (i + 1) = l.take i ++ [l[i]] := by rw [List.take_succ_eq_append_getElem h]
theorem rdF_map {α : Type} (f : α → Int × Int) (ys : List α) (k : Nat) (h : k < ys.length) : rdF (ys.map f) k = f ys[k] := by
  unfold rdF
  simp [List.getD, h]
set_option maxRecDepth 100000 in
set_option maxHeartbeats 2000000 in
/-- slices.Values's closure over fields, for every body that keeps the blocks of G. -/
theorem vals1_in {α : Type} (f : α → Int × Int) (F : Fence) (n : Nat) (hf : F.fn 33) (hro : F.round = none) (hn : 1 ≤ n) (l Bs cap : Nat) (A : Option Addr) (ys : List α) (G : Nat → Prop) (hA : ∀ ad, A = some ad → G ad.block)
    (J Jx : List α → World → Prop) (W : World) (hG : ∀ k, G k → k < W.heap.size) (hJ : AbidesFrom W.heap.size J)
    (hY : ∀ pre x W1, J pre W1 → pre.length < ys.length → YieldAt F (n - 1) Try.prog l #[.agg #[.int .i64 (f x).1, .int .i64 (f x).2]] W1 fun e W' =>
      (e = .returned (.bool true) ∧ J (pre ++ [x]) W' ∧ KpG G W1 W') ∨ (e = .returned (.bool false) ∧ Jx (pre ++ [x]) W'))
    (hBs : W.cell? ⟨Bs, 0, none⟩ = some (.slice A ys.length cap)) (hC : Kd.C kF W A ys.length (ys.map f)) (hcap : ys.length ≤ cap) (hlen : ys.length ≤ 1000000) (h0 : J [] W) :
    CallsIn F n Try.prog 33 #[.func (.yield l) #[] #[], .pointer (some ⟨Bs, 0, none⟩)] W fun e W' => (∃ v, e = .returned v) ∧
      (J ys W' ∨ (∃ pre, pre <+: ys ∧ Jx pre W')) := by
  refine callsIn_of_wp Try.func33 rfl hf ?_ hro
  simp only [Try.ntmps33, List.size_toArray, List.length_cons, List.length_nil, Nat.reduceAdd, Nat.reduceSub, Array.replicate_succ, Array.replicate_zero, List.push_toArray, List.append_toArray, List.nil_append, List.cons_append]
  gi_wp2
  gi_loopw [7] (fun i wr => ∃ k : Nat, k ≤ ys.length ∧ i = .int .i64 k ∧ Aside0 (J (ys.take k) wr) ∧ Aside0 (KpG G W wr))
    (fun i _ => ys.length - (intOf i).toNat)
  case atStart => exact ⟨0, Nat.zero_le _, rfl, ⟨h0⟩, ⟨KpG.refl _ _⟩⟩
  case round =>
    obtain ⟨k, hk, rfl, HJ, HK⟩ := hrel
    by_cases hlt : k < ys.length
    · obtain ⟨ad, e, hx0, hx1⟩ := at_F hC k hlt
      subst e
      rw [rdF_map f ys k hlt] at hx0 hx1
      obtain ⟨x, hx⟩ : ∃ x, x = ys[k] := ⟨_, rfl⟩
      have HT := Aside0.mk (take_snoc ys k hlt)
      rw [← hx] at hx0 hx1 HT
      clear hx
      have hx0' : wr.cell? (ad.add (k * 2)) = some (.int .i64 (f x).1) := (cell_of_block (HK.out.same _ (by rw [add_block]; exact hA ad rfl))).trans hx0
      have hx1' : wr.cell? ⟨(ad.add (k * 2)).block, (ad.add (k * 2)).off + 1, none⟩ = some (.int .i64 (f x).2) := (cell_of_block (HK.out.same _ (by show G (ad.add (k * 2)).block; rw [add_block]; exact hA ad rfl))).trans hx1
      clear hx0 hx1
      have hja := hJ _ _ _ none HJ.out (World.grownBy_alloc wr (.cells #[.int .i64 (f x).1, .int .i64 (f x).2] 50) none) (fun r e => by cases e)
      obtain ⟨fn, tmps, assign, body, hy, hR⟩ := hY _ x _ hja (by rw [List.length_take]; omega)
      clear hja
      gi_wp2
      refine hR.mono ?_
      rintro e W3 (⟨rfl, hJ3, hk3⟩ | ⟨rfl, hJx3⟩)
      · have HJ3 := Aside0.mk hJ3
        have HK3 := Aside0.mk (HK.out.trans ((KpG.mk (by simp) (fun i hi => Below.heap_alloc wr (.cells #[.int .i64 (f x).1, .int .i64 (f x).2] 50) i (Nat.lt_of_lt_of_le (hG i hi) HK.out.size)) : KpG G wr _).trans hk3))
        clear hJ3 hk3
        gi_wp2
        go_roundw
        case rel => exact ⟨k + 1, by omega, by simp, ⟨by rw [HT.out]; exact HJ3.out⟩, HK3⟩
        case measure => simp [intOf]; omega
      · have HJx := Aside0.mk hJx3
        clear hJx3
        gi_wp2
        refine bodyPost_ret (results_none rfl _ _ _) rfl ?_
        exact ⟨⟨_, rfl⟩, .inr ⟨_, by rw [← HT.out]; exact List.take_prefix _ _, HJx.out⟩⟩
    · obtain rfl : k = ys.length := by omega
      gi_wp2
      go_end0
      exact ⟨⟨_, rfl⟩, .inl (by have := HJ.out; rwa [List.take_length] at this)⟩
/-- **slices.Values(s)**: the slice value is boxed; the function value captures the box. -/
theorem values_calls (A : Option Addr) (len cap : Nat) (w : World) :
    Calls Try.prog 27 #[.slice A len cap] w fun e w' => e = .returned (.func (.func 33) #[] #[.pointer (some ⟨w.heap.size, 0, none⟩)]) ∧ w' = w.alloc (.cells #[.slice A len cap] 66) := by
  go_enter Try.func27, Try.ntmps27
  go_wp2_with fail
  go_ret
  exact ⟨rfl, rfl⟩
/-- What a range over fields hands to its body. -/
theorem values_stops {α : Type} (f : α → Int × Int) (F : Fence) (n : Nat) (hf : F.fn 33) (hro : F.round = none) (hn : 1 ≤ n) (Bs cap : Nat) (A : Option Addr) (ys : List α) (G : Nat → Prop) (hA : ∀ ad, A = some ad → G ad.block) (w : World) (hG : ∀ k, G k → k < w.heap.size) (hB : Bs < w.heap.size)
    (hc : w.cell? ⟨Bs, 0, none⟩ = some (.slice A ys.length cap)) (hC : Kd.C kF w A ys.length (ys.map f)) (hcap : ys.length ≤ cap) (hlen : ys.length ≤ 1000000) :
    SeqStopsK F n Try.prog 33 #[.pointer (some ⟨Bs, 0, none⟩)] (fun x : α => #[.agg #[.int .i64 (f x).1, .int .i64 (f x).2]]) (KpG G) (fun zs => zs = ys) (fun pre => pre <+: ys) ys.length w := fun l J Jx W hW hJ _ hY h0 => by
  have hc' := (hW.cell (p := ⟨Bs, 0, none⟩) hB).trans hc
  refine (vals1_in f F n hf hro hn l Bs cap A ys G hA J Jx W (fun k hk => Nat.lt_of_lt_of_le (hG k hk) hW.size) hJ hY hc' (Kd.C_below hC hW) hcap hlen h0).mono ?_
  rintro e W' ⟨he, hj | ⟨pre, hp, hj⟩⟩
  · exact ⟨he, .inl ⟨_, rfl, hj⟩⟩
  · exact ⟨he, .inr ⟨_, hp, hj⟩⟩
end Go.Proofs.Ytfcoaneffdddkaa.XVal

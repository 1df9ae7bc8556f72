/- wire.reader.command's two closures: a number, a weight. -/
import Derived.Test.YtfcoaneffdddkaaXNext
import Derived.Test.YtfcoaneffdddkaaQWire

namespace Go.Proofs.Ytfcoaneffdddkaa.XNum
open Go.RowKit Go.Proofs.Ytfcoaneffdddkaa.PWt Go.Proofs.YtfcoaneffdddkaaW.PrintWords Go.Proofs.YtfcoaneffdddkaaW.PrintLast Go.Proofs.YtfcoaneffdddkaaW.PrintMore Go.Proofs.Ytfcoaneffdddkaa.MWords
open Go.Proofs.Ytfcoaneffdddkaa.QBits Go.Proofs.Ytfcoaneffdddkaa.MPut Go.Proofs.Ytfcoaneffdddkaa.XDig Go.Proofs.Ytfcoaneffdddkaa.QEv Go.Proofs.Ytfcoaneffdddkaa.XNext
set_option linter.unusedVariables false
set_option linter.unusedSimpArgs false
attribute [local go_sem] Oper.semAt_some

/-- The reader at g, its state st. -/
def Rd (w : World) (g : Nat) (st : St) : Prop := MBlk w g 54 #[.string st.1, .bool st.2]
/-- The variable at b that holds the reader's pointer. -/
def Bx (w : World) (b g : Nat) : Prop := MBlk w b 52 #[.pointer (some ⟨g, 0, none⟩)]
theorem rd_any (g : Nat) (st : St) (most : Int) (w : World) (hm : Rd w g st) (hs : st.1.size ≤ 1000000000) :
    Calls Try.prog 28 #[.pointer (some ⟨g, 0, none⟩), .int .i64 most] w fun e w' => e = .returned (.int .i64 (nx most st).1) ∧ Rd w' g (nx most st).2 ∧ Near g w w' :=
  next_any g st.1 st.2 most w hm hs
theorem num_any (b g : Nat) (st : St) (w : World) (hb : Bx w b g) (hm : Rd w g st) (hs : st.1.size ≤ 1000000000) :
    Calls Try.prog 29 #[.pointer (some ⟨b, 0, none⟩)] w fun e w' => e = .returned (.int .i64 (nx 1073741824 st).1) ∧ Rd w' g (nx 1073741824 st).2 ∧ Near g w w' := by
  have hc : w.cell? ⟨b, 0, none⟩ = some (.pointer (some ⟨g, 0, none⟩)) := (mblk_cell hb 0).trans rfl
  have HM := Aside0.mk hm
  have HS := Aside0.mk hs
  clear hm hs hb
  go_enter Try.func29, Try.ntmps29
  go_wp2_with (go_at_call 28; refine (rd_any g st 1073741824 _ HM.out HS.out).mono ?_; rintro e w1 ⟨rfl, h1, h2⟩; have H1 := Aside0.mk h1; have H2 := Aside0.mk h2; clear h1 h2)
  exact bodyPost_ret (results_tmp rfl _ _ _) rfl ⟨rfl, H1.out, H2.out⟩
theorem near_set {g : Nat} {w W : World} {b : Nat} (h : Near g w W) (hb : w.heap.size ≤ b) (i : Nat) (u : Value) : Near g w (W.setCell ⟨b, i, none⟩ u) :=
  ⟨h.os, h.tape, h.output, by simpa [World.setCell] using h.size, fun k hk hg => (Below.heap_setCell W ⟨b, i, none⟩ u k (Nat.ne_of_lt (Nat.lt_of_lt_of_le hk hb))).trans (h.block k hk hg)⟩
def wR (st : St) : S28 × St := (⟨(nx 1073741824 st).1, (nx 1073741824 (nx 1073741824 st).2).1⟩, (nx 1073741824 (nx 1073741824 st).2).2)
theorem weight_any (b g : Nat) (st : St) (w : World) (hb : Bx w b g) (hm : Rd w g st) (hs : st.1.size ≤ 1000000000) :
    Calls Try.prog 30 #[.pointer (some ⟨b, 0, none⟩)] w fun e w' => e = .returned (.agg #[.int .i64 (wR st).1.f0, .int .i64 (wR st).1.f1]) ∧ Rd w' g (wR st).2 ∧ Near g w w' := by
  have hgb : b ≠ g := mblk_ne hb hm (by decide)
  have hlt := mblk_lt hm
  obtain ⟨W0, hW0⟩ : ∃ W0, W0 = w.alloc (.cells #[.int .i64 0, .int .i64 0] 28) := ⟨_, rfl⟩
  have HM := Aside0.mk (show Rd W0 g st by rw [hW0]; exact mblk_alloc hm _)
  have HB := Aside0.mk (show Bx W0 b g by rw [hW0]; exact mblk_alloc hb _)
  have HN := Aside0.mk (show MBlk W0 w.heap.size 28 #[.int .i64 0, .int .i64 0] by rw [hW0]; exact mblk_new _ _ _)
  have HK := Aside0.mk (show Near g w W0 by rw [hW0]; exact Near.of_below (below_alloc (Below.refl _ _) _))
  have HS := Aside0.mk hs
  have hc : W0.cell? ⟨b, 0, none⟩ = some (.pointer (some ⟨g, 0, none⟩)) := (mblk_cell HB.out 0).trans rfl
  clear hm hs hb
  go_enter Try.func30, Try.ntmps30
  go_upto_region 1 with fail
  rw [← hW0]
  clear hW0
  go_wp2_with (first
    | (go_at_call 28; refine (rd_any g st 1073741824 _ HM.out HS.out).mono ?_; rintro e w1 ⟨rfl, h1, h2⟩; have H1 := Aside0.mk h1; have H2 := Aside0.mk h2; have HB1 := Aside0.mk (h2.blk HB.out hgb); have HN1 := Aside0.mk (h2.blk HN.out (by omega)); have hc1 : w1.cell? ⟨b, 0, none⟩ = some (.pointer (some ⟨g, 0, none⟩)) := (mblk_cell HB1.out 0).trans rfl; clear h1 h2)
    | (go_at_call 28; refine (rd_any g (nx 1073741824 st).2 1073741824 _ H1.out (Nat.le_trans (nx_size _ _) HS.out)).mono ?_; rintro e w2 ⟨rfl, h1, h2⟩; have H3 := Aside0.mk h1; have H4 := Aside0.mk h2; have HN2 := Aside0.mk (h2.blk HN1.out (by omega)); clear h1 h2; have hn0 : w2.cell? ⟨w.heap.size, 0, none⟩ = some (.int .i64 0) := (mblk_cell HN2.out 0).trans rfl; have hn1 : w2.cell? ⟨w.heap.size, 1, none⟩ = some (.int .i64 0) := (mblk_cell HN2.out 1).trans rfl; have hf0 : w2.frozen? ⟨w.heap.size, 0, none⟩ = false := mblk_frozen HN2.out 0; have hf1 : w2.frozen? ⟨w.heap.size, 1, none⟩ = false := mblk_frozen HN2.out 1))
  refine bodyPost_ret (results_cell_row rfl _ _ w.heap.size 28 _ (0, 0) _ rfl (mblk_set (mblk_set HN2.out 0 _) 1 _) Try.underlying28 rfl (by kernel_rfl)) rfl ⟨rfl, mblk_far (mblk_far H3.out (Nat.ne_of_lt hlt) _) (Nat.ne_of_lt hlt) _, near_set (near_set (HK.out.trans (H2.out.trans H4.out)) (Nat.le_refl _) _ _) (Nat.le_refl _) _ _⟩
end Go.Proofs.Ytfcoaneffdddkaa.XNum

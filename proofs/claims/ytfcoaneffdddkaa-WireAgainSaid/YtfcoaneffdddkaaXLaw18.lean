/- The walks of a law's helpers: awake, good. -/
import Derived.Test.YtfcoaneffdddkaaQWireGood
import Derived.Test.YtfcoaneffdddkaaPWtx23
namespace Go.Proofs.Ytfcoaneffdddkaa.XLaw18
open Go.RowKit Go.Shelf Go.Proofs.Ytfcoaneffdddkaa.PWt Go.Proofs.YtfcoaneffdddkaaW.PrintWords Go.Proofs.YtfcoaneffdddkaaW.PrintLast Go.Proofs.YtfcoaneffdddkaaW.PrintMore Go.Proofs.Ytfcoaneffdddkaa.MWords Go.Proofs.Ytfcoaneffdddkaa.MPut Go.Proofs.Ytfcoaneffdddkaa.XVal Go.Proofs.Ytfcoaneffdddkaa.XFields Go.Proofs.Ytfcoaneffdddkaa.QWire Go.Proofs.Ytfcoaneffdddkaa.QEv Go.Proofs.Ytfcoaneffdddkaa.XCheck Go.Proofs.Ytfcoaneffdddkaa.XBytes Go.Proofs.Ytfcoaneffdddkaa.QWireRef Go.Proofs.Ytfcoaneffdddkaa.QWireGood
set_option linter.unusedVariables false
set_option linter.unusedSimpArgs false

theorem F_heap {α : Type} {d : Kd α} (hd : Kd.Heap d) {W : World} {A : Option Addr} {n : Nat} {xs : List α} (h : d.C W A n xs) : Kd.F d W (fun _ => True) A n xs := fun W' hW => hd.C (fun k hk => hW k trivial hk) h
theorem good_calls (l : List S31) (A : Option Addr) (cp : Nat) (w : World) (hC : Kd.C k31 w A l.length l) (hc : l.length ≤ cp) (hw : ∀ c ∈ l, Wf c) :
    Calls Try.prog 8 #[.slice A l.length cp] w fun e w' => ∃ A2 c2, e = .returned (.slice A2 (goodL l).length c2) ∧ (goodL l).length ≤ c2 ∧ Kd.C k31 w' A2 (goodL l).length (goodL l) ∧ Below w.heap.size w w' := by
  obtain ⟨k, hk⟩ := (good_t l hC.2.1 hw).get
  refine (regattalaw18_good.calls k (fun _ => True) A cp l _ w (Kd.V_mk hc (F_heap k31_heap hC)) hk).mono ?_
  rintro e w' ⟨v, rfl, hN, hb⟩
  obtain ⟨A2, c2, rfl⟩ := Kd.N_slice hN
  have h := Kd.N_reads' hN
  exact ⟨A2, c2, rfl, h.2.1, h.2.2, hb⟩
theorem two_C {W : World} {g : Nat} {c d : S31} {A8 B8 : Option Addr} {c8 d8 : Nat} (h : MBlk W g 31 #[.int .i64 c.f0, .int .i64 c.f1, .int .i64 c.f2, .int .i64 c.f3, .int .i64 c.f4, .int .i64 c.f5.f0, .int .i64 c.f5.f1, .bool c.f6, .slice A8 c.f7.length c8, .int .i64 d.f0, .int .i64 d.f1, .int .i64 d.f2, .int .i64 d.f3, .int .i64 d.f4, .int .i64 d.f5.f0, .int .i64 d.f5.f1, .bool d.f6, .slice B8 d.f7.length d8]) (hC : Kd.C k67 W A8 c.f7.length c.f7) (hc : c.f7.length ≤ c8) (hD : Kd.C k67 W B8 d.f7.length d.f7) (hd : d.f7.length ≤ d8) : Kd.C k31 W (some ⟨g, 0, none⟩) [c, d].length [c, d] := by
  refine ⟨rfl, by simp, fun _ => ⟨_, rfl, fun j p hp => ?_⟩⟩
  match j, hp with
  | 0, hp =>
    obtain rfl : c = p := by simpa using hp
    refine ⟨_, rfl, k31_mk W c hc hC, fun i u hi => ?_⟩
    have hlt : i < 9 := (List.getElem?_eq_some_iff.1 hi).1
    have e : (⟨g, 0, none⟩ : Addr).add (0 * k31.sz + i) = ⟨g, i, none⟩ := by unfold Addr.add; split <;> simp_all
    rw [e, mblk_cell h, ← hi]
    match i, hlt with
    | 0, _ | 1, _ | 2, _ | 3, _ | 4, _ | 5, _ | 6, _ | 7, _ | 8, _ => rfl
  | 1, hp =>
    obtain rfl : d = p := by simpa using hp
    refine ⟨_, rfl, k31_mk W d hd hD, fun i u hi => ?_⟩
    have hlt : i < 9 := (List.getElem?_eq_some_iff.1 hi).1
    have e : (⟨g, 0, none⟩ : Addr).add (1 * k31.sz + i) = ⟨g, 9 + i, none⟩ := by
      have : 1 * k31.sz = 9 := rfl
      rw [this]
      unfold Addr.add; split <;> simp_all
    rw [e, mblk_cell h, ← hi]
    match i, hlt with
    | 0, _ | 1, _ | 2, _ | 3, _ | 4, _ | 5, _ | 6, _ | 7, _ | 8, _ => rfl
  | j + 2, hp => simp at hp
def awakeC : S31 := ⟨1, 0, -1, 0, 0, ⟨2, 3⟩, true, []⟩
def awakeD : S31 := ⟨5, 0, 0, 1, 0, ⟨0, 0⟩, false, []⟩
theorem awake_parts : ∀ c ∈ [awakeC, awakeD], c.f7.length ≤ 100000 := by
  intro c hc
  rcases List.mem_cons.1 hc with rfl | hc
  · exact Nat.zero_le _
  · rw [List.mem_singleton.1 hc]
    exact Nat.zero_le _
theorem awake_chk : chkW awakeC = true ∧ chkW awakeD = true := by decide +kernel
theorem awake_nums : cmdNums awakeC = [1, 0, 1, 2, 3] ∧ cmdNums awakeD = [5, 1] := by
  have e1 : (flds awakeC).map (·.1) = [0, 1, 2, 3] := by decide +kernel
  have e2 : (flds awakeD).map (·.1) = [1] := by decide +kernel
  unfold cmdNums
  rw [e1, e2]
  have h : ∀ n : Nat, n < 128 → vnum n = [(n : Int)] := fun n hn => vnum_lt n hn
  simp [vnums, awakeC, awakeD, h]
theorem awake_both : bytesW [awakeC, awakeD] = ⟨#[1, 0, 1, 2, 3, 5, 1]⟩ := by
  unfold bytesW
  rw [if_pos (by simp [awake_chk.1, awake_chk.2])]
  unfold rowNums
  simp only [List.map_cons, List.map_nil, awake_nums.1, awake_nums.2]
  rfl
theorem awake_one : (bytesW [awakeC]).size = 5 := by
  unfold bytesW
  rw [if_pos (by simp [awake_chk.1])]
  unfold rowNums
  simp only [List.map_cons, List.map_nil, awake_nums.1]
  rfl
set_option maxHeartbeats 1000000 in
set_option maxRecDepth 100000 in
theorem awake_calls (w : World) : Calls Try.prog 7 #[] w fun e w' => e = .returned (.bool true) ∧ Below w.heap.size w w' := by
  have H1 := Aside0.mk awake_both
  have H2 := Aside0.mk awake_one
  have hs1 : (w.alloc (.cells #[.int .i64 1, .int .i64 0, .int .i64 (-1), .int .i64 0, .int .i64 0, .int .i64 2, .int .i64 3, .bool true, .slice none 0 0] 31)).heap.size = w.heap.size + 1 := by simp
  have HM := Aside0.mk (show MBlk ((w.alloc (.cells #[.int .i64 1, .int .i64 0, .int .i64 (-1), .int .i64 0, .int .i64 0, .int .i64 2, .int .i64 3, .bool true, .slice none 0 0] 31)).alloc (.cells #[.int .i64 1, .int .i64 0, .int .i64 (-1), .int .i64 0, .int .i64 0, .int .i64 2, .int .i64 3, .bool true, .slice none 0 0, .int .i64 5, .int .i64 0, .int .i64 0, .int .i64 1, .int .i64 0, .int .i64 0, .int .i64 0, .bool false, .slice none 0 0] 31)) (w.heap.size + 1) 31 #[.int .i64 1, .int .i64 0, .int .i64 (-1), .int .i64 0, .int .i64 0, .int .i64 2, .int .i64 3, .bool true, .slice none 0 0, .int .i64 5, .int .i64 0, .int .i64 0, .int .i64 1, .int .i64 0, .int .i64 0, .int .i64 0, .bool false, .slice none 0 0] by rw [← hs1]; exact mblk_new _ _ _)
  go_enter Try.func7, Try.ntmps7
  go_wp2_with fail
  have HB := Aside0.mk (below_alloc (below_alloc (Below.refl w.heap.size w) (.cells #[.int .i64 1, .int .i64 0, .int .i64 (-1), .int .i64 0, .int .i64 0, .int .i64 2, .int .i64 3, .bool true, .slice none 0 0] 31)) (.cells #[.int .i64 1, .int .i64 0, .int .i64 (-1), .int .i64 0, .int .i64 0, .int .i64 2, .int .i64 3, .bool true, .slice none 0 0, .int .i64 5, .int .i64 0, .int .i64 0, .int .i64 1, .int .i64 0, .int .i64 0, .int .i64 0, .bool false, .slice none 0 0] 31))
  have HC := Aside0.mk (mblk_alloc (mblk_new w 31 #[.int .i64 1, .int .i64 0, .int .i64 (-1), .int .i64 0, .int .i64 0, .int .i64 2, .int .i64 3, .bool true, .slice none 0 0]) (.cells #[.int .i64 1, .int .i64 0, .int .i64 (-1), .int .i64 0, .int .i64 0, .int .i64 2, .int .i64 3, .bool true, .slice none 0 0, .int .i64 5, .int .i64 0, .int .i64 0, .int .i64 1, .int .i64 0, .int .i64 0, .int .i64 0, .bool false, .slice none 0 0] 31))
  refine (bytes_calls [awakeC, awakeD] (some ⟨w.heap.size + 1, 0, none⟩) 2 _ (two_C (c := awakeC) (d := awakeD) (A8 := none) (B8 := none) (c8 := 0) (d8 := 0) HM.out (Kd.C_nil _ _) (Nat.le_refl _) (Kd.C_nil _ _) (Nat.le_refl _)) (Nat.le_refl _) (by simp) awake_parts).mono ?_
  rintro e w2 ⟨rfl, hb⟩
  have HB2 := Aside0.mk (below_step HB.out hb)
  have HC2 := Aside0.mk ((hb.block _ (mblk_lt HC.out)).trans HC.out)
  rw [H1.out]
  clear hb HB HC HM hs1 H1
  have k0 : w2.cell? ⟨w.heap.size, 0, none⟩ = some (.int .i64 1) := (mblk_cell HC2.out 0).trans rfl
  have k1 : w2.cell? ⟨w.heap.size, 1, none⟩ = some (.int .i64 0) := (mblk_cell HC2.out 1).trans rfl
  have k2 : w2.cell? ⟨w.heap.size, 2, none⟩ = some (.int .i64 (-1)) := (mblk_cell HC2.out 2).trans rfl
  have k3 : w2.cell? ⟨w.heap.size, 3, none⟩ = some (.int .i64 0) := (mblk_cell HC2.out 3).trans rfl
  have k4 : w2.cell? ⟨w.heap.size, 4, none⟩ = some (.int .i64 0) := (mblk_cell HC2.out 4).trans rfl
  have k5 : w2.cell? ⟨w.heap.size, 5, none⟩ = some (.int .i64 2) := (mblk_cell HC2.out 5).trans rfl
  have k6 : w2.cell? ⟨w.heap.size, 6, none⟩ = some (.int .i64 3) := (mblk_cell HC2.out 6).trans rfl
  have k7 : w2.cell? ⟨w.heap.size, 7, none⟩ = some (.bool true) := (mblk_cell HC2.out 7).trans rfl
  have k8 : w2.cell? ⟨w.heap.size, 8, none⟩ = some (.slice none 0 0) := (mblk_cell HC2.out 8).trans rfl
  go_wp2_with fail
  refine (size_calls awakeC none 0 _ (Kd.C_nil _ _) (Nat.le_refl _) (by simp [awakeC])).mono ?_
  rintro e w3 ⟨rfl, hb⟩
  have HB3 := Aside0.mk (below_step HB2.out hb)
  rw [H2.out]
  clear hb HB2 HC2 k0 k1 k2 k3 k4 k5 k6 k7 k8
  go_wp2_with fail
  go_ret
  exact ⟨rfl, HB3.out⟩
end Go.Proofs.Ytfcoaneffdddkaa.XLaw18

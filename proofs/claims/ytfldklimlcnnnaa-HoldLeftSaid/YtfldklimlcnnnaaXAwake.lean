/- A ratio of two whole numbers; the walk of the chapter's example. -/
import Derived.Test.YtfldklimlcnnnaaXEnd
import Derived.Test.YtfldklimlcnnnaaPHqx5
namespace Go.Proofs.Ytfldklimlcnnnaa.XAwake
open Go.RowKit Go.Shelf Go.Proofs.Ytfldklimlcnnnaa.PHq Go.Proofs.YtfldklimlcnnnaaW.PrintWords Go.Proofs.YtfldklimlcnnnaaW.PrintLast Go.Proofs.YtfldklimlcnnnaaW.PrintMore Go.Proofs.Ytfldklimlcnnnaa.MWords
open Go.Proofs.Ytfldklimlcnnnaa.MNat Go.Proofs.Ytfldklimlcnnnaa.QNat Go.Proofs.Ytfldklimlcnnnaa.QText Go.Proofs.Ytfldklimlcnnnaa.QEv Go.Proofs.Ytfldklimlcnnnaa.QRatio Go.Proofs.Ytfldklimlcnnnaa.XRV Go.Proofs.Ytfldklimlcnnnaa.XHold Go.Proofs.Ytfldklimlcnnnaa.XWts Go.Proofs.Ytfldklimlcnnnaa.XLed Go.Proofs.Ytfldklimlcnnnaa.XPuts Go.Proofs.Ytfldklimlcnnnaa.XFits Go.Proofs.Ytfldklimlcnnnaa.XJoin Go.Proofs.Ytfldklimlcnnnaa.XMeth Go.Proofs.Ytfldklimlcnnnaa.XAsk Go.Proofs.Ytfldklimlcnnnaa.XEnd
set_option linter.unusedVariables false
set_option linter.unusedSimpArgs false
-- regattalaw12_one.calls

theorem one_f (n d : Nat) (hn : n < 18446744073709551616) (hd : d < 18446744073709551616) : regattalaw12_one.f 5 (n : Int) (d : Int) = some (limbs n, limbs d) := by
  unfold regattalaw12_one.f
  rw [QRef.rof_f 5 n hn (by omega), Option.bind_some, QRef.rof_f 5 d hd (by omega), Option.bind_some]
theorem one_rv (n d : Nat) (hn : n < 18446744073709551616) (hd : d < 18446744073709551616) (W : World) :
    Calls Try.prog 17 #[.int .u64 (n : Int), .int .u64 (d : Int)] W fun e w' => ∃ p q : Value, e = .returned (.agg #[p, q]) ∧ RV w' p q (limbs n) (limbs d) ∧ Below W.heap.size W w' :=
  (regattalaw12_one.calls 5 n d (limbs n) (limbs d) W (one_f n d hn hd)).mono fun e w' ⟨p, q, he, h1, h2, hb⟩ => ⟨p, q, he, RV.ofR h1 h2, hb⟩
theorem F_u64 {n : Nat} (h : n < 18446744073709551616) : F 2 n := by unfold F; simpa using h
theorem Kp.below {g b : Nat} {w X Y : World} (h : Below w.heap.size w X) (hg : w.heap.size ≤ g) (hb : w.heap.size ≤ b) (hk : Kp g b X Y) : Below w.heap.size w Y :=
  ⟨hk.os.trans h.os, hk.tape.trans h.tape, hk.output.trans h.output, Nat.le_trans h.size hk.size, fun k hlt => (hk.same k (Nat.lt_of_lt_of_le hlt h.size) (by omega) (by omega)).trans (h.block k hlt)⟩
theorem mkR_sz {n d : Nat} (hn : n < 18446744073709551616) (hd : d < 18446744073709551616) (h0 : 0 < d) : Sz 3000 (mkRat (n : Int) d) := sz_mono (mk_sz 2 n d (F_u64 hn) (F_u64 hd) h0) (by omega)
def aw1 : List (Int × Hd) := [(1, ⟨1, 2, 0, 0, false⟩)]
def aw2 : List (Int × Hd) := [(1, ⟨1, 2, 3, 4, true⟩)]
theorem good_nil : GoodL [] := ⟨by simp, by simp⟩
theorem good_aw1 : GoodL aw1 := ⟨by decide, fun z hz => by
  obtain rfl := List.mem_singleton.1 hz
  exact ⟨by unfold okW; decide, fun h => by cases h⟩⟩
theorem good_aw2 : GoodL aw2 := ⟨by decide, fun z hz => by
  obtain rfl := List.mem_singleton.1 hz
  exact ⟨by unfold okW; decide, fun h => by unfold okW; decide⟩⟩
theorem aw_e1 : joinE (mkRat ((1 : Nat) : Int) 1) (heldL []) [] 1 ⟨1, 2⟩ = 0 := by kernel_rfl
theorem aw_e2 : joinE (mkRat ((1 : Nat) : Int) 1) (heldL aw1) aw1 2 ⟨2, 3⟩ = 18 := by kernel_rfl
theorem aw_e3 : askE (mkRat ((1 : Nat) : Int) 1) (heldL aw1) aw1 1 ⟨3, 4⟩ = 0 := by kernel_rfl
theorem aw_e4 : joinE (mkRat ((1 : Nat) : Int) 1) (heldL aw2) aw2 2 ⟨1, 3⟩ = 18 := by kernel_rfl
theorem aw_l1 : joinL (mkRat ((1 : Nat) : Int) 1) (heldL []) [] 1 ⟨1, 2⟩ = aw1 := by unfold joinL; rw [aw_e1]; rfl
theorem aw_l2 : joinL (mkRat ((1 : Nat) : Int) 1) (heldL aw1) aw1 2 ⟨2, 3⟩ = aw1 := by unfold joinL; rw [aw_e2]; rfl
theorem aw_l3 : askL (mkRat ((1 : Nat) : Int) 1) (heldL aw1) aw1 1 ⟨3, 4⟩ = aw2 := by unfold askL; rw [aw_e3]; rfl
theorem aw_l4 : joinL (mkRat ((1 : Nat) : Int) 1) (heldL aw2) aw2 2 ⟨1, 3⟩ = aw2 := by unfold joinL; rw [aw_e4]; rfl
set_option maxRecDepth 100000 in
set_option maxHeartbeats 4000000 in
theorem awake_calls (w : World) : Calls Try.prog 15 #[] w fun e w' => e = .returned (.bool true) ∧ Below w.heap.size w w' := by
  have HS := Aside0.mk (mkR_sz (n := 1) (d := 1) (by omega) (by omega) (by omega))
  obtain ⟨A, hA⟩ : ∃ A, A = mkRat ((1 : Nat) : Int) 1 := ⟨_, rfl⟩
  have HAA := Aside0.mk hA
  rw [← hA] at HS
  go_enter Try.func15, Try.ntmps15
  go_upto_region 2 with (first
    | (go_at_call 17; refine (one_rv 1 1 (by omega) (by omega) _).mono ?_; rintro e w1 ⟨p, p', rfl, h1, hb⟩; obtain ⟨P1, c1, P2, c2, rfl, rfl⟩ := h1.shape; have HB1 := Aside0.mk hb; have H1 := Aside0.mk h1; clear h1 hb)
    | (go_at_call 16; refine (new_calls _ _ 1 1 2 w1 H1.out (F_u64 (by omega)) (F_u64 (by omega)) (by omega) (by omega)).mono ?_; rintro e w2 ⟨g, b, rfl, hl, hb, hg1, hg2⟩; rw [← HAA.out] at hl; have HL2 := Aside0.mk (show Led w2 g b A (heldL []) [] from hl); have HB2 := Aside0.mk (below_step HB1.out hb); have HG := Aside0.mk (And.intro (Nat.le_trans HB1.out.size hg1) (Nat.le_trans HB1.out.size hg2)); clear hl hb hg1 hg2))
  clear HB1 H1
  go_upto_region 5 with (go_at_call 18; refine (join_calls g b A [] 1 ⟨1, 2⟩ _ HL2.out HS.out good_nil (by simp) (wfI_of (by omega) (by omega))).mono ?_; rintro e w3 ⟨rfl, hl, hk⟩; rw [HAA.out, aw_e1]; rw [show joinL A (heldL []) [] 1 ⟨1, 2⟩ = aw1 by rw [HAA.out]; exact aw_l1] at hl; have HL3 := Aside0.mk hl; have HB3 := Aside0.mk (Kp.below HB2.out HG.out.1 HG.out.2 hk); clear hl hk)
  clear HL2 HB2
  go_upto_region 6 with (go_at_call 18; refine (join_calls g b A aw1 2 ⟨2, 3⟩ _ HL3.out HS.out good_aw1 (by decide) (wfI_of (by omega) (by omega))).mono ?_; rintro e w4 ⟨rfl, hl, hk⟩; rw [HAA.out, aw_e2]; rw [show joinL A (heldL aw1) aw1 2 ⟨2, 3⟩ = aw1 by rw [HAA.out]; exact aw_l2] at hl; have HL4 := Aside0.mk hl; have HB4 := Aside0.mk (Kp.below HB3.out HG.out.1 HG.out.2 hk); clear hl hk)
  clear HL3 HB3
  go_upto_region 7 with (go_at_call 28; refine (ask_calls g b A aw1 1 ⟨3, 4⟩ _ HL4.out HS.out good_aw1 (by decide) (wfI_of (by omega) (by omega))).mono ?_; rintro e w5 ⟨rfl, hl, hk⟩; rw [HAA.out, aw_e3]; rw [show askL A (heldL aw1) aw1 1 ⟨3, 4⟩ = aw2 by rw [HAA.out]; exact aw_l3] at hl; have HL5 := Aside0.mk hl; have HB5 := Aside0.mk (Kp.below HB4.out HG.out.1 HG.out.2 hk); clear hl hk)
  clear HL4 HB4
  go_upto_region 8 with (go_at_call 18; refine (join_calls g b A aw2 2 ⟨1, 3⟩ _ HL5.out HS.out good_aw2 (by decide) (wfI_of (by omega) (by omega))).mono ?_; rintro e w6 ⟨rfl, hl, hk⟩; rw [HAA.out, aw_e4]; rw [show joinL A (heldL aw2) aw2 2 ⟨1, 3⟩ = aw2 by rw [HAA.out]; exact aw_l4] at hl; have HL6 := Aside0.mk hl; have HB6 := Aside0.mk (Kp.below HB5.out HG.out.1 HG.out.2 hk); clear hl hk)
  clear HL5 HB5
  go_wp2_with (go_at_call 21; refine (len_calls g b A (heldL aw2) aw2 _ HL6.out (by decide)).mono ?_; rintro e w7 ⟨rfl, rfl⟩)
  exact bodyPost_ret (results_tmp rfl _ _ _) rfl ⟨rfl, HB6.out⟩
end Go.Proofs.Ytfldklimlcnnnaa.XAwake

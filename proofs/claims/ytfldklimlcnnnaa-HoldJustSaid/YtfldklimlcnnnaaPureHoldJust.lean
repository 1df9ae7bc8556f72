/- HoldJust: a join is accepted just if it fits, exactly. The walk of the law. -/
import Derived.Test.YtfldklimlcnnnaaQHold
import Derived.Laws.IdiomStrings

namespace Go.Proofs.Ytfldklimlcnnnaa.PureHoldJust
open Go.RowKit Go.Shelf Go.Proofs.Ytfldklimlcnnnaa.PHq Go.Proofs.YtfldklimlcnnnaaW.PrintWords Go.Proofs.YtfldklimlcnnnaaW.PrintLast Go.Proofs.YtfldklimlcnnnaaW.PrintMore Go.Proofs.Ytfldklimlcnnnaa.MWords
open Go.Proofs.Ytfldklimlcnnnaa.MNat Go.Proofs.Ytfldklimlcnnnaa.QNat Go.Proofs.Ytfldklimlcnnnaa.QText Go.Proofs.Ytfldklimlcnnnaa.QEv Go.Proofs.Ytfldklimlcnnnaa.QRatio Go.Proofs.Ytfldklimlcnnnaa.XRV Go.Proofs.Ytfldklimlcnnnaa.XHold Go.Proofs.Ytfldklimlcnnnaa.XWts Go.Proofs.Ytfldklimlcnnnaa.XLed Go.Proofs.Ytfldklimlcnnnaa.XPuts Go.Proofs.Ytfldklimlcnnnaa.XNew Go.Proofs.Ytfldklimlcnnnaa.XFits Go.Proofs.Ytfldklimlcnnnaa.XJoin Go.Proofs.Ytfldklimlcnnnaa.XMeth Go.Proofs.Ytfldklimlcnnnaa.XAsk Go.Proofs.Ytfldklimlcnnnaa.XEnd Go.Proofs.Ytfldklimlcnnnaa.XAwake Go.Proofs.Ytfldklimlcnnnaa.QHold
set_option linter.unusedVariables false
set_option linter.unusedSimpArgs false

/-- What stands behind i rounds: so many quanta of per are held, by IDs below i. -/
structure Just (l : List (Int × Hd)) (s per i : Nat) : Prop where
  good : GoodL l
  len : l.length ≤ i
  held : heldL l = mkRat (s : Int) per
  ids : ∀ y ∈ l, y.1 < (i : Int)
theorem Just.new {l : List (Int × Hd)} {s per i : Nat} (h : Just l s per i) : hasL l i = false := by
  unfold hasL
  rw [List.any_eq_false]
  intro y hy
  have := h.ids y hy
  simp
  omega
theorem Just.next {l : List (Int × Hd)} {s per i : Nat} (h : Just l s per i) : Just l s per (i + 1) := ⟨h.good, by have := h.len; omega, h.held, fun y hy => by have := h.ids y hy; omega⟩
theorem mayE {e per : Nat} (h0 : 1 ≤ e) (h1 : e ≤ per) (h2 : per ≤ 64) : mayW ⟨(e : Int), (per : Int)⟩ = true := by
  unfold mayW
  simp
  omega
theorem Just.join {l : List (Int × Hd)} {s per i e : Nat} (h : Just l s per i) (hi : i < 20) (h0 : 1 ≤ e) (h1 : e ≤ per) (h2 : per ≤ 64) : Just (setL l i ⟨(e : Int), (per : Int), 0, 0, false⟩) (s + e) per (i + 1) := by
  refine ⟨set_good h.good (by have := h.len; omega) ⟨may_ok (mayE h0 h1 h2), fun k => by cases k⟩, ?_, ?_, fun y hy => ?_⟩
  · rw [set_len]
    have := h.len
    split <;> omega
  · rw [held_new h.new, h.held, ← mk_addD s e per (by omega)]
    rfl
  · rcases set_mem hy with rfl | ⟨hm, _⟩
    · show (i : Int) < _
      omega
    · have := h.ids y hm
      omega
theorem Just.fits {l : List (Int × Hd)} {s per i e c : Nat} (h : Just l s per i) (h0 : 1 ≤ e) (h1 : e ≤ per) (h2 : per ≤ 64) :
    joinE (mkRat (c : Int) 1) (heldL l) l i ⟨(e : Int), (per : Int)⟩ = if s + e ≤ c * per then 0 else 18 := by
  rw [join_new (held_nonneg l) (mayE h0 h1 h2) h.new, h.held]
  have e1 : (mkRat (s : Int) per + wt ⟨(e : Int), (per : Int)⟩ ≤ mkRat (c : Int) 1) ↔ s + e ≤ c * per := by
    rw [show wt ⟨(e : Int), (per : Int)⟩ = mkRat (e : Int) per from rfl, mk_addD s e per (by omega), le_whole _ _ _ (by omega)]
  by_cases hle : s + e ≤ c * per
  · rw [if_pos (e1.2 hle), if_pos hle]
  · rw [if_neg (fun k => hle (e1.1 k)), if_neg hle]
set_option maxHeartbeats 4000000 in
set_option maxRecDepth 100000 in
theorem just_calls (p m : Int) (A : Option Addr) (cp : Nat) (xs : List Int) (w : World) (hC : Kd.C (Kd.int .i64) w A xs.length xs) (hc : xs.length ≤ cp) (hx : xs.length ≤ 9223372036854775807) :
    Calls Try.prog 3 #[.int .i64 p, .int .i64 m, .slice A xs.length cp] w fun e w' => e = .returned (.bool true) ∧ Below w.heap.size w w' := by
  have HC := Aside0.mk (And.intro hC (And.intro hc hx))
  obtain ⟨per, hper, per0, per1⟩ := one_any p 64 (by omega) (by omega)
  obtain ⟨c, hcr, c0, c1⟩ := one_any m 4 (by omega) (by omega)
  have HP := Aside0.mk (And.intro hper (And.intro per0 per1))
  have HR := Aside0.mk (And.intro hcr (And.intro c0 c1))
  have per2 : per ≤ 64 := by omega
  have c2 : c ≤ 4 := by omega
  clear hC hc hper hcr per1 c1
  have uc : IntKind.u64.wrap (c : Int) = (c : Int) := by rw [IntKind.wrap_u64]; omega
  have HS := Aside0.mk (mkR_sz (n := c) (d := 1) (by omega) (by omega) (by omega))
  go_enter Try.func3, Try.ntmps3
  go_upto_region 2 with (go_at_call 15; refine (awake_calls _).mono ?_; rintro e w1 ⟨rfl, hb⟩; have HB1 := Aside0.mk hb; clear hb)
  go_upto_region 4 with fail
  rw [HP.out.1, HR.out.1]
  go_upto_region 7 with (first
    | (go_at_call 17; refine (one_rv c 1 (by omega) (by omega) _).mono ?_; rintro e w2 ⟨q, q', rfl, h1, hb⟩; obtain ⟨P1, e1, P2, e2, rfl, rfl⟩ := h1.shape; have HB2 := Aside0.mk (below_step HB1.out hb); have H2 := Aside0.mk h1; clear h1 hb)
    | (go_at_call 16; refine (new_calls _ _ c 1 2 w2 H2.out (F_u64 (by omega)) (F_u64 (by omega)) (by omega) (by omega)).mono ?_; rintro e w3 ⟨g, b, rfl, hl, hb, hg1, hg2⟩; have HL3 := Aside0.mk (show Led w3 g b (mkRat (c : Int) 1) (heldL []) [] from hl); have HB3 := Aside0.mk (below_step HB2.out hb); have HG := Aside0.mk (And.intro (Nat.le_trans HB2.out.size hg1) (Nat.le_trans HB2.out.size hg2)); clear hl hb hg1 hg2))
  clear HB1 HB2 H2
  obtain ⟨All, hAll⟩ : ∃ All, All = mkRat (c : Int) 1 := ⟨_, rfl⟩
  rw [← hAll] at HL3 HS
  have HAL := Aside0.mk hAll
  clear hAll
  go_wp2_with fail
  go_loopw [11, 12] (fun v11 v12 wr => ∃ (i s : Nat) (l : List (Int × Hd)), v11 = .int .i64 s ∧ v12 = .int .i64 i ∧ i ≤ 20 ∧ i ≤ xs.length ∧ s ≤ i * 64 ∧ Aside0 (Led wr g b All (heldL l) l) ∧ Aside0 (Just l s per i) ∧ Aside0 (Below w.heap.size w wr)) (fun _ v12 _ => 20 - (intOf v12).toNat)
  case atStart => exact ⟨0, 0, [], rfl, rfl, by omega, by omega, by omega, HL3, ⟨good_nil, by simp, zero_mk _, by simp⟩, HB3⟩
  case round =>
    obtain ⟨i, s, l, rfl, rfl, hi, hix, hs, HL, HJ, HB⟩ := hrel
    by_cases hlt : i < xs.length ∧ i < 20
    case neg =>
      have us : IntKind.u64.wrap (s : Int) = (s : Int) := by rw [IntKind.wrap_u64]; omega
      have up : IntKind.u64.wrap (per : Int) = (per : Int) := by rw [IntKind.wrap_u64]; omega
      obtain ⟨k, hk⟩ := cmp_held HJ.out.good (by have := HJ.out.len; omega) s per (by omega) (by omega) (by omega)
      rw [HJ.out.held, cmpR_self] at hk
      have HK := Aside0.mk hk
      have HQ := Aside0.mk (show Sz 100000 (heldL l) from sz_mono (held_sz HJ.out.good) (by omega))
      clear hk
      by_cases h1 : i < xs.length
      · have h2 : i = 20 := by omega
        subst h2
        have d1 : decide (((20 : Nat) : Int) < (xs.length : Int)) = true := decide_eq_true (by omega)
        clear hlt
        go_wp2_with (first
          | (go_at_call 20; refine (held_calls g b All (heldL l) l _ HL.out HQ.out).mono ?_; rintro e w5 ⟨t, t', rfl, h5, hb⟩; rw [HJ.out.held] at h5; obtain ⟨T1, e1, T2, e2, rfl, rfl⟩ := h5.shape; have HB5 := Aside0.mk (below_step HB.out hb); have H5 := Aside0.mk h5; clear h5 hb)
          | (go_at_call 17; refine (one_rv s per (by omega) (by omega) _).mono ?_; rintro e w6 ⟨q, q', rfl, h6, hb⟩; obtain ⟨P1, e1, P2, e2, rfl, rfl⟩ := h6.shape; have HB6 := Aside0.mk (below_step HB5.out hb); have H6 := Aside0.mk h6; have H56 := Aside0.mk (H5.out.below hb); clear h6 hb)
          | (go_at_call 19; refine (rcmp_rv H56.out H6.out HK.out).mono ?_; rintro e w7 ⟨rfl, hb⟩; have HB7 := Aside0.mk (below_step HB6.out hb); clear hb))
        exact bodyPost_ret (results_tmp rfl _ _ _) rfl ⟨rfl, HB7.out⟩
      · have h2 : i = xs.length := by omega
        subst h2
        clear hlt h1
        go_wp2_with (first
          | (go_at_call 20; refine (held_calls g b All (heldL l) l _ HL.out HQ.out).mono ?_; rintro e w5 ⟨t, t', rfl, h5, hb⟩; rw [HJ.out.held] at h5; obtain ⟨T1, e1, T2, e2, rfl, rfl⟩ := h5.shape; have HB5 := Aside0.mk (below_step HB.out hb); have H5 := Aside0.mk h5; clear h5 hb)
          | (go_at_call 17; refine (one_rv s per (by omega) (by omega) _).mono ?_; rintro e w6 ⟨q, q', rfl, h6, hb⟩; obtain ⟨P1, e1, P2, e2, rfl, rfl⟩ := h6.shape; have HB6 := Aside0.mk (below_step HB5.out hb); have H6 := Aside0.mk h6; have H56 := Aside0.mk (H5.out.below hb); clear h6 hb)
          | (go_at_call 19; refine (rcmp_rv H56.out H6.out HK.out).mono ?_; rintro e w7 ⟨rfl, hb⟩; have HB7 := Aside0.mk (below_step HB6.out hb); clear hb))
        exact bodyPost_ret (results_tmp rfl _ _ _) rfl ⟨rfl, HB7.out⟩
    obtain ⟨hlx, hl20⟩ := hlt
    have d1 : decide ((i : Int) < (xs.length : Int)) = true := decide_eq_true (by omega)
    have d2 : decide ((i : Int) < 20) = true := decide_eq_true (by omega)
    obtain ⟨ad, cs, e, _, hcs, hcell⟩ := Kd.C_get (Kd.C_below HC.out.1 HB.out) 0 (i : Int) (by omega) (by omega)
    subst e
    obtain ⟨x, hx⟩ : ∃ x, x = xs.getD i 0 := ⟨_, rfl⟩
    have u0 : wr.cell? (ad.add i) = some (.int .i64 x) := by
      have h := hcell 0 (.int .i64 x) (by rw [hx, show cs = [.int .i64 (xs.getD (i : Int).toNat 0)] from hcs]; rfl)
      have e1 : (i : Int).toNat * (Kd.int .i64).sz + 0 = i := by
        show (i : Int).toNat * 1 + 0 = i
        simp
      rwa [e1] at h
    clear hcs hcell hx
    obtain ⟨e, he, e0, e1⟩ := one_any x per (by omega) (by omega)
    have e2 : e ≤ per := by omega
    have HE := Aside0.mk he
    have HJE := Aside0.mk (HJ.out.fits (c := c) e0 e2 per2)
    have HW := Aside0.mk (wfI_of (x := (i : Int)) (by omega) (by omega))
    clear he e1
    have np : ((per : Int) == 0) = false := beq_eq_false_iff_ne.2 (by omega)
    have np' : ¬ ((per : Int) = 0) := by omega
    go_upto_region 12 with fail
    rw [HE.out]
    have q1 : wrap64 ((s : Int) + (e : Int)) = ((s + e : Nat) : Int) := by rw [QBits.w64 (by omega) (by omega)]; omega
    have q2 : wrap64 ((c : Int) * (per : Int)) = ((c * per : Nat) : Int) := by
      have : c * per ≤ 4 * 64 := Nat.mul_le_mul c2 per2
      rw [← Int.natCast_mul, QBits.w64 (by omega) (by omega)]
    by_cases hf : s + e ≤ c * per
    · have d3 : decide (((s + e : Nat) : Int) ≤ ((c * per : Nat) : Int)) = true := decide_eq_true (by omega)
      have HJ0 := Aside0.mk (show joinE All (heldL l) l i ⟨(e : Int), (per : Int)⟩ = 0 by rw [HAL.out, HJE.out, if_pos hf])
      have HJL := Aside0.mk (show joinL All (heldL l) l i ⟨(e : Int), (per : Int)⟩ = setL l i ⟨(e : Int), (per : Int), 0, 0, false⟩ by unfold joinL; rw [HJ0.out, if_pos rfl])
      go_upto_region 13 with (go_at_call 18; refine (join_calls g b All l i ⟨(e : Int), (per : Int)⟩ _ HL.out HS.out HJ.out.good (by have := HJ.out.len; omega) HW.out).mono ?_; rintro e w5 ⟨rfl, hl, hk⟩; rw [HJ0.out]; rw [HJL.out] at hl; have HL5 := Aside0.mk hl; have HB5 := Aside0.mk (Kp.below HB.out HG.out.1 HG.out.2 hk); clear hl hk)
      go_wp2_with fail
      go_roundw
      case rel => exact ⟨i + 1, s + e, _, by first | rfl | (simp; done) | exact congrArg _ q1, by simp, by omega, by omega, by omega, HL5, ⟨HJ.out.join hl20 e0 e2 per2⟩, HB5⟩
      case measure => simp [intOf]; omega
    · have d3 : decide (((s + e : Nat) : Int) ≤ ((c * per : Nat) : Int)) = false := decide_eq_false (by omega)
      have HJ0 := Aside0.mk (show joinE All (heldL l) l i ⟨(e : Int), (per : Int)⟩ = 18 by rw [HAL.out, HJE.out, if_neg hf])
      have HJL := Aside0.mk (show joinL All (heldL l) l i ⟨(e : Int), (per : Int)⟩ = l by unfold joinL; rw [HJ0.out, if_neg (by decide)])
      go_upto_region 13 with (go_at_call 18; refine (join_calls g b All l i ⟨(e : Int), (per : Int)⟩ _ HL.out HS.out HJ.out.good (by have := HJ.out.len; omega) HW.out).mono ?_; rintro e w5 ⟨rfl, hl, hk⟩; rw [HJ0.out]; rw [HJL.out] at hl; have HL5 := Aside0.mk hl; have HB5 := Aside0.mk (Kp.below HB.out HG.out.1 HG.out.2 hk); clear hl hk)
      go_wp2_with fail
      go_roundw
      case rel => exact ⟨i + 1, s, l, rfl, by simp, by omega, by omega, by omega, HL5, ⟨HJ.out.next⟩, HB5⟩
      case measure => simp [intOf]; omega
end Go.Proofs.Ytfldklimlcnnnaa.PureHoldJust

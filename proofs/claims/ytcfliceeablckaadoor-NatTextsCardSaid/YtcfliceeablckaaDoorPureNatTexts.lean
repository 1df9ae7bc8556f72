/- NatTexts: texts are written and read as the document does. The walk of the law. -/
import Derived.Test.YtcfliceeablckaaDoorXNatD
import Derived.Laws.IdiomStrings

namespace Go.Proofs.YtcfliceeablckaaDoor.PureNatTexts
open Go.RowKit Go.Proofs.YtcfliceeablckaaDoor.PNd Go.Proofs.YtcfliceeablckaaDoorW.PrintWords Go.Proofs.YtcfliceeablckaaDoorW.PrintLast Go.Proofs.YtcfliceeablckaaDoorW.PrintMore Go.Proofs.YtcfliceeablckaaDoor.MWords
open Go.Proofs.YtcfliceeablckaaDoor.MNat Go.Proofs.YtcfliceeablckaaDoor.QNat Go.Proofs.YtcfliceeablckaaDoor.QText Go.Proofs.YtcfliceeablckaaDoor.QNText Go.Proofs.YtcfliceeablckaaDoor.XParse Go.Proofs.YtcfliceeablckaaDoor.XNText Go.Proofs.YtcfliceeablckaaDoor.XNatC Go.Proofs.YtcfliceeablckaaDoor.XNatD
set_option linter.unusedVariables false
set_option linter.unusedSimpArgs false
theorem dec_self (q : List Int) : decide (q = q) = true := decide_eq_true rfl
theorem made_num {l : List Int} (h : Lim l) : trim (l.take 6) = limbs (nval (l.take 6)) ∧ nval (l.take 6) < 4294967296 ^ 6 := by
  refine ⟨trim_eq (lim_take h 6), ?_⟩
  have h1 := nval_lt (lim_take h 6)
  have h2 : 4294967296 ^ (l.take 6).length ≤ 4294967296 ^ 6 := Nat.pow_le_pow_right (by omega) (by rw [List.length_take]; omega)
  omega
set_option maxRecDepth 100000 in
set_option maxHeartbeats 4000000 in
theorem texts_law (A0 : Option Addr) (c0 : Nat) (xs : List Int) (s : ByteArray) (z : Int) (w : World) (hx : Kd.C (Kd.int .u32) w A0 xs.length xs) (hxc : xs.length ≤ c0) (lx : Lim xs) (hz0 : 0 ≤ z) (hz1 : z < 18446744073709551616) :
    Calls Tryd.prog 3 #[.slice A0 xs.length c0, .string s, .int .u64 z] w fun e w' => e = .returned (.bool true) ∧ Below w.heap.size w w' := by
  obtain ⟨e0, h0⟩ := made_num lx
  generalize nval (xs.take 6) = a at *
  obtain ⟨n, hn⟩ : ∃ n : Nat, z = (n : Int) := ⟨z.toNat, by omega⟩
  have HX := Aside0.mk (And.intro hx hxc)
  have HE := Aside0.mk e0
  have NA := Aside0.mk (isN_limbs h0 (by omega))
  have p58 : (4294967296 : Nat) ^ 6 < 10 ^ 58 := by decide
  have H0 := Aside0.mk (show a < 10 ^ 58 by omega)
  have HN := Aside0.mk (show z = (n : Int) ∧ n < 18446744073709551616 from ⟨hn, by omega⟩)
  clear hx hxc lx e0 h0 p58 hz0 hz1 hn
  go_enter Tryd.func3, Tryd.ntmps3
  go_upto_region 2 with (go_at_call 5; refine (awake_rv _).mono ?_; rintro e w1 ⟨rfl, hb⟩; have HB1 := Aside0.mk hb; clear hb)
  go_upto_if 20 with (go_at_call 6; refine (made_rv A0 c0 xs _ HX.out.2 (Kd.C_below HX.out.1 HB1.out)).mono ?_; rw [HE.out]; rintro e w2 ⟨v, rfl, h, hb⟩; have HB2 := Aside0.mk (below_step HB1.out hb); have HV2 := Aside0.mk h; clear h hb)
  clear HB1
  go_cut [1] (fun v1 wc => ∃ s1 : ByteArray, v1 = .string s1 ∧ s1.size ≤ 60 ∧ Aside0 (Below w.heap.size w wc) ∧ Aside0 (NV wc v (limbs a)))
  case first =>
    by_cases h60 : 60 < s.size
    · have d1 : decide (60 < (s.size : Int)) = true := decide_eq_true (by omega)
      go_wp2_with fail
      go_meet
      case rel => exact ⟨_, rfl, by rw [ByteArray.size_extract]; simp; omega, HB2, HV2⟩
    · have d1 : decide (60 < (s.size : Int)) = false := decide_eq_false (by omega)
      go_wp2_with fail
      go_meet
      case rel => exact ⟨_, rfl, by omega, HB2, HV2⟩
  case rest =>
    obtain ⟨s1, rfl, h60, HB3, HV3⟩ := hcut
    clear HB2 HV2
    have HS := Aside0.mk h60
    have HL := Aside0.mk (parseL_len s1 h60)
    obtain ⟨E, hE⟩ : ∃ E, parseE s1 = E := ⟨_, rfl⟩
    obtain ⟨P, hP⟩ : ∃ P, parseL s1 = P := ⟨_, rfl⟩
    rw [hP] at HL
    have HEP := Aside0.mk (And.intro hE hP)
    clear h60 hE hP
    go_upto_region 6 with (go_at_call 7; have hp := parse_rv s1 HS.out wc; rw [HEP.out.1, HEP.out.2] at hp; refine hp.mono ?_; clear hp; rintro e w4 ⟨x, rfl, h, hb⟩; have HB4 := Aside0.mk (below_step HB3.out hb); have HV4 := Aside0.mk (HV3.out.below hb); have HX4 := Aside0.mk h; clear h hb)
    clear HB3 HV3
    go_upto_region 7 with (go_at_call 8; have hp := rparse_rv s1 HS.out w4; rw [HEP.out.1, HEP.out.2] at hp; refine hp.mono ?_; clear hp; rintro e w5 ⟨y, rfl, h, hb⟩; have HB5 := Aside0.mk (below_step HB4.out hb); have HV5 := Aside0.mk (HV4.out.below hb); have HX5 := Aside0.mk (HX4.out.below hb); have HY5 := Aside0.mk h; clear h hb)
    clear HB4 HV4 HX4
    go_upto_region 8 with (go_at_call 9; refine (same_rv P P _ _ _ (by have := HL.out; omega) HX5.out HY5.out).mono ?_; rw [dec_self]; rintro e w6 ⟨rfl, hd⟩; have HB6 := Aside0.mk (below_step HB5.out hd.below); have HV6 := Aside0.mk (HV5.out.below hd.below); clear hd)
    clear HB5 HV5 HX5 HY5
    have HO := Aside0.mk (QRef.limbs_len10 (show n < 10 ^ 20 by have := HN.out.2; omega))
    go_upto_if 43 with (first
      | (go_at_call 10; refine (of_rvX z n HN.out.2 _ HN.out.1).mono ?_; rintro e w7 ⟨p, rfl, h, hb⟩; have HB7 := Aside0.mk (below_step HB6.out hb); have HV7 := Aside0.mk (HV6.out.below hb); have HP7 := Aside0.mk h; clear h hb HB6 HV6)
      | (go_at_call 11; refine (rof_rv z n HN.out.2 _ HN.out.1).mono ?_; rintro e w8 ⟨q, rfl, h, hb⟩; have HB8 := Aside0.mk (below_step HB7.out hb); have HV8 := Aside0.mk (HV7.out.below hb); have HP8 := Aside0.mk (HP7.out.below hb); have HQ8 := Aside0.mk h; clear h hb HB7 HV7 HP7)
      | (go_at_call 9; go_loud (refine (same_rv (limbs n) (limbs n) _ _ _ (by have := HO.out; omega) HP8.out HQ8.out).mono ?_); rw [dec_self]; rintro e w9 ⟨rfl, hd⟩; have HB9 := Aside0.mk (below_step HB8.out hd.below); have HV9 := Aside0.mk (HV8.out.below hd.below); clear hd HB8 HV8 HP8 HQ8))
    go_cut [0] (fun v0 wc => ∃ l8 : List Int, NV wc v0 l8 ∧ l8.length ≤ 8 ∧ Aside0 (Below w.heap.size w wc) ∧ Aside0 (NV wc v (limbs a)))
    case first =>
      by_cases h8 : 8 < xs.length
      · have d1 : decide (8 < (xs.length : Int)) = true := decide_eq_true (by omega)
        have d2 : decide (8 < xs.length) = true := decide_eq_true h8
        (first | rw [d1] | rw [d2] | skip)
        have q : (8 : Int) ≤ (xs.length : Int) := by omega
        obtain ⟨i0, hi0, _, hsz, _⟩ := info_parts info35
        have hcut := cut_to (P := Tryd.prog) 22 35 .i64 Tryd.underlying22 hi0 A0 xs.length c0 8 (by omega) q HX.out.2
        have hn := NV.take8 8 (by omega) HX.out.2 (Kd.C_below HX.out.1 HB9.out)
        obtain ⟨l8, hl8⟩ : ∃ l8, l8 = xs.take 8 := ⟨_, rfl⟩
        rw [← hl8] at hn
        have hy : l8.length = (8 : Int).toNat := by rw [hl8, List.length_take]; omega
        rw [← hy] at hcut
        have HN9 := Aside0.mk hn
        have HY := Aside0.mk (show l8.length ≤ 8 by rw [hy]; decide)
        clear hn hl8 hy hi0 hsz h8
        replace q := eq_true q
        go_wp2_with fail
        go_meet
        case rel => exact ⟨l8, HN9.out, HY.out, HB9, HV9⟩
      · have d1 : decide (8 < (xs.length : Int)) = false := decide_eq_false (by omega)
        have d2 : decide (8 < xs.length) = false := decide_eq_false h8
        (first | rw [d1] | rw [d2] | skip)
        have HN9 := Aside0.mk (show NV w9 (.slice A0 xs.length c0) xs from ⟨A0, c0, rfl, HX.out.2, Kd.C_below HX.out.1 HB9.out⟩)
        have HY := Aside0.mk (show xs.length ≤ 8 by omega)
        clear h8
        go_wp2_with fail
        go_meet
        case rel => exact ⟨xs, HN9.out, HY.out, HB9, HV9⟩
    case rest =>
      obtain ⟨l8, hn8, hl8, HB10, HV10⟩ := hcut
      have HN10 := Aside0.mk hn8
      have HL8 := Aside0.mk hl8
      clear hn8 hl8 HB9 HV9
      obtain ⟨t, ht⟩ : ∃ t, t = strOfNums (txt a) := ⟨_, rfl⟩
      have HT := Aside0.mk ht
      obtain ⟨K, hK⟩ : ∃ K, lastOk l8 = K := ⟨_, rfl⟩
      have HK := Aside0.mk hK
      clear ht hK
      go_wp2_with (first
        | (go_at_call 12; refine (text_rv a 58 _ _ H0.out (by omega) NA.out HV10.out).mono ?_; rw [← HT.out]; rintro e w11 ⟨rfl, hb⟩; have HB11 := Aside0.mk (below_step HB10.out hb); have HV11 := Aside0.mk (HV10.out.below hb); have HN11 := Aside0.mk (HN10.out.below hb); clear hb HB10 HV10 HN10)
        | (go_at_call 13; refine (rtext_rv a 58 _ _ H0.out (by omega) HV11.out).mono ?_; rw [← HT.out]; rintro e w12 ⟨rfl, hb⟩; have HB12 := Aside0.mk (below_step HB11.out hb); have HN12 := Aside0.mk (HN11.out.below hb); clear hb HB11 HV11 HN11)
        | (go_at_call 14; refine (check_rv _ l8 _ (by have := HL8.out; omega) HN12.out).mono ?_; rw [HK.out]; rintro e w13 ⟨rfl, hd⟩; have HB13 := Aside0.mk (below_step HB12.out hd.below); have HN13 := Aside0.mk (HN12.out.below hd.below); clear hd HB12 HN12)
        | (go_at_call 15; refine (rcheck_rv _ l8 _ (by have := HL8.out; omega) HN13.out).mono ?_; rw [HK.out]; rintro e w14 ⟨rfl, hd⟩; have HB14 := Aside0.mk (below_step HB13.out hd.below); clear hd HB13 HN13))
      exact bodyPost_ret (results_tmp rfl _ _ _) rfl ⟨by simp, HB14.out⟩
end Go.Proofs.YtcfliceeablckaaDoor.PureNatTexts

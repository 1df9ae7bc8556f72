/- NatText: texts come back; a nought ahead, or nothing, is none; longer digits are a greater number. The walk of the law. -/
import Derived.Test.YtcfliceeablckaaDoorXNatC

namespace Go.Proofs.YtcfliceeablckaaDoor.PureNatText
open Go.RowKit Go.Proofs.YtcfliceeablckaaDoor.PNd Go.Proofs.YtcfliceeablckaaDoorW.PrintWords Go.Proofs.YtcfliceeablckaaDoorW.PrintLast Go.Proofs.YtcfliceeablckaaDoorW.PrintMore Go.Proofs.YtcfliceeablckaaDoor.MWords
open Go.Proofs.YtcfliceeablckaaDoor.MNat Go.Proofs.YtcfliceeablckaaDoor.QNat Go.Proofs.YtcfliceeablckaaDoor.QText Go.Proofs.YtcfliceeablckaaDoor.QNText Go.Proofs.YtcfliceeablckaaDoor.XParse Go.Proofs.YtcfliceeablckaaDoor.XNText Go.Proofs.YtcfliceeablckaaDoor.XNatC
set_option linter.unusedVariables false
set_option linter.unusedSimpArgs false
theorem made_num {l : List Int} (h : Lim l) : trim (l.take 6) = limbs (nval (l.take 6)) ∧ nval (l.take 6) < 4294967296 ^ 6 := by
  refine ⟨trim_eq (lim_take h 6), ?_⟩
  have h1 := nval_lt (lim_take h 6)
  have h2 : 4294967296 ^ (l.take 6).length ≤ 4294967296 ^ 6 := Nat.pow_le_pow_right (by omega) (by rw [List.length_take]; omega)
  omega
set_option maxRecDepth 100000 in
set_option maxHeartbeats 4000000 in
theorem text_law (A0 A1 : Option Addr) (c0 c1 : Nat) (xs ys : List Int) (w : World) (hx : Kd.C (Kd.int .u32) w A0 xs.length xs) (hxc : xs.length ≤ c0) (hy : Kd.C (Kd.int .u32) w A1 ys.length ys) (hyc : ys.length ≤ c1) (lx : Lim xs) (ly : Lim ys) :
    Calls Tryd.prog 4 #[.slice A0 xs.length c0, .slice A1 ys.length c1] w fun e w' => e = .returned (.bool true) ∧ Below w.heap.size w w' := by
  obtain ⟨e0, h0⟩ := made_num lx
  obtain ⟨e1, h1⟩ := made_num ly
  generalize nval (xs.take 6) = a at *
  generalize nval (ys.take 6) = b at *
  have HX := Aside0.mk (And.intro hx hxc)
  have HY := Aside0.mk (And.intro hy hyc)
  have HE := Aside0.mk (And.intro e0 e1)
  have NA := Aside0.mk (isN_limbs h0 (by omega))
  have NB := Aside0.mk (isN_limbs h1 (by omega))
  have p58 : (4294967296 : Nat) ^ 6 < 10 ^ 58 := by decide
  have H0 := Aside0.mk (show a < 10 ^ 58 by omega)
  have H1 := Aside0.mk (show b < 10 ^ 58 by omega)
  clear hx hxc hy hyc lx ly e0 e1 h0 h1 p58
  go_enter Tryd.func4, Tryd.ntmps4
  go_upto_region 2 with (go_at_call 5; refine (awake_rv _).mono ?_; rintro e w1 ⟨rfl, hb⟩; have HB1 := Aside0.mk hb; clear hb)
  go_upto_region 3 with (go_at_call 6; refine (made_rv A0 c0 xs _ HX.out.2 (Kd.C_below HX.out.1 HB1.out)).mono ?_; rw [HE.out.1]; rintro e w2 ⟨v, rfl, h, hb⟩; have HB2 := Aside0.mk (below_step HB1.out hb); have HV2 := Aside0.mk h; clear h hb)
  go_upto_region 4 with (go_at_call 6; refine (made_rv A1 c1 ys _ HY.out.2 (Kd.C_below HY.out.1 HB2.out)).mono ?_; rw [HE.out.2]; rintro e w3 ⟨u, rfl, h, hb⟩; have HB3 := Aside0.mk (below_step HB2.out hb); have HV3 := Aside0.mk (HV2.out.below hb); have HU3 := Aside0.mk h; clear h hb)
  clear HB1 HB2 HV2
  obtain ⟨s, hs⟩ : ∃ s, s = strOfNums (txt a) := ⟨_, rfl⟩
  obtain ⟨t, ht⟩ : ∃ t, t = strOfNums (txt b) := ⟨_, rfl⟩
  have HS := Aside0.mk hs
  have HT := Aside0.mk ht
  clear hs ht
  go_upto_region 5 with (go_at_call 12; refine (text_rv a 58 _ _ H0.out (by omega) NA.out HV3.out).mono ?_; rw [← HS.out]; rintro e w4 ⟨rfl, hb⟩; have HB4 := Aside0.mk (below_step HB3.out hb); have HV4 := Aside0.mk (HV3.out.below hb); have HU4 := Aside0.mk (HU3.out.below hb); clear hb)
  go_upto_region 6 with (go_at_call 12; refine (text_rv b 58 _ _ H1.out (by omega) NB.out HU4.out).mono ?_; rw [← HT.out]; rintro e w5 ⟨rfl, hb⟩; have HB5 := Aside0.mk (below_step HB4.out hb); have HV5 := Aside0.mk (HV4.out.below hb); have HU5 := Aside0.mk (HU4.out.below hb); clear hb)
  clear HB3 HV3 HU3 HB4 HV4 HU4
  go_upto_region 7 with (go_at_call 7; have hp := parse_txt a H0.out w5; rw [← HS.out] at hp; refine hp.mono ?_; rintro e w6 ⟨x, rfl, h, hb⟩; have HB6 := Aside0.mk (below_step HB5.out hb); have HV6 := Aside0.mk (HV5.out.below hb); have HU6 := Aside0.mk (HU5.out.below hb); have HX6 := Aside0.mk h; clear h hb hp)
  clear HB5 HV5 HU5
  have DS : decide (limbs a = limbs a) = true := decide_eq_true rfl
  go_upto_region 8 with (go_at_call 9; refine (same_rv (limbs a) (limbs a) _ _ _ (by have := NA.out.2; omega) HX6.out HV6.out).mono ?_; rw [DS]; rintro e w7 ⟨rfl, hd⟩; have HB7 := Aside0.mk (below_step HB6.out hd.below); have HV7 := Aside0.mk (HV6.out.below hd.below); have HU7 := Aside0.mk (HU6.out.below hd.below); clear hd)
  clear HB6 HV6 HU6 HX6
  have z1 : s.size ≤ 58 := by rw [HS.out, str_size]; exact txt_len a H0.out
  have z2 : ¬ ((((⟨#[48]⟩ : ByteArray).size + s.size : Nat) : Int) > IntKind.i64.max) := by
    have e1 : (⟨#[48]⟩ : ByteArray).size = 1 := rfl
    have e2 : IntKind.i64.max = 9223372036854775807 := rfl
    rw [e1, e2]
    omega
  have z3 : ¬ (((1 + s.size : Nat) : Int) > 9223372036854775807) := by omega
  have z4 : ¬ ((1 : Int) + (s.size : Int) > 9223372036854775807) := by omega
  go_upto_region 9 with (go_at_call 7; go_loud (refine (parse_bad ((⟨#[48]⟩ : ByteArray) ++ s) (by rw [ByteArray.size_append]; have e1 : (⟨#[48]⟩ : ByteArray).size = 1 := rfl; omega) (by rw [HS.out]; exact nought_bad a) _).mono ?_); rintro e w8 ⟨rfl, hb⟩; have HB8 := Aside0.mk (below_step HB7.out hb); have HV8 := Aside0.mk (HV7.out.below hb); have HU8 := Aside0.mk (HU7.out.below hb); clear hb)
  clear HB7 HV7 HU7 z2 z3 z4
  go_upto_region 10 with (go_at_call 7; refine (parse_bad (⟨#[]⟩ : ByteArray) (by decide) none_bad _).mono ?_; rintro e w9 ⟨rfl, hb⟩; have HB9 := Aside0.mk (below_step HB8.out hb); have HV9 := Aside0.mk (HV8.out.below hb); have HU9 := Aside0.mk (HU8.out.below hb); clear hb)
  clear HB8 HV8 HU8
  have sl : s.size = (txt a).length := by rw [HS.out, str_size]
  have tl : t.size = (txt b).length := by rw [HT.out, str_size]
  have SL := Aside0.mk (And.intro sl tl)
  have S1 : s.toList = u8s (txt a) := by rw [HS.out, str_list]
  have T1 : t.toList = u8s (txt b) := by rw [HT.out, str_list]
  have LT := Aside0.mk (And.intro S1 T1)
  clear sl tl S1 T1 z1 DS
  by_cases k1 : s.size < t.size
  · have hab : a < b := longer a b (by have := SL.out.1; have := SL.out.2; omega)
    have f1 : decide ((s.size : Int) < (t.size : Int)) = true := decide_eq_true (by omega)
    have f1' : (s.size < t.size) = True := eq_true k1
    clear k1
    · have HCM := Aside0.mk (show cmpI a b = -1 by unfold cmpI; rw [if_pos hab])
      go_wp2_with (go_at_call 16; refine (cmp_rv a b _ _ _ NA.out NB.out HV9.out HU9.out).mono ?_; rw [HCM.out]; rintro e w10 ⟨rfl, hd⟩; have HB10 := Aside0.mk (below_step HB9.out hd.below); clear hd)
      exact bodyPost_ret (results_tmp rfl _ _ _) rfl ⟨rfl, HB10.out⟩
  have f1 : decide ((s.size : Int) < (t.size : Int)) = false := decide_eq_false (by omega)
  have f1' : (s.size < t.size) = False := eq_false k1
  by_cases k2 : s.size = t.size
  · have f2 : ((s.size : Int) == (t.size : Int)) = true := beq_iff_eq.mpr (by omega)
    have f2' : (s.size = t.size) = True := eq_true k2
    have f2'' : (s.size == t.size) = true := beq_iff_eq.mpr k2
    have hl : (txt a).length = (txt b).length := by have := SL.out.1; have := SL.out.2; omega
    have g := less_str (txt a) (txt b) hl (txt_range a) (txt_range b)
    rw [valL_txt, valL_txt, ← LT.out.1, ← LT.out.2] at g
    have K2 := Aside0.mk k2
    clear k1 k2 hl
    by_cases hab : a < b
    · rw [decide_eq_true hab] at g
      have HCM := Aside0.mk (show cmpI a b = -1 by unfold cmpI; rw [if_pos hab])
      go_wp2_with (go_at_call 16; refine (cmp_rv a b _ _ _ NA.out NB.out HV9.out HU9.out).mono ?_; rw [HCM.out]; rintro e w10 ⟨rfl, hd⟩; have HB10 := Aside0.mk (below_step HB9.out hd.below); clear hd)
      exact bodyPost_ret (results_tmp rfl _ _ _) rfl ⟨rfl, HB10.out⟩
    · rw [decide_eq_false hab] at g
      by_cases hq : a = b
      · have f3 : (s.toList == t.toList) = true := beq_iff_eq.mpr (by rw [LT.out.1, LT.out.2, hq])
        have f5 : (s.toList = t.toList) = True := eq_true (beq_iff_eq.mp f3)
        have f4 : (s.toList != t.toList) = false := bne_eq_false_iff_eq.mpr (by rw [LT.out.1, LT.out.2, hq])
        have HQ := Aside0.mk hq
        have HAB := Aside0.mk hab
        clear hq hab
        have HCM := Aside0.mk (show cmpI a b = 0 by unfold cmpI; rw [if_neg HAB.out, if_pos HQ.out])
        go_wp2_with (go_at_call 16; refine (cmp_rv a b _ _ _ NA.out NB.out HV9.out HU9.out).mono ?_; rw [HCM.out]; rintro e w10 ⟨rfl, hd⟩; have HB10 := Aside0.mk (below_step HB9.out hd.below); clear hd)
        exact bodyPost_ret (results_tmp rfl _ _ _) rfl ⟨rfl, HB10.out⟩
      · have hn : s.toList ≠ t.toList := fun c => hq (by
          have e1 : Go.Op.bytesLess s.toList t.toList = false := g
          have h1 := less_str (txt b) (txt a) (by have := SL.out.1; have := SL.out.2; have := K2.out; omega) (txt_range b) (txt_range a)
          rw [valL_txt, valL_txt, ← LT.out.1, ← LT.out.2, ← c, c] at h1
          rw [c] at e1
          rw [e1] at h1
          have := of_decide_eq_false h1.symm
          omega)
        have f3 : (s.toList == t.toList) = false := beq_eq_false_iff_ne.mpr hn
        have f4 : (s.toList != t.toList) = true := bne_iff_ne.mpr hn
        have f5 : (s.toList = t.toList) = False := eq_false hn
        have HQ := Aside0.mk hq
        have HAB := Aside0.mk hab
        clear hq hab hn
        have HCM := Aside0.mk (show cmpI a b = 1 by unfold cmpI; rw [if_neg HAB.out, if_neg HQ.out])
        go_wp2_with (go_at_call 16; refine (cmp_rv a b _ _ _ NA.out NB.out HV9.out HU9.out).mono ?_; rw [HCM.out]; rintro e w10 ⟨rfl, hd⟩; have HB10 := Aside0.mk (below_step HB9.out hd.below); clear hd)
        exact bodyPost_ret (results_tmp rfl _ _ _) rfl ⟨rfl, HB10.out⟩
  · have f2 : ((s.size : Int) == (t.size : Int)) = false := beq_eq_false_iff_ne.mpr (by omega)
    have f2' : (s.size = t.size) = False := eq_false k2
    have f2'' : (s.size == t.size) = false := beq_eq_false_iff_ne.mpr k2
    have hab : b < a := longer b a (by have := SL.out.1; have := SL.out.2; omega)
    have hn : s.toList ≠ t.toList := fun c => k2 (by
      have h1 := congrArg List.length c
      rw [LT.out.1, LT.out.2] at h1
      unfold u8s at h1
      rw [List.length_map, List.length_map] at h1
      rw [SL.out.1, SL.out.2]
      exact h1)
    have f3 : (s.toList == t.toList) = false := beq_eq_false_iff_ne.mpr hn
    have f4 : (s.toList != t.toList) = true := bne_iff_ne.mpr hn
    have f5 : (s.toList = t.toList) = False := eq_false hn
    have HAB := Aside0.mk hab
    clear k1 k2 hab hn
    have HCM := Aside0.mk (show cmpI a b = 1 by unfold cmpI; have := HAB.out; rw [if_neg (by omega), if_neg (by omega)])
    go_wp2_with (go_at_call 16; refine (cmp_rv a b _ _ _ NA.out NB.out HV9.out HU9.out).mono ?_; rw [HCM.out]; rintro e w10 ⟨rfl, hd⟩; have HB10 := Aside0.mk (below_step HB9.out hd.below); clear hd)
    exact bodyPost_ret (results_tmp rfl _ _ _) rfl ⟨rfl, HB10.out⟩
end Go.Proofs.YtcfliceeablckaaDoor.PureNatText

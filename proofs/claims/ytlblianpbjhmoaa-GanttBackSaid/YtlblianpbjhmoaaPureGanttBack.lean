/- GanttBack: what was drawn is read: of each core who ran there in each slot, -1 where nobody did. The walk of the law. -/
import Derived.Test.YtlblianpbjhmoaaQGBack
import Derived.Laws.IdiomStrings
import Derived.Test.YtlblianpbjhmoaaPGsx5
import Derived.Test.YtlblianpbjhmoaaPGsx9
import Derived.Test.YtlblianpbjhmoaaPGsx10
import Derived.Test.YtlblianpbjhmoaaPGsx19
namespace Go.Proofs.Ytlblianpbjhmoaa.PureGanttBack
open Go.RowKit Go.Proofs.Ytlblianpbjhmoaa.PGs Go.Proofs.YtlblianpbjhmoaaW.PrintWords Go.Proofs.YtlblianpbjhmoaaW.PrintLast Go.Proofs.YtlblianpbjhmoaaW.PrintMore Go.Proofs.Ytlblianpbjhmoaa.MWords
open Go.Proofs.Ytlblianpbjhmoaa.QEv Go.Proofs.Ytlblianpbjhmoaa.QBits Go.Proofs.Ytlblianpbjhmoaa.QSlot Go.Proofs.Ytlblianpbjhmoaa.GLetters Go.Proofs.Ytlblianpbjhmoaa.QGantt Go.Proofs.Ytlblianpbjhmoaa.QDraw Go.Proofs.Ytlblianpbjhmoaa.QEmpty Go.Proofs.Ytlblianpbjhmoaa.XLines Go.Proofs.Ytlblianpbjhmoaa.XGRead Go.Proofs.Ytlblianpbjhmoaa.QGRead Go.Proofs.Ytlblianpbjhmoaa.QGBack
set_option linter.unusedVariables false
set_option linter.unusedSimpArgs false
-- regattalaw25_awake.calls regattalaw25_made.calls gantt_Draw.calls gantt_Check.calls

theorem cores_any (q : Int) : ∃ n : Int, wrap64 (64 + (wrap64 (q.tmod 3 + 3)).tmod 3) = n ∧ 64 ≤ n ∧ n ≤ 66 := by
  have a1 := Int.tmod_lt_of_pos q (show (0 : Int) < 3 by omega)
  have a2 : -3 < q.tmod 3 := by
    rcases Int.le_total 0 q with h | h
    · have := Int.tmod_nonneg 3 h
      omega
    · have e : q.tmod 3 = -((-q).tmod 3) := by rw [Int.neg_tmod, Int.neg_neg]
      have := Int.tmod_lt_of_pos (-q) (show (0 : Int) < 3 by omega)
      omega
  have e : wrap64 (q.tmod 3 + 3) = q.tmod 3 + 3 := w64 (by omega) (by omega)
  rw [e, Int.tmod_eq_emod_of_nonneg (by omega)]
  have b1 := Int.emod_nonneg (q.tmod 3 + 3) (show (3 : Int) ≠ 0 by omega)
  have b2 := Int.emod_lt_of_pos (q.tmod 3 + 3) (show (0 : Int) < 3 by omega)
  exact ⟨64 + (q.tmod 3 + 3) % 3, w64 (by omega) (by omega), by omega, by omega⟩
set_option maxHeartbeats 4000000 in
set_option maxRecDepth 100000 in
theorem back_calls (l : List (List Int)) (A : Option Addr) (cp : Nat) (m : Int) (w : World) (hC : Kd.C kRow w A l.length l) (hc : l.length ≤ cp) (hr : ∀ s ∈ l, s.length ≤ 9223372036854775807) :
    Calls Try.prog 12 #[.slice A l.length cp, .int .i64 m] w fun e w' => e = .returned (.bool true) ∧ Below w.heap.size w w' := by
  have HC := Aside0.mk (And.intro hC (And.intro hc hr))
  clear hC hc hr
  go_enter Try.func12, Try.ntmps12
  go_wp2_with fail
  refine (regattalaw25_awake.calls 20 true _ (awake25 20 (Nat.le_refl _))).mono ?_
  rintro e w1 ⟨rfl, hb⟩
  have HB1 := Aside0.mk hb
  clear hb
  obtain ⟨k, hk⟩ := (made_f l HC.out.1.2.1 HC.out.2.2).get
  have HK := Aside0.mk hk
  clear hk
  go_wp2_with fail
  refine (regattalaw25_made.calls k A cp l _ _ (Kd.C_below HC.out.1 HB1.out) HC.out.2.1 HK.out).mono ?_
  rintro e w2 ⟨v2, rfl, hS, hb⟩
  obtain ⟨A6, c6, rfl⟩ := Kd.S_slice hS
  have HR := Aside0.mk (Kd.S_reads' hS)
  have HB2 := Aside0.mk (below_step HB1.out hb)
  clear hb hS HB1 HK
  obtain ⟨n, hn, hn0, hn1⟩ := cores_any m
  have HN := Aside0.mk hn
  clear hn
  have HM := Aside0.mk (made_small l)
  have HTB := Aside0.mk (And.intro (text_draw l) (text_none l))
  have HRD := Aside0.mk (read_draw l)
  obtain ⟨r, hrr⟩ : ∃ r, r = madeRow l := ⟨_, rfl⟩
  have HML := Aside0.mk (show r.length ≤ 12 by rw [hrr]; have := madeFrom_len l 0 (by omega); unfold madeRow; omega)
  have HMM := Aside0.mk (show ∀ s ∈ r, s.f1.length ≤ 8 ∧ ∀ c, lastF c (-1) s.f1 = runAt c s.f1 by
    rw [hrr]
    intro s hs
    obtain ⟨x, a, rfl⟩ := madeFrom_mem l 0 s hs
    exact ⟨by show (madeRuns (x.take 8) 0 (-1)).length ≤ 8; rw [madeRuns_len, List.length_take]; omega, fun c => last_made c _ _ _⟩)
  rw [← hrr] at HR HM HTB HRD ⊢
  clear hrr
  go_wp2_with fail
  rw [HN.out]
  clear HN
  by_cases h64 : 64 < n
  · obtain ⟨hg, ht⟩ := HTB.out.2 n h64
    obtain ⟨k1, hk1⟩ := (draw_f n r HM.out).get
    rw [ht] at hk1
    obtain ⟨k2, hk2⟩ := (gcheck_f n r HM.out).get
    rw [hg] at hk2
    have HK1 := Aside0.mk (And.intro hk1 hk2)
    have d1 : decide (64 < n) = true := decide_eq_true h64
    clear hg ht hk1 hk2 h64
    refine (gantt_Draw.calls k1 A6 c6 r n _ _ HR.out.2.2 HR.out.2.1 HK1.out.1).mono ?_
    rintro e w3 ⟨rfl, hb⟩
    have HB3 := Aside0.mk (below_step HB2.out hb)
    have HR3 := Aside0.mk (Kd.C_below HR.out.2.2 hb)
    clear hb
    go_wp2_with fail
    refine (gantt_Check.calls k2 A6 c6 r n _ _ HR3.out HR.out.2.1 HK1.out.2).mono ?_
    rintro e w4 ⟨rfl, hb⟩
    have HB4 := Aside0.mk (below_step HB3.out hb)
    clear hb
    go_wp2_with fail
    exact bodyPost_ret (results_tmp rfl _ _ _) rfl ⟨by simp, HB4.out⟩
  obtain rfl : n = 64 := by omega
  clear h64 hn0 hn1
  obtain ⟨k1, hk1⟩ := (draw_f 64 r HM.out).get
  rw [HTB.out.1] at hk1
  refine (gantt_Draw.calls k1 A6 c6 r 64 _ _ HR.out.2.2 HR.out.2.1 hk1).mono ?_
  rintro e w3 ⟨rfl, hb⟩
  have HB3 := Aside0.mk (below_step HB2.out hb)
  have HR3 := Aside0.mk (Kd.C_below HR.out.2.2 hb)
  clear hb hk1 HB2
  have HSZ := Aside0.mk (show (strOfNums (drawNums r 64 0)).size ≤ 1000000 by
    rw [strOfNums_size]
    have : ∀ (n c : Nat), (drawNums r n c).length = n * (r.length + 1) := by
      intro n
      induction n with
      | zero => intro c; simp [drawNums]
      | succ n ih =>
        intro c
        unfold drawNums coreNums
        rw [List.length_append, List.length_cons, List.length_map, ih, Nat.succ_mul]
        omega
    rw [this]
    have := HML.out
    omega)
  go_wp2_with fail
  refine (XGRead.read_calls _ _ HSZ.out).mono ?_
  rw [HRD.out]
  rintro e w4 ⟨v4, rfl, hP, hb⟩
  obtain ⟨A9, c9, rfl⟩ := Kd.R_slice hP
  have HP := Aside0.mk (Kd.R_reads' hP)
  have HB4 := Aside0.mk (below_step HB3.out hb)
  have HR4 := Aside0.mk (Kd.C_below HR3.out hb)
  have HW := Aside0.mk (want_len r 64 0)
  rw [want_len r 64 0] at HP ⊢
  obtain ⟨P, hPP⟩ : ∃ P, P = wantRows r 64 0 := ⟨_, rfl⟩
  have HWL := Aside0.mk (show P.length = 64 by rw [hPP]; exact HW.out)
  have HWA := Aside0.mk (show ∀ c : Nat, c < 64 → rd_L5 P (c : Int) = wantRow r c by
    intro c hc
    rw [rd_list P c (by rw [HWL.out]; exact hc)]
    subst hPP
    rw [want_at r 64 0 c, Nat.zero_add])
  rw [← hPP] at HP
  clear hPP hP hb HB3 HR3 HTB HRD HW HR HSZ HC
  go_wp2_with fail
  have hm12 := HML.out
  go_loopw [11] (fun v11 wr => ∃ c : Nat, v11 = .int .i64 c ∧ c ≤ 64 ∧ w4 = wr) (fun v11 _ => 64 - (intOf v11).toNat)
  case atStart => exact ⟨0, rfl, Nat.zero_le _, rfl⟩
  case round =>
    obtain ⟨c, rfl, hc, rfl⟩ := hrel
    by_cases hlt : c < 64
    case neg =>
      obtain rfl : c = 64 := by omega
      go_wp2_with fail
      exact bodyPost_ret (results_tmp rfl _ _ _) rfl ⟨rfl, HB4.out⟩
    have d1 : decide ((c : Int) < 64) = true := decide_eq_true (by omega)
    obtain ⟨ad, A0, c0, e, x0, hl0, hC0⟩ := at_L5 HP.out.2.2 (c : Int) (by omega) (by omega)
    subst e
    rw [HWA.out c hlt] at x0 hl0 hC0
    obtain ⟨row, hrow⟩ : ∃ row, row = wantRow r c := ⟨_, rfl⟩
    have hlen : row.length = r.length := by rw [hrow]; simp [wantRow]
    have HRW := Aside0.mk (show ∀ i (h : i < r.length), row.getD i 0 = runAt (c : Int) (r[i]'h).f1 by
      intro i h
      rw [hrow]
      simp [wantRow, List.getD, h])
    rw [← hrow, hlen] at x0 hl0 hC0
    simp only [Int.toNat_natCast] at x0
    have HC0 := Aside0.mk (And.intro hl0 hC0)
    clear hrow hl0 hC0 hlen
    go_wp2_with fail
    go_loopw [12] (fun v12 wr => ∃ i : Nat, v12 = .int .i64 i ∧ i ≤ r.length ∧ w4 = wr) (fun v12 _ => r.length - (intOf v12).toNat)
    case atStart => exact ⟨0, rfl, Nat.zero_le _, rfl⟩
    case round =>
      obtain ⟨i, rfl, hi, rfl⟩ := hrel
      by_cases hli : i < r.length
      case neg =>
        obtain rfl : i = r.length := by omega
        go_wp2_with fail
        go_roundw
        case rel => exact ⟨c + 1, by simp, by omega, trivial⟩
        case measure => simp [intOf]; omega
      have d2 : decide ((i : Int) < (r.length : Int)) = true := decide_eq_true (by omega)
      obtain ⟨ad6, A1, c1, e, y0, y1, hl1, hC1⟩ := at_T57 HR4.out (i : Int) (by omega) (by omega)
      subst e
      rw [rd57 r i hli] at y0 y1 hl1 hC1
      simp only [Int.toNat_natCast] at y0 y1
      have hmm := HMM.out r[i] (List.getElem_mem hli)
      have hri := HRW.out i hli
      obtain ⟨sl, hsl⟩ : ∃ sl, sl = r[i] := ⟨_, rfl⟩
      rw [← hsl] at y0 y1 hl1 hC1 hmm hri
      have HMS := Aside0.mk (And.intro hmm hri)
      have hm8 := hmm.1
      have HC1 := Aside0.mk (And.intro hl1 hC1)
      clear hsl hl1 hC1 hmm hri
      go_wp2_with fail
      go_loopw [13, 14] (fun v13 v14 wr => ∃ k : Nat, v14 = .int .i64 k ∧ k ≤ sl.f1.length ∧ v13 = .int .i64 (lastF (c : Int) (-1) (sl.f1.take k)) ∧ w4 = wr) (fun _ v14 _ => sl.f1.length - (intOf v14).toNat)
      case atStart => exact ⟨0, rfl, Nat.zero_le _, rfl, rfl⟩
      case round =>
        obtain ⟨k, rfl, hk, rfl, rfl⟩ := hrel
        by_cases hlk : k < sl.f1.length
        · have d3 : decide ((k : Int) < (sl.f1.length : Int)) = true := decide_eq_true (by omega)
          obtain ⟨ad1, e, z0, z1, z2⟩ := at_T59 HC1.out.2 (k : Int) (by omega) (by omega)
          subst e
          rw [rd59 sl.f1 k hlk] at z0 z1 z2
          simp only [Int.toNat_natCast] at z0 z1 z2
          have ht : lastF (c : Int) (-1) (sl.f1.take (k + 1)) = if sl.f1[k].f1 = (c : Int) then sl.f1[k].f0 else lastF (c : Int) (-1) (sl.f1.take k) := by
            unfold lastF
            rw [List.take_succ_eq_append_getElem hlk, List.foldl_append]
            rfl
          obtain ⟨rn, hrn⟩ : ∃ rn, rn = sl.f1[k] := ⟨_, rfl⟩
          rw [← hrn] at z0 z1 z2 ht
          have HT := Aside0.mk ht
          clear hrn ht
          by_cases hcc : rn.f1 = (c : Int)
          · have d4 : (rn.f1 == (c : Int)) = true := beq_iff_eq.2 hcc
            have HX := Aside0.mk hcc
            clear hcc
            go_wp2_with fail
            go_roundw
            case rel => exact ⟨k + 1, by simp, by omega, by rw [HT.out, if_pos HX.out], trivial⟩
            case measure => simp [intOf]; omega
          · have d4 : (rn.f1 == (c : Int)) = false := beq_eq_false_iff_ne.2 hcc
            have HX := Aside0.mk hcc
            clear hcc
            go_wp2_with fail
            go_roundw
            case rel => exact ⟨k + 1, by simp, by omega, by rw [HT.out, if_neg HX.out], trivial⟩
            case measure => simp [intOf]; omega
        · obtain rfl : k = sl.f1.length := by omega
          rw [List.take_length, HMS.out.1.2]
          obtain ⟨ad0, cs, e, _, hcs, hcell⟩ := Kd.C_get HC0.out.2 0 (i : Int) (by omega) (by omega)
          subst e
          have u0 : w4.cell? (ad0.add i) = some (.int .i64 (runAt (c : Int) sl.f1)) := by
            have h := hcell 0 (.int .i64 (row.getD i 0)) (by rw [show cs = [.int .i64 (row.getD (i : Int).toNat 0)] from hcs]; rfl)
            rw [HMS.out.2] at h
            have e1 : (i : Int).toNat * (Kd.int .i64).sz + 0 = i := by
              show (i : Int).toNat * 1 + 0 = i
              simp
            rwa [e1] at h
          clear hcs hcell
          go_wp2_with fail
          go_roundw
          case rel => exact ⟨i + 1, by simp, by omega, trivial⟩
          case measure => simp [intOf]; omega
end Go.Proofs.Ytlblianpbjhmoaa.PureGanttBack

/- The walk of wire.Read. -/
import Derived.Test.YtfcoaneffdddkaaXBack
import Derived.WalkMore

namespace Go.Proofs.Ytfcoaneffdddkaa.XRead
open Go.RowKit Go.Proofs.Ytfcoaneffdddkaa.PWt Go.Proofs.YtfcoaneffdddkaaW.PrintWords Go.Proofs.YtfcoaneffdddkaaW.PrintLast Go.Proofs.YtfcoaneffdddkaaW.PrintMore Go.Proofs.Ytfcoaneffdddkaa.MWords
open Go.Proofs.Ytfcoaneffdddkaa.QBits Go.Proofs.Ytfcoaneffdddkaa.MPut Go.Proofs.Ytfcoaneffdddkaa.XDig Go.Proofs.Ytfcoaneffdddkaa.XNext Go.Proofs.Ytfcoaneffdddkaa.XNum Go.Proofs.Ytfcoaneffdddkaa.XCmd Go.Proofs.Ytfcoaneffdddkaa.XFields Go.Proofs.Ytfcoaneffdddkaa.QWire Go.Proofs.Ytfcoaneffdddkaa.XBytes Go.Proofs.Ytfcoaneffdddkaa.QWireGood Go.Proofs.Ytfcoaneffdddkaa.XBack
set_option linter.unusedVariables false
set_option linter.unusedSimpArgs false
attribute [local go_sem] Oper.semAt_some

def strSz : Value → Nat | .string b => b.size | _ => 0
set_option maxHeartbeats 4000000 in
set_option maxRecDepth 100000 in
theorem read_calls (s : ByteArray) (hs : s.size ≤ 100000) (w : World) :
    Calls Try.prog 11 #[.string s] w fun e w' => ∃ v, e = .returned (.tuple #[v, .int .i64 ((s.size : Int) - ((readsP s.size s []).2.1.size : Int)), .int .i64 (readsP s.size s []).2.2]) ∧ Kd.R k31 31 w' w.heap.size (fun _ => True) v (readsP s.size s []).1 ∧ Below w.heap.size w w' := by
  obtain ⟨L, R, E, hE⟩ : ∃ L R E, readsP s.size s [] = (L, R, E) := ⟨_, _, _, rfl⟩
  rw [hE]
  simp only []
  have HE := Aside0.mk hE
  clear hE
  go_enter Try.func11, Try.ntmps11
  go_wp2_with fail
  go_step3
  go_wp2_with fail
  go_step3
  go_wp2_with fail
  go_loopw [5, 6, 7] (fun v5 v6 v7 W2 => ∃ (rest : ByteArray) (acc : List S31) (v : Value), v5 = v ∧ v6 = .int .i64 0 ∧ v7 = .string rest ∧ rest.size ≤ s.size ∧ acc.length ≤ 4096 ∧ Aside0 (readsP rest.size rest acc = (L, R, E)) ∧ Aside0 (Kd.R k31 31 W2 w.heap.size (fun _ => True) v acc) ∧ Aside0 (Below w.heap.size w W2)) (fun _ _ v7 _ => strSz v7)
  case atStart => exact ⟨s, [], _, rfl, rfl, rfl, Nat.le_refl _, Nat.zero_le _, HE, ⟨Kd.R_nil _ _ _ _ _⟩, ⟨Below.refl _ _⟩⟩
  case round =>
    obtain ⟨rest, acc, v, rfl, rfl, rfl, hrs, hal, HP, HR, HB⟩ := hrel
    have hwsub : wrap64 ((s.size : Int) - (rest.size : Int)) = (s.size : Int) - (rest.size : Int) := w64 (by omega) (by omega)
    have HW := Aside0.mk hwsub
    clear hwsub
    by_cases hr : rest.size = 0
    · have hre : rest = ⟨#[]⟩ := by
        apply ByteArray.ext
        exact Array.size_eq_zero_iff.1 hr
      have HX := Aside0.mk (HP.out.symm.trans (readsP_nil _ _ _ hr))
      subst hre
      obtain ⟨rfl, hX2⟩ := Prod.mk.inj HX.out
      obtain ⟨rfl, rfl⟩ := Prod.mk.inj hX2
      clear hX2 HX
      go_wp2_with fail
      rw [Exit.noGoto_ret]
      exact bodyPost_ret (results_tmp3 rfl _ _ _) rfl ⟨_, by rw [show (((⟨#[]⟩ : ByteArray).size : Nat) : Int) = 0 from rfl, Int.sub_zero]; rfl, HR.out, HB.out⟩
    · have hre : rest.toList.isEmpty = false := by
        cases h : rest.toList with
        | nil =>
          rw [ByteArray.toList_eq] at h
          have : rest.data.size = 0 := by rw [← Array.length_toList, h]; rfl
          exact absurd this hr
        | cons x l => rfl
      obtain ⟨A, c, rfl, hlc, hCq⟩ := Kd.R_reads HR.out
      clear hCq
      by_cases h4 : acc.length = 4096
      · have HX : Aside0 ((L, R, E) = (acc, rest, 15)) := Aside0.mk (by
          rw [← HP.out]
          obtain ⟨n, hn⟩ : ∃ n, rest.size = n + 1 := ⟨rest.size - 1, by omega⟩
          rw [hn, readsP_succ, if_neg hr, if_pos h4])
        obtain ⟨rfl, hX2⟩ := Prod.mk.inj HX.out
        obtain ⟨rfl, rfl⟩ := Prod.mk.inj hX2
        clear hX2 HX
        go_wp2_with fail
        rw [Exit.noGoto_ret]
        exact bodyPost_ret (results_tmp3 rfl _ _ _) rfl ⟨_, rfl, HR.out, HB.out⟩
      · have hr4 : ((acc.length : Int) = 4096) = False := eq_false (by omega)
        obtain ⟨C, t, bad, hC⟩ : ∃ C t bad, cmdR (rest, false) = (C, (t, bad)) := ⟨_, _, _, rfl⟩
        have HX : Aside0 ((L, R, E) = if bad = true then (acc, rest, 10) else readsP (rest.size - 1) t (acc ++ [C])) := Aside0.mk (by
          rw [← HP.out]
          obtain ⟨n, hn⟩ : ∃ n, rest.size = n + 1 := ⟨rest.size - 1, by omega⟩
          rw [hn, readsP_succ, if_neg hr, if_neg h4, hC]
          rfl)
        have HC := Aside0.mk hC
        have hltm : bad = false → t.size + 1 ≤ rest.size := fun e => by
          rw [e] at hC
          exact cmd_lt hC
        have HLT := Aside0.mk hltm
        obtain ⟨g, hg⟩ : ∃ g, g = wr.heap.size := ⟨_, rfl⟩
        have hsz1 : (wr.alloc (.cells #[.string rest, .bool false] 54)).heap.size = wr.heap.size + 1 := by simp
        have HM := Aside0.mk (show Rd (wr.alloc (.cells #[.string rest, .bool false] 54)) g (rest, false) by rw [hg]; exact mblk_new _ _ _)
        have hfr : ∀ k, Value.ownBlock (.slice A acc.length c) = some k → k < wr.heap.size := fun k hk => ((Kd.R_bound HR.out).1 k hk).2.2.1
        have HFR := Aside0.mk hfr
        have hgw : w.heap.size ≤ g := by rw [hg]; exact HB.out.size
        clear hC hltm hfr HP
        go_upto_region 8 with fail
        rw [← hg]
        have HG := Aside0.mk hg
        clear hg
        go_upto_region 9 with (go_at_call 19; refine (cmd_any g (rest, false) _ HM.out (by show rest.size ≤ 1000000000; omega)).mono ?_; rw [HC.out]; rintro e w1 ⟨v1, rfl, h1, h2, h3⟩; obtain ⟨A1, p1, rfl, hl1, _⟩ := Kd.R_reads h1; simp only [cmdVv]; clear hl1; have H1 := Aside0.mk h1; have H2 := Aside0.mk h2; have H3 := Aside0.mk h3; clear h1 h2 h3)
        obtain ⟨W3, hW3⟩ : ∃ W3, W3 = w1.alloc (.cells #[.int .i64 C.f0, .int .i64 C.f1, .int .i64 C.f2, .int .i64 C.f3, .int .i64 C.f4, .int .i64 C.f5.f0, .int .i64 C.f5.f1, .bool C.f6, .slice A1 C.f7.length p1] 31) := ⟨_, rfl⟩
        obtain ⟨b3, hb3⟩ : ∃ b3, b3 = w1.heap.size := ⟨_, rfl⟩
        have HB3 : Aside0 (Below wr.heap.size wr W3) := Aside0.mk (by
          rw [hW3]
          refine Below.trans (below_alloc (Below.refl _ _) _) (Below.trans (H3.out.below (by have := HG.out; omega) (by omega)) ?_)
          refine (below_alloc (Below.refl _ _) _).mono ?_
          have := H3.out.size
          omega)
        have HM3 : Aside0 (Rd W3 g (t, bad)) := Aside0.mk (by rw [hW3]; exact mblk_alloc H2.out _)
        have HC3 : Aside0 (MBlk W3 b3 31 #[.int .i64 C.f0, .int .i64 C.f1, .int .i64 C.f2, .int .i64 C.f3, .int .i64 C.f4, .int .i64 C.f5.f0, .int .i64 C.f5.f1, .bool C.f6, .slice A1 C.f7.length p1]) := Aside0.mk (by rw [hW3, hb3]; exact mblk_new _ _ _)
        have HP3 : Aside0 (Kd.R k67 67 W3 (wr.heap.size + 1) (fun _ => True) (.slice A1 C.f7.length p1) C.f7) := Aside0.mk (by rw [hW3, ← hsz1]; exact Kd.R_alloc H1.out _)
        rw [← hW3, ← hb3]
        clear hW3 hb3 H1 H2 H3 HM hsz1
        have hx1 : W3.cell? ⟨g, 1, none⟩ = some (.bool bad) := (mblk_cell HM3.out 1).trans rfl
        have hx0 : W3.cell? ⟨g, 0, none⟩ = some (.string t) := (mblk_cell HM3.out 0).trans rfl
        have HR3 := Aside0.mk (Kd.R_below HR.out HB3.out)
        have HBB := Aside0.mk (below_step HB.out HB3.out)
        cases bad with
        | true =>
          have HX2 : (L, R, E) = (acc, rest, 10) := HX.out
          obtain ⟨rfl, hX2⟩ := Prod.mk.inj HX2
          obtain ⟨rfl, rfl⟩ := Prod.mk.inj hX2
          clear hX2 HX2 HX
          go_wp2_with fail
          exact bodyPost_ret (results_tmp3 rfl _ _ _) rfl ⟨_, rfl, HR3.out, HBB.out⟩
        | false =>
          have hlt := HLT.out rfl
          have HX2 := Aside0.mk (show readsP t.size t (acc ++ [C]) = (L, R, E) by
            rw [← reads_fuel (rest.size - 1) t (acc ++ [C]) (by omega)]
            exact HX.out.symm)
          clear HX HLT
          have y0 : W3.cell? ⟨b3, 0, none⟩ = some (.int .i64 C.f0) := (mblk_cell HC3.out 0).trans rfl
          have y1 : W3.cell? ⟨b3, 1, none⟩ = some (.int .i64 C.f1) := (mblk_cell HC3.out 1).trans rfl
          have y2 : W3.cell? ⟨b3, 2, none⟩ = some (.int .i64 C.f2) := (mblk_cell HC3.out 2).trans rfl
          have y3 : W3.cell? ⟨b3, 3, none⟩ = some (.int .i64 C.f3) := (mblk_cell HC3.out 3).trans rfl
          have y4 : W3.cell? ⟨b3, 4, none⟩ = some (.int .i64 C.f4) := (mblk_cell HC3.out 4).trans rfl
          have y5 : W3.cell? ⟨b3, 5, none⟩ = some (.int .i64 C.f5.f0) := (mblk_cell HC3.out 5).trans rfl
          have y6 : W3.cell? ⟨b3, 6, none⟩ = some (.int .i64 C.f5.f1) := (mblk_cell HC3.out 6).trans rfl
          have y7 : W3.cell? ⟨b3, 7, none⟩ = some (.bool C.f6) := (mblk_cell HC3.out 7).trans rfl
          have y8 : W3.cell? ⟨b3, 8, none⟩ = some (.slice A1 C.f7.length p1) := (mblk_cell HC3.out 8).trans rfl
          have hmul : (acc.length + 1) * 88 ≤ 140737488355328 := by omega
          have HMU := Aside0.mk hmul
          clear hmul
          go_wp2_with ((with_reducible refine gate_builtin (b := .append) (xs := #[.tmp 25, .tmp 27]) rfl ?_); at_builtin; refine Kd.R_append k31 (w0 := w) w.heap.size rfl (.tmp 25) (.tmp 27) 22 31 (.agg #[(.int .i64 0), (.int .i64 0), (.int .i64 0), (.int .i64 0), (.int .i64 0), (.int .i64 0), (.int .i64 0), (.bool false), (.slice none 0 0)]) 88 rfl Try.underlying22 info31 rfl (by decide) (by omega) (.slice A acc.length c) acc C [.int .i64 C.f0, .int .i64 C.f1, .int .i64 C.f2, .int .i64 C.f3, .int .i64 C.f4, .int .i64 C.f5.f0, .int .i64 C.f5.f1, .bool C.f6, .slice A1 C.f7.length p1] (fun _ => True) (fun k => wr.heap.size ≤ k) rfl rfl (k31_mkM W3 _ _ C (Kd.R_lower (Kd.R_mono (Kd.R_bound HP3.out) (fun k hk => Nat.le_of_succ_le hk.2.1)) (Nat.le_trans HB.out.size (Nat.le_succ _)))) (fun k hk => ⟨trivial, fun e => absurd (HFR.out k e.symm) (Nat.not_lt.2 hk)⟩) (fun _ _ => trivial) HR3.out HBB.out HBB.out.size HMU.out ?_; intro v2 u2 ho hb hg hat; have HO2 := Aside0.mk ho; have HB2 := Aside0.mk hb; have HG2 := Aside0.mk (show Rd u2 g (t, false) from blk_grown HM3.out hg (fun e => absurd (HFR.out g e.symm) (by have := HG.out; omega))); clear ho hb hg hat; have z0 : u2.cell? ⟨g, 0, none⟩ = some (.string t) := (mblk_cell HG2.out 0).trans rfl)
          exact ⟨⟨t, acc ++ [C], _, rfl, rfl, rfl, by omega, by simp; omega, HX2, HO2, HB2⟩, by simp only [strSz]; omega⟩
end Go.Proofs.Ytfcoaneffdddkaa.XRead

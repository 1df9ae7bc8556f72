/- WireAgain: what was read of any bytes is written as these, up to the place that is told. The walk of the law. -/
import Derived.Test.YtfcoaneffdddkaaPureWireBack
import Derived.Deep.RegionHeld3

namespace Go.Proofs.Ytfcoaneffdddkaa.PureWireAgain
open Go.RowKit Go.Shelf Go.Proofs.Ytfcoaneffdddkaa.PWt Go.Proofs.YtfcoaneffdddkaaW.PrintWords Go.Proofs.YtfcoaneffdddkaaW.PrintLast Go.Proofs.YtfcoaneffdddkaaW.PrintMore Go.Proofs.Ytfcoaneffdddkaa.MWords Go.Proofs.Ytfcoaneffdddkaa.MPut Go.Proofs.Ytfcoaneffdddkaa.XVal Go.Proofs.Ytfcoaneffdddkaa.XFields Go.Proofs.Ytfcoaneffdddkaa.QWire Go.Proofs.Ytfcoaneffdddkaa.QEv Go.Proofs.Ytfcoaneffdddkaa.QBits Go.Proofs.Ytfcoaneffdddkaa.XBytes Go.Proofs.Ytfcoaneffdddkaa.XCheck Go.Proofs.Ytfcoaneffdddkaa.QWireGood Go.Proofs.Ytfcoaneffdddkaa.XLaw18 Go.Proofs.Ytfcoaneffdddkaa.XNext Go.Proofs.Ytfcoaneffdddkaa.XCmd Go.Proofs.Ytfcoaneffdddkaa.XBack Go.Proofs.Ytfcoaneffdddkaa.XRead Go.Proofs.Ytfcoaneffdddkaa.PureWireBack
set_option linter.unusedVariables false
set_option linter.unusedSimpArgs false
attribute [local go_sem] Oper.semAt_some

theorem ge_len : ∀ (l : List S31), l.length ≤ (rowNums l).length
  | [] => Nat.zero_le _
  | c :: l => by
    have h1 := ge_len l
    have h2 : rowNums (c :: l) = cmdNums c ++ rowNums l := by simp [rowNums]
    have h3 : 1 ≤ (cmdNums c).length := by
      unfold cmdNums
      rw [List.length_append]
      have : 1 ≤ (vnum c.f0.toNat).length := by rw [vnum]; split <;> simp
      omega
    rw [h2, List.length_append, List.length_cons]
    omega
theorem take_le (l : List S31) (i : Nat) : (rowNums (l.take i)).length ≤ (rowNums l).length := by
  have h : rowNums l = rowNums (l.take i) ++ rowNums (l.drop i) := by
    unfold rowNums
    rw [← List.flatten_append, ← List.map_append, List.take_append_drop]
  rw [h, List.length_append]
  omega
/-- What Read tells of t. -/
theorem read_told (t : ByteArray) : ∃ (L : List S31) (R : ByteArray) (E : Int), readsP t.size t [] = (L, R, E) ∧ t = strOfNums (rowNums L) ++ R ∧ (∀ c ∈ L, chkW c = true) ∧ (E = 0 ↔ R.size = 0) ∧ (rowNums L).length + R.size = t.size := by
  obtain ⟨L, R, E, h⟩ : ∃ L R E, readsP t.size t [] = (L, R, E) := ⟨_, _, _, rfl⟩
  obtain ⟨⟨qs, h1, h2, h3⟩, h4⟩ := reads_inv t.size t [] L R E (Nat.le_refl _) h
  have e : L = qs := by rw [h1]; rfl
  subst e
  refine ⟨L, R, E, h, h2, h3, h4, ?_⟩
  have h5 := congrArg ByteArray.size h2
  rw [ByteArray.size_append, strOfNums_size] at h5
  omega
set_option maxHeartbeats 4000000 in
set_option maxRecDepth 100000 in
theorem again_calls (s : ByteArray) (w : World) (hs : s.size ≤ 9223372036854775807) :
    Calls Try.prog 5 #[.string s] w fun e w' => e = .returned (.bool true) ∧ Below w.heap.size w w' := by
  go_enter Try.func5, Try.ntmps5
  go_upto_if 12 with (refine (awake_calls _).mono ?_; rintro e w1 ⟨rfl, hb⟩; have HB1 := Aside0.mk hb; clear hb)
  go_cut [0] (fun v0 wc => ∃ t : ByteArray, v0 = .string t ∧ t.size ≤ 80 ∧ Aside0 (Below w.heap.size w wc))
  case first =>
    by_cases h80 : 80 < s.size
    · have c80 : decide (80 < (s.size : Int)) = true := decide_eq_true (by omega)
      rw [c80]
      go_wp2_with fail
      go_meet
      case rel => exact ⟨s.extract 0 80, rfl, by rw [ByteArray.size_extract]; omega, HB1⟩
    · have c80 : decide (80 < (s.size : Int)) = false := decide_eq_false (by omega)
      rw [c80]
      go_wp2_with fail
      go_meet
      case rel => exact ⟨s, rfl, by omega, HB1⟩
  case rest =>
    obtain ⟨t, rfl, ht, HB2⟩ := hcut
    obtain ⟨L, R, E, hE, htR, hck, he0, hlen⟩ := read_told t
    have HE := Aside0.mk hE
    have HTR := Aside0.mk htR
    have HCK := Aside0.mk hck
    have hL80 : L.length ≤ 80 := by have := ge_len L; omega
    have HAT : Aside0 ((t.size : Int) - (R.size : Int) = ((rowNums L).length : Int)) := ⟨by omega⟩
    clear hE htR hck
    go_wp2_with fail
    refine (read_calls t (by omega) _).mono ?_
    rw [HE.out]
    simp only []
    rw [HAT.out]
    rintro e w3 ⟨v3, rfl, hR, hb⟩
    obtain ⟨A4, c4, rfl, hl4, hC4⟩ := S_C hR
    have HB3 := Aside0.mk (below_step HB2.out hb)
    have HC3 := Aside0.mk (And.intro hl4 hC4)
    clear hb hR hl4 hC4
    have hat0 : (((rowNums L).length : Int) < 0) = False := eq_false (by omega)
    have hat1 : (t.size < (rowNums L).length) = False := eq_false (by omega)
    have hat2 : (!(((rowNums L).length : Int) == (t.size : Int)) == (E == 0)) = false := by
      by_cases h : R.size = 0
      · have h1 : ((rowNums L).length : Int) = (t.size : Int) := by omega
        rw [h1, he0.2 h]
        simp
      · have h1 : (((rowNums L).length : Int) == (t.size : Int)) = false := beq_eq_false_iff_ne.2 (by omega)
        have h2 : (E == 0) = false := beq_eq_false_iff_ne.2 (fun e => h (he0.1 e))
        rw [h1, h2]
        rfl
    have hle : (rowNums L).length ≤ t.size := by omega
    go_wp2_with fail
    go_loopw [7, 8] (fun v7 v8 wr => ∃ i : Nat, v8 = .int .i64 i ∧ v7 = .int .i64 ((rowNums (L.take i)).length : Int) ∧ i ≤ L.length ∧ Aside0 (Below w.heap.size w wr) ∧ Aside0 (Below w3.heap.size w3 wr)) (fun _ v _ => L.length - (intOf v).toNat)
    case atStart => exact ⟨0, rfl, rfl, Nat.zero_le _, HB3, ⟨Below.refl _ _⟩⟩
    case round =>
      obtain ⟨i, rfl, rfl, hi, HB, HBW⟩ := hrel
      by_cases hlt : i < L.length
      · obtain ⟨ad, A8, c8, e, x0, x1, x2, x3, x4, x5, x6, x7, x8, hl8, hC8⟩ := at_T31 (Kd.C_below HC3.out.2 HBW.out) (i : Int) (by omega) (by omega)
        have hrd := rdC L i hlt
        have hts := take_snoc L i hlt
        have hck := HCK.out L[i] (List.getElem_mem hlt)
        subst e
        rw [hrd] at x0 x1 x2 x3 x4 x5 x6 x7 x8 hl8 hC8
        obtain ⟨c, hcc⟩ : ∃ c, c = L[i] := ⟨_, rfl⟩
        rw [← hcc] at x0 x1 x2 x3 x4 x5 x6 x7 x8 hl8 hC8 hts hck
        clear hrd hcc
        simp only [Int.toNat_natCast] at x0 x1 x2 x3 x4 x5 x6 x7 x8
        have HX := Aside0.mk (And.intro x0 (And.intro x1 (And.intro x2 (And.intro x3 (And.intro x4 (And.intro x5 (And.intro x6 (And.intro x7 x8))))))))
        have HT := Aside0.mk hts
        have HK := Aside0.mk (And.intro hck (And.intro hl8 hC8))
        clear hts hl8 hC8 hck
        have hi8 : (i : Int) ≤ 80 := by omega
        go_wp2_with fail
        refine (check_calls c A8 c8 _ HK.out.2.2 HK.out.2.1 (by have := chk_parts HK.out.1; omega)).mono ?_
        rintro e w4 ⟨rfl, hb⟩
        rw [HK.out.1]
        have HB4 := Aside0.mk (below_step HB.out hb)
        have HBW4 := Aside0.mk (below_step HBW.out hb)
        have HR4 := Aside0.mk hb
        clear hb HB HBW x0 x1 x2 x3 x4 x5 x6 x7 x8
        obtain ⟨y0, y1, y2, y3, y4, y5, y6, y7, y8⟩ := HX.out
        have x0 := (HR4.out.cell (World.block_lt_of_cell? wr _ y0)).trans y0
        have x1 := (HR4.out.cell (World.block_lt_of_cell? wr _ y1)).trans y1
        have x2 := (HR4.out.cell (World.block_lt_of_cell? wr _ y2)).trans y2
        have x3 := (HR4.out.cell (World.block_lt_of_cell? wr _ y3)).trans y3
        have x4 := (HR4.out.cell (World.block_lt_of_cell? wr _ y4)).trans y4
        have x5 := (HR4.out.cell (World.block_lt_of_cell? wr _ y5)).trans y5
        have x6 := (HR4.out.cell (World.block_lt_of_cell? wr _ y6)).trans y6
        have x7 := (HR4.out.cell (World.block_lt_of_cell? wr _ y7)).trans y7
        have x8 := (HR4.out.cell (World.block_lt_of_cell? wr _ y8)).trans y8
        clear y0 y1 y2 y3 y4 y5 y6 y7 y8
        have HSZ := Aside0.mk (show (bytesW [c]).size = (cmdNums c).length by
          rw [bytes_good (fun d hd => by rw [List.mem_singleton.1 hd]; exact HK.out.1), strOfNums_size]
          simp [rowNums])
        have HNN := Aside0.mk (show ((rowNums (L.take i)).length : Int) + ((cmdNums c).length : Int) = ((rowNums (L.take (i + 1))).length : Int) by
          rw [HT.out, rows_snoc, List.length_append]; simp)
        have hn1 : ((rowNums (L.take i)).length : Int) ≤ 80 := by have := take_le L i; omega
        have hn2 : ((cmdNums c).length : Int) ≤ 180 := by have := cmd_len HK.out.1; omega
        go_wp2_with fail
        refine (size_calls c A8 c8 _ (Kd.C_below HK.out.2.2 HR4.out) HK.out.2.1 (by have := chk_parts HK.out.1; omega)).mono ?_
        rintro e w5 ⟨rfl, hb⟩
        have HB5 := Aside0.mk (below_step HB4.out hb)
        have HBW5 := Aside0.mk (below_step HBW4.out hb)
        rw [HSZ.out]
        clear hb HB4 HBW4 x0 x1 x2 x3 x4 x5 x6 x7 x8
        go_wp2_with fail
        rw [HNN.out]
        go_round
        case measure => simp only [intOf]; omega
        case rel => exact ⟨i + 1, rfl, rfl, hlt, HB5, HBW5⟩
      · have hie : i = L.length := by omega
        subst hie
        have hni : ¬ ((L.length : Int) < (L.length : Int)) := by omega
        rw [List.take_length]
        have HBY := Aside0.mk (show bytesW L = t.extract 0 (rowNums L).length by
          rw [bytes_good HCK.out]
          have h1 : t.extract 0 (rowNums L).length = (strOfNums (rowNums L) ++ R).extract 0 (strOfNums (rowNums L)).size := by rw [strOfNums_size, ← HTR.out]
          rw [h1]
          exact (ByteArray.extract_append_eq_left rfl).symm)
        go_upto_region 14 with fail
        go_region_held3 (fun _ => True)
          (exact trivial)
          (first
            | (go_at_call 9
               refine (bytes_calls L A4 c4 wr.drew (Kd.C_below HC3.out.2 (below_drew HBW.out)) HC3.out.1 (by omega) (fun d hd => by have := chk_parts (HCK.out d hd); omega)).mono ?_
               rintro e w6 ⟨rfl, hb⟩
               rw [HBY.out]
               have HB6 := Aside0.mk (below_step (below_drew HB.out) hb)
               clear hb))
        go_wp2_with fail
        exact bodyPost_ret (results_tmp rfl _ _ _) rfl ⟨rfl, HB6.out⟩
end Go.Proofs.Ytfcoaneffdddkaa.PureWireAgain

/- WireParts: the bytes of commands are those of each, one behind the other, as many as Size tells. The walk of the law. -/
import Derived.Test.YtfcoaneffdddkaaXLaw18

namespace Go.Proofs.Ytfcoaneffdddkaa.PureWireParts
open Go.RowKit Go.Shelf Go.Proofs.Ytfcoaneffdddkaa.PWt Go.Proofs.YtfcoaneffdddkaaW.PrintWords Go.Proofs.YtfcoaneffdddkaaW.PrintLast Go.Proofs.YtfcoaneffdddkaaW.PrintMore Go.Proofs.Ytfcoaneffdddkaa.MWords Go.Proofs.Ytfcoaneffdddkaa.MPut Go.Proofs.Ytfcoaneffdddkaa.XVal Go.Proofs.Ytfcoaneffdddkaa.XFields Go.Proofs.Ytfcoaneffdddkaa.QWire Go.Proofs.Ytfcoaneffdddkaa.QEv Go.Proofs.Ytfcoaneffdddkaa.XCheck Go.Proofs.Ytfcoaneffdddkaa.XBytes Go.Proofs.Ytfcoaneffdddkaa.QWireRef Go.Proofs.Ytfcoaneffdddkaa.QWireGood Go.Proofs.Ytfcoaneffdddkaa.XLaw18
set_option linter.unusedVariables false
set_option linter.unusedSimpArgs false

theorem C_one {W : World} {ad : Addr} {l : List S31} (h : Kd.C k31 W (some ad) l.length l) (i : Nat) (hi : i < l.length) : Kd.C k31 W (some (ad.add (i * 9))) [l[i]].length [l[i]] := by
  refine ⟨rfl, by simp, fun _ => ⟨_, rfl, fun j p hp => ?_⟩⟩
  cases j with
  | succ j => simp at hp
  | zero =>
    obtain rfl : l[i] = p := by simpa using hp
    obtain ⟨ad', e, hc⟩ := h.2.2 (by omega)
    obtain rfl : ad = ad' := Option.some.inj e
    obtain ⟨c, hl, hK, hcell⟩ := hc i _ (List.getElem?_eq_getElem hi)
    refine ⟨c, hl, hK, fun k u hk => ?_⟩
    have h1 := hcell k u hk
    have e1 : (ad.add (i * 9)).add (0 * k31.sz + k) = ad.add (i * k31.sz + k) := by
      have e2 : k31.sz = 9 := rfl
      rw [e2, add_add, Nat.zero_mul, Nat.zero_add]
    rw [e1]
    exact h1
theorem bytes_good {g : List S31} (h : ∀ c ∈ g, chkW c = true) : bytesW g = strOfNums (rowNums g) := by
  unfold bytesW
  rw [if_pos (List.all_eq_true.2 h)]
theorem cmd_two {c : S31} (h : chkW c = true) : 2 ≤ (cmdNums c).length := by
  have hk := chk_kind h
  have h1 : ∀ n : Nat, 1 ≤ (vnum n).length := fun n => by rw [vnum]; split <;> simp
  have h2 : flds c ≠ [] := by
    unfold flds
    split
    · simp
    split
    · simp
    split
    · simp
    split
    · simp
    split
    · simp
    · simp
  obtain ⟨x, xs, hx⟩ := List.exists_cons_of_ne_nil h2
  unfold cmdNums
  rw [hx, List.length_append]
  have h3 := h1 c.f0.toNat
  have h4 := h1 x.1.toNat
  have e : vnums ((x :: xs).map (·.1)) = vnum x.1.toNat ++ vnums (xs.map (·.1)) := by simp [vnums]
  rw [e, List.length_append]
  omega
set_option maxHeartbeats 4000000 in
set_option maxRecDepth 100000 in
theorem parts_calls (l : List S31) (A : Option Addr) (cp : Nat) (w : World) (hC : Kd.C k31 w A l.length l) (hc : l.length ≤ cp) (hw : ∀ c ∈ l, Wf c) :
    Calls Try.prog 3 #[.slice A l.length cp] w fun e w' => e = .returned (.bool true) ∧ Below w.heap.size w w' := by
  have HC := Aside0.mk (And.intro hC (And.intro hc hw))
  clear hC hc hw
  go_enter Try.func3, Try.ntmps3
  go_wp2_with fail
  refine (awake_calls _).mono ?_
  rintro e w1 ⟨rfl, hb⟩
  have HB1 := Aside0.mk hb
  clear hb
  go_wp2_with fail
  refine (good_calls l A cp _ (Kd.C_below HC.out.1 HB1.out) HC.out.2.1 HC.out.2.2).mono ?_
  rintro e w2 ⟨A2, c2, rfl, hc2, hC2, hb⟩
  have HB2 := Aside0.mk (below_step HB1.out hb)
  obtain ⟨g, hg⟩ : ∃ g, g = goodL l := ⟨_, rfl⟩
  have HGC := Aside0.mk (show ∀ c ∈ g, chkW c = true by rw [hg]; exact good_chk l)
  have HGL := Aside0.mk (show g.length ≤ 8 by rw [hg]; exact good_len l)
  rw [← hg] at hc2 hC2 ⊢
  have HC2 := Aside0.mk (And.intro hc2 hC2)
  clear hg hb hc2 hC2 HC HB1
  go_wp2_with fail
  go_loopw [5, 6, 7] (fun v5 v6 v7 wr => ∃ i : Nat, v7 = .int .i64 i ∧ v5 = .string (strOfNums (rowNums (g.take i))) ∧ v6 = .int .i64 ((rowNums (g.take i)).length : Int) ∧ i ≤ g.length ∧ Aside0 (Below w.heap.size w wr) ∧ Aside0 (Below w2.heap.size w2 wr)) (fun _ _ v _ => g.length - (intOf v).toNat)
  case atStart => exact ⟨0, rfl, rfl, rfl, Nat.zero_le _, HB2, ⟨Below.refl _ _⟩⟩
  case round =>
    obtain ⟨i, rfl, rfl, rfl, hi, HB, HBW⟩ := hrel
    by_cases hlt : i < g.length
    · obtain ⟨ad, A8, c8, e, x0, x1, x2, x3, x4, x5, x6, x7, x8, hl8, hC8⟩ := at_T31 (Kd.C_below HC2.out.2 HBW.out) (i : Int) (by omega) (by omega)
      have hrd := rdC g i hlt
      have hts := take_snoc g i hlt
      have hck := HGC.out g[i] (List.getElem_mem hlt)
      subst e
      have hone := C_one (Kd.C_below HC2.out.2 HBW.out) i hlt
      rw [hrd] at x0 x1 x2 x3 x4 x5 x6 x7 x8 hl8 hC8
      obtain ⟨c, hcc⟩ : ∃ c, c = g[i] := ⟨_, rfl⟩
      rw [← hcc] at x0 x1 x2 x3 x4 x5 x6 x7 x8 hl8 hC8 hts hck hone
      clear hrd hcc
      simp only [Int.toNat_natCast] at x0 x1 x2 x3 x4 x5 x6 x7 x8
      have HX := Aside0.mk (And.intro x0 (And.intro x1 (And.intro x2 (And.intro x3 (And.intro x4 (And.intro x5 (And.intro x6 (And.intro x7 x8))))))))
      have HT := Aside0.mk hts
      have HK := Aside0.mk (And.intro hck (And.intro hl8 hC8))
      have HO := Aside0.mk hone
      clear x0 x1 x2 x3 x4 x5 x6 x7 x8 hts hl8 hC8 hone hck
      have hi8 : (i : Int) ≤ 8 := by have := HGL.out; omega
      have hlc : (i : Int) + 1 ≤ (c2 : Int) := by have := HC2.out.1; omega
      have hi1 : ((i : Int) + 1).toNat = i + 1 := by omega
      have hne : ¬ c2 = i := by have := HC2.out.1; omega
      go_wp2_with fail
      refine (bytes_calls [c] (some (ad.add (i * 9))) (c2 - i) _ HO.out (by have := HC2.out.1; simp; omega) (by simp) (by intro d hd; rw [List.mem_singleton.1 hd]; have := chk_parts HK.out.1; omega)).mono ?_
      rintro e w3 ⟨rfl, hb⟩
      have HB3 := Aside0.mk (below_step HB.out hb)
      have HBW3 := Aside0.mk (below_step HBW.out hb)
      have HR3 := Aside0.mk hb
      have HCN := Aside0.mk (show strOfNums (rowNums (g.take i)) ++ bytesW [c] = strOfNums (rowNums (g.take (i + 1))) by
        rw [bytes_good (fun d hd => by rw [List.mem_singleton.1 hd]; exact HK.out.1), HT.out, rows_snoc, strOf_append]
        simp [rowNums])
      have HSZ := Aside0.mk (show (bytesW [c]).size = (cmdNums c).length by
        rw [bytes_good (fun d hd => by rw [List.mem_singleton.1 hd]; exact HK.out.1), strOfNums_size]
        simp [rowNums])
      have hc8 : (strOfNums (rowNums (g.take i))).size + (bytesW [c]).size ≤ 9223372036854775807 := by
        rw [HSZ.out, strOfNums_size]
        have h1 := rows_len (g.take i) (List.all_eq_true.2 fun d hd => HGC.out d (List.mem_of_mem_take hd))
        have h2 := HGL.out
        have h3 := cmd_len HK.out.1
        rw [List.length_take] at h1
        omega
      have hc8a := eq_false (Nat.not_lt.2 hc8)
      clear hb HO HB HBW
      obtain ⟨y0, y1, y2, y3, y4, y5, y6, y7, y8⟩ := HX.out
      have x0 := (HR3.out.cell (World.block_lt_of_cell? wr _ y0)).trans y0
      have x1 := (HR3.out.cell (World.block_lt_of_cell? wr _ y1)).trans y1
      have x2 := (HR3.out.cell (World.block_lt_of_cell? wr _ y2)).trans y2
      have x3 := (HR3.out.cell (World.block_lt_of_cell? wr _ y3)).trans y3
      have x4 := (HR3.out.cell (World.block_lt_of_cell? wr _ y4)).trans y4
      have x5 := (HR3.out.cell (World.block_lt_of_cell? wr _ y5)).trans y5
      have x6 := (HR3.out.cell (World.block_lt_of_cell? wr _ y6)).trans y6
      have x7 := (HR3.out.cell (World.block_lt_of_cell? wr _ y7)).trans y7
      have x8 := (HR3.out.cell (World.block_lt_of_cell? wr _ y8)).trans y8
      clear y0 y1 y2 y3 y4 y5 y6 y7 y8
      go_wp2_with fail
      rw [HCN.out]
      refine (size_calls c A8 c8 _ (Kd.C_below HK.out.2.2 HR3.out) HK.out.2.1 (by have := chk_parts HK.out.1; omega)).mono ?_
      rintro e w4 ⟨rfl, hb⟩
      have HB4 := Aside0.mk (below_step HB3.out hb)
      have HBW4 := Aside0.mk (below_step HBW3.out hb)
      have HR4 := Aside0.mk (below_step HR3.out hb)
      rw [HSZ.out]
      have HNN := Aside0.mk (show ((rowNums (g.take i)).length : Int) + ((cmdNums c).length : Int) = ((rowNums (g.take (i + 1))).length : Int) by
        rw [HT.out, rows_snoc, List.length_append]; simp)
      have hn1 : ((rowNums (g.take i)).length : Int) ≤ 10000 := by
        have h1 := rows_len (g.take i) (List.all_eq_true.2 fun d hd => HGC.out d (List.mem_of_mem_take hd))
        have h2 := HGL.out
        rw [List.length_take] at h1
        omega
      have hn2 : ((cmdNums c).length : Int) ≤ 180 := by have := cmd_len HK.out.1; omega
      clear hb HB3 HBW3 x0 x1 x2 x3 x4 x5 x6 x7 x8
      obtain ⟨y0, y1, y2, y3, y4, y5, y6, y7, y8⟩ := HX.out
      have x0 := (HR4.out.cell (World.block_lt_of_cell? wr _ y0)).trans y0
      have x1 := (HR4.out.cell (World.block_lt_of_cell? wr _ y1)).trans y1
      have x2 := (HR4.out.cell (World.block_lt_of_cell? wr _ y2)).trans y2
      have x3 := (HR4.out.cell (World.block_lt_of_cell? wr _ y3)).trans y3
      have x4 := (HR4.out.cell (World.block_lt_of_cell? wr _ y4)).trans y4
      have x5 := (HR4.out.cell (World.block_lt_of_cell? wr _ y5)).trans y5
      have x6 := (HR4.out.cell (World.block_lt_of_cell? wr _ y6)).trans y6
      have x7 := (HR4.out.cell (World.block_lt_of_cell? wr _ y7)).trans y7
      have x8 := (HR4.out.cell (World.block_lt_of_cell? wr _ y8)).trans y8
      clear y0 y1 y2 y3 y4 y5 y6 y7 y8
      go_wp2_with fail
      rw [HNN.out]
      clear hn1 hn2 x0 x1 x2 x3 x4 x5 x6 x7 x8
      refine (size_calls c A8 c8 _ (Kd.C_below HK.out.2.2 HR4.out) HK.out.2.1 (by have := chk_parts HK.out.1; omega)).mono ?_
      rintro e w5 ⟨rfl, hb⟩
      have HB5 := Aside0.mk (below_step HB4.out hb)
      have HBW5 := Aside0.mk (below_step HBW4.out hb)
      rw [HSZ.out]
      have h2 : ¬ (((cmdNums c).length : Int) < 2) := by have := cmd_two HK.out.1; omega
      have h2d : decide (((cmdNums c).length : Int) < 2) = false := decide_eq_false h2
      clear hb HB4 HBW4
      go_wp2_with fail
      go_round
      case measure => simp only [intOf]; omega
      case rel => exact ⟨i + 1, rfl, rfl, rfl, hlt, HB5, HBW5⟩
    · have hie : i = g.length := by omega
      subst hie
      rw [List.take_length]
      have HGB := Aside0.mk (bytes_good HGC.out)
      have hp : ∀ c ∈ g, c.f7.length ≤ 100000 := fun c hc => by have := chk_parts (HGC.out c hc); omega
      have hsz := strOfNums_size (rowNums g)
      have HSZ := Aside0.mk hsz
      have HP := Aside0.mk hp
      clear hsz hp
      go_wp2_with fail
      refine (bytes_calls g A2 c2 _ (Kd.C_below HC2.out.2 HBW.out) HC2.out.1 (by have := HGL.out; omega) HP.out).mono ?_
      rintro e w5 ⟨rfl, hb⟩
      have HB5 := Aside0.mk (below_step HB.out hb)
      rw [HGB.out]
      clear hb HB HBW
      have hsz := HSZ.out
      go_wp2_with fail
      go_ret
      exact ⟨rfl, HB5.out⟩
end Go.Proofs.Ytfcoaneffdddkaa.PureWireParts

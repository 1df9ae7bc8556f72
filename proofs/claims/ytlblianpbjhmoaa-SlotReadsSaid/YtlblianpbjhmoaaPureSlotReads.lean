/- SlotReads: any bytes are read as a row, or not, by the program as by the document. The walk of the law, by hand. -/
import Derived.Test.YtlblianpbjhmoaaQReadBoth
import Derived.Test.YtlblianpbjhmoaaQMade16
import Derived.Laws.IdiomStrings
import Derived.BigRegion
import Derived.Test.YtlblianpbjhmoaaProg
import Derived.Test.YtlblianpbjhmoaaPGsx27
import Derived.Test.YtlblianpbjhmoaaPGsx32
import Derived.Test.YtlblianpbjhmoaaPGsx37
import Derived.Test.YtlblianpbjhmoaaPGsx41
import Derived.Test.YtlblianpbjhmoaaPGsx43
import Derived.Test.YtlblianpbjhmoaaPGsx44
namespace Go.Proofs.Ytlblianpbjhmoaa.Pure
open Go.RowKit Go.Proofs.Ytlblianpbjhmoaa.PGs Go.Proofs.YtlblianpbjhmoaaW.PrintWords Go.Proofs.YtlblianpbjhmoaaW.PrintLast Go.Proofs.YtlblianpbjhmoaaW.PrintMore Go.Proofs.Ytlblianpbjhmoaa.MWords
open Go.Proofs.Ytlblianpbjhmoaa.QEv Go.Proofs.Ytlblianpbjhmoaa.QBits Go.Proofs.Ytlblianpbjhmoaa.QSlot Go.Proofs.Ytlblianpbjhmoaa.QCount Go.Proofs.Ytlblianpbjhmoaa.QMade16 Go.Proofs.Ytlblianpbjhmoaa.QBytes Go.Proofs.Ytlblianpbjhmoaa.QBack Go.Proofs.Ytlblianpbjhmoaa.MPut Go.Proofs.Ytlblianpbjhmoaa.MNext Go.Proofs.Ytlblianpbjhmoaa.QReads Go.Proofs.Ytlblianpbjhmoaa.QReadBoth
set_option linter.unusedVariables false
set_option linter.unusedSimpArgs false
-- regattalaw16_awake.f regattalaw16_made.f regattaref16_Bytes.f slot_Read.f regattaref16_Read.f regattaref16_Same.f

theorem idx_any (q : Int) (n : Nat) (h0 : 0 < n) (h1 : n ≤ 10000) : ∃ kk : Nat, (wrap64 (q.tmod (n : Int) + (n : Int))).tmod (n : Int) = (kk : Int) ∧ kk < n := by
  have a1 := Int.tmod_lt_of_pos q (show (0 : Int) < (n : Int) by omega)
  have a2 : -(n : Int) < q.tmod (n : Int) := by
    rcases Int.le_total 0 q with h | h
    · have := Int.tmod_nonneg (n : Int) h
      omega
    · have e : q.tmod (n : Int) = -((-q).tmod (n : Int)) := by rw [Int.neg_tmod, Int.neg_neg]
      have := Int.tmod_lt_of_pos (-q) (show (0 : Int) < (n : Int) by omega)
      omega
  have e : wrap64 (q.tmod (n : Int) + (n : Int)) = q.tmod (n : Int) + (n : Int) := w64 (by omega) (by omega)
  rw [e, Int.tmod_eq_emod_of_nonneg (by omega)]
  have b1 := Int.emod_nonneg (q.tmod (n : Int) + (n : Int)) (show (n : Int) ≠ 0 by omega)
  have b2 := Int.emod_lt_of_pos (q.tmod (n : Int) + (n : Int)) (show (0 : Int) < (n : Int) by omega)
  exact ⟨((q.tmod (n : Int) + (n : Int)) % (n : Int)).toNat, by omega, by omega⟩
theorem bytes_get (bs : ByteArray) (cp i : Nat) (h : i < bs.size) : (Go.bytesRow bs cp)[i]? = some (.int .u8 (bs[i]'h).toNat) := by
  unfold Go.bytesRow
  rw [Array.getElem?_append_left (by simpa using h)]
  simp [Array.getElem?_map, Array.getElem?_eq_getElem (show i < bs.data.size from h)]
  rfl
theorem bytes_size (bs : ByteArray) (cp : Nat) : bs.size ≤ (Go.bytesRow bs cp).size := by
  unfold Go.bytesRow
  simp
theorem bytes_cell {W : World} {g cp : Nat} {bs : ByteArray} {t : TypeId} (h : W.heap[g]? = some (.cells (Go.bytesRow bs cp) t ((Go.bytesRow bs cp).size, (Go.bytesRow bs cp).size + 1))) {i : Nat} (hi : i < bs.size) : W.cell? ⟨g, i, none⟩ = some (.int .u8 (bs[i]'hi).toNat) :=
  (cell_of_row W g i _ t _ h).trans (bytes_get bs cp i hi)
theorem bytes_frozen {W : World} {g cp : Nat} {bs : ByteArray} {t : TypeId} (h : W.heap[g]? = some (.cells (Go.bytesRow bs cp) t ((Go.bytesRow bs cp).size, (Go.bytesRow bs cp).size + 1))) {i : Nat} (hi : i < bs.size) : W.frozen? ⟨g, i, none⟩ = false := by
  have := bytes_size bs cp
  unfold World.frozen?
  rw [h]
  simp
  omega
theorem conv_after (P : Program) (src dst e : TypeId) (hs : P.underlying src = some (.slice e)) (he : P.underlying e = some (.int .u8)) (hd : P.underlying dst = some .string) {W4 : World} {g cp kk : Nat} {bs : ByteArray} {V : Int}
    (hc : ∀ i (h : i < bs.size), W4.cell? ⟨g, i, none⟩ = some (.int .u8 (bs[i]'h).toNat)) (hk : kk < bs.size) :
    ∃ s3 : ByteArray, (convert src dst (.slice (some ⟨g, 0, none⟩) bs.size cp)).run P ((W4.setCell ⟨g, kk, none⟩ (.int .u8 V)).drew) = .ok (.string s3) ((W4.setCell ⟨g, kk, none⟩ (.int .u8 V)).drew) ∧ s3.size = bs.size := by
  have hlen : ((List.range bs.size).map fun i : Nat => if i = kk then V else bt bs (i : Int)).length = bs.size := by simp
  refine ⟨_, run_convert_bytes_arg _ src e hs he g 0 bs.size cp ((List.range bs.size).map fun i : Nat => if i = kk then V else bt bs (i : Int)) hlen (fun i hi => ?_) dst hd, by rw [strOfNums_size]; exact hlen⟩
  have hx : ((List.range bs.size).map fun i : Nat => if i = kk then V else bt bs (i : Int)).getD i 0 = if i = kk then V else bt bs (i : Int) := by
    rw [List.getD_eq_getElem?_getD, List.getElem?_map, List.getElem?_range hi]
    rfl
  rw [hx, Nat.zero_add]
  show (W4.setCell ⟨g, kk, none⟩ (.int .u8 V)).cell? ⟨g, i, none⟩ = _
  by_cases hik : i = kk
  · subst hik
    rw [if_pos rfl]
    exact World.cell?_setCell_same' _ _ _ (by rw [hc i hi]; rfl)
  · rw [if_neg hik, World.cell?_setCell_other _ _ _ _ (by intro h; exact hik (Addr.mk.inj h).2.1.symm), hc i hi]
    rw [← bt_at bs (i : Int) hi]
    rfl
set_option maxHeartbeats 4000000 in
set_option maxRecDepth 100000 in
theorem reads_calls (s : ByteArray) (A1 : Option Addr) (c1 : Nat) (l1 : List (List Int)) (q0 q1 q2 : Int) (w : World) (hr1 : Kd.C (Kd.slice 3 (Kd.int .i64)) w A1 l1.length l1) (hc1 : l1.length ≤ c1) (hl1 : l1.length ≤ 9223372036854775807) (hl2 : ∀ y ∈ l1, y.length ≤ 9223372036854775807) :
    Calls Try.prog 9 #[.string s, .slice A1 l1.length c1, .agg #[.int .i64 q0, .int .i64 q1, .int .i64 q2]] w fun e w' => e = .returned (.bool true) ∧ Below w.heap.size w w' := by
  have mixed : Try.prog.follows Departure.mixedOrders = true := by kernel_rfl
  have HR1 := Aside0.mk hr1
  have HC1 := Aside0.mk hc1
  have HL := Aside0.mk (And.intro hl1 hl2)
  clear hr1 hc1 hl1 hl2
  go_enter Try.func9, Try.ntmps9
  obtain ⟨ka, ha⟩ := awake16.get
  have HA := Aside0.mk ha
  have HB0 := Aside0.mk (below_alloc (Below.refl w.heap.size w) (.cells #[.int .i64 q0, .int .i64 q1, .int .i64 q2] 42))
  have HM0 := Aside0.mk (mblk_new w 42 #[.int .i64 q0, .int .i64 q1, .int .i64 q2])
  clear ha
  go_upto_if 18 with (refine (regattalaw16_awake.calls ka true _ HA.out).mono ?_; rintro e w1 ⟨rfl, hb⟩; have HB1 := Aside0.mk (below_step HB0.out hb); have HM1 := Aside0.mk ((hb.block _ (mblk_lt HM0.out)).trans HM0.out); clear hb HB0 HM0 HA)
  go_cut [0] (fun v0 wc => ∃ s1 : ByteArray, v0 = .string s1 ∧ s1.size ≤ 60 ∧ Aside0 (Below w.heap.size w wc) ∧ Aside0 (MBlk wc w.heap.size 42 #[.int .i64 q0, .int .i64 q1, .int .i64 q2]))
  case first =>
    by_cases h60 : 60 < s.size
    · have c60 : decide (60 < (s.size : Int)) = true := decide_eq_true (by omega)
      rw [c60]
      go_wp2_with fail
      go_meet
      case rel => exact ⟨s.extract 0 60, rfl, by rw [ByteArray.size_extract]; omega, HB1, HM1⟩
    · have c60 : decide (60 < (s.size : Int)) = false := decide_eq_false (by omega)
      rw [c60]
      go_wp2_with fail
      go_meet
      case rel => exact ⟨s, rfl, by omega, HB1, HM1⟩
  case rest =>
    obtain ⟨s1, rfl, hs1, HB2, HM2⟩ := hcut
    have hc0 : wc.cell? ⟨w.heap.size, 0, none⟩ = some (.int .i64 q0) := (mblk_cell HM2.out 0).trans rfl
    go_upto_if 24 with fail
    go_cut [0] (fun v0 wd => ∃ s2 : ByteArray, v0 = .string s2 ∧ s2.size ≤ 10000 ∧ Aside0 (Below w.heap.size w wd))
    case first =>
      by_cases hq : (Go.bits .and .i64 q0 3 != 0) = true
      case neg =>
        have hq' : (Go.bits .and .i64 q0 3 != 0) = false := by simpa using hq
        rw [hq']
        clear hq hq'
        go_wp2_with fail
        go_meet
        case rel => exact ⟨s1, rfl, by omega, HB2⟩
      rw [hq]
      clear hq
      have hcq1 : wc.cell? ⟨w.heap.size, 1, none⟩ = some (.int .i64 q1) := (mblk_cell HM2.out 1).trans rfl
      obtain ⟨km, hkm⟩ := (made_t q1 l1 HL.out.1 HL.out.2).get
      obtain ⟨kb, hkb⟩ := (rbytes_t (madeRow q1 l1) (made_tiny q1 l1)).get
      obtain ⟨bs, hbs⟩ : ∃ bs, bs = QBytes.bytesRow (madeRow q1 l1) := ⟨_, rfl⟩
      rw [← hbs] at hkb
      have hsz : bs.size ≤ 10000 := by
        have hR := made_row 1024 (by omega) (by omega) q1 l1
        have h := nums_size (madeRow q1 l1) [] (by simp) (made_tiny q1 l1) hR
        rw [hbs]
        unfold QBytes.bytesRow
        rw [if_pos hR]
        rwa [List.append_nil] at h
      have HKM := Aside0.mk hkm
      have HKB := Aside0.mk hkb
      clear hkm hkb hbs
      go_wp2_with fail
      refine (regattalaw16_made.calls km q1 A1 c1 l1 _ _ (Kd.C_below HR1.out HB2.out) HC1.out HKM.out).mono ?_
      rintro e w2 ⟨v, rfl, hS, hb⟩
      obtain ⟨A2, c2, rfl⟩ := Kd.S_slice hS
      have hrd := Kd.S_reads' hS
      have HB3 := Aside0.mk (below_step HB2.out hb)
      have HM3 := Aside0.mk ((hb.block _ (mblk_lt HM2.out)).trans HM2.out)
      clear hb hc0 hcq1
      go_wp2_with fail
      refine (regattaref16_Bytes.calls kb A2 c2 _ bs _ hrd.2.2 hrd.2.1 HKB.out).mono ?_
      clear hrd hS
      rintro e w3 ⟨rfl, hb⟩
      have HB4 := Aside0.mk (below_step HB3.out hb)
      have HM4 := Aside0.mk ((hb.block _ (mblk_lt HM3.out)).trans HM3.out)
      clear hb HB3 HM3 HB2 HM2
      have hconv := run_bytes_of_string (P := Try.prog) w3 9 43 5 bs Try.underlying9 Try.underlying43 Try.underlying5
      obtain ⟨cp, hcp⟩ : ∃ cp, cp = grownCap w3 bs.size 0 5 := ⟨_, rfl⟩
      obtain ⟨w4, hw4⟩ : ∃ w4, w4 = (w3.drew.alloc (.cells (Go.bytesRow bs cp) 5 ((Go.bytesRow bs cp).size, (Go.bytesRow bs cp).size + 1))) := ⟨_, rfl⟩
      rw [← hcp, ← hw4] at hconv
      have hblk : w4.heap[w3.heap.size]? = some (.cells (Go.bytesRow bs cp) 5 ((Go.bytesRow bs cp).size, (Go.bytesRow bs cp).size + 1)) := by
        rw [hw4]
        exact heap_alloc_new w3.drew _
      have HB5 := Aside0.mk (show Below w.heap.size w w4 by rw [hw4]; exact below_alloc (below_drew HB4.out) _)
      have HM5 := Aside0.mk (show MBlk w4 w.heap.size 42 #[.int .i64 q0, .int .i64 q1, .int .i64 q2] by rw [hw4]; exact mblk_alloc (mblk_drewN HM4.out 1) _)
      obtain ⟨g, hg⟩ : ∃ g, g = w3.heap.size := ⟨_, rfl⟩
      have HG := Aside0.mk (show w.heap.size < g by rw [hg]; exact mblk_lt HM4.out)
      rw [← hg] at hblk hconv
      have HBLK := Aside0.mk hblk
      clear hw4 HM4 HB4 hg hcp hblk HKB HKM
      go_upto_if 33 with fail
      clear hconv
      by_cases hb0 : 0 < bs.size
      case neg =>
        rw [decide_eq_false hb0]
        go_wp2_with fail
        go_meet
        case rel => exact ⟨s1, rfl, by omega, HB5⟩
      rw [decide_eq_true hb0]
      have hcq1 : w4.cell? ⟨w.heap.size, 1, none⟩ = some (.int .i64 q1) := (mblk_cell HM5.out 1).trans rfl
      obtain ⟨kk, hkk, hlt⟩ := idx_any q1 bs.size hb0 (by omega)
      go_upto_region 8 with fail
      clear hcq1 hkk
      have hcq2 : w4.cell? ⟨w.heap.size, 2, none⟩ = some (.int .i64 q2) := (mblk_cell HM5.out 2).trans rfl
      have HC := Aside0.mk (fun i (h : i < bs.size) => bytes_cell HBLK.out h)
      have HF := Aside0.mk (fun i (h : i < bs.size) => bytes_frozen HBLK.out h)
      have hck := HC.out kk hlt
      have hfk := HF.out kk hlt
      have hlt' : (kk : Int) < (bs.size : Int) := by omega
      go_region
      go_upto_region 9 with fail
      obtain ⟨W5, hW5⟩ : ∃ W5, W5 = (w4.setCell ⟨g, kk, none⟩ (.int .u8 (Go.bits .xor .u8 ((bs[kk]'hlt).toNat : Int) (q2 % 256)))).drew := ⟨_, rfl⟩
      rw [← hW5]
      obtain ⟨s3, hconv, hs3⟩ := conv_after Try.prog 43 9 5 Try.underlying43 Try.underlying5 Try.underlying9 (W4 := w4) (g := g) (bs := bs) (cp := cp) (kk := kk) (V := Go.bits .xor .u8 ((bs[kk]'hlt).toNat : Int) (q2 % 256)) HC.out hlt
      rw [← hW5] at hconv
      have HB6 := Aside0.mk (show Below w.heap.size w W5 by rw [hW5]; exact below_drew (HB5.out.setCell (Nat.le_of_lt HG.out) _))
      have HM6 := Aside0.mk (show MBlk W5 w.heap.size 42 #[.int .i64 q0, .int .i64 q1, .int .i64 q2] by rw [hW5]; exact mblk_drewN (mblk_far HM5.out (Nat.ne_of_lt HG.out) _) 1)
      have hc0 : W5.cell? ⟨w.heap.size, 0, none⟩ = some (.int .i64 q0) := (mblk_cell HM6.out 0).trans rfl
      have hle : (kk : Int) ≤ (s3.size : Int) := by omega
      clear hW5 HBLK HC HF hck hfk hcq2 HM5 HB5
      go_upto_if 61 with fail
      by_cases h3 : (Go.bits .and .i64 q0 3 == 3) = true
      · rw [h3]
        clear h3
        go_wp2_with fail
        go_meet
        case rel => exact ⟨s3.extract 0 kk, rfl, by rw [ByteArray.size_extract]; omega, HB6⟩
      · have h3' : (Go.bits .and .i64 q0 3 == 3) = false := by simpa using h3
        rw [h3']
        clear h3 h3'
        go_wp2_with fail
        go_meet
        case rel => exact ⟨s3, rfl, by omega, HB6⟩
    case rest =>
      obtain ⟨s2, rfl, hs2, HB7⟩ := hcut
      clear HM2 HB2 hc0 HR1 HC1 HL
      obtain ⟨l, b, t1, t2, hM⟩ := read_both s2 (by omega)
      obtain ⟨k1, h1⟩ := t1.get
      obtain ⟨k2, h2⟩ := t2.get
      obtain ⟨k3, h3⟩ := (same_mid l hM).get
      have H1 := Aside0.mk h1
      have H2 := Aside0.mk h2
      have H3 := Aside0.mk h3
      clear h1 h2 h3 t1 t2 hM
      go_wp2_with fail
      refine (slot_Read.calls k1 s2 l b _ H1.out).mono ?_
      rintro e w5 ⟨v, rfl, hS, hb⟩
      obtain ⟨A2, c2, rfl⟩ := Kd.S_slice hS
      have HS := Aside0.mk hS
      have HB8 := Aside0.mk (below_step HB7.out hb)
      clear hS hb
      go_wp2_with fail
      refine (regattaref16_Read.calls k2 s2 l b _ H2.out).mono ?_
      rintro e w6 ⟨v, rfl, hS, hb⟩
      obtain ⟨A3, c3, rfl⟩ := Kd.S_slice hS
      have HS2 := Aside0.mk hS
      have HS1 := Aside0.mk (Kd.S_below HS.out hb)
      have HB9 := Aside0.mk (below_step HB8.out hb)
      clear hS hb HS HB8 HB7
      go_wp2_with fail
      have r1 := Kd.S_reads' HS1.out
      have r2 := Kd.S_reads' HS2.out
      refine (regattaref16_Same.calls k3 A2 c2 l A3 c3 l true _ r1.2.2 r1.2.1 r2.2.2 r2.2.1 H3.out).mono ?_
      rintro e w7 ⟨rfl, hb⟩
      clear r1 r2
      have HB10 := Aside0.mk (below_step HB9.out hb.below)
      go_wp2_with fail
      go_ret
      exact ⟨by simp, HB10.out⟩
end Go.Proofs.Ytlblianpbjhmoaa.Pure

/- WireBack: commands that were written are read; so are those ahead of what is none. The walk of the law. -/
import Derived.Test.YtfcoaneffdddkaaXLaw18
import Derived.Test.YtfcoaneffdddkaaXRead
import Derived.Test.YtfcoaneffdddkaaPWtx28
namespace Go.Proofs.Ytfcoaneffdddkaa.PureWireBack
open Go.RowKit Go.Shelf Go.Proofs.Ytfcoaneffdddkaa.PWt Go.Proofs.YtfcoaneffdddkaaW.PrintWords Go.Proofs.YtfcoaneffdddkaaW.PrintLast Go.Proofs.YtfcoaneffdddkaaW.PrintMore Go.Proofs.Ytfcoaneffdddkaa.MWords Go.Proofs.Ytfcoaneffdddkaa.MPut Go.Proofs.Ytfcoaneffdddkaa.XVal Go.Proofs.Ytfcoaneffdddkaa.XFields Go.Proofs.Ytfcoaneffdddkaa.QWire Go.Proofs.Ytfcoaneffdddkaa.QEv Go.Proofs.Ytfcoaneffdddkaa.XBytes Go.Proofs.Ytfcoaneffdddkaa.QWireGood Go.Proofs.Ytfcoaneffdddkaa.XLaw18 Go.Proofs.Ytfcoaneffdddkaa.XNext Go.Proofs.Ytfcoaneffdddkaa.XCmd Go.Proofs.Ytfcoaneffdddkaa.XBack Go.Proofs.Ytfcoaneffdddkaa.XRead
set_option linter.unusedVariables false
set_option linter.unusedSimpArgs false
attribute [local go_sem] Oper.semAt_some

theorem good_wf {l : List S31} (h : ∀ c ∈ l, Wf c) : ∀ c ∈ goodL l, Wf c := by
  intro c hc
  unfold goodL at hc
  have h1 := (List.mem_filter.1 hc).1
  unfold fewL at h1
  obtain ⟨d, hd, rfl⟩ := List.mem_map.1 h1
  have h2 := h d (List.mem_of_mem_take hd)
  unfold Wf trim at *
  split <;> exact h2
theorem bytes_good {g : List S31} (h : ∀ c ∈ g, chkW c = true) : bytesW g = strOfNums (rowNums g) := by
  unfold bytesW
  rw [if_pos (List.all_eq_true.2 h)]
theorem read_good {g : List S31} (h : ∀ c ∈ g, chkW c = true ∧ Wf c) (hl : g.length ≤ 4096) (rest : List Int) : readsP (strOfNums (rowNums g ++ rest)).size (strOfNums (rowNums g ++ rest)) [] = readsP ((strOfNums (rowNums g ++ rest)).size + 1) (strOfNums rest) g := by
  rw [← reads_fuel (g.length + ((strOfNums (rowNums g ++ rest)).size + 1)) _ _ (by omega), reads_back rest _ g [] h (by simp; omega)]
  rfl
theorem read_one {g : List S31} (h : ∀ c ∈ g, chkW c = true ∧ Wf c) (hl : g.length ≤ 4096) : readsP (strOfNums (rowNums g)).size (strOfNums (rowNums g)) [] = (g, ⟨#[]⟩, 0) := by
  have h1 := read_good h hl []
  rw [List.append_nil] at h1
  rw [h1, readsP_nil _ _ _ rfl]
  rfl
theorem read_two {g : List S31} (h : ∀ c ∈ g, chkW c = true ∧ Wf c) (hl : g.length ≤ 4000) (x : Int) : readsP (strOfNums (rowNums g ++ [0, x])).size (strOfNums (rowNums g ++ [0, x])) [] = (g, strOfNums [0, x], 10) := by
  rw [read_good h (by omega) [0, x], readsP_succ, if_neg (by rw [strOfNums_size]; simp), if_neg (by omega)]
  have h2 : nx 7 (strOfNums [0, x], false) = (0, (strOfNums [x], false)) := by
    have h3 := nx_back 7 0 [x] (by omega) (by omega) (by omega)
    have h4 : vnum (Int.toNat 0) ++ [x] = [0, x] := by
      have e : vnum (Int.toNat 0) = [((0 : Nat) : Int)] := vnum_lt 0 (by omega)
      rw [e]
      rfl
    rw [h4] at h3
    exact h3
  have h5 : cmdR (strOfNums [0, x], false) = (⟨0, 0, 0, 0, 0, ⟨0, 0⟩, false, []⟩, ((strOfNums [x]), true)) := by
    unfold cmdR
    simp (config := {decide := true}) only [h2, ↓reduceIte]
  rw [h5]
  rfl
theorem S_C {w : World} {B : Nat} {v : Value} {xs : List S31} (h : Kd.R k31 31 w B (fun _ => True) v xs) : ∃ A c, v = .slice A xs.length c ∧ xs.length ≤ c ∧ Kd.C k31 w A xs.length xs := Kd.R_reads h
theorem same_at (a b : List S31) (A B : Option Addr) (c d : Nat) (w : World) (hA : Kd.C k31 w A a.length a) (hc : a.length ≤ c) (hB : Kd.C k31 w B b.length b) (hd : b.length ≤ d) (hs : a.length ≤ 100000) (hp : ∀ z ∈ a, z.f7.length ≤ 100000) :
    Calls Try.prog 12 #[.slice A a.length c, .slice B b.length d] w fun e w' => e = .returned (.bool (decide (a = b))) ∧ Below w.heap.size w w' := by
  obtain ⟨k, hk⟩ := (sameall_t a b (by omega) (fun z hz => by have := hp z hz; omega)).get
  exact regattaref18_SameAll.calls k A c a B d b _ w hA hc hB hd hk
set_option maxHeartbeats 4000000 in
set_option maxRecDepth 100000 in
theorem back_calls (l : List S31) (A : Option Addr) (cp : Nat) (x : Int) (w : World) (hC : Kd.C k31 w A l.length l) (hc : l.length ≤ cp) (hw : ∀ c ∈ l, Wf c) (hx0 : 0 ≤ x) (hx1 : x ≤ 255) :
    Calls Try.prog 4 #[.slice A l.length cp, .int .u8 x] w fun e w' => e = .returned (.bool true) ∧ Below w.heap.size w w' := by
  have HC := Aside0.mk (And.intro hC (And.intro hc hw))
  have HWF := Aside0.mk (good_wf hw)
  clear hC hc hw
  go_enter Try.func4, Try.ntmps4
  go_wp2_with fail
  refine (awake_calls _).mono ?_
  rintro e w1 ⟨rfl, hb⟩
  have HB1 := Aside0.mk hb
  clear hb
  go_wp2_with fail
  refine (good_calls l A cp _ (Kd.C_below HC.out.1 HB1.out) HC.out.2.1 HC.out.2.2).mono ?_
  rintro e w2 ⟨A2, c2, rfl, hc2, hC2, hb⟩
  have HB2 := Aside0.mk (below_step HB1.out hb)
  obtain ⟨g, hg⟩ : ∃ g, g = goodL l := ⟨_, rfl⟩
  have HGC := Aside0.mk (show ∀ c ∈ g, chkW c = true by rw [hg]; exact good_chk l)
  have HGL := Aside0.mk (show g.length ≤ 8 by rw [hg]; exact good_len l)
  rw [← hg] at hc2 hC2 HWF ⊢
  have HC2 := Aside0.mk (And.intro hc2 hC2)
  have HG := Aside0.mk (show ∀ c ∈ g, chkW c = true ∧ Wf c from fun c h => ⟨HGC.out c h, HWF.out c h⟩)
  have HS : Aside0 ((rowNums g).length ≤ 50000) := Aside0.mk (by
    have h1 := rows_len g (List.all_eq_true.2 fun d hd => HGC.out d hd)
    have h2 := HGL.out
    omega)
  clear hg hb hc2 hC2 HC HB1
  go_wp2_with fail
  refine (bytes_calls g A2 c2 _ HC2.out.2 HC2.out.1 (by have := HGL.out; omega) (fun c h => by have := chk_parts (HGC.out c h); omega)).mono ?_
  rintro e w3 ⟨rfl, hb⟩
  rw [bytes_good HGC.out]
  have HB3 := Aside0.mk (below_step HB2.out hb)
  have HC3 := Aside0.mk (Kd.C_below HC2.out.2 hb)
  clear hb
  go_wp2_with fail
  refine (read_calls (strOfNums (rowNums g)) (by rw [strOfNums_size]; have := HS.out; omega) _).mono ?_
  rw [read_one HG.out (by have := HGL.out; omega)]
  rintro e w4 ⟨v4, rfl, hR, hb⟩
  obtain ⟨A4, c4, rfl, hl4, hC4⟩ := S_C hR
  have HB4 := Aside0.mk (below_step HB3.out hb)
  have HC4 := Aside0.mk (And.intro hl4 hC4)
  have HC5 := Aside0.mk (Kd.C_below HC3.out hb)
  clear hb hR hl4 hC4
  go_wp2_with fail
  refine (same_at g g A4 A2 c4 c2 _ HC4.out.2 HC4.out.1 HC5.out HC2.out.1 (by have := HGL.out; omega) (fun c h => by have := chk_parts (HGC.out c h); omega)).mono ?_
  rintro e w5 ⟨rfl, hb⟩
  have HB5 := Aside0.mk (below_step HB4.out hb)
  have HC6 := Aside0.mk (Kd.C_below HC5.out hb)
  clear hb
  have hconv := run_convert_bytes_arg (P := Try.prog) (w := w5.alloc (.cells #[.int .u8 x] 5)) 37 5 Try.underlying37 Try.underlying5 w5.heap.size 0 1 1 [x] rfl (fun i hi => by
    obtain rfl : i = 0 := by omega
    exact (mblk_cell (mblk_new _ _ _) 0).trans rfl) 9 Try.underlying9
  have hsz := HS.out
  have hz1 : (9223372036854775807 < (strOfNums (rowNums g)).size + 1) = False := eq_false (by rw [strOfNums_size]; omega)
  have hz2 : (9223372036854775807 < (strOfNums (rowNums g)).size + 1 + 1) = False := eq_false (by rw [strOfNums_size]; omega)
  clear hsz
  have hxs : (strOfNums [x]).size = 1 := by rw [strOfNums_size]; rfl
  have HCAT := Aside0.mk (show strOfNums (rowNums g) ++ (⟨#[0]⟩ : ByteArray) ++ strOfNums [x] = strOfNums (rowNums g ++ [0, x]) by
    have e1 : (⟨#[0]⟩ : ByteArray) = strOfNums [((0 : Nat) : Int)] := (strOf_nat 0).symm
    rw [e1, ByteArray.append_assoc, ← strOf_append, ← strOf_append]
    rfl)
  have HSA := Aside0.mk (show (strOfNums (rowNums g ++ [0, x])).size = (strOfNums (rowNums g)).size + 2 by rw [strOfNums_size, strOfNums_size, List.length_append]; rfl)
  have HB6 := Aside0.mk (show Below w5.heap.size w5 (w5.alloc (.cells #[.int .u8 x] 5)) from below_alloc (Below.refl _ _) _)
  have HAT := Aside0.mk (show ((strOfNums (rowNums g ++ [0, x])).size : Int) - ((strOfNums [0, x]).size : Int) = ((strOfNums (rowNums g)).size : Int) by
    rw [HSA.out, strOfNums_size [0, x]]
    simp)
  go_wp2_with fail
  rw [HCAT.out]
  refine (read_calls (strOfNums (rowNums g ++ [0, x])) (by rw [HSA.out, strOfNums_size]; have := HS.out; omega) _).mono ?_
  rw [read_two HG.out (by have := HGL.out; omega) x]
  simp only []
  rw [HAT.out]
  rintro e w6 ⟨v6, rfl, hR, hb⟩
  obtain ⟨A6, c6, rfl, hl6, hC6⟩ := S_C hR
  have HB7 := Aside0.mk (below_step (HB5.out.trans (HB6.out.mono HB5.out.size)) hb)
  have HC7 := Aside0.mk (And.intro hl6 hC6)
  have HC8 := Aside0.mk (Kd.C_below (Kd.C_below HC6.out HB6.out) hb)
  clear hb hR hl6 hC6 hconv hz1 hz2 hxs
  go_wp2_with fail
  refine (same_at g g A6 A2 c6 c2 _ HC7.out.2 HC7.out.1 HC8.out HC2.out.1 (by have := HGL.out; omega) (fun c h => by have := chk_parts (HGC.out c h); omega)).mono ?_
  rintro e w7 ⟨rfl, hb⟩
  have HB8 := Aside0.mk (below_step HB7.out hb)
  clear hb
  go_wp2_with fail
  exact bodyPost_ret (results_tmp rfl _ _ _) rfl ⟨rfl, HB8.out⟩
end Go.Proofs.Ytfcoaneffdddkaa.PureWireBack

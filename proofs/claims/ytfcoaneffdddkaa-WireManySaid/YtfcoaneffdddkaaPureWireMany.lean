/- WireMany: 4096 commands are read at most. The walk of the law. -/
import Derived.Test.YtfcoaneffdddkaaPureWireBack
import Derived.Laws.MakeOwn

namespace Go.Proofs.Ytfcoaneffdddkaa.PureWireMany
open Go.RowKit Go.Shelf Go.Proofs.Ytfcoaneffdddkaa.PWt Go.Proofs.YtfcoaneffdddkaaW.PrintWords Go.Proofs.YtfcoaneffdddkaaW.PrintLast Go.Proofs.YtfcoaneffdddkaaW.PrintMore Go.Proofs.Ytfcoaneffdddkaa.MWords Go.Proofs.Ytfcoaneffdddkaa.MPut Go.Proofs.Ytfcoaneffdddkaa.XVal Go.Proofs.Ytfcoaneffdddkaa.XFields Go.Proofs.Ytfcoaneffdddkaa.QWire Go.Proofs.Ytfcoaneffdddkaa.QEv Go.Proofs.Ytfcoaneffdddkaa.QBits Go.Proofs.Ytfcoaneffdddkaa.XBytes Go.Proofs.Ytfcoaneffdddkaa.QWireGood Go.Proofs.Ytfcoaneffdddkaa.XLaw18 Go.Proofs.Ytfcoaneffdddkaa.XNext Go.Proofs.Ytfcoaneffdddkaa.XCmd Go.Proofs.Ytfcoaneffdddkaa.XBack Go.Proofs.Ytfcoaneffdddkaa.XRead Go.Proofs.Ytfcoaneffdddkaa.PureWireBack
set_option linter.unusedVariables false
set_option linter.unusedSimpArgs false
attribute [local go_sem] Oper.semAt_some

def tick : S31 := ⟨5, 0, 0, 1, 0, ⟨0, 0⟩, false, []⟩
theorem tick_ok : chkW tick = true ∧ Wf tick := ⟨by decide +kernel, by constructor <;> decide⟩
theorem tick_nums : cmdNums tick = [5, 1] := by
  have e1 : vnum (Int.toNat 5) = [((5 : Nat) : Int)] := vnum_lt 5 (by omega)
  have e2 : vnum (Int.toNat 1) = [((1 : Nat) : Int)] := vnum_lt 1 (by omega)
  have e : cmdNums tick = vnum (Int.toNat 5) ++ (vnum (Int.toNat 1) ++ []) := by
    unfold cmdNums
    have : (flds tick).map (·.1) = [1] := by decide +kernel
    rw [this]
    rfl
  rw [e, e1, e2]
  rfl
def ticks (i : Nat) : List Int := rowNums (List.replicate i tick)
theorem ticks_succ (i : Nat) : ticks (i + 1) = ticks i ++ [5, 1] := by
  unfold ticks rowNums
  rw [List.replicate_succ', List.map_append, List.flatten_append]
  simp [tick_nums]
theorem ticks_len (i : Nat) : (ticks i).length = 2 * i := by
  induction i with
  | zero => rfl
  | succ i ih =>
    rw [ticks_succ, List.length_append, ih]
    simp
    omega
theorem ticks_add (a b : Nat) : ticks (a + b) = ticks a ++ ticks b := by
  unfold ticks rowNums
  rw [← List.replicate_append_replicate, List.map_append, List.flatten_append]
theorem read_many (k : Nat) : readsP (strOfNums (ticks (4096 + k))).size (strOfNums (ticks (4096 + k))) [] = (List.replicate 4096 tick, strOfNums (ticks k), if 0 < k then 15 else 0) := by
  have hg : ∀ c ∈ List.replicate 4096 tick, chkW c = true ∧ Wf c := fun c hc => by rw [(List.mem_replicate.1 hc).2]; exact tick_ok
  have h1 := read_good hg (by rw [List.length_replicate]; omega) (ticks k)
  have e : rowNums (List.replicate 4096 tick) ++ ticks k = ticks (4096 + k) := (ticks_add 4096 k).symm
  rw [e] at h1
  rw [h1]
  by_cases hk : 0 < k
  · rw [readsP_succ, if_neg (by rw [strOfNums_size, ticks_len]; omega), if_pos List.length_replicate, if_pos hk]
  · have hk0 : k = 0 := by omega
    subst hk0
    rw [readsP_nil _ _ _ rfl, if_neg hk]
theorem row2 {W : World} {g : Nat} (h : MBlk W g 5 #[.int .u8 5, .int .u8 1]) : Kd.C (Kd.int .u8) W (some ⟨g, 0, none⟩) 2 [5, 1] := by
  refine ⟨rfl, by omega, fun _ => ⟨_, rfl, fun j p hp => ⟨[.int .u8 p], rfl, rfl, fun i u hi => ?_⟩⟩⟩
  cases i with
  | succ i => simp at hi
  | zero =>
    obtain rfl : Value.int .u8 p = u := by simpa using hi
    cases j with
    | zero =>
      obtain rfl : (5 : Int) = p := by simpa using hp
      exact (mblk_cell h 0).trans rfl
    | succ j =>
      cases j with
      | zero =>
        obtain rfl : (1 : Int) = p := by simpa using hp
        exact (mblk_cell h 1).trans rfl
      | succ j => simp at hp
theorem info8 : (Try.prog.info? 5).map (fun i => (i.zero, i.size, i.bytes)) = some (some (.int .u8 0), 1, 1) := by kernel_rfl
theorem make_b (w : World) : ∃ w', (Instr.makeSlice 37 (.int .i64 0) (.int .i64 9000)).run Try.prog w = .ok (.slice (some ⟨w.heap.size, 0, none⟩) 0 9000) w' ∧ Kd.R (Kd.int .u8) 5 w' w.heap.size (fun _ => True) (.slice (some ⟨w.heap.size, 0, none⟩) 0 9000) [] ∧ Below w.heap.size w w' := by
  obtain ⟨i0, hi, hzz⟩ := Option.map_eq_some_iff.1 info8
  simp only [Prod.mk.injEq] at hzz
  obtain ⟨hz0, hz1, hz2⟩ := hzz
  obtain ⟨w', h1, h2, h3⟩ := run_makeSlice_owned (P := Try.prog) (w := w) w.heap.size 37 5 i0 (.int .u8 0) 1 Try.underlying37 hi hz0 hz1 .i64 .i64 9000 (by omega) (by rw [hz2]; omega) (by simp [maxLen]) (Nat.le_refl _)
  refine ⟨w', h1, ⟨fun _ _ => trivial, [], h2, Reps.none _ _⟩, Below.grown (Below.refl _ _) h3 (Nat.le_refl _) (fun k hk => by cases hk)⟩
theorem bytes_at {W : World} {B t : Nat} {ok : Nat → Prop} {v : Value} {xs : List Int} (h : Kd.R (Kd.int .u8) t W B ok v xs) (hp : 0 < xs.length) : ∃ g c, v = .slice (some ⟨g, 0, none⟩) xs.length c ∧ ∀ i, i < xs.length → W.cell? ⟨g, 0 + i, none⟩ = some (.int .u8 (xs.getD i 0)) := by
  obtain ⟨A, c, e, hl, hC⟩ := Kd.R_reads h
  obtain ⟨ad, rfl, hc⟩ := hC.2.2 hp
  obtain ⟨_, inner, ⟨_, ho⟩, _⟩ := h
  rcases ho with ⟨ho, _⟩ | ⟨g, cap, cur, ho, _⟩
  · rw [e] at ho
    cases ho
  · rw [e] at ho
    injection ho with h1 h2 h3
    injection h1 with h1
    subst h1
    refine ⟨g, c, e, fun i hi => ?_⟩
    obtain ⟨cs, hlen, hK, hcell⟩ := hc i _ (List.getElem?_eq_getElem hi)
    have hcs : cs = [.int .u8 xs[i]] := hK
    subst hcs
    have h2 := hcell 0 (.int .u8 xs[i]) rfl
    have e2 : (⟨g, 0, none⟩ : Addr).add (i * (Kd.int .u8).sz + 0) = ⟨g, 0 + i, none⟩ := by
      have e3 : (Kd.int .u8).sz = 1 := rfl
      rw [e3]
      unfold Addr.add
      simp
      try exact fun e => e.symm
    rw [e2] at h2
    rw [h2]
    simp [List.getD, List.getElem?_eq_getElem hi]
theorem kmod (n : Int) : ∃ k : Nat, Int.tmod (wrap64 (Int.tmod n 10 + 10)) 10 = (k : Int) ∧ k ≤ 9 := by
  have h1 : -9 ≤ Int.tmod n 10 ∧ Int.tmod n 10 ≤ 9 := by
    have a := Int.tmod_lt_of_pos n (show (0 : Int) < 10 by omega)
    have b := Int.lt_tmod_of_pos n (show (0 : Int) < 10 by omega)
    omega
  have h2 : wrap64 (Int.tmod n 10 + 10) = Int.tmod n 10 + 10 := w64 (by omega) (by omega)
  rw [h2, Int.tmod_eq_emod_of_nonneg (by omega)]
  exact ⟨((Int.tmod n 10 + 10) % 10).toNat, by omega, by omega⟩
set_option maxHeartbeats 4000000 in
set_option maxRecDepth 100000 in
theorem many_calls (n : Int) (w : World) (hn0 : -9223372036854775808 ≤ n) (hn1 : n ≤ 9223372036854775807) :
    Calls Try.prog 6 #[.int .i64 n] w fun e w' => e = .returned (.bool true) ∧ Below w.heap.size w w' := by
  go_enter Try.func6, Try.ntmps6
  go_wp2_with fail
  refine (awake_calls _).mono ?_
  rintro e w1 ⟨rfl, hb⟩
  have HB1 := Aside0.mk hb
  clear hb
  obtain ⟨W2, hmk, hR, hb⟩ := make_b w1
  have HB2 := Aside0.mk (below_step HB1.out hb)
  have HR2 := Aside0.mk (Kd.R_lower hR HB1.out.size)
  clear hb hR
  obtain ⟨k, hk, hk9⟩ := kmod n
  go_wp2_with fail
  have HK := Aside0.mk hk9
  clear hk hmk
  have hkb : (k : Int) ≤ 9 := by omega
  clear hk9
  have hwk : wrap64 (4096 + (k : Int)) = 4096 + (k : Int) := w64 (by omega) (by omega)
  go_loopw [5, 6] (fun v5 v6 wr => ∃ (i : Nat) (v : Value), v5 = v ∧ v6 = .int .i64 i ∧ i ≤ 4096 + k ∧ Aside0 (Kd.R (Kd.int .u8) 5 wr w.heap.size (fun _ => True) v (ticks i)) ∧ Aside0 (Below w.heap.size w wr)) (fun _ v _ => 4096 + k - (intOf v).toNat)
  case atStart => exact ⟨0, _, rfl, rfl, Nat.zero_le _, HR2, HB2⟩
  case round =>
    obtain ⟨i, v, rfl, rfl, hi, HR, HB⟩ := hrel
    by_cases hlt : i < 4096 + k
    · have hlt2 : (i : Int) < 4096 + (k : Int) := by omega
      have hi1 : (i : Int) + 1 ≤ 5000 := by omega
      have HL : Aside0 (((ticks i).length + 2) * 1 ≤ 140737488355328) := ⟨by rw [ticks_len]; omega⟩
      have HN := Aside0.mk (mblk_new wr 5 #[.int .u8 5, .int .u8 1])
      have HBA : Aside0 (Below wr.heap.size wr (wr.alloc (.cells #[.int .u8 5, .int .u8 1] 5))) := ⟨below_alloc (Below.refl _ _) _⟩
      go_wp2_with ((with_reducible refine gate_builtin (b := .append) (xs := #[.tmp 23, .tmp 24]) rfl ?_); at_builtin; refine Kd.R_append_rows (Kd.int .u8) (w0 := w) w.heap.size rfl (.tmp 23) (.tmp 24) 37 5 (.int .u8 0) 1 rfl Try.underlying37 info8 rfl (by decide) (by omega) _ (ticks i) [5, 1] _ _ _ (fun _ => True) (fun _ => False) rfl rfl (Kd.R_below HR.out HBA.out) (row2 HN.out) ?aK (fun _ h => h.elim) (fun _ _ => trivial) (below_step HB.out HBA.out) ?aS HL.out ?_; (case aK => exact fun x cs h => h); (case aS => exact (below_step HB.out HBA.out).size); intro v1 w1 ho hb hg hat; have HO2 := Aside0.mk ho; have HB2 := Aside0.mk hb; clear ho hb hg hat)
      exact ⟨⟨i + 1, _, rfl, by simp, by omega, by rw [ticks_succ]; exact HO2, HB2⟩, by simp only [intOf]; omega⟩
    · have hie : i = 4096 + k := by omega
      subst hie
      have hnlt : ¬ (((4096 + k : Nat) : Int) < 4096 + (k : Int)) := by omega
      obtain ⟨xs, hxs⟩ : ∃ xs, xs = ticks (4096 + k) := ⟨_, rfl⟩
      have HXS := Aside0.mk hxs
      have hxl : xs.length = 8192 + 2 * k := by rw [hxs, ticks_len]; omega
      rw [← hxs] at HR
      obtain ⟨g, c, rfl, hcell⟩ := bytes_at HR.out (by omega)
      have hconv := run_convert_bytes_arg (P := Try.prog) (w := wr) 37 5 Try.underlying37 Try.underlying5 g 0 xs.length c xs rfl hcell 9 Try.underlying9
      have HXL := Aside0.mk hxl
      clear hxs hcell hxl hlt hi
      go_wp2_with fail
      refine (read_calls (strOfNums xs) (by rw [strOfNums_size, HXL.out]; omega) _).mono ?_
      have HSZ : Aside0 (((strOfNums (ticks (4096 + k))).size : Int) - ((strOfNums (ticks k)).size : Int) = 8192) := ⟨by rw [strOfNums_size, strOfNums_size, ticks_len, ticks_len]; omega⟩
      rw [HXS.out, read_many k]
      simp only []
      rw [HSZ.out]
      rintro e w4 ⟨v4, rfl, hR, hb⟩
      obtain ⟨A4, c4, rfl, hl4, hC4⟩ := S_C hR
      have HB4 := Aside0.mk (below_step HB.out hb)
      have hlr : (List.replicate 4096 tick).length = 4096 := List.length_replicate
      rw [hlr]
      clear hb hR hl4 hC4 hconv hlr
      by_cases hk0 : 0 < k
      · rw [if_pos hk0]
        have hk1 : (k : Int) > 0 := by omega
        go_wp2_with fail
        exact bodyPost_ret (results_tmp rfl _ _ _) rfl ⟨rfl, HB4.out⟩
      · rw [if_neg hk0]
        have hk1 : ¬ ((k : Int) > 0) := by omega
        go_wp2_with fail
        exact bodyPost_ret (results_tmp rfl _ _ _) rfl ⟨rfl, HB4.out⟩
end Go.Proofs.Ytfcoaneffdddkaa.PureWireMany

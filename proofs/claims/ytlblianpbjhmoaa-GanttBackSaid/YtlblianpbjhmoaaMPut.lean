/-
  A walk of slot.put: numbers, written to a builder: each in groups of 7 bits, the lowest first.
-/
import Derived.Test.YtlblianpbjhmoaaMBuild
set_option linter.unusedVariables false
namespace Go.Proofs.Ytlblianpbjhmoaa.MPut
open Go.RowKit Go.Proofs.YtlblianpbjhmoaaW.PrintWords Go.Proofs.YtlblianpbjhmoaaW.PrintLast Go.Proofs.Ytlblianpbjhmoaa.MWords Go.Proofs.Ytlblianpbjhmoaa.MBuild
/-- A number's bytes. -/
def vnum (n : Nat) : List Int := if n < 128 then [(n : Int)] else ((n % 128 + 128 : Nat) : Int) :: vnum (n / 128)
  termination_by n
  decreasing_by omega
theorem vnum_lt (n : Nat) (h : n < 128) : vnum n = [(n : Int)] := by rw [vnum]; simp [h]
theorem vnum_ge (n : Nat) (h : ¬ n < 128) : vnum n = ((n % 128 + 128 : Nat) : Int) :: vnum (n / 128) := by rw [vnum]; simp [h]
theorem vnum_len (n : Nat) : ∀ k, n < 128 ^ k → 0 < k → (vnum n).length ≤ k := by
  induction n using Nat.strongRecOn with
  | _ n ih =>
    intro k hk h0
    by_cases h : n < 128
    · rw [vnum_lt n h]; simp; omega
    · obtain ⟨k, rfl⟩ : ∃ j, k = j + 1 := ⟨k - 1, by omega⟩
      have hk0 : 0 < k := by
        rcases Nat.eq_zero_or_pos k with rfl | h1
        · simp at hk; omega
        · exact h1
      rw [vnum_ge n h, List.length_cons]
      have := ih (n / 128) (by omega) k (by rw [Nat.pow_succ] at hk; omega) hk0
      omega
theorem vnum_len9 (n : Nat) (h : n < 9223372036854775808) : (vnum n).length ≤ 9 :=
  vnum_len n 9 (by have : (128 : Nat) ^ 9 = 9223372036854775808 := by decide
                   omega) (by omega)
def vnums (l : List Int) : List Int := (l.map fun n => vnum n.toNat).flatten
theorem vnums_append (a b : List Int) : vnums (a ++ b) = vnums a ++ vnums b := by simp [vnums]
theorem vnums_len (l : List Int) (h : ∀ n ∈ l, 0 ≤ n ∧ n < 9223372036854775808) : (vnums l).length ≤ 9 * l.length := by
  induction l with
  | nil => simp [vnums]
  | cons x l ih =>
    have hx := h x (by simp)
    have h1 := vnum_len9 x.toNat (by omega)
    have h2 := ih (fun n hn => h n (List.mem_cons_of_mem _ hn))
    simp only [vnums, List.map_cons, List.flatten_cons, List.length_append, List.length_cons] at h2 ⊢
    omega
theorem strOf_append (a b : List Int) : strOfNums (a ++ b) = strOfNums a ++ strOfNums b := by
  apply ByteArray.ext
  simp [strOfNums]
theorem strOf_cons (x : Int) (b : List Int) : strOfNums (x :: b) = strOfNums [x] ++ strOfNums b := strOf_append [x] b

set_option maxHeartbeats 1000000 in
theorem strOf_nat (n : Nat) : strOfNums [(n : Int)] = ⟨#[UInt8.ofNat n]⟩ := by simp [strOfNums]
set_option maxHeartbeats 1000000 in
set_option maxRecDepth 100000 in
theorem put_any (B b g : Nat) (s : ByteArray) (ns : List Int) (w : World) (h : Bld B b s w) (hm : MBlk w g 2 (nums .i64 ns).toArray) (hgb : g ≠ b) (hn : ∀ n ∈ ns, 0 ≤ n ∧ n < 9223372036854775808) (hl : ns.length ≤ 1000) (hs : s.size ≤ 100000000) (hB : B ≤ w.heap.size) :
    Calls Try.prog 59 #[.pointer (some ⟨b, 0, none⟩), .slice (some ⟨g, 0, none⟩) ns.length ns.length] w fun e w' => e = .returned (.tuple #[]) ∧ Bld B b (s ++ strOfNums (vnums ns)) w' ∧ Below B w w' ∧ Beside b w w' := by
  have HS := Aside0.mk h
  have HM := Aside0.mk hm
  have HN := Aside0.mk hn
  clear h hm hn
  go_enter Try.func59, Try.ntmps59
  go_wp2_with fail
  go_loopw [8] (fun v wr => ∃ (i : Nat), v = .int .i64 i ∧ i ≤ ns.length ∧ Aside0 (Bld B b (s ++ strOfNums (vnums (ns.take i))) wr) ∧ Aside0 (Below B w wr) ∧ Aside0 (Beside b w wr)) (fun v _ => ns.length - (intOf v).toNat)
  case atStart => exact ⟨0, rfl, by omega, ⟨by have e : s ++ strOfNums (vnums (ns.take 0)) = s := (by apply ByteArray.ext; simp [vnums, strOfNums]); rw [e]; exact HS.out⟩, ⟨Below.refl _ _⟩, ⟨Lib.OthersKept.refl _ _ _⟩⟩
  case round =>
    obtain ⟨i, rfl, hi, HS1, HB1, HK1⟩ := hrel
    by_cases hlt : i < ns.length
    · have hx := HN.out ns[i] (List.getElem_mem hlt)
      have HM1 := Aside0.mk (Beside.mblk HK1.out HM.out (by decide) hgb)
      have hc : wr.cell? ⟨g, i, none⟩ = some (.int .i64 ns[i]) := by
        rw [mblk_cell HM1.out]
        simp [nums, List.getElem?_eq_getElem hlt]
      have HT := Aside0.mk (show ns.take (i + 1) = ns.take i ++ [ns[i]] by rw [List.take_succ_eq_append_getElem hlt])
      obtain ⟨x, hx2⟩ : ∃ x : Nat, ns[i] = (x : Int) := ⟨ns[i].toNat, by omega⟩
      have hx3 : x < 9223372036854775808 := by omega
      have HT2 := Aside0.mk (show strOfNums (vnums (ns.take (i + 1))) = strOfNums (vnums (ns.take i)) ++ strOfNums (vnum x) by rw [HT.out, hx2, vnums_append, strOf_append]; simp [vnums])
      have HL := Aside0.mk (show (s ++ strOfNums (vnums (ns.take i))).size ≤ 100010000 by
        rw [ByteArray.size_append, strOfNums_size]
        have := vnums_len (ns.take i) (fun n hn => HN.out n (List.mem_of_mem_take hn))
        rw [List.length_take] at this
        omega)
      rw [hx2] at hc
      clear hx hx2
      generalize hS : s ++ strOfNums (vnums (ns.take i)) = S at HS1 HL
      have HSS := Aside0.mk hS
      clear hS
      obtain ⟨wa, hwa⟩ : ∃ wa, wa = wr := ⟨_, rfl⟩
      subst hwa
      have hBa : B ≤ wa.heap.size := Nat.le_trans hB HB1.out.size
      go_wp2_with fail
      go_loopw [5] (fun v wr2 => ∃ (m : Nat) (S2 : ByteArray), v = .int .i64 m ∧ m ≤ x ∧ S2.size + (vnum m).length ≤ 100010010 ∧ Aside0 (S2 ++ strOfNums (vnum m) = S ++ strOfNums (vnum x)) ∧ Aside0 (Bld B b S2 wr2) ∧ Aside0 (Below B wa wr2) ∧ Aside0 (Beside b wa wr2)) (fun v _ => (intOf v).toNat)
      case atStart => exact ⟨x, S, rfl, Nat.le_refl _, by have := vnum_len9 x (by omega); have := HL.out; omega, ⟨rfl⟩, HS1, ⟨Below.refl _ _⟩, ⟨Lib.OthersKept.refl _ _ _⟩⟩
      case round =>
        obtain ⟨m, S2, rfl, hm, hsz, HE, HS2, HB2, HK2⟩ := hrel
        have hBr : B ≤ wr.heap.size := Nat.le_trans hBa HB2.out.size
        by_cases h128 : m < 128
        · rw [vnum_lt m h128] at hsz
          have hsz : S2.size + 1 ≤ 140737488355328 := by simp at hsz; omega
          have HE2 := Aside0.mk (show S2 ++ (⟨#[UInt8.ofNat m]⟩ : ByteArray) = s ++ strOfNums (vnums (ns.take (i + 1))) by
            have := HE.out
            rw [vnum_lt m h128, ← HSS.out, ByteArray.append_assoc, ← HT2.out] at this
            rw [← this]
            simp [strOfNums])
          have hu : ((UInt8.ofNat m).toNat : Int) = (m : Int) := by simp; omega
          go_wp2_with fail
          rw [← hu]
          have hw := write_byte B b S2 (UInt8.ofNat m) wr HS2.out hsz hBr
          refine hw.mono ?_
          rintro e w2 ⟨rfl, h1, h2, h3⟩
          rw [HE2.out] at h1
          have H1 := Aside0.mk h1
          have H2 := Aside0.mk (HB1.out.trans (HB2.out.trans h2))
          have H3 := Aside0.mk (HK1.out.trans (HK2.out.trans h3))
          clear h1 h2 h3 hw
          go_wp2_with fail
          go_round
          case rel => exact ⟨i + 1, by go_num, by omega, H1, H2, H3⟩
          case measure => simp [intOf]; omega
        · rw [vnum_ge m h128] at hsz
          have hsz1 : S2.size + 1 ≤ 140737488355328 := by simp at hsz; omega
          have hsz2 : (S2 ++ (⟨#[UInt8.ofNat (m % 128 + 128)]⟩ : ByteArray)).size + (vnum (m / 128)).length ≤ 100010010 := by
            rw [ByteArray.size_append]
            have : (⟨#[UInt8.ofNat (m % 128 + 128)]⟩ : ByteArray).size = 1 := rfl
            simp at hsz; omega
          have HE2 := Aside0.mk (show S2 ++ (⟨#[UInt8.ofNat (m % 128 + 128)]⟩ : ByteArray) ++ strOfNums (vnum (m / 128)) = S ++ strOfNums (vnum x) by
            have := HE.out
            rw [vnum_ge m h128, strOf_cons, strOf_nat] at this
            rw [← this, ByteArray.append_assoc])
          have hu : ((UInt8.ofNat (m % 128 + 128)).toNat : Int) = (m : Int) % 128 + 128 := by simp; omega
          have hmd : m / 128 ≤ x := by omega
          clear hsz
          go_wp2_with fail
          rw [← hu]
          have hw := write_byte B b S2 (UInt8.ofNat (m % 128 + 128)) wr HS2.out hsz1 hBr
          refine hw.mono ?_
          rintro e w2 ⟨rfl, h1, h2, h3⟩
          have H1 := Aside0.mk h1
          have H2 := Aside0.mk (HB2.out.trans h2)
          have H3 := Aside0.mk (HK2.out.trans h3)
          clear h1 h2 h3 hw
          go_wp2_with fail
          go_round
          case rel => exact ⟨m / 128, _, by go_num, hmd, hsz2, HE2, H1, H2, H3⟩
          case measure => simp [intOf]; omega
    · have hie : i = ns.length := by omega
      subst hie
      go_wp2_with fail
      go_end0
      exact ⟨rfl, by have := HS1.out; rwa [List.take_length] at this, HB1.out, HK1.out⟩
end Go.Proofs.Ytlblianpbjhmoaa.MPut

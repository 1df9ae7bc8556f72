/-
  A walk of slot.reader.next: the next number of some bytes, up to a bound.
-/
import Derived.Test.YtlblianpbjhmoaaMWords
import Derived.WalkLawsBesides
import Derived.Recover
import Derived.Defers
import Derived.Test.YtlblianpbjhmoaaProg
set_option linter.unusedVariables false
namespace Go.Proofs.Ytlblianpbjhmoaa.MNext
open Go.RowKit Go.Proofs.YtlblianpbjhmoaaW.PrintWords Go.Proofs.YtlblianpbjhmoaaW.PrintLast Go.Proofs.YtlblianpbjhmoaaW.PrintMore Go.Proofs.Ytlblianpbjhmoaa.MWords
/-- From the place i on, n read so far. -/
def nextGo (s : ByteArray) (most : Int) : Nat → Nat → Nat → Option (Int × ByteArray)
  | 0, _, _ => none
  | f + 1, i, n =>
    if i < s.size ∧ i < 6 then
      let c := (bt s i).toNat
      let m := n + c % 128 * 128 ^ i
      if c < 128 then (if c = 0 ∧ 0 < i ∨ most < (m : Int) then none else some ((m : Int), s.extract (i + 1) s.size)) else nextGo s most f (i + 1) m
    else none
theorem nextGo_at (s : ByteArray) (most : Int) (i n : Nat) (hi : i < 6) (h : i < s.size) : nextGo s most (7 - i) i n = if (bt s i).toNat < 128 then (if (bt s i).toNat = 0 ∧ 0 < i ∨ most < ((n + (bt s i).toNat % 128 * 128 ^ i : Nat) : Int) then none else some (((n + (bt s i).toNat % 128 * 128 ^ i : Nat) : Int), s.extract (i + 1) s.size)) else nextGo s most (7 - (i + 1)) (i + 1) (n + (bt s i).toNat % 128 * 128 ^ i) := by
  obtain ⟨f, hf⟩ : ∃ f, 7 - i = f + 1 := ⟨6 - i, by omega⟩
  rw [hf, show 7 - (i + 1) = f by omega]
  show (if i < s.size ∧ i < 6 then _ else _) = _
  rw [if_pos ⟨h, hi⟩]
theorem nextGo_end (s : ByteArray) (most : Int) (i n : Nat) (h : ¬ (i < s.size ∧ i < 6)) : nextGo s most (7 - i) i n = none := by
  cases hf : 7 - i with
  | zero => rfl
  | succ f =>
    show (if i < s.size ∧ i < 6 then _ else _) = _
    rw [if_neg h]
def nextP (s : ByteArray) (most : Int) : Option (Int × ByteArray) := nextGo s most 7 0 0

theorem or_sh (k : Nat) (hk : k ≤ 40) (n x : Nat) (hn : n < 2 ^ k) (hx : x < 256) : bits .or .i64 (n : Int) ((x : Int) * ((2 ^ k : Nat) : Int)) = ((n + x * 2 ^ k : Nat) : Int) := by
  have hp : (2 : Nat) ^ k ≤ 2 ^ 40 := Nat.pow_le_pow_right (by decide) hk
  have h40 : (2 : Nat) ^ 40 = 1099511627776 := by decide
  have h64 : (2 : Nat) ^ 64 = 18446744073709551616 := by decide
  have hx2 : x * 2 ^ k ≤ 255 * 2 ^ 40 := Nat.mul_le_mul (by omega) hp
  have e : (x : Int) * ((2 ^ k : Nat) : Int) = ((x * 2 ^ k : Nat) : Int) := by simp
  rw [e]
  show IntKind.i64.wrap (((BitVec.ofInt 64 (n : Int) ||| BitVec.ofInt 64 ((x * 2 ^ k : Nat) : Int)).toNat : Nat) : Int) = _
  rw [BitVec.toNat_or, BitVec.ofInt_natCast, BitVec.ofInt_natCast, BitVec.toNat_ofNat, BitVec.toNat_ofNat, Nat.mod_eq_of_lt (by omega), Nat.mod_eq_of_lt (by omega), Nat.or_comm, Nat.mul_comm x, ← Nat.two_pow_add_eq_or_of_lt hn, IntKind.wrap_i64, Nat.mul_comm, Nat.add_comm]
  generalize x * 2 ^ k = y at *
  omega
theorem nextGo_bound (s : ByteArray) (most : Int) : ∀ (f i n : Nat) (m : Int) (t : ByteArray), nextGo s most f i n = some (m, t) → 0 ≤ m ∧ m ≤ most ∧ t.size < s.size := by
  intro f
  induction f with
  | zero => intro i n m t h; cases h
  | succ f ih =>
    intro i n m t h
    simp only [nextGo] at h
    split at h
    · split at h
      · split at h
        · cases h
        · have e := Option.some.inj h
          injection e with e1 e2
          subst e1
          subst e2
          refine ⟨by omega, by omega, ?_⟩
          rw [ByteArray.size_extract]
          omega
      · exact ih _ _ _ _ h
    · cases h
theorem nextP_bound {s : ByteArray} {most m : Int} {t : ByteArray} (h : nextP s most = some (m, t)) : 0 ≤ m ∧ m ≤ most ∧ t.size < s.size := nextGo_bound s most _ _ _ _ _ h
/-- What a call of next has come to. -/
structure NextRes (g : Nat) (w : World) (r : Option (Int × ByteArray)) (e : Ending) (w' : World) : Prop where
  out : match r with
      | some (n, t) => e = .returned (.int .i64 n) ∧ w' = w.setCell ⟨g, 0, none⟩ (.string t)
      | none => e = .panicked [{ v := .iface 97 (.agg #[]), recovered := false }] ∧ w' = w
set_option maxHeartbeats 1000000 in
set_option maxRecDepth 100000 in
theorem next_calls (g : Nat) (s : ByteArray) (most : Int) (w : World) (hm : MBlk w g 77 #[.string s]) (hs : s.size ≤ 1000000000) :
    Calls Try.prog 56 #[.pointer (some ⟨g, 0, none⟩), .int .i64 most] w fun e w' => NextRes g w (nextP s most) e w' := by
  have hc : w.cell? ⟨g, 0, none⟩ = some (.string s) := (mblk_cell hm 0).trans rfl
  have hf : w.frozen? ⟨g, 0, none⟩ = false := mblk_frozen hm 0
  clear hm
  go_enter Try.func56, Try.ntmps56
  go_wp2_with fail
  · have HM : Aside0 ((6 : Nat) = min s.size 6) := ⟨by omega⟩
    go_loop [5, 14] (fun v5 v14 => ∃ i n : Nat, v14 = .int .i64 i ∧ v5 = .int .i64 n ∧ i ≤ 6 ∧ n < 128 ^ i ∧ Aside0 (nextGo s most (7 - i) i n = nextP s most)) (fun _ v => 6 - (intOf v).toNat)
    case atStart => exact ⟨0, 0, rfl, rfl, Nat.zero_le _, by decide, ⟨rfl⟩⟩
    case round =>
      obtain ⟨i, n, rfl, rfl, hi, hn, HN⟩ := hrel
      by_cases hlt : i < 6
      · have hlt2 : i < s.size := by omega
        have hi6 : i = 0 ∨ i = 1 ∨ i = 2 ∨ i = 3 ∨ i = 4 ∨ i = 5 := by omega
        rcases hi6 with rfl | rfl | rfl | rfl | rfl | rfl
        · have hq : (0 < s.size) = True := eq_true (by omega)
          obtain ⟨c, hc1, hc2⟩ : ∃ c : Nat, bt s 0 = (c : Int) ∧ c < 256 := ⟨(bt s 0).toNat, by have := bt_range s 0; omega, by have := bt_range s 0; omega⟩
          have hbt0 : ∀ h : 0 < s.size, ((s[0]'h).toNat : Int) = (c : Int) := fun h => (bt_at s 0 h).trans hc1
          have HA := Aside0.mk (nextGo_at s most 0 n (by omega) (by omega))
          rw [show (bt s ((0 : Nat) : Int)).toNat = c from by have h : bt s ((0 : Nat) : Int) = c := hc1; omega] at HA
          have HN2 := Aside0.mk (HA.out.symm.trans HN.out)
          clear hc1 HA HN
          have hn2 : n < 1 := hn
          obtain ⟨m, hor, HM2⟩ : ∃ m : Nat, bits .or .i64 (n : Int) ((c : Int) % 128) = (m : Int) ∧ Aside0 (m = n + c % 128 * 128 ^ 0) := ⟨_, by have := or_sh 0 (by decide) n (c % 128) hn2 (by omega); rw [Int.natCast_emod] at this; first | exact this | (rw [show ((2 ^ 0 : Nat) : Int) = 1 from rfl, Int.mul_one] at this; exact this), ⟨rfl⟩⟩
          have HB : Aside0 (m < 128 ^ 1 ∧ (m : Int) < 128 ^ 1) := ⟨by have := HM2.out; have e : (128 : Nat) ^ 0 = 1 := by decide
                                                                      have e2 : (128 : Nat) ^ 1 = 128 := by decide
                                                                      have e3 : (128 : Int) ^ 1 = 128 := by decide
                                                                      rw [e] at this; rw [e2, e3]; omega⟩
          by_cases h128 : c < 128
          · have HN3 := Aside0.mk ((if_pos h128).symm.trans HN2.out)
            by_cases hmo : most < (m : Int)
            · have HN4 := Aside0.mk ((if_pos (Or.inr (HM2.out ▸ hmo))).symm.trans HN3.out)
              go_wp2_with fail
              all_goals exact ⟨rfl, ⟨by rw [← HN4.out]; exact ⟨rfl, rfl⟩⟩⟩
            · have HN4 := Aside0.mk ((if_neg (show ¬ (c = 0 ∧ 0 < 0 ∨ most < ((n + c % 128 * 128 ^ 0 : Nat) : Int)) from HM2.out ▸ (by omega))).symm.trans HN3.out)
              go_wp2_with fail
              all_goals exact bodyPost_ret (results_tmp rfl _ _ _) rfl ⟨by rw [← HN4.out, ← HM2.out]; exact ⟨rfl, rfl⟩⟩
          · have HN3 := Aside0.mk ((if_neg h128).symm.trans HN2.out)
            go_wp2_with fail
            refine ⟨⟨1, m, rfl, by first | rfl | exact congrArg _ hor, by omega, HB.out.1, ⟨?_⟩⟩, by simp only [intOf]; omega⟩
            rw [HM2.out]; exact HN3.out
        · have hq : (1 < s.size) = True := eq_true (by omega)
          obtain ⟨c, hc1, hc2⟩ : ∃ c : Nat, bt s 1 = (c : Int) ∧ c < 256 := ⟨(bt s 1).toNat, by have := bt_range s 1; omega, by have := bt_range s 1; omega⟩
          have hbt0 : ∀ h : 1 < s.size, ((s[1]'h).toNat : Int) = (c : Int) := fun h => (bt_at s 1 h).trans hc1
          have HA := Aside0.mk (nextGo_at s most 1 n (by omega) (by omega))
          rw [show (bt s ((1 : Nat) : Int)).toNat = c from by have h : bt s ((1 : Nat) : Int) = c := hc1; omega] at HA
          have HN2 := Aside0.mk (HA.out.symm.trans HN.out)
          clear hc1 HA HN
          have hn2 : n < 128 := hn
          obtain ⟨m, hor, HM2⟩ : ∃ m : Nat, bits .or .i64 (n : Int) ((c : Int) % 128 * 128) = (m : Int) ∧ Aside0 (m = n + c % 128 * 128 ^ 1) := ⟨_, by have := or_sh 7 (by decide) n (c % 128) hn2 (by omega); rw [Int.natCast_emod] at this; first | exact this | (rw [show ((2 ^ 0 : Nat) : Int) = 1 from rfl, Int.mul_one] at this; exact this), ⟨rfl⟩⟩
          have HB : Aside0 (m < 128 ^ 2 ∧ (m : Int) < 128 ^ 2) := ⟨by have := HM2.out; have e : (128 : Nat) ^ 1 = 128 := by decide
                                                                      have e2 : (128 : Nat) ^ 2 = 16384 := by decide
                                                                      have e3 : (128 : Int) ^ 2 = 16384 := by decide
                                                                      rw [e] at this; rw [e2, e3]; omega⟩
          by_cases h128 : c < 128
          · have HN3 := Aside0.mk ((if_pos h128).symm.trans HN2.out)
            by_cases hz : c = 0
            · have HN4 := Aside0.mk ((if_pos (Or.inl ⟨hz, by decide⟩)).symm.trans HN3.out)
              subst hz
              go_wp2_with fail
              all_goals exact ⟨rfl, ⟨by rw [← HN4.out]; exact ⟨rfl, rfl⟩⟩⟩
            by_cases hmo : most < (m : Int)
            · have HN4 := Aside0.mk ((if_pos (Or.inr (HM2.out ▸ hmo))).symm.trans HN3.out)
              go_wp2_with fail
              all_goals exact ⟨rfl, ⟨by rw [← HN4.out]; exact ⟨rfl, rfl⟩⟩⟩
            · have HN4 := Aside0.mk ((if_neg (show ¬ (c = 0 ∧ 0 < 1 ∨ most < ((n + c % 128 * 128 ^ 1 : Nat) : Int)) from HM2.out ▸ (by omega))).symm.trans HN3.out)
              go_wp2_with fail
              all_goals exact bodyPost_ret (results_tmp rfl _ _ _) rfl ⟨by rw [← HN4.out, ← HM2.out]; exact ⟨rfl, rfl⟩⟩
          · have HN3 := Aside0.mk ((if_neg h128).symm.trans HN2.out)
            go_wp2_with fail
            refine ⟨⟨2, m, rfl, by first | rfl | exact congrArg _ hor, by omega, HB.out.1, ⟨?_⟩⟩, by simp only [intOf]; omega⟩
            rw [HM2.out]; exact HN3.out
        · have hq : (2 < s.size) = True := eq_true (by omega)
          obtain ⟨c, hc1, hc2⟩ : ∃ c : Nat, bt s 2 = (c : Int) ∧ c < 256 := ⟨(bt s 2).toNat, by have := bt_range s 2; omega, by have := bt_range s 2; omega⟩
          have hbt0 : ∀ h : 2 < s.size, ((s[2]'h).toNat : Int) = (c : Int) := fun h => (bt_at s 2 h).trans hc1
          have HA := Aside0.mk (nextGo_at s most 2 n (by omega) (by omega))
          rw [show (bt s ((2 : Nat) : Int)).toNat = c from by have h : bt s ((2 : Nat) : Int) = c := hc1; omega] at HA
          have HN2 := Aside0.mk (HA.out.symm.trans HN.out)
          clear hc1 HA HN
          have hn2 : n < 16384 := hn
          obtain ⟨m, hor, HM2⟩ : ∃ m : Nat, bits .or .i64 (n : Int) ((c : Int) % 128 * 16384) = (m : Int) ∧ Aside0 (m = n + c % 128 * 128 ^ 2) := ⟨_, by have := or_sh 14 (by decide) n (c % 128) hn2 (by omega); rw [Int.natCast_emod] at this; first | exact this | (rw [show ((2 ^ 0 : Nat) : Int) = 1 from rfl, Int.mul_one] at this; exact this), ⟨rfl⟩⟩
          have HB : Aside0 (m < 128 ^ 3 ∧ (m : Int) < 128 ^ 3) := ⟨by have := HM2.out; have e : (128 : Nat) ^ 2 = 16384 := by decide
                                                                      have e2 : (128 : Nat) ^ 3 = 2097152 := by decide
                                                                      have e3 : (128 : Int) ^ 3 = 2097152 := by decide
                                                                      rw [e] at this; rw [e2, e3]; omega⟩
          by_cases h128 : c < 128
          · have HN3 := Aside0.mk ((if_pos h128).symm.trans HN2.out)
            by_cases hz : c = 0
            · have HN4 := Aside0.mk ((if_pos (Or.inl ⟨hz, by decide⟩)).symm.trans HN3.out)
              subst hz
              go_wp2_with fail
              all_goals exact ⟨rfl, ⟨by rw [← HN4.out]; exact ⟨rfl, rfl⟩⟩⟩
            by_cases hmo : most < (m : Int)
            · have HN4 := Aside0.mk ((if_pos (Or.inr (HM2.out ▸ hmo))).symm.trans HN3.out)
              go_wp2_with fail
              all_goals exact ⟨rfl, ⟨by rw [← HN4.out]; exact ⟨rfl, rfl⟩⟩⟩
            · have HN4 := Aside0.mk ((if_neg (show ¬ (c = 0 ∧ 0 < 2 ∨ most < ((n + c % 128 * 128 ^ 2 : Nat) : Int)) from HM2.out ▸ (by omega))).symm.trans HN3.out)
              go_wp2_with fail
              all_goals exact bodyPost_ret (results_tmp rfl _ _ _) rfl ⟨by rw [← HN4.out, ← HM2.out]; exact ⟨rfl, rfl⟩⟩
          · have HN3 := Aside0.mk ((if_neg h128).symm.trans HN2.out)
            go_wp2_with fail
            refine ⟨⟨3, m, rfl, by first | rfl | exact congrArg _ hor, by omega, HB.out.1, ⟨?_⟩⟩, by simp only [intOf]; omega⟩
            rw [HM2.out]; exact HN3.out
        · have hq : (3 < s.size) = True := eq_true (by omega)
          obtain ⟨c, hc1, hc2⟩ : ∃ c : Nat, bt s 3 = (c : Int) ∧ c < 256 := ⟨(bt s 3).toNat, by have := bt_range s 3; omega, by have := bt_range s 3; omega⟩
          have hbt0 : ∀ h : 3 < s.size, ((s[3]'h).toNat : Int) = (c : Int) := fun h => (bt_at s 3 h).trans hc1
          have HA := Aside0.mk (nextGo_at s most 3 n (by omega) (by omega))
          rw [show (bt s ((3 : Nat) : Int)).toNat = c from by have h : bt s ((3 : Nat) : Int) = c := hc1; omega] at HA
          have HN2 := Aside0.mk (HA.out.symm.trans HN.out)
          clear hc1 HA HN
          have hn2 : n < 2097152 := hn
          obtain ⟨m, hor, HM2⟩ : ∃ m : Nat, bits .or .i64 (n : Int) ((c : Int) % 128 * 2097152) = (m : Int) ∧ Aside0 (m = n + c % 128 * 128 ^ 3) := ⟨_, by have := or_sh 21 (by decide) n (c % 128) hn2 (by omega); rw [Int.natCast_emod] at this; first | exact this | (rw [show ((2 ^ 0 : Nat) : Int) = 1 from rfl, Int.mul_one] at this; exact this), ⟨rfl⟩⟩
          have HB : Aside0 (m < 128 ^ 4 ∧ (m : Int) < 128 ^ 4) := ⟨by have := HM2.out; have e : (128 : Nat) ^ 3 = 2097152 := by decide
                                                                      have e2 : (128 : Nat) ^ 4 = 268435456 := by decide
                                                                      have e3 : (128 : Int) ^ 4 = 268435456 := by decide
                                                                      rw [e] at this; rw [e2, e3]; omega⟩
          by_cases h128 : c < 128
          · have HN3 := Aside0.mk ((if_pos h128).symm.trans HN2.out)
            by_cases hz : c = 0
            · have HN4 := Aside0.mk ((if_pos (Or.inl ⟨hz, by decide⟩)).symm.trans HN3.out)
              subst hz
              go_wp2_with fail
              all_goals exact ⟨rfl, ⟨by rw [← HN4.out]; exact ⟨rfl, rfl⟩⟩⟩
            by_cases hmo : most < (m : Int)
            · have HN4 := Aside0.mk ((if_pos (Or.inr (HM2.out ▸ hmo))).symm.trans HN3.out)
              go_wp2_with fail
              all_goals exact ⟨rfl, ⟨by rw [← HN4.out]; exact ⟨rfl, rfl⟩⟩⟩
            · have HN4 := Aside0.mk ((if_neg (show ¬ (c = 0 ∧ 0 < 3 ∨ most < ((n + c % 128 * 128 ^ 3 : Nat) : Int)) from HM2.out ▸ (by omega))).symm.trans HN3.out)
              go_wp2_with fail
              all_goals exact bodyPost_ret (results_tmp rfl _ _ _) rfl ⟨by rw [← HN4.out, ← HM2.out]; exact ⟨rfl, rfl⟩⟩
          · have HN3 := Aside0.mk ((if_neg h128).symm.trans HN2.out)
            go_wp2_with fail
            refine ⟨⟨4, m, rfl, by first | rfl | exact congrArg _ hor, by omega, HB.out.1, ⟨?_⟩⟩, by simp only [intOf]; omega⟩
            rw [HM2.out]; exact HN3.out
        · have hq : (4 < s.size) = True := eq_true (by omega)
          obtain ⟨c, hc1, hc2⟩ : ∃ c : Nat, bt s 4 = (c : Int) ∧ c < 256 := ⟨(bt s 4).toNat, by have := bt_range s 4; omega, by have := bt_range s 4; omega⟩
          have hbt0 : ∀ h : 4 < s.size, ((s[4]'h).toNat : Int) = (c : Int) := fun h => (bt_at s 4 h).trans hc1
          have HA := Aside0.mk (nextGo_at s most 4 n (by omega) (by omega))
          rw [show (bt s ((4 : Nat) : Int)).toNat = c from by have h : bt s ((4 : Nat) : Int) = c := hc1; omega] at HA
          have HN2 := Aside0.mk (HA.out.symm.trans HN.out)
          clear hc1 HA HN
          have hn2 : n < 268435456 := hn
          obtain ⟨m, hor, HM2⟩ : ∃ m : Nat, bits .or .i64 (n : Int) ((c : Int) % 128 * 268435456) = (m : Int) ∧ Aside0 (m = n + c % 128 * 128 ^ 4) := ⟨_, by have := or_sh 28 (by decide) n (c % 128) hn2 (by omega); rw [Int.natCast_emod] at this; first | exact this | (rw [show ((2 ^ 0 : Nat) : Int) = 1 from rfl, Int.mul_one] at this; exact this), ⟨rfl⟩⟩
          have HB : Aside0 (m < 128 ^ 5 ∧ (m : Int) < 128 ^ 5) := ⟨by have := HM2.out; have e : (128 : Nat) ^ 4 = 268435456 := by decide
                                                                      have e2 : (128 : Nat) ^ 5 = 34359738368 := by decide
                                                                      have e3 : (128 : Int) ^ 5 = 34359738368 := by decide
                                                                      rw [e] at this; rw [e2, e3]; omega⟩
          by_cases h128 : c < 128
          · have HN3 := Aside0.mk ((if_pos h128).symm.trans HN2.out)
            by_cases hz : c = 0
            · have HN4 := Aside0.mk ((if_pos (Or.inl ⟨hz, by decide⟩)).symm.trans HN3.out)
              subst hz
              go_wp2_with fail
              all_goals exact ⟨rfl, ⟨by rw [← HN4.out]; exact ⟨rfl, rfl⟩⟩⟩
            by_cases hmo : most < (m : Int)
            · have HN4 := Aside0.mk ((if_pos (Or.inr (HM2.out ▸ hmo))).symm.trans HN3.out)
              go_wp2_with fail
              all_goals exact ⟨rfl, ⟨by rw [← HN4.out]; exact ⟨rfl, rfl⟩⟩⟩
            · have HN4 := Aside0.mk ((if_neg (show ¬ (c = 0 ∧ 0 < 4 ∨ most < ((n + c % 128 * 128 ^ 4 : Nat) : Int)) from HM2.out ▸ (by omega))).symm.trans HN3.out)
              go_wp2_with fail
              all_goals exact bodyPost_ret (results_tmp rfl _ _ _) rfl ⟨by rw [← HN4.out, ← HM2.out]; exact ⟨rfl, rfl⟩⟩
          · have HN3 := Aside0.mk ((if_neg h128).symm.trans HN2.out)
            go_wp2_with fail
            refine ⟨⟨5, m, rfl, by first | rfl | exact congrArg _ hor, by omega, HB.out.1, ⟨?_⟩⟩, by simp only [intOf]; omega⟩
            rw [HM2.out]; exact HN3.out
        · have hq : (5 < s.size) = True := eq_true (by omega)
          obtain ⟨c, hc1, hc2⟩ : ∃ c : Nat, bt s 5 = (c : Int) ∧ c < 256 := ⟨(bt s 5).toNat, by have := bt_range s 5; omega, by have := bt_range s 5; omega⟩
          have hbt0 : ∀ h : 5 < s.size, ((s[5]'h).toNat : Int) = (c : Int) := fun h => (bt_at s 5 h).trans hc1
          have HA := Aside0.mk (nextGo_at s most 5 n (by omega) (by omega))
          rw [show (bt s ((5 : Nat) : Int)).toNat = c from by have h : bt s ((5 : Nat) : Int) = c := hc1; omega] at HA
          have HN2 := Aside0.mk (HA.out.symm.trans HN.out)
          clear hc1 HA HN
          have hn2 : n < 34359738368 := hn
          obtain ⟨m, hor, HM2⟩ : ∃ m : Nat, bits .or .i64 (n : Int) ((c : Int) % 128 * 34359738368) = (m : Int) ∧ Aside0 (m = n + c % 128 * 128 ^ 5) := ⟨_, by have := or_sh 35 (by decide) n (c % 128) hn2 (by omega); rw [Int.natCast_emod] at this; first | exact this | (rw [show ((2 ^ 0 : Nat) : Int) = 1 from rfl, Int.mul_one] at this; exact this), ⟨rfl⟩⟩
          have HB : Aside0 (m < 128 ^ 6 ∧ (m : Int) < 128 ^ 6) := ⟨by have := HM2.out; have e : (128 : Nat) ^ 5 = 34359738368 := by decide
                                                                      have e2 : (128 : Nat) ^ 6 = 4398046511104 := by decide
                                                                      have e3 : (128 : Int) ^ 6 = 4398046511104 := by decide
                                                                      rw [e] at this; rw [e2, e3]; omega⟩
          by_cases h128 : c < 128
          · have HN3 := Aside0.mk ((if_pos h128).symm.trans HN2.out)
            by_cases hz : c = 0
            · have HN4 := Aside0.mk ((if_pos (Or.inl ⟨hz, by decide⟩)).symm.trans HN3.out)
              subst hz
              go_wp2_with fail
              all_goals exact ⟨rfl, ⟨by rw [← HN4.out]; exact ⟨rfl, rfl⟩⟩⟩
            by_cases hmo : most < (m : Int)
            · have HN4 := Aside0.mk ((if_pos (Or.inr (HM2.out ▸ hmo))).symm.trans HN3.out)
              go_wp2_with fail
              all_goals exact ⟨rfl, ⟨by rw [← HN4.out]; exact ⟨rfl, rfl⟩⟩⟩
            · have HN4 := Aside0.mk ((if_neg (show ¬ (c = 0 ∧ 0 < 5 ∨ most < ((n + c % 128 * 128 ^ 5 : Nat) : Int)) from HM2.out ▸ (by omega))).symm.trans HN3.out)
              go_wp2_with fail
              all_goals exact bodyPost_ret (results_tmp rfl _ _ _) rfl ⟨by rw [← HN4.out, ← HM2.out]; exact ⟨rfl, rfl⟩⟩
          · have HN3 := Aside0.mk ((if_neg h128).symm.trans HN2.out)
            go_wp2_with fail
            refine ⟨⟨6, m, rfl, by first | rfl | exact congrArg _ hor, by omega, HB.out.1, ⟨?_⟩⟩, by simp only [intOf]; omega⟩
            rw [HM2.out]; exact HN3.out
      · have HE := Aside0.mk ((nextGo_end s most i n (by have := HM.out; omega)).symm.trans HN.out)
        have hie : i = 6 := by omega
        clear HN
        go_wp2_with fail
        all_goals exact ⟨rfl, ⟨by rw [← HE.out]; exact ⟨rfl, rfl⟩⟩⟩
  · have HM : Aside0 ((s.size : Nat) = min s.size 6) := ⟨by omega⟩
    go_loop [5, 14] (fun v5 v14 => ∃ i n : Nat, v14 = .int .i64 i ∧ v5 = .int .i64 n ∧ i ≤ s.size ∧ n < 128 ^ i ∧ Aside0 (nextGo s most (7 - i) i n = nextP s most)) (fun _ v => s.size - (intOf v).toNat)
    case atStart => exact ⟨0, 0, rfl, rfl, Nat.zero_le _, by decide, ⟨rfl⟩⟩
    case round =>
      obtain ⟨i, n, rfl, rfl, hi, hn, HN⟩ := hrel
      by_cases hlt : i < s.size
      · have hlt2 : i < s.size := by omega
        have hi6 : i = 0 ∨ i = 1 ∨ i = 2 ∨ i = 3 ∨ i = 4 ∨ i = 5 := by omega
        rcases hi6 with rfl | rfl | rfl | rfl | rfl | rfl
        · have hq : (0 < s.size) = True := eq_true (by omega)
          obtain ⟨c, hc1, hc2⟩ : ∃ c : Nat, bt s 0 = (c : Int) ∧ c < 256 := ⟨(bt s 0).toNat, by have := bt_range s 0; omega, by have := bt_range s 0; omega⟩
          have hbt0 : ∀ h : 0 < s.size, ((s[0]'h).toNat : Int) = (c : Int) := fun h => (bt_at s 0 h).trans hc1
          have HA := Aside0.mk (nextGo_at s most 0 n (by omega) (by omega))
          rw [show (bt s ((0 : Nat) : Int)).toNat = c from by have h : bt s ((0 : Nat) : Int) = c := hc1; omega] at HA
          have HN2 := Aside0.mk (HA.out.symm.trans HN.out)
          clear hc1 HA HN
          have hn2 : n < 1 := hn
          obtain ⟨m, hor, HM2⟩ : ∃ m : Nat, bits .or .i64 (n : Int) ((c : Int) % 128) = (m : Int) ∧ Aside0 (m = n + c % 128 * 128 ^ 0) := ⟨_, by have := or_sh 0 (by decide) n (c % 128) hn2 (by omega); rw [Int.natCast_emod] at this; first | exact this | (rw [show ((2 ^ 0 : Nat) : Int) = 1 from rfl, Int.mul_one] at this; exact this), ⟨rfl⟩⟩
          have HB : Aside0 (m < 128 ^ 1 ∧ (m : Int) < 128 ^ 1) := ⟨by have := HM2.out; have e : (128 : Nat) ^ 0 = 1 := by decide
                                                                      have e2 : (128 : Nat) ^ 1 = 128 := by decide
                                                                      have e3 : (128 : Int) ^ 1 = 128 := by decide
                                                                      rw [e] at this; rw [e2, e3]; omega⟩
          by_cases h128 : c < 128
          · have HN3 := Aside0.mk ((if_pos h128).symm.trans HN2.out)
            by_cases hmo : most < (m : Int)
            · have HN4 := Aside0.mk ((if_pos (Or.inr (HM2.out ▸ hmo))).symm.trans HN3.out)
              go_wp2_with fail
              all_goals exact ⟨rfl, ⟨by rw [← HN4.out]; exact ⟨rfl, rfl⟩⟩⟩
            · have HN4 := Aside0.mk ((if_neg (show ¬ (c = 0 ∧ 0 < 0 ∨ most < ((n + c % 128 * 128 ^ 0 : Nat) : Int)) from HM2.out ▸ (by omega))).symm.trans HN3.out)
              go_wp2_with fail
              all_goals exact bodyPost_ret (results_tmp rfl _ _ _) rfl ⟨by rw [← HN4.out, ← HM2.out]; exact ⟨rfl, rfl⟩⟩
          · have HN3 := Aside0.mk ((if_neg h128).symm.trans HN2.out)
            go_wp2_with fail
            refine ⟨⟨1, m, rfl, by first | rfl | exact congrArg _ hor, by omega, HB.out.1, ⟨?_⟩⟩, by simp only [intOf]; omega⟩
            rw [HM2.out]; exact HN3.out
        · have hq : (1 < s.size) = True := eq_true (by omega)
          obtain ⟨c, hc1, hc2⟩ : ∃ c : Nat, bt s 1 = (c : Int) ∧ c < 256 := ⟨(bt s 1).toNat, by have := bt_range s 1; omega, by have := bt_range s 1; omega⟩
          have hbt0 : ∀ h : 1 < s.size, ((s[1]'h).toNat : Int) = (c : Int) := fun h => (bt_at s 1 h).trans hc1
          have HA := Aside0.mk (nextGo_at s most 1 n (by omega) (by omega))
          rw [show (bt s ((1 : Nat) : Int)).toNat = c from by have h : bt s ((1 : Nat) : Int) = c := hc1; omega] at HA
          have HN2 := Aside0.mk (HA.out.symm.trans HN.out)
          clear hc1 HA HN
          have hn2 : n < 128 := hn
          obtain ⟨m, hor, HM2⟩ : ∃ m : Nat, bits .or .i64 (n : Int) ((c : Int) % 128 * 128) = (m : Int) ∧ Aside0 (m = n + c % 128 * 128 ^ 1) := ⟨_, by have := or_sh 7 (by decide) n (c % 128) hn2 (by omega); rw [Int.natCast_emod] at this; first | exact this | (rw [show ((2 ^ 0 : Nat) : Int) = 1 from rfl, Int.mul_one] at this; exact this), ⟨rfl⟩⟩
          have HB : Aside0 (m < 128 ^ 2 ∧ (m : Int) < 128 ^ 2) := ⟨by have := HM2.out; have e : (128 : Nat) ^ 1 = 128 := by decide
                                                                      have e2 : (128 : Nat) ^ 2 = 16384 := by decide
                                                                      have e3 : (128 : Int) ^ 2 = 16384 := by decide
                                                                      rw [e] at this; rw [e2, e3]; omega⟩
          by_cases h128 : c < 128
          · have HN3 := Aside0.mk ((if_pos h128).symm.trans HN2.out)
            by_cases hz : c = 0
            · have HN4 := Aside0.mk ((if_pos (Or.inl ⟨hz, by decide⟩)).symm.trans HN3.out)
              subst hz
              go_wp2_with fail
              all_goals exact ⟨rfl, ⟨by rw [← HN4.out]; exact ⟨rfl, rfl⟩⟩⟩
            by_cases hmo : most < (m : Int)
            · have HN4 := Aside0.mk ((if_pos (Or.inr (HM2.out ▸ hmo))).symm.trans HN3.out)
              go_wp2_with fail
              all_goals exact ⟨rfl, ⟨by rw [← HN4.out]; exact ⟨rfl, rfl⟩⟩⟩
            · have HN4 := Aside0.mk ((if_neg (show ¬ (c = 0 ∧ 0 < 1 ∨ most < ((n + c % 128 * 128 ^ 1 : Nat) : Int)) from HM2.out ▸ (by omega))).symm.trans HN3.out)
              go_wp2_with fail
              all_goals exact bodyPost_ret (results_tmp rfl _ _ _) rfl ⟨by rw [← HN4.out, ← HM2.out]; exact ⟨rfl, rfl⟩⟩
          · have HN3 := Aside0.mk ((if_neg h128).symm.trans HN2.out)
            go_wp2_with fail
            refine ⟨⟨2, m, rfl, by first | rfl | exact congrArg _ hor, by omega, HB.out.1, ⟨?_⟩⟩, by simp only [intOf]; omega⟩
            rw [HM2.out]; exact HN3.out
        · have hq : (2 < s.size) = True := eq_true (by omega)
          obtain ⟨c, hc1, hc2⟩ : ∃ c : Nat, bt s 2 = (c : Int) ∧ c < 256 := ⟨(bt s 2).toNat, by have := bt_range s 2; omega, by have := bt_range s 2; omega⟩
          have hbt0 : ∀ h : 2 < s.size, ((s[2]'h).toNat : Int) = (c : Int) := fun h => (bt_at s 2 h).trans hc1
          have HA := Aside0.mk (nextGo_at s most 2 n (by omega) (by omega))
          rw [show (bt s ((2 : Nat) : Int)).toNat = c from by have h : bt s ((2 : Nat) : Int) = c := hc1; omega] at HA
          have HN2 := Aside0.mk (HA.out.symm.trans HN.out)
          clear hc1 HA HN
          have hn2 : n < 16384 := hn
          obtain ⟨m, hor, HM2⟩ : ∃ m : Nat, bits .or .i64 (n : Int) ((c : Int) % 128 * 16384) = (m : Int) ∧ Aside0 (m = n + c % 128 * 128 ^ 2) := ⟨_, by have := or_sh 14 (by decide) n (c % 128) hn2 (by omega); rw [Int.natCast_emod] at this; first | exact this | (rw [show ((2 ^ 0 : Nat) : Int) = 1 from rfl, Int.mul_one] at this; exact this), ⟨rfl⟩⟩
          have HB : Aside0 (m < 128 ^ 3 ∧ (m : Int) < 128 ^ 3) := ⟨by have := HM2.out; have e : (128 : Nat) ^ 2 = 16384 := by decide
                                                                      have e2 : (128 : Nat) ^ 3 = 2097152 := by decide
                                                                      have e3 : (128 : Int) ^ 3 = 2097152 := by decide
                                                                      rw [e] at this; rw [e2, e3]; omega⟩
          by_cases h128 : c < 128
          · have HN3 := Aside0.mk ((if_pos h128).symm.trans HN2.out)
            by_cases hz : c = 0
            · have HN4 := Aside0.mk ((if_pos (Or.inl ⟨hz, by decide⟩)).symm.trans HN3.out)
              subst hz
              go_wp2_with fail
              all_goals exact ⟨rfl, ⟨by rw [← HN4.out]; exact ⟨rfl, rfl⟩⟩⟩
            by_cases hmo : most < (m : Int)
            · have HN4 := Aside0.mk ((if_pos (Or.inr (HM2.out ▸ hmo))).symm.trans HN3.out)
              go_wp2_with fail
              all_goals exact ⟨rfl, ⟨by rw [← HN4.out]; exact ⟨rfl, rfl⟩⟩⟩
            · have HN4 := Aside0.mk ((if_neg (show ¬ (c = 0 ∧ 0 < 2 ∨ most < ((n + c % 128 * 128 ^ 2 : Nat) : Int)) from HM2.out ▸ (by omega))).symm.trans HN3.out)
              go_wp2_with fail
              all_goals exact bodyPost_ret (results_tmp rfl _ _ _) rfl ⟨by rw [← HN4.out, ← HM2.out]; exact ⟨rfl, rfl⟩⟩
          · have HN3 := Aside0.mk ((if_neg h128).symm.trans HN2.out)
            go_wp2_with fail
            refine ⟨⟨3, m, rfl, by first | rfl | exact congrArg _ hor, by omega, HB.out.1, ⟨?_⟩⟩, by simp only [intOf]; omega⟩
            rw [HM2.out]; exact HN3.out
        · have hq : (3 < s.size) = True := eq_true (by omega)
          obtain ⟨c, hc1, hc2⟩ : ∃ c : Nat, bt s 3 = (c : Int) ∧ c < 256 := ⟨(bt s 3).toNat, by have := bt_range s 3; omega, by have := bt_range s 3; omega⟩
          have hbt0 : ∀ h : 3 < s.size, ((s[3]'h).toNat : Int) = (c : Int) := fun h => (bt_at s 3 h).trans hc1
          have HA := Aside0.mk (nextGo_at s most 3 n (by omega) (by omega))
          rw [show (bt s ((3 : Nat) : Int)).toNat = c from by have h : bt s ((3 : Nat) : Int) = c := hc1; omega] at HA
          have HN2 := Aside0.mk (HA.out.symm.trans HN.out)
          clear hc1 HA HN
          have hn2 : n < 2097152 := hn
          obtain ⟨m, hor, HM2⟩ : ∃ m : Nat, bits .or .i64 (n : Int) ((c : Int) % 128 * 2097152) = (m : Int) ∧ Aside0 (m = n + c % 128 * 128 ^ 3) := ⟨_, by have := or_sh 21 (by decide) n (c % 128) hn2 (by omega); rw [Int.natCast_emod] at this; first | exact this | (rw [show ((2 ^ 0 : Nat) : Int) = 1 from rfl, Int.mul_one] at this; exact this), ⟨rfl⟩⟩
          have HB : Aside0 (m < 128 ^ 4 ∧ (m : Int) < 128 ^ 4) := ⟨by have := HM2.out; have e : (128 : Nat) ^ 3 = 2097152 := by decide
                                                                      have e2 : (128 : Nat) ^ 4 = 268435456 := by decide
                                                                      have e3 : (128 : Int) ^ 4 = 268435456 := by decide
                                                                      rw [e] at this; rw [e2, e3]; omega⟩
          by_cases h128 : c < 128
          · have HN3 := Aside0.mk ((if_pos h128).symm.trans HN2.out)
            by_cases hz : c = 0
            · have HN4 := Aside0.mk ((if_pos (Or.inl ⟨hz, by decide⟩)).symm.trans HN3.out)
              subst hz
              go_wp2_with fail
              all_goals exact ⟨rfl, ⟨by rw [← HN4.out]; exact ⟨rfl, rfl⟩⟩⟩
            by_cases hmo : most < (m : Int)
            · have HN4 := Aside0.mk ((if_pos (Or.inr (HM2.out ▸ hmo))).symm.trans HN3.out)
              go_wp2_with fail
              all_goals exact ⟨rfl, ⟨by rw [← HN4.out]; exact ⟨rfl, rfl⟩⟩⟩
            · have HN4 := Aside0.mk ((if_neg (show ¬ (c = 0 ∧ 0 < 3 ∨ most < ((n + c % 128 * 128 ^ 3 : Nat) : Int)) from HM2.out ▸ (by omega))).symm.trans HN3.out)
              go_wp2_with fail
              all_goals exact bodyPost_ret (results_tmp rfl _ _ _) rfl ⟨by rw [← HN4.out, ← HM2.out]; exact ⟨rfl, rfl⟩⟩
          · have HN3 := Aside0.mk ((if_neg h128).symm.trans HN2.out)
            go_wp2_with fail
            refine ⟨⟨4, m, rfl, by first | rfl | exact congrArg _ hor, by omega, HB.out.1, ⟨?_⟩⟩, by simp only [intOf]; omega⟩
            rw [HM2.out]; exact HN3.out
        · have hq : (4 < s.size) = True := eq_true (by omega)
          obtain ⟨c, hc1, hc2⟩ : ∃ c : Nat, bt s 4 = (c : Int) ∧ c < 256 := ⟨(bt s 4).toNat, by have := bt_range s 4; omega, by have := bt_range s 4; omega⟩
          have hbt0 : ∀ h : 4 < s.size, ((s[4]'h).toNat : Int) = (c : Int) := fun h => (bt_at s 4 h).trans hc1
          have HA := Aside0.mk (nextGo_at s most 4 n (by omega) (by omega))
          rw [show (bt s ((4 : Nat) : Int)).toNat = c from by have h : bt s ((4 : Nat) : Int) = c := hc1; omega] at HA
          have HN2 := Aside0.mk (HA.out.symm.trans HN.out)
          clear hc1 HA HN
          have hn2 : n < 268435456 := hn
          obtain ⟨m, hor, HM2⟩ : ∃ m : Nat, bits .or .i64 (n : Int) ((c : Int) % 128 * 268435456) = (m : Int) ∧ Aside0 (m = n + c % 128 * 128 ^ 4) := ⟨_, by have := or_sh 28 (by decide) n (c % 128) hn2 (by omega); rw [Int.natCast_emod] at this; first | exact this | (rw [show ((2 ^ 0 : Nat) : Int) = 1 from rfl, Int.mul_one] at this; exact this), ⟨rfl⟩⟩
          have HB : Aside0 (m < 128 ^ 5 ∧ (m : Int) < 128 ^ 5) := ⟨by have := HM2.out; have e : (128 : Nat) ^ 4 = 268435456 := by decide
                                                                      have e2 : (128 : Nat) ^ 5 = 34359738368 := by decide
                                                                      have e3 : (128 : Int) ^ 5 = 34359738368 := by decide
                                                                      rw [e] at this; rw [e2, e3]; omega⟩
          by_cases h128 : c < 128
          · have HN3 := Aside0.mk ((if_pos h128).symm.trans HN2.out)
            by_cases hz : c = 0
            · have HN4 := Aside0.mk ((if_pos (Or.inl ⟨hz, by decide⟩)).symm.trans HN3.out)
              subst hz
              go_wp2_with fail
              all_goals exact ⟨rfl, ⟨by rw [← HN4.out]; exact ⟨rfl, rfl⟩⟩⟩
            by_cases hmo : most < (m : Int)
            · have HN4 := Aside0.mk ((if_pos (Or.inr (HM2.out ▸ hmo))).symm.trans HN3.out)
              go_wp2_with fail
              all_goals exact ⟨rfl, ⟨by rw [← HN4.out]; exact ⟨rfl, rfl⟩⟩⟩
            · have HN4 := Aside0.mk ((if_neg (show ¬ (c = 0 ∧ 0 < 4 ∨ most < ((n + c % 128 * 128 ^ 4 : Nat) : Int)) from HM2.out ▸ (by omega))).symm.trans HN3.out)
              go_wp2_with fail
              all_goals exact bodyPost_ret (results_tmp rfl _ _ _) rfl ⟨by rw [← HN4.out, ← HM2.out]; exact ⟨rfl, rfl⟩⟩
          · have HN3 := Aside0.mk ((if_neg h128).symm.trans HN2.out)
            go_wp2_with fail
            refine ⟨⟨5, m, rfl, by first | rfl | exact congrArg _ hor, by omega, HB.out.1, ⟨?_⟩⟩, by simp only [intOf]; omega⟩
            rw [HM2.out]; exact HN3.out
        · have hq : (5 < s.size) = True := eq_true (by omega)
          obtain ⟨c, hc1, hc2⟩ : ∃ c : Nat, bt s 5 = (c : Int) ∧ c < 256 := ⟨(bt s 5).toNat, by have := bt_range s 5; omega, by have := bt_range s 5; omega⟩
          have hbt0 : ∀ h : 5 < s.size, ((s[5]'h).toNat : Int) = (c : Int) := fun h => (bt_at s 5 h).trans hc1
          have HA := Aside0.mk (nextGo_at s most 5 n (by omega) (by omega))
          rw [show (bt s ((5 : Nat) : Int)).toNat = c from by have h : bt s ((5 : Nat) : Int) = c := hc1; omega] at HA
          have HN2 := Aside0.mk (HA.out.symm.trans HN.out)
          clear hc1 HA HN
          have hn2 : n < 34359738368 := hn
          obtain ⟨m, hor, HM2⟩ : ∃ m : Nat, bits .or .i64 (n : Int) ((c : Int) % 128 * 34359738368) = (m : Int) ∧ Aside0 (m = n + c % 128 * 128 ^ 5) := ⟨_, by have := or_sh 35 (by decide) n (c % 128) hn2 (by omega); rw [Int.natCast_emod] at this; first | exact this | (rw [show ((2 ^ 0 : Nat) : Int) = 1 from rfl, Int.mul_one] at this; exact this), ⟨rfl⟩⟩
          have HB : Aside0 (m < 128 ^ 6 ∧ (m : Int) < 128 ^ 6) := ⟨by have := HM2.out; have e : (128 : Nat) ^ 5 = 34359738368 := by decide
                                                                      have e2 : (128 : Nat) ^ 6 = 4398046511104 := by decide
                                                                      have e3 : (128 : Int) ^ 6 = 4398046511104 := by decide
                                                                      rw [e] at this; rw [e2, e3]; omega⟩
          by_cases h128 : c < 128
          · have HN3 := Aside0.mk ((if_pos h128).symm.trans HN2.out)
            by_cases hz : c = 0
            · have HN4 := Aside0.mk ((if_pos (Or.inl ⟨hz, by decide⟩)).symm.trans HN3.out)
              subst hz
              go_wp2_with fail
              all_goals exact ⟨rfl, ⟨by rw [← HN4.out]; exact ⟨rfl, rfl⟩⟩⟩
            by_cases hmo : most < (m : Int)
            · have HN4 := Aside0.mk ((if_pos (Or.inr (HM2.out ▸ hmo))).symm.trans HN3.out)
              go_wp2_with fail
              all_goals exact ⟨rfl, ⟨by rw [← HN4.out]; exact ⟨rfl, rfl⟩⟩⟩
            · have HN4 := Aside0.mk ((if_neg (show ¬ (c = 0 ∧ 0 < 5 ∨ most < ((n + c % 128 * 128 ^ 5 : Nat) : Int)) from HM2.out ▸ (by omega))).symm.trans HN3.out)
              go_wp2_with fail
              all_goals exact bodyPost_ret (results_tmp rfl _ _ _) rfl ⟨by rw [← HN4.out, ← HM2.out]; exact ⟨rfl, rfl⟩⟩
          · have HN3 := Aside0.mk ((if_neg h128).symm.trans HN2.out)
            go_wp2_with fail
            refine ⟨⟨6, m, rfl, by first | rfl | exact congrArg _ hor, by omega, HB.out.1, ⟨?_⟩⟩, by simp only [intOf]; omega⟩
            rw [HM2.out]; exact HN3.out
      · have HE := Aside0.mk ((nextGo_end s most i n (by have := HM.out; omega)).symm.trans HN.out)
        have hie : i = s.size := by omega
        clear HN
        go_wp2_with fail
        all_goals exact ⟨rfl, ⟨by rw [← HE.out]; exact ⟨rfl, rfl⟩⟩⟩
end Go.Proofs.Ytlblianpbjhmoaa.MNext

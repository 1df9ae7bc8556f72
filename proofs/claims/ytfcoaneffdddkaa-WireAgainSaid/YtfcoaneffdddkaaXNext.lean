/- wire.reader.next: what it computes (nextP), and its walk's contract over the reader's block. -/
import Derived.Test.YtfcoaneffdddkaaXDig
import Derived.Test.YtfcoaneffdddkaaQEv
import Derived.Test.YtfcoaneffdddkaaMWords
import Derived.Test.YtfcoaneffdddkaaPWtx25
namespace Go.Proofs.Ytfcoaneffdddkaa.XNext
open Go.RowKit Go.Proofs.Ytfcoaneffdddkaa.PWt Go.Proofs.YtfcoaneffdddkaaW.PrintWords Go.Proofs.YtfcoaneffdddkaaW.PrintLast Go.Proofs.Ytfcoaneffdddkaa.MWords
open Go.Proofs.Ytfcoaneffdddkaa.QBits Go.Proofs.Ytfcoaneffdddkaa.MPut Go.Proofs.Ytfcoaneffdddkaa.XDig Go.Proofs.Ytfcoaneffdddkaa.QEv
set_option linter.unusedVariables false
set_option linter.unusedSimpArgs false

/-- What next hands back, and leaves. -/
def nxOf (bad : Bool) (r : Option (Int × ByteArray)) : Int × ByteArray × Bool := match r with | some (m, t) => (m, t, bad) | none => (0, ⟨#[]⟩, true)
theorem sh_nat (c i : Nat) (hc : c < 256) (hi : i < 6) : shl .i64 (wrap64 (Int.tmod (c : Int) 128)) (wrap64 (7 * (i : Int))) = ((c % 128 : Nat) : Int) * ((2 ^ (7 * i) : Nat) : Int) := by
  have e1 : Int.tmod (c : Int) 128 = ((c % 128 : Nat) : Int) := by
    rw [Int.tmod_eq_emod_of_nonneg (by omega)]
    omega
  have hp : (2 : Nat) ^ (7 * i) ≤ 2 ^ 35 := Nat.pow_le_pow_right (by decide) (by omega)
  have h35 : (2 : Nat) ^ 35 = 34359738368 := by decide
  have hm : c % 128 * 2 ^ (7 * i) ≤ 127 * 2 ^ 35 := Nat.mul_le_mul (by omega) hp
  rw [e1, w64 (by omega) (by omega), w64 (by omega) (by omega)]
  unfold shl
  have e2 : min (7 * (i : Int)).toNat IntKind.i64.bits = 7 * i := by
    have : IntKind.i64.bits = 64 := rfl
    rw [this]
    omega
  have e3 : ((c % 128 : Nat) : Int) * 2 ^ (7 * i) = ((c % 128 * 2 ^ (7 * i) : Nat) : Int) := by
    rw [Int.natCast_mul]
    norm_cast
  rw [e2, e3, IntKind.wrap_i64, ← Int.natCast_mul]
  generalize c % 128 * 2 ^ (7 * i) = y at *
  omega
theorem next_l0 (s : ByteArray) (most : Int) (bad : Bool) (hs : s.size ≤ 1000000000) : ∀ d i n : Nat, i + d = 6 → n < 128 ^ i →
    Tell (fun k => wire_reader_next.l0 k most (n : Int) (mn (s.size : Int) 6) (i : Int) s bad) (nxOf bad (nextGo s most (7 - i) i n)) := by
  intro d
  induction d with
  | zero =>
    intro i n hi hn
    rw [nextGo_end s most i n (by omega)]
    refine Tell.step (g := fun _ => some (0, ⟨#[]⟩, true)) (fun k => ?_) (Tell.const _)
    rw [wire_reader_next.l0, if_neg (by unfold mn; split <;> omega)]
  | succ d ih =>
    intro i n hi hn
    by_cases hlt : i < s.size
    case neg =>
      rw [nextGo_end s most i n (by omega)]
      refine Tell.step (g := fun _ => some (0, ⟨#[]⟩, true)) (fun k => ?_) (Tell.const _)
      rw [wire_reader_next.l0, if_neg (by unfold mn; split <;> omega)]
    obtain ⟨c, hc1, hc2⟩ : ∃ c : Nat, bt s (i : Int) = (c : Int) ∧ c < 256 := ⟨(bt s (i : Int)).toNat, by have := bt_range s (i : Int); omega, by have := bt_range s (i : Int); omega⟩
    have h128 : (2 : Nat) ^ (7 * i) = 128 ^ i := by rw [Nat.pow_mul]
    have hmn : (i : Int) < mn (s.size : Int) 6 := by unfold mn; split <;> omega
    have hi0 : (0 : Int) ≤ (i : Int) := Int.natCast_nonneg _
    have hi1 : (i : Int) < (s.size : Int) := by omega
    have hat := nextGo_at s most i n (by omega) hlt
    rw [show (bt s (i : Int)).toNat = c by omega] at hat
    have h1a : (0 : Int) ≤ ((i + 1 : Nat) : Int) := Int.natCast_nonneg _
    have h1b : ((i + 1 : Nat) : Int) ≤ (s.size : Int) := by omega
    have hz0 : bt s (i : Int) = 0 ↔ c = 0 := by omega
    have hzi : (i : Int) > 0 ↔ 0 < i := by omega
    have hc128 : bt s (i : Int) ≥ 128 ↔ ¬ c < 128 := by omega
    have hn2 : ¬ c < 128 → n + c % 128 * 128 ^ i < 128 ^ (i + 1) := by
      intro _
      rw [Nat.pow_succ]
      have : c % 128 * 128 ^ i ≤ 127 * 128 ^ i := Nat.mul_le_mul_right _ (by omega)
      omega
    have hid : i + 1 + d = 6 := by omega
    have hor : Go.bits .or .i64 (n : Int) (shl .i64 (wrap64 (Int.tmod (bt s (i : Int)) 128)) (wrap64 (7 * (i : Int)))) = ((n + c % 128 * 128 ^ i : Nat) : Int) := by
      have h40 : 7 * i ≤ 40 := by omega
      have hi6 : i < 6 := by omega
      have hcm : c % 128 < 256 := by omega
      rw [hc1, sh_nat c i hc2 hi6, or_sh (7 * i) h40 n (c % 128) (by rw [h128]; exact hn) hcm, h128]
    have HOR := Aside0.mk hor
    clear hor
    have hw7 : 0 ≤ wrap64 (7 * (i : Int)) := by
      have e : wrap64 (7 * (i : Int)) = 7 * (i : Int) := w64 (by omega) (by omega)
      rw [e]
      omega
    have HW7 := Aside0.mk hw7
    clear hw7
    have hw1 : wrap64 ((i : Int) + 1) = ((i + 1 : Nat) : Int) := by
      have e : wrap64 ((i : Int) + 1) = (i : Int) + 1 := w64 (by omega) (by omega)
      rw [e]
      omega
    have HW1 := Aside0.mk hw1
    clear hw1
    by_cases hlo : c < 128
    · rw [if_pos hlo] at hat
      have hlo2 : ¬ bt s (i : Int) ≥ 128 := fun h => hc128.1 h hlo
      refine Tell.step (g := fun _ => some (nxOf bad (nextGo s most (7 - i) i n))) (fun k => ?_) (Tell.const _)
      rw [wire_reader_next.l0, if_pos hmn, if_pos hi0, if_pos hi1, if_pos HW7.out, if_neg hlo2, HOR.out, HW1.out, hat]
      by_cases hbad : c = 0 ∧ 0 < i ∨ most < ((n + c % 128 * 128 ^ i : Nat) : Int)
      · rw [if_pos hbad]
        by_cases h0 : bt s (i : Int) = 0
        · rw [if_pos h0]
          by_cases hz : (i : Int) > 0
          · rw [if_pos hz]; rfl
          · rw [if_neg hz, if_pos (hbad.elim (fun h => absurd (hzi.2 h.2) hz) id)]; rfl
        · rw [if_neg h0, if_pos (hbad.elim (fun h => absurd (hz0.2 h.1) h0) id)]; rfl
      · rw [if_neg hbad]
        have hm2 : ¬ ((n + c % 128 * 128 ^ i : Nat) : Int) > most := fun h => hbad (.inr h)
        by_cases h0 : bt s (i : Int) = 0
        · rw [if_pos h0, if_neg (fun h => hbad (.inl ⟨hz0.1 h0, hzi.1 h⟩)), if_neg hm2, if_pos h1a, if_pos h1b]; rfl
        · rw [if_neg h0, if_neg hm2, if_pos h1a, if_pos h1b]; rfl
    · rw [if_neg hlo] at hat
      rw [hat]
      have hlo2 : bt s (i : Int) ≥ 128 := hc128.2 hlo
      refine Tell.step (fun k => ?_) (ih (i + 1) (n + c % 128 * 128 ^ i) hid (hn2 hlo))
      rw [wire_reader_next.l0, if_pos hmn, if_pos hi0, if_pos hi1, if_pos HW7.out, if_pos hlo2, HOR.out, HW1.out]
theorem next_t (s : ByteArray) (bad : Bool) (most : Int) (hs : s.size ≤ 1000000000) : Tell (fun k => wire_reader_next.f k s bad most) (nxOf bad (nextP s most)) := by
  refine Tell.of (fun k => ?_) (next_l0 s most bad hs 6 0 0 rfl (by decide))
  rfl
/-- A reader's state. -/
abbrev St := ByteArray × Bool
def nx (most : Int) (st : St) : Int × St := nxOf st.2 (nextP st.1 most)
theorem nx_size (most : Int) (st : St) : (nx most st).2.1.size ≤ st.1.size := by
  unfold nx nxOf
  cases h : nextP st.1 most with
  | none => exact Nat.zero_le _
  | some p => exact Nat.le_of_lt (nextP_bound (m := p.1) (t := p.2) h).2.2
theorem nx_bound (most : Int) (h0 : 0 ≤ most) (st : St) : 0 ≤ (nx most st).1 ∧ (nx most st).1 ≤ most := by
  unfold nx nxOf
  cases h : nextP st.1 most with
  | none => exact ⟨Int.le_refl _, h0⟩
  | some p =>
    have := nextP_bound (m := p.1) (t := p.2) h
    exact ⟨this.1, this.2.1⟩
/-- All but block g, of what was there, is as it was. -/
structure Near (g : Nat) (w w' : World) : Prop where
  os : w'.os = w.os
  tape : w'.tape = w.tape
  output : w'.output = w.output
  size : w.heap.size ≤ w'.heap.size
  block : ∀ k, k < w.heap.size → k ≠ g → w'.heap[k]? = w.heap[k]?
theorem Near.refl (g : Nat) (w : World) : Near g w w := ⟨rfl, rfl, rfl, Nat.le_refl _, fun _ _ _ => rfl⟩
theorem Near.trans {g : Nat} {a b c : World} (h : Near g a b) (k : Near g b c) : Near g a c :=
  ⟨k.os.trans h.os, k.tape.trans h.tape, k.output.trans h.output, Nat.le_trans h.size k.size, fun i hi hg => (k.block i (Nat.lt_of_lt_of_le hi h.size) hg).trans (h.block i hi hg)⟩
theorem Near.of_below {g : Nat} {a b : World} (h : Below a.heap.size a b) : Near g a b := ⟨h.os, h.tape, h.output, h.size, fun k hk _ => h.block k hk⟩
theorem Near.below {g B : Nat} {a b : World} (h : Near g a b) (hB : B ≤ g) (hB2 : B ≤ a.heap.size) : Below B a b := ⟨h.os, h.tape, h.output, h.size, fun k hk => h.block k (by omega) (by omega)⟩
theorem Near.blk {g k : Nat} {t : TypeId} {cs : Array Value} {a b : World} (h : Near g a b) (hb : MBlk a k t cs) (hk : k ≠ g) : MBlk b k t cs := (h.block k (mblk_lt hb) hk).trans hb
theorem next_any (g : Nat) (s : ByteArray) (bad : Bool) (most : Int) (w : World) (hm : MBlk w g 54 #[.string s, .bool bad]) (hs : s.size ≤ 1000000000) :
    Calls Try.prog 28 #[.pointer (some ⟨g, 0, none⟩), .int .i64 most] w fun e w' => e = .returned (.int .i64 (nx most (s, bad)).1) ∧ MBlk w' g 54 #[.string (nx most (s, bad)).2.1, .bool (nx most (s, bad)).2.2] ∧ Near g w w' := by
  obtain ⟨k, hk⟩ := (next_t s bad most hs).get
  have hB : Below ({ w with heap := #[] } : World).heap.size { w with heap := #[] } w := ⟨rfl, rfl, rfl, Nat.zero_le _, fun k hk => absurd hk (by simp)⟩
  refine (wire_reader_next.calls k g s bad most _ _ _ { w with heap := #[] } w ⟨hm, Nat.zero_le _⟩ hB hk).mono ?_
  rintro e w' ⟨rfl, hI, hb, hk⟩
  exact ⟨rfl, hI.1, ⟨hb.os, hb.tape, hb.output, hk.1, fun i hi hg => hk.2 i hi hg (by simp)⟩⟩
end Go.Proofs.Ytfcoaneffdddkaa.XNext

/- Letters; the chapter's example. -/
import Derived.Test.YtlblianpbjhmoaaPGsx2
import Derived.Test.YtlblianpbjhmoaaPGsx5
import Derived.Test.YtlblianpbjhmoaaPGsx7
import Derived.Test.YtlblianpbjhmoaaPGsx9
import Derived.Test.YtlblianpbjhmoaaPGsx10
import Derived.KernelRfl
import Derived.Test.YtlblianpbjhmoaaQBits
namespace Go.Proofs.Ytlblianpbjhmoaa.GLetters
open Go.RowKit Go.Proofs.Ytlblianpbjhmoaa.PGs Go.Proofs.YtlblianpbjhmoaaW.PrintWords Go.Proofs.YtlblianpbjhmoaaW.PrintLast

theorem le_mono {α : Type} {f : Nat → Option α} (h : ∀ k, LeO (f k) (f (k + 1))) {a b : Nat} (hab : a ≤ b) {r : α} (ha : f a = some r) : f b = some r := by
  induction hab with
  | refl => exact ha
  | step _ ih => exact h _ _ ih
theorem awake_draw : gantt_Draw.f 20 [⟨3, [⟨0, 0, 1⟩, ⟨1, 1, 1⟩]⟩, ⟨4, [⟨2, 1, 1⟩]⟩] 2 = some ⟨#[97, 46, 10, 98, 99, 10]⟩ := by kernel_rfl
theorem awake_check : gantt_Check.f 20 [⟨3, [⟨0, 0, 1⟩, ⟨1, 1, 1⟩]⟩, ⟨4, [⟨2, 1, 1⟩]⟩] 2 = some true := by kernel_rfl
theorem awake_id : gantt_ID.f 99 = some 2 := by kernel_rfl
theorem awake_text : (⟨#[97, 46, 10, 98, 99, 10]⟩ : ByteArray).toList = ([97, 46, 10, 98, 99, 10] : List UInt8) := by rw [ByteArray.toList_eq]
theorem awake25 (k : Nat) (hk : 20 ≤ k) : regattalaw25_awake.f k = some true := by
  unfold regattalaw25_awake.f
  simp only [Option.bind_some]
  rw [le_mono (gantt_Draw.mono _ _) hk awake_draw]
  simp only [Option.bind_some]
  rw [if_pos awake_text, le_mono (gantt_Check.mono _ _) hk awake_check]
  simp only [Option.bind_some]
  rw [awake_id]
  rfl
/-- The byte of an ID. -/
def letter (x : Int) : Int := if x < 0 ∨ x ≥ 64 then 46 else bt ganttLetters x
theorem letter_f (x : Int) : gantt_Letter.f x = some (letter x) := by
  unfold gantt_Letter.f letter
  by_cases h1 : x < 0
  · simp [h1]
  · by_cases h2 : x ≥ 64
    · simp [h1, h2]
    · rw [if_neg h1, if_neg h2, if_pos (by omega), if_pos (by omega), if_neg (by omega)]
      rfl
/-- The place of a byte. -/
def place (c : Int) : Int := Lib.indexByte ganttLetters.data.toList c.toNat.toUInt8
theorem id_f (c : Int) : gantt_ID.f c = some (place c) := rfl
theorem all64 {p : Int → Bool} (h : (List.range 64).all (fun n => p (n : Int)) = true) (x : Int) (h0 : 0 ≤ x) (h1 : x < 64) : p x = true := by
  rw [List.all_eq_true] at h
  have := h x.toNat (List.mem_range.2 (by omega))
  rwa [Int.toNat_of_nonneg h0] at this
theorem place_letter (x : Int) (h0 : 0 ≤ x) (h1 : x < 64) : place (letter x) = x := by
  have := all64 (p := fun x => place (letter x) == x) (by kernel_rfl) x h0 h1
  simpa using this
theorem letter_ne (x : Int) : letter x ≠ 10 := by
  by_cases h : x < 0 ∨ x ≥ 64
  · unfold letter; rw [if_pos h]; decide
  · have := all64 (p := fun x => letter x != 10) (by kernel_rfl) x (by omega) (by omega)
    simpa using this
theorem letter_point (x : Int) (h0 : 0 ≤ x) (h1 : x < 64) : letter x ≠ 46 := by
  have := all64 (p := fun x => letter x != 46) (by kernel_rfl) x h0 h1
  simpa using this
theorem letter_out (x : Int) (h : x < 0 ∨ x ≥ 64) : letter x = 46 := by unfold letter; rw [if_pos h]
theorem letter_inj (x y : Int) (h0 : 0 ≤ x) (h1 : x < 64) (h2 : 0 ≤ y) (h3 : y < 64) : (letter x == letter y) = (x == y) := by
  by_cases e : x = y
  · subst e; rw [beq_self_eq_true, beq_self_eq_true]
  · have : letter x ≠ letter y := fun h => e (by rw [← place_letter x h0 h1, h, place_letter y h2 h3])
    rw [beq_eq_false_iff_ne.2 this, beq_eq_false_iff_ne.2 e]
theorem letter_range (x : Int) : 0 ≤ letter x ∧ letter x ≤ 255 := by
  unfold letter
  split
  · omega
  · exact bt_range _ _
/-- What has a place has the letter of it. -/
theorem letter_place (c : Int) (h0 : 0 ≤ c) (h1 : c < 256) : place c < 0 ∨ letter (place c) = c := by
  have h : (List.range 256).all (fun n => decide (place (n : Int) < 0) || letter (place (n : Int)) == (n : Int)) = true := by kernel_rfl
  rw [List.all_eq_true] at h
  have := h c.toNat (List.mem_range.2 (by omega))
  rw [Int.toNat_of_nonneg h0] at this
  simpa using this
theorem place_range (c : Int) (h0 : 0 ≤ c) (h1 : c < 256) : -1 ≤ place c ∧ place c < 64 := by
  have h : (List.range 256).all (fun n => decide (-1 ≤ place (n : Int)) && decide (place (n : Int) < 64)) = true := by kernel_rfl
  rw [List.all_eq_true] at h
  have := h c.toNat (List.mem_range.2 (by omega))
  rw [Int.toNat_of_nonneg h0] at this
  simpa using this
end Go.Proofs.Ytlblianpbjhmoaa.GLetters

/-
  Plain Lean: what a function tells from some round on.
-/
import Derived.RowKit
namespace Go.Proofs.YtcfliceeablckaaDoor.QEv
def Tell {α : Type} (f : Nat → Option α) (r : α) : Prop := ∃ k0, ∀ k, k0 ≤ k → f k = some r
theorem Tell.const {α : Type} (r : α) : Tell (fun _ => some r) r := ⟨0, fun _ _ => rfl⟩
theorem Tell.bind {α β : Type} {f : Nat → Option α} {g : Nat → α → Option β} {a : α} {b : β} (h : Tell f a) (h2 : Tell (fun k => g k a) b) : Tell (fun k => (f k).bind (g k)) b := by
  obtain ⟨k0, h0⟩ := h
  obtain ⟨k1, h1⟩ := h2
  exact ⟨max k0 k1, fun k hk => by show (f k).bind (g k) = some b; rw [h0 k (by omega)]; exact h1 k (by omega)⟩
theorem Tell.step {α : Type} {f g : Nat → Option α} {r : α} (h : ∀ k, f (k + 1) = g k) (hg : Tell g r) : Tell f r := by
  obtain ⟨k0, h0⟩ := hg
  refine ⟨k0 + 1, fun k hk => ?_⟩
  obtain ⟨j, rfl⟩ : ∃ j, k = j + 1 := ⟨k - 1, by omega⟩
  rw [h j]; exact h0 j (by omega)
theorem Tell.of {α : Type} {f g : Nat → Option α} {r : α} (h : ∀ k, f k = g k) (hg : Tell g r) : Tell f r := by
  obtain ⟨k0, h0⟩ := hg
  exact ⟨k0, fun k hk => by rw [h k]; exact h0 k hk⟩
theorem Tell.get {α : Type} {f : Nat → Option α} {r : α} (h : Tell f r) : ∃ k, f k = some r := ⟨_, h.choose_spec _ (Nat.le_refl _)⟩
theorem Tell.mono {α : Type} {f : Nat → Option α} (h : ∀ k r, f k = some r → f (k + 1) = some r) {n : Nat} {r : α} (hn : f n = some r) : Tell f r := by
  refine ⟨n, fun k hk => ?_⟩
  induction hk with
  | refl => exact hn
  | step _ ih => exact h _ _ ih
end Go.Proofs.YtcfliceeablckaaDoor.QEv

/-
  A map of whole numbers to true that a call has made: told by the list of its keys.
-/
import Derived.Test.YtlblianpbjhmoaaMWords
import Derived.Maps.Views
import Derived.Maps.OwnOps
import Derived.KernelRfl
import Derived.Test.YtlblianpbjhmoaaProg
set_option linter.unusedVariables false
namespace Go.Proofs.Ytlblianpbjhmoaa.MSeen
open Go.RowKit Go.Proofs.Ytlblianpbjhmoaa.MWords Go.Maps
def wfI (x : Int) : Prop := (Lit.int .i64 x).wf = true
theorem wfI_of {x : Int} (h0 : -9223372036854775808 ≤ x) (h1 : x ≤ 9223372036854775807) : wfI x := by
  show (decide (IntKind.i64.min ≤ x) && decide (x ≤ IntKind.i64.max)) = true
  have e1 : IntKind.i64.min = -9223372036854775808 := by decide
  have e2 : IntKind.i64.max = 9223372036854775807 := by decide
  rw [e1, e2]
  simp only [Bool.and_eq_true, decide_eq_true_eq]
  exact ⟨h0, h1⟩
/-- Block g is a map whose keys, each at true, are those of the list. -/
def Seen (w : World) (g : Nat) (l : List Int) : Prop :=
  ∃ D : DataW Unit, w.ownsMap Try.prog 3 (plainElem Try.prog 4) g l.length D ∧ IsMap D ∧ ∀ x, wfI x → D.atKey (.int .i64 x) (.lit (.bool false)) = .lit (.bool (decide (x ∈ l)))
theorem Seen.made (w : World) : Seen (w.alloc (.map #[] 0)) w.heap.size [] :=
  ⟨.map [], World.ownsMap_made w _ _ _, isMap_empty, fun x _ => by simp [DataW.atKey]⟩
theorem Seen.alloc {w : World} {g : Nat} {l : List Int} (h : Seen w g l) (o : Obj) : Seen (w.alloc o) g l := let ⟨D, h1, h2⟩ := h; ⟨D, h1.alloc o, h2⟩
theorem Seen.drewN {w : World} {g : Nat} {l : List Int} (h : Seen w g l) (n : Nat) : Seen (w.drewN n) g l := h
theorem Seen.drew {w : World} {g : Nat} {l : List Int} (h : Seen w g l) : Seen w.drew g l := h
theorem Seen.lt {w : World} {g : Nat} {l : List Int} (h : Seen w g l) : g < w.heap.size := let ⟨D, h1, _⟩ := h; h1.lt
theorem Seen.same {w w' : World} {g : Nat} {l : List Int} (h : Seen w g l) (hh : w'.heap[g]? = w.heap[g]?) : Seen w' g l := by
  obtain ⟨D, ⟨es, c, h1, h2, h3, h4⟩, h5⟩ := h
  exact ⟨D, ⟨es, c, hh.trans h1, h2, h3, h4⟩, h5⟩
theorem Seen.set {w : World} {g : Nat} {l : List Int} (h : Seen w g l) {p : Addr} (hp : g ≠ p.block) (v : Value) : Seen (w.setCell p v) g l := h.same (Below.heap_setCell w p v g hp)
set_option maxRecDepth 100000 in
/-- m[x] -/
theorem Seen.look {w : World} {g : Nat} {l : List Int} (h : Seen w g l) {x : Int} (hx : wfI x) : (Instr.lookup 95 (.map (some g)) (.int .i64 x) false).run Try.prog w = .ok (.bool (decide (x ∈ l))) w := by
  obtain ⟨D, h1, h2, h3⟩ := h
  have hz : (zeroValue 4).run Try.prog w = .ok (.bool false) w := Try.zeroValue4 w
  obtain ⟨v, ps, hrun, hv⟩ := h1.lookup (int_keyed Try.underlying3) Try.underlying95 hz (plainElem_bool (H := Unit) Try.underlying4 false) (keyOf_int_mk Try.underlying3 hx)
  rw [h3 x hx] at hv
  rw [hrun]
  have hb : v = .bool (decide (x ∈ l)) := by
    unfold plainElem at hv
    rw [Try.underlying4] at hv
    cases v <;> simp at hv
    rw [hv.1]
  rw [hb]
/-- m[x] = true -/
theorem Seen.put_run {w : World} {g : Nat} {l : List Int} (h : Seen w g l) {k : Int} (hk : wfI k) (hl : l.length < 1000000) :
    ∃ w', (Instr.mapUpdate 95 (.map (some g)) (.int .i64 k) (.bool true)).run Try.prog w = .ok () w' ∧ Seen w' g (k :: l) ∧ w.grownBy w' (some g) := by
  obtain ⟨D, h1, h2, h3⟩ := h
  obtain ⟨w', h0, h4, h5⟩ := h1.update (int_keyed Try.underlying3) Try.underlying95 (by unfold maxLen; omega) (key := .int .i64 k) (val := .bool true) (keyOf_int_mk Try.underlying3 hk) (plainElem_bool Try.underlying4 true)
  refine ⟨w', h0, ⟨_, h4, h2.put _ _, ?_⟩, h5⟩
  intro y hy
  by_cases e : y = k
  · subst e
    rw [atKey_put_same h2 (by trivial)]
    simp
  · rw [atKey_put_other (by intro h; injection h with _ h; exact e h), h3 y hy]
    simp [e]
/-- .. nothing else is written. -/
theorem grown_below {w w' : World} {g B : Nat} {W : World} (h : Below B W w) (hg : w.grownBy w' (some g)) (hB : B ≤ w.heap.size) (hgB : B ≤ g) : Below B W w' := h.grown hg hB (fun k hk => by injection hk with e; omega)
theorem grown_mblk {w w' : World} {g b : Nat} {T : TypeId} {cs : Array Value} (h : MBlk w b T cs) (hg : w.grownBy w' (some g)) (hne : b ≠ g) : MBlk w' b T cs := (hg.block b (mblk_lt h) (by simpa using hne)).trans h
theorem Seen.ne {w : World} {g b : Nat} {l : List Int} {T : TypeId} {cs : Array Value} (h : Seen w g l) (hb : MBlk w b T cs) : b ≠ g := by
  rintro rfl
  obtain ⟨D, ⟨es, c, h1, _⟩, _⟩ := h
  unfold MBlk at hb
  rw [h1] at hb
  cases hb
end Go.Proofs.Ytlblianpbjhmoaa.MSeen

/-
  What reads as data of a type reads, cell for cell, as a kind of the words; and its numbers are of their kinds.
-/
import Derived.Test.YtcfliceeablckaaDoorWAll
import Derived.OpenShut
import Derived.Deep.Slices
namespace Go.Proofs.YtcfliceeablckaaDoor.MOpen
open Go.RowKit Go.Proofs.YtcfliceeablckaaDoorW.PrintWords Go.ChangeShapes Go.WideShapes Go.Deep
set_option linter.unusedVariables false

def Opens (P : Program) (T : TypeId) {α : Type} (d : Kd α) (ok : α → Prop) : Prop :=
  ∀ {H : Type} (enc : TypeId × Value → H) (w : World) (spare : Nat → Bool) (held : Bool) (fuel : Nat) (cs : List Value) (x : DataW H × List MemPlace),
    DataW.trod enc P w 0 spare held fuel T cs = some x → ∃ a : α, d.K w a cs ∧ ok a

theorem Opens.int {P : Program} {T : TypeId} {k : IntKind} (ht : P.underlying T = some (.int k)) : Opens P T (Kd.int k) (fun n => (Lit.int k n).wf = true) := by
  intro H enc w spare held fuel cs x h
  obtain ⟨n, rfl, _, hw⟩ := DataW.trod_int ht h
  exact ⟨n, rfl, hw⟩
theorem Opens.bool {P : Program} {T : TypeId} (ht : P.underlying T = some .bool) : Opens P T Kd.bool (fun _ => True) := by
  intro H enc w spare held fuel cs x h
  obtain ⟨b, rfl, _⟩ := DataW.trod_bool ht h
  exact ⟨b, rfl, trivial⟩
theorem Opens.string {P : Program} {T : TypeId} (ht : P.underlying T = some .string) : Opens P T Kd.string (fun s => s.size ≤ maxLen) := by
  intro H enc w spare held fuel cs x h
  obtain ⟨b, rfl, _, hs⟩ := DataW.trod_string ht h
  exact ⟨b, rfl, hs⟩
theorem list_of {α : Type} {Q : Nat → α → Prop} (n : Nat) (h : ∀ i, i < n → ∃ a, Q i a) : ∃ l : List α, l.length = n ∧ ∀ (i : Nat) (a : α), l[i]? = some a → Q i a := by
  induction n with
  | zero => exact ⟨[], rfl, fun i a hi => by simp at hi⟩
  | succ n ih =>
    obtain ⟨l, hl, hq⟩ := ih (fun i hi => h i (by omega))
    obtain ⟨a, ha⟩ := h n (by omega)
    refine ⟨l ++ [a], by simp [hl], fun i b hb => ?_⟩
    by_cases hi : i < n
    · rw [List.getElem?_append_left (by omega)] at hb; exact hq i b hb
    · have hi2 : i < (l ++ [a]).length := (List.getElem?_eq_some_iff.1 hb).1
      have : i = n := by simp at hi2; omega
      subst this
      rw [List.getElem?_append_right (by omega), hl, Nat.sub_self] at hb
      simp at hb
      subst hb
      exact ha
theorem Opens.slice {P : Program} {T E : TypeId} {α : Type} {d : Kd α} {ok : α → Prop} (ht : P.underlying T = some (.slice E)) (hs : P.cellsOf E = d.sz) (h : Opens P E d ok) :
    Opens P T (Kd.slice E d) (fun l => l.length ≤ 9223372036854775807 ∧ ∀ x ∈ l, ok x) := by
  intro H enc w spare held fuel cs x hx
  rcases open_slice ht hx with ⟨rfl, _⟩ | ⟨a, len, cap, m, n, D, Pl, rfl, _, hl, hm, hmm, _, hi⟩
  · exact ⟨[], ⟨none, 0, rfl, Nat.le_refl _, rfl, by simp, fun hn => by simp at hn⟩, by simp, fun x hx => by cases hx⟩
  · have hlm : len ≤ m := by rw [hmm]; split <;> omega
    obtain ⟨l, hll, hq⟩ := list_of (Q := fun i (y : α) => ∃ cs', w.cells? 0 (a.add (i * P.cellsOf E)) (P.cellsOf E) = some cs' ∧ d.K w y cs' ∧ ok y) len (fun i hil => by
      obtain ⟨cs', hc, htr⟩ := hi i (by omega)
      obtain ⟨y, hK, hok⟩ := h enc w spare held n cs' _ htr
      exact ⟨y, cs', hc, hK, hok⟩)
    unfold maxLen at hm
    refine ⟨l, ⟨some a, cap, by rw [hll], by omega, rfl, by omega, fun _ => ⟨a, rfl, fun j p hj => ?_⟩⟩, by omega, fun y hy => ?_⟩
    · obtain ⟨cs', hc, hK, _⟩ := hq j p hj
      obtain ⟨_, hcl, hat⟩ := World.cells?_some hc
      refine ⟨cs', d.K_len hK, hK, fun i u hu => ?_⟩
      rw [← hs, ← Go.Deep.add_add, hat i (by have := (List.getElem?_eq_some_iff.1 hu).1; omega), hu]
    · obtain ⟨j, hj⟩ := List.getElem?_of_mem hy
      obtain ⟨_, _, _, hok⟩ := hq j y hj
      exact hok

/-- Cells, one type behind the other. -/
def Parsed {H : Type} (enc : TypeId × Value → H) (P : Program) (w : World) (spare : Nat → Bool) (held : Bool) (n : Nat) : List TypeId → List Value → Prop
  | [], cs => cs = []
  | T :: Ts, cs => (∃ x, DataW.trod enc P w 0 spare held n T (cs.take (P.cellsOf T)) = some x) ∧ Parsed enc P w spare held n Ts (cs.drop (P.cellsOf T))
def OpensL (P : Program) (Ts : List TypeId) {α : Type} (d : Kd α) (ok : α → Prop) : Prop :=
  ∀ {H : Type} (enc : TypeId × Value → H) (w : World) (spare : Nat → Bool) (held : Bool) (n : Nat) (cs : List Value), Parsed enc P w spare held n Ts cs → ∃ a : α, d.K w a cs ∧ ok a
theorem OpensL.one {P : Program} {T : TypeId} {α : Type} {d : Kd α} {ok : α → Prop} (h : Opens P T d ok) : OpensL P [T] d ok := by
  intro H enc w spare held n cs hp
  obtain ⟨⟨x, hx⟩, hd⟩ := hp
  have he : cs = cs.take (P.cellsOf T) := by
    have := List.take_append_drop (P.cellsOf T) cs
    rw [show cs.drop (P.cellsOf T) = [] from hd, List.append_nil] at this
    exact this.symm
  rw [← he] at hx
  exact h enc w spare held n cs x hx
theorem OpensL.cons {P : Program} {T : TypeId} {Ts : List TypeId} {α β : Type} {d : Kd α} {e : Kd β} {ok : α → Prop} {ok' : β → Prop} (h : Opens P T d ok) (hs : OpensL P Ts e ok') : OpensL P (T :: Ts) (Kd.pair d e) (fun p => ok p.1 ∧ ok' p.2) := by
  intro H enc w spare held n cs hp
  obtain ⟨⟨x, hx⟩, hd⟩ := hp
  obtain ⟨a, hK, ha⟩ := h enc w spare held n _ x hx
  obtain ⟨b, hK2, hb⟩ := hs enc w spare held n _ hd
  exact ⟨(a, b), ⟨_, _, (List.take_append_drop _ _).symm, hK, hK2⟩, ha, hb⟩
theorem OpensL.iso {P : Program} {Ts : List TypeId} {α β : Type} {d : Kd α} {ok : α → Prop} (h : OpensL P Ts d ok) (f : β → α) (g : α → β) (hfg : ∀ a, f (g a) = a) : OpensL P Ts (Kd.iso d f) (fun b => ok (f b)) := by
  intro H enc w spare held n cs hp
  obtain ⟨a, hK, ha⟩ := h enc w spare held n cs hp
  exact ⟨g a, by show d.K w (f (g a)) cs; rw [hfg]; exact hK, by show ok (f (g a)); rw [hfg]; exact ha⟩
/-- Fields stand one behind the other. -/
def inRow (P : Program) : List (TypeId × Nat) → Nat → Bool
  | [], _ => true
  | (T, o) :: l, at_ => o == at_ && inRow P l (at_ + P.cellsOf T)
def total (P : Program) (l : List (TypeId × Nat)) : Nat := l.foldl (fun n T => n + P.cellsOf T.1) 0
theorem parsed_of {H : Type} {enc : TypeId × Value → H} {P : Program} {w : World} {spare : Nat → Bool} {held : Bool} {n : Nat} (cs : List Value) : ∀ (l : List (TypeId × Nat)) (o : Nat), inRow P l o = true →
    (∀ (i : Nat) (f : TypeId × Nat), l[i]? = some f → ∃ x, DataW.trod enc P w 0 spare held n f.1 ((cs.drop f.2).take (P.cellsOf f.1)) = some x) → cs.length = l.foldl (fun n T => n + P.cellsOf T.1) o → Parsed enc P w spare held n (l.map (·.1)) (cs.drop o)
  | [], o, _, _, hl => by simp at hl; exact List.drop_of_length_le (by omega)
  | (T, o') :: l, o, hr, hf, hl => by
    simp only [inRow, Bool.and_eq_true, beq_iff_eq] at hr
    obtain ⟨rfl, hr⟩ := hr
    refine ⟨hf 0 _ rfl, ?_⟩
    rw [List.drop_drop]
    exact parsed_of cs l _ hr (fun i f hi => hf (i + 1) f hi) hl
theorem Opens.struct {P : Program} {T : TypeId} {fs : Array Field} {α : Type} {d : Kd α} {ok : α → Prop} (ht : P.underlying T = some (.struct fs)) {Ts : List TypeId} (h : OpensL P Ts d ok)
    (hT : fs.toList.map (·.type) = Ts) (hr : inRow P (fs.toList.map fun f => (f.type, f.offset)) 0 = true) (hc : P.cellsOf T = total P (fs.toList.map fun f => (f.type, f.offset))) : Opens P T d ok := by
  intro H enc w spare held fuel cs x hx
  obtain ⟨xs, n, _, _, hcl, hlen, hf⟩ := DataW.trod_struct ht hx
  have hp := parsed_of (enc := enc) (P := P) (w := w) (spare := spare) (held := held) (n := n) cs (fs.toList.map fun f => (f.type, f.offset)) 0 hr (fun i f hi => by
    rw [List.getElem?_map] at hi
    obtain ⟨g, hg, rfl⟩ := Option.map_eq_some_iff.1 hi
    have hg' : fs[i]? = some g := by simpa using hg
    have hlt : i < fs.size := (Array.getElem?_eq_some_iff.1 hg').1
    exact ⟨_, (hf i g hg').trans (List.getElem?_eq_getElem (by omega))⟩) (by rw [hcl, hc]; rfl)
  rw [List.map_map] at hp
  have e : (List.map ((fun x => x.1) ∘ fun f : Field => (f.type, f.offset)) fs.toList) = Ts := hT
  rw [e] at hp
  exact h enc w spare held n cs hp
theorem Opens.array {P : Program} {T E : TypeId} {m : Nat} {α : Type} {d : Kd α} {ok : α → Prop} (ht : P.underlying T = some (.array m E)) {Ts : List TypeId} (h : OpensL P Ts d ok)
    (hT : List.replicate m E = Ts) (hr : inRow P ((List.range m).map fun i => (E, i * P.cellsOf E)) 0 = true) (hc : P.cellsOf T = total P ((List.range m).map fun i => (E, i * P.cellsOf E))) : Opens P T d ok := by
  intro H enc w spare held fuel cs x hx
  obtain ⟨xs, n, _, _, hcl, hlen, hf⟩ := DataW.trod_array ht hx
  have hp := parsed_of (enc := enc) (P := P) (w := w) (spare := spare) (held := held) (n := n) cs ((List.range m).map fun i => (E, i * P.cellsOf E)) 0 hr (fun i f hi => by
    rw [List.getElem?_map] at hi
    obtain ⟨g, hg, rfl⟩ := Option.map_eq_some_iff.1 hi
    have hg2 := List.getElem?_eq_some_iff.1 hg
    obtain ⟨hlt, hge⟩ := hg2
    simp at hlt hge
    subst hge
    exact ⟨_, (hf i hlt).trans (List.getElem?_eq_getElem (by omega))⟩) (by rw [hcl, hc]; rfl)
  have e : (List.map (fun x => x.1) ((List.range m).map fun i => (E, i * P.cellsOf E))) = Ts := by
    rw [← hT, List.map_map]
    apply List.ext_getElem?
    intro i
    by_cases hi : i < m <;> simp [hi]
  rw [List.drop_zero, e] at hp
  exact h enc w spare held n cs hp
theorem okWide_array {P : Program} {W : World} {r : Reach} {b0 : Nat} {T E : TypeId} {m : Nat} {v : Value} (ht : P.underlying T = some (.array m E)) (h : Value.okWide P W r b0 T v) : ∃ cs, v = .agg cs := by
  simp only [Value.okWide, ht] at h
  obtain ⟨cs, h1, _⟩ := h
  exact ⟨cs, h1⟩
/-- A value that is a parameter. -/
theorem Opens.trod {P : Program} {T : TypeId} {α : Type} {d : Kd α} {ok : α → Prop} (h : Opens P T d ok) {H : Type} {enc : TypeId × Value → H} {w : World} {spare : Nat → Bool} {held : Bool} {v : Value} {x : DataW H} {p : List MemPlace}
    (ht : DataW.Trod enc P w 0 spare held T v x p) : ∃ a : α, d.K w a v.cells.toList ∧ ok a := by
  obtain ⟨fuel, hf⟩ := ht
  exact h enc w spare held fuel _ _ hf
end Go.Proofs.YtcfliceeablckaaDoor.MOpen

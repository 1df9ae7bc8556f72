/- A range over a function whose iterator keeps its state in one box: the statement's walk, where the body leaves that box alone and the caller's invariant bears a store into it. -/
import Derived.RangeFuncNested
import Derived.RangeFuncCalls
import Derived.RangeFuncLeaves
import Derived.Below

namespace Go.Proofs.Ytlblianpbjhmoaa.XRange
open Go.RowKit
set_option linter.unusedVariables false
variable {F : Fence} {n : Nat} {P : Program} {α : Type}

/-- What the statement lays for itself: the block of the rounds' deferred calls at D, the loop's record behind it. -/
structure Book (D : Nat) (r : Loop) (W : World) : Prop where
  defs : W.heap[D]? = some (.deferred (some []))
  loop : W.heap[D + 1]? = some (.loop r)

theorem Book.lt {D : Nat} {r : Loop} {W : World} (h : Book D r W) : D + 1 < W.heap.size := (Array.getElem?_eq_some_iff.1 h.loop).1
theorem Book.grown {D B : Nat} {r : Loop} {W W' : World} {row : Option Nat} (h : Book D r W) (hg : W.grownBy W' row) (hr : ∀ k, row = some k → D + 1 < k) : Book D r W' :=
  ⟨(hg.block D (by have := h.lt; omega) (fun e => by have := hr D e.symm; omega)).trans h.defs, (hg.block (D + 1) h.lt (fun e => by have := hr (D + 1) e.symm; omega)).trans h.loop⟩
theorem Book.box {D B : Nat} {r : Loop} {W : World} (h : Book D r W) (hB : B < D) (v : Value) : Book D r (W.setCell ⟨B, 0, none⟩ v) :=
  ⟨(Below.heap_setCell W ⟨B, 0, none⟩ v D (by show D ≠ B; omega)).trans h.defs, (Below.heap_setCell W ⟨B, 0, none⟩ v (D + 1) (by show D + 1 ≠ B; omega)).trans h.loop⟩
theorem Book.kept {D : Nat} {r : Loop} {W W' : World} (h : Book D r W) (hk : KeepsFrom D W W') : Book D r W' :=
  ⟨hk.same _ _ (Nat.le_refl _) h.defs rfl, hk.same _ _ (by omega) h.loop rfl⟩
theorem Book.turned {D : Nat} {r : Loop} {W : World} (h : Book D r W) (r' : Loop) : Book D r' (W.putObj (D + 1) (.loop r')) :=
  ⟨(World.putObj_heap_other (by omega)).trans h.defs, World.putObj_heap_same h.lt⟩

/-- What an iterator with its state in box B owes: the elements xs come, one by one, or a part of them if a round says so. -/
def SeqBox (F : Fence) (n : Nat) (P : Program) (gf B : Nat) (encs : α → Array Value) (xs : List α) (w : World) : Prop :=
  ∀ (l : Nat) (J Jx : List α → World → Prop) (W : World), Below w.heap.size w W →
    AbidesFrom W.heap.size J → (∀ s X v, J s X → J s (X.setCell ⟨B, 0, none⟩ v)) → (∀ s X, J s X → J s X.drew) →
    (∀ pre x X, J pre X → pre ++ [x] <+: xs → W.heap.size ≤ X.heap.size → YieldAt F (n - 1) P l (encs x) X fun e X' =>
      (e = .returned (.bool true) ∧ J (pre ++ [x]) X' ∧ X'.heap[B]? = X.heap[B]? ∧ X.heap.size ≤ X'.heap.size) ∨ (e = .returned (.bool false) ∧ Jx (pre ++ [x]) X')) →
    J [] W →
    CallsIn F n P gf #[.func (.yield l) #[] #[], .pointer (some ⟨B, 0, none⟩)] W fun e W' => (∃ v, e = .returned v) ∧ (J xs W' ∨ ∃ pre, pre <+: xs ∧ Jx pre W')

/-- How a round's body is left: it goes on, or it returns. -/
def roundOut (D B : Nat) (I Ix : List α → World → Prop) (xs : List α) (W : World) : Exit → Act → World → Prop
  | .normal, _, W' => KeepsFrom D W W' ∧ W'.heap[B]? = W.heap[B]? ∧ I xs W'
  | .ret, _, W' => KeepsFrom D W W' ∧ Ix xs W'
  | _, _, _ => False

/-- The statement. -/
theorem range_box {g : Operand} {ps : Array Tmp} {assign body : Code} {Q : Exit → Act → World → Prop} {a : Act} {w w0 : World} {gf B : Nat}
    (hro : F.round = none) (hn : 1 ≤ n) (hg : a.eval g = .func (.func gf) #[] #[.pointer (some ⟨B, 0, none⟩)]) (hF : F.fn gf) (heg : ∀ args w, (callFunc gf args).run P w = .ok (.enter gf args) w)
    {encs : α → Array Value} {xs : List α} (hseq : SeqBox F (n - 1) P gf B encs xs w0) (hw0 : Below w0.heap.size w0 w) (hB : B < w.heap.size) (hps : ∀ x, (encs x).size = ps.size)
    (I Ix : List α → World → Prop) (hI : OwnFrom w.heap.size I) (hIx : OwnFrom w.heap.size Ix) (hIB : ∀ s X v, I s X → I s (X.setCell ⟨B, 0, none⟩ v)) (hId : ∀ s X, I s X → I s X.drew) (h0 : I [] w) (a₁ : α → Act)
    (hassign : ∀ (l : Nat) (x : α) (W : World) (K : Act → World → Prop), K (a₁ x) W →
      assign.wpIn (F.inRound l) (n - 1 - 1) P (Exit.then K (fun _ _ _ => False)) { tmps := (ps.zip (encs x)).foldl (fun t (p, v) => t.setIfInBounds p v) a.tmps, defers := [] } W)
    (hbody : ∀ (l : Nat) (pre : List α) (x : α) (W : World), I pre W → pre ++ [x] <+: xs → w.heap.size + 1 < W.heap.size → body.wpIn (F.inRound l) (n - 1 - 1) P (roundOut w.heap.size B I Ix (pre ++ [x]) W) (a₁ x) W)
    (hdone : ∀ W : World, I xs W → W.heap[w.heap.size]? = some (.deferred (some [])) → Q .normal { a with defers := { target := .collected w.heap.size, args := #[] } :: a.defers } W)
    (hstop : ∀ (pre : List α) (W : World), pre <+: xs → Ix pre W → W.heap[w.heap.size]? = some (.deferred (some [])) → Code.ret.wpIn F n P Q { a with defers := { target := .collected w.heap.size, args := #[] } :: a.defers } W) :
    (Code.rangeFunc g ps assign body).wpIn F n P Q a w := by
  refine wpIn_rangeFunc fun fn hfn => ?_
  rw [hro]
  obtain ⟨r, hr⟩ : ∃ r : LoopState → Option Code → Loop, r = fun st pe => { state := st, pending := pe, fn, tmps := a.tmps, params := ps, assign, body, defers := w.heap.size } := ⟨_, rfl⟩
  have eR : ∀ st pe st' pe', ({ r st pe with state := st', pending := pe' } : Loop) = r st' pe' := by intros; rw [hr]
  obtain ⟨V, hV⟩ : ∃ V, V = (w.alloc (.deferred (some []))).alloc (.loop (r .ready none)) := ⟨_, rfl⟩
  have bV : Book w.heap.size (r .ready none) V := by
    rw [hV]
    refine ⟨(Below.heap_alloc _ _ _ (by simp)).trans (World.alloc_heap_new w _), ?_⟩
    have := World.alloc_heap_new (w.alloc (.deferred (some []))) (.loop (r .ready none))
    rwa [World.size_alloc] at this
  have iV : I [] V := by rw [hV]; exact hI.alloc _ (hI.alloc _ h0)
  have wV : Below w0.heap.size w0 V := by
    rw [hV]
    exact hw0.trans ((((Below.refl _ w).alloc (Nat.le_refl _) _).alloc (by simp) _).mono hw0.size)
  have hVs : V.heap.size = w.heap.size + 2 := by rw [hV]; simp
  refine ⟨w.heap.size + 1, [{ target := .collected w.heap.size, args := #[] }], V, { target := .fn (.func gf) #[.pointer (some ⟨B, 0, none⟩)], args := #[.func (.yield (w.heap.size + 1)) #[] #[]] }, V, gf,
    #[.func (.yield (w.heap.size + 1)) #[] #[], .pointer (some ⟨B, 0, none⟩)], V, by rw [hV, hr]; exact run_enterLoop_outer _ _ _ _ _, by simp only [resolve, hg]; simp [go_sem], fun f' h => by simp [Target.leads] at h; subst h; exact hF, by simp [invoke, go_sem, heg], fun _ => hn, ?_⟩
  refine (hseq (w.heap.size + 1) (fun pre W => I pre W ∧ Book w.heap.size (r .ready none) W) (fun pre W => Ix pre W ∧ Book w.heap.size (r .done (some .ret)) W) V wV ?_ ?_ (fun s X h => ⟨hId s X h.1, h.2.defs, h.2.loop⟩) ?_ ⟨iV, bV⟩).mono ?_
  · intro s X X' row h hg' hrow
    exact ⟨hI s X X' row h.1 hg' (fun k e => ⟨by have := (hrow k e).1; omega, (hrow k e).2.imp fun o ho => ⟨ho.1, Obj.not_cells_of_walk ho.2⟩⟩), h.2.grown (B := B) hg' (fun k e => by have := (hrow k e).1; omega)⟩
  · intro s X v h
    exact ⟨hIB s X v h.1, h.2.box hB v⟩
  · -- a round
    rintro pre x X ⟨hi, hb⟩ hpx hX
    have hy := run_yield (P := P) (args := encs x) hb.loop (by rw [hr]; exact hps x)
    rw [hr] at hy
    refine ⟨fn, _, assign, body, hy, roundIn_of_wpIn hfn (hassign _ x X _ ?_)⟩
    clear hy
    have hb2 := hb.turned { r .ready none with state := .busy }
    refine ⟨_, run_beginRound hb.loop (by rw [hr]), wpIn_mono (hbody _ pre x _ (hI.putObj _ hi (by omega) hb.loop rfl) hpx (by simp [World.putObj]; have := hb.lt; omega)) ?_⟩
    have hend : ∀ (jump : Option Code) (Y : World), KeepsFrom w.heap.size (X.putObj (w.heap.size + 1) (.loop { r .ready none with state := .busy })) Y →
        Book w.heap.size { r .ready none with state := .busy } Y ∧ (Instr.endRound (w.heap.size + 1) jump).run P Y = .ok (.bool jump.isNone) (Y.putObj (w.heap.size + 1) (.loop (r (if jump.isNone then .ready else .done) jump))) := fun jump Y hk => by
      have hbY := hb2.kept hk
      have := run_endRound (P := P) jump hbY.loop
      rw [hr] at this ⊢
      exact ⟨by rw [hr] at hbY; exact hbY, this⟩
    have other : ∀ (Z : World) (o : Obj), (Z.putObj (w.heap.size + 1) o).heap[B]? = Z.heap[B]? := fun Z o => World.putObj_heap_other (by omega)
    rintro e a3 Y hp
    cases e with
    | normal =>
      obtain ⟨hk, hbx, hiY⟩ := hp
      obtain ⟨hbY, hrun⟩ := hend none Y hk
      refine ⟨_, _, hrun, .inl ⟨rfl, ⟨hI.putObj _ hiY (by omega) hbY.loop rfl, hbY.turned _⟩, ?_, ?_⟩⟩
      · rw [other, hbx, other]
      · have := hk.size
        simp [World.putObj] at this ⊢
        exact this
    | ret =>
      obtain ⟨hk, hiY⟩ := hp
      obtain ⟨hbY, hrun⟩ := hend (some .ret) Y hk
      exact ⟨_, _, hrun, .inr ⟨rfl, hIx.putObj _ hiY (by omega) hbY.loop rfl, hbY.turned _⟩⟩
    | exit id => exact hp.elim
    | goto t => exact hp.elim
    | panic ch => exact hp.elim
    | outgrown => exact hp.elim
  · rintro e Y ⟨⟨v, rfl⟩, (⟨hi, hb⟩ | ⟨pre, hp, hi, hb⟩)⟩
    · exact ⟨none, _, by have := run_endLoop (P := P) hb.loop (by rw [hr]; simp); rw [hr] at this; exact this, hdone _ (hI.putObj _ hi (by omega) hb.loop rfl) ((World.putObj_heap_other (by omega)).trans hb.defs)⟩
    · exact ⟨some .ret, _, by have := run_endLoop (P := P) hb.loop (by rw [hr]; simp); rw [hr] at this; exact this, hstop pre _ hp (hIx.putObj _ hi (by omega) hb.loop rfl) ((World.putObj_heap_other (by omega)).trans hb.defs)⟩
end Go.Proofs.Ytlblianpbjhmoaa.XRange

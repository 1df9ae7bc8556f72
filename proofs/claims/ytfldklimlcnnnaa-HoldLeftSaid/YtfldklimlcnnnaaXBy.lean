/- A range over a function whose iterator calls functions of its own between its rounds: the caller's invariant bears whatever such a call may do. -/
import Derived.RangeFuncNested
import Derived.RangeFuncCalls
import Derived.RangeFuncLeaves
import Derived.Below

namespace Go.Proofs.Ytfldklimlcnnnaa.XBy
open Go.RowKit
set_option linter.unusedVariables false
variable {F : Fence} {n : Nat} {P : Program} {α : Type}

/-- The statement's two blocks: the rounds' deferred calls at D, the loop's record behind it. -/
structure Book (D : Nat) (r : Loop) (W : World) : Prop where
  defs : W.heap[D]? = some (.deferred (some []))
  loop : W.heap[D + 1]? = some (.loop r)
theorem Book.lt {D : Nat} {r : Loop} {W : World} (h : Book D r W) : D + 1 < W.heap.size := (Array.getElem?_eq_some_iff.1 h.loop).1
theorem Book.grown {D : Nat} {r : Loop} {W W' : World} {row : Option Nat} (h : Book D r W) (hg : W.grownBy W' row) (hr : ∀ k, row = some k → D + 1 < k) : Book D r W' :=
  ⟨(hg.block D (by have := h.lt; omega) (fun e => by have := hr D e.symm; omega)).trans h.defs, (hg.block (D + 1) h.lt (fun e => by have := hr (D + 1) e.symm; omega)).trans h.loop⟩
theorem Book.kept {D : Nat} {r : Loop} {W W' : World} (h : Book D r W) (hk : KeepsFrom D W W') : Book D r W' :=
  ⟨hk.same _ _ (Nat.le_refl _) h.defs rfl, hk.same _ _ (by omega) h.loop rfl⟩
theorem Book.below {D : Nat} {r : Loop} {W W' : World} (h : Book D r W) (hb : Below W.heap.size W W') : Book D r W' :=
  ⟨(hb.block _ (by have := h.lt; omega)).trans h.defs, (hb.block _ h.lt).trans h.loop⟩
theorem Book.turned {D : Nat} {r : Loop} {W : World} (h : Book D r W) (r' : Loop) : Book D r' (W.putObj (D + 1) (.loop r')) :=
  ⟨(World.putObj_heap_other (by omega)).trans h.defs, World.putObj_heap_same h.lt⟩

/-- The iterator's word: S xs have come; the caller's J bears an iterator's own blocks and whatever leaves all that lay untouched. -/
def SeqBy (F : Fence) (n : Nat) (P : Program) (gf : Nat) (lb : Array Value) (encs : α → Array Value) (Kr : World → World → Prop) (S : List α → Prop) (N : Nat) (w : World) : Prop :=
  ∀ (l : Nat) (J Jx : List α → World → Prop) (W : World), Below w.heap.size w W →
    AbidesFrom W.heap.size J → (∀ s X Y, J s X → Below X.heap.size X Y → J s Y) →
    (∀ pre x X, J pre X → pre.length < N → W.heap.size ≤ X.heap.size → YieldAt F (n - 1) P l (encs x) X fun e X' =>
      (e = .returned (.bool true) ∧ J (pre ++ [x]) X' ∧ Kr X X' ∧ X.heap.size ≤ X'.heap.size) ∨ (e = .returned (.bool false) ∧ Jx (pre ++ [x]) X')) →
    J [] W →
    CallsIn F n P gf (#[.func (.yield l) #[] #[]] ++ lb) W fun e W' => (∃ v, e = .returned v) ∧ ((∃ xs, S xs ∧ J xs W') ∨ ∃ pre, Jx pre W')

/-- How a round's body is left: it goes on, or it returns. -/
def roundOut (D : Nat) (Kr : World → World → Prop) (I Ix : List α → World → Prop) (xs : List α) (W : World) : Exit → Act → World → Prop
  | .normal, _, W' => KeepsFrom D W W' ∧ Kr W W' ∧ I xs W'
  | .ret, _, W' => KeepsFrom D W W' ∧ Ix xs W'
  | _, _, _ => False

theorem range_by {g : Operand} {ps : Array Tmp} {assign body : Code} {Q : Exit → Act → World → Prop} {a : Act} {w w0 : World} {gf : Nat} {lb : Array Value}
    (hro : F.round = none) (hn : 1 ≤ n) (hg : a.eval g = .func (.func gf) #[] lb) (hF : F.fn gf) (heg : ∀ args w, (callFunc gf args).run P w = .ok (.enter gf args) w)
    {encs : α → Array Value} {Kr : World → World → Prop} {S : List α → Prop} {N : Nat} (hseq : SeqBy F (n - 1) P gf lb encs Kr S N w0) (hw0 : Below w0.heap.size w0 w) (hps : ∀ x, (encs x).size = ps.size)
    (hKt : ∀ {A B C : World}, Kr A B → Kr B C → Kr A C) (hKb : ∀ (W : World) (l : Nat) (o o' : Obj), W.heap[l]? = some o → o.isCells = false → o.isWalk = false → Kr W (W.putObj l o'))
    (I Ix : List α → World → Prop) (hI : OwnFrom w.heap.size I) (hIx : OwnFrom w.heap.size Ix) (hIB : ∀ s X Y, I s X → Below X.heap.size X Y → I s Y) (h0 : I [] w)
    (Ax : α → Act → World → Prop) (hAx : ∀ x a', OwnFrom w.heap.size (fun (_ : Unit) W => Ax x a' W))
    (hassign : ∀ (l : Nat) (pre : List α) (x : α) (W : World) (K : Act → World → Prop), I pre W → w.heap.size + 1 < W.heap.size → (∀ a' W', KeepsFrom w.heap.size W W' → Kr W W' → I pre W' → Ax x a' W' → K a' W') →
      assign.wpIn (F.inRound l) (n - 1 - 1) P (Exit.then K (fun _ _ _ => False)) { tmps := (ps.zip (encs x)).foldl (fun t (p, v) => t.setIfInBounds p v) a.tmps, defers := [] } W)
    (hbody : ∀ (l : Nat) (pre : List α) (x : α) (a' : Act) (W : World), I pre W → Ax x a' W → pre.length < N → w.heap.size + 1 < W.heap.size → body.wpIn (F.inRound l) (n - 1 - 1) P (roundOut w.heap.size Kr I Ix (pre ++ [x]) W) a' W)
    (hdone : ∀ (xs : List α) (W : World), S xs → I xs W → W.heap[w.heap.size]? = some (.deferred (some [])) → Q .normal { a with defers := { target := .collected w.heap.size, args := #[] } :: a.defers } W)
    (hstop : ∀ (pre : List α) (W : World), Ix pre W → W.heap[w.heap.size]? = some (.deferred (some [])) → Code.ret.wpIn F n P Q { a with defers := { target := .collected w.heap.size, args := #[] } :: a.defers } W) :
    (Code.rangeFunc g ps assign body).wpIn F n P Q a w := by
  refine wpIn_rangeFunc fun fn hfn => ?_
  rw [hro]
  obtain ⟨r, hr⟩ : ∃ r : LoopState → Option Code → Loop, r = fun st pe => { state := st, pending := pe, fn, tmps := a.tmps, params := ps, assign, body, defers := w.heap.size } := ⟨_, rfl⟩
  obtain ⟨V, hV⟩ : ∃ V, V = (w.alloc (.deferred (some []))).alloc (.loop (r .ready none)) := ⟨_, rfl⟩
  have bV : Book w.heap.size (r .ready none) V := by
    rw [hV]
    refine ⟨(Below.heap_alloc _ _ _ (by simp)).trans (World.alloc_heap_new w _), ?_⟩
    have := World.alloc_heap_new (w.alloc (.deferred (some []))) (.loop (r .ready none))
    rwa [World.size_alloc] at this
  have iV : I [] V := by rw [hV]; exact hI.alloc _ (hI.alloc _ h0)
  have wV : Below w0.heap.size w0 V := by
    rw [hV]
    exact hw0.trans ((((Below.refl _ w).alloc (Nat.le_refl _) _).alloc (by simp) _).mono hw0.size)
  have hVs : V.heap.size = w.heap.size + 2 := by rw [hV]; simp
  refine ⟨w.heap.size + 1, [{ target := .collected w.heap.size, args := #[] }], V, { target := .fn (.func gf) lb, args := #[.func (.yield (w.heap.size + 1)) #[] #[]] }, V, gf,
    #[.func (.yield (w.heap.size + 1)) #[] #[]] ++ lb, V, by rw [hV, hr]; exact run_enterLoop_outer _ _ _ _ _, by simp only [resolve, hg]; simp [go_sem], fun f' h => by simp [Target.leads] at h; subst h; exact hF, by simp [invoke, go_sem, heg], fun _ => hn, ?_⟩
  refine (hseq (w.heap.size + 1) (fun pre W => I pre W ∧ Book w.heap.size (r .ready none) W) (fun pre W => Ix pre W ∧ Book w.heap.size (r .done (some .ret)) W) V wV ?_ (fun s X Y h hb => ⟨hIB s X Y h.1 hb, h.2.below hb⟩) ?_ ⟨iV, bV⟩).mono ?_
  · intro s X X' row h hg' hrow
    exact ⟨hI s X X' row h.1 hg' (fun k e => ⟨by have := (hrow k e).1; omega, (hrow k e).2.imp fun o ho => ⟨ho.1, Obj.not_cells_of_walk ho.2⟩⟩), h.2.grown hg' (fun k e => by have := (hrow k e).1; omega)⟩
  · -- a round
    rintro pre x X ⟨hi, hb⟩ hlen hX
    have hy := run_yield (P := P) (args := encs x) hb.loop (by rw [hr]; exact hps x)
    rw [hr] at hy
    refine ⟨fn, _, assign, body, hy, roundIn_of_wpIn hfn (hassign _ pre x X _ hi hb.lt ?_)⟩
    clear hy
    intro a' Xa hka hra hia hax
    have hba := hb.kept hka
    have hb2 := hba.turned { r .ready none with state := .busy }
    have hturn : Kr Xa (Xa.putObj (w.heap.size + 1) (.loop { r .ready none with state := .busy })) := hKb _ _ _ _ hba.loop rfl rfl
    refine ⟨_, run_beginRound hba.loop (by rw [hr]), wpIn_mono (hbody _ pre x a' _ (hI.putObj _ hia (by omega) hba.loop rfl) ((hAx x a').putObj (s := ()) _ hax (by omega) hba.loop rfl) hlen (by simp [World.putObj]; have := hba.lt; omega)) ?_⟩
    have hend : ∀ (jump : Option Code) (Y : World), KeepsFrom w.heap.size (Xa.putObj (w.heap.size + 1) (.loop { r .ready none with state := .busy })) Y →
        Book w.heap.size { r .ready none with state := .busy } Y ∧ (Instr.endRound (w.heap.size + 1) jump).run P Y = .ok (.bool jump.isNone) (Y.putObj (w.heap.size + 1) (.loop (r (if jump.isNone then .ready else .done) jump))) := fun jump Y hk => by
      have hbY := hb2.kept hk
      have := run_endRound (P := P) jump hbY.loop
      rw [hr] at this ⊢
      exact ⟨by rw [hr] at hbY; exact hbY, this⟩
    rintro e a3 Y hp
    cases e with
    | normal =>
      obtain ⟨hk, hrY, hiY⟩ := hp
      obtain ⟨hbY, hrun⟩ := hend none Y hk
      refine ⟨_, _, hrun, .inl ⟨rfl, ⟨hI.putObj _ hiY (by omega) hbY.loop rfl, hbY.turned _⟩, hKt hra (hKt (hKt hturn hrY) (hKb _ _ _ _ hbY.loop rfl rfl)), ?_⟩⟩
      have h1 := hka.size
      have h2 := hk.size
      simp [World.putObj] at h2 ⊢
      omega
    | ret =>
      obtain ⟨hk, hiY⟩ := hp
      obtain ⟨hbY, hrun⟩ := hend (some .ret) Y hk
      exact ⟨_, _, hrun, .inr ⟨rfl, hIx.putObj _ hiY (by omega) hbY.loop rfl, hbY.turned _⟩⟩
    | exit id => exact hp.elim
    | goto t => exact hp.elim
    | panic ch => exact hp.elim
    | outgrown => exact hp.elim
  · rintro e Y ⟨⟨v, rfl⟩, (⟨xs, hS, hi, hb⟩ | ⟨pre, hi, hb⟩)⟩
    · exact ⟨none, _, by have := run_endLoop (P := P) hb.loop (by rw [hr]; simp); rw [hr] at this; exact this, hdone xs _ hS (hI.putObj _ hi (by omega) hb.loop rfl) ((World.putObj_heap_other (by omega)).trans hb.defs)⟩
    · exact ⟨some .ret, _, by have := run_endLoop (P := P) hb.loop (by rw [hr]; simp); rw [hr] at this; exact this, hstop pre _ (hIx.putObj _ hi (by omega) hb.loop rfl) ((World.putObj_heap_other (by omega)).trans hb.defs)⟩
end Go.Proofs.Ytfldklimlcnnnaa.XBy

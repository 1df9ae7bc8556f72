/- A pair of numbers, a step: their kinds, how they are opened. -/
import Derived.Test.YtfldklimlcnnnaaQHold
import Derived.Test.YtfldklimlcnnnaaMOpen
import Derived.Test.YtfldklimlcnnnaaPHqx31
import Derived.Test.YtfldklimlcnnnaaPHqx37
namespace Go.Proofs.Ytfldklimlcnnnaa.XOp
open Go.RowKit Go.Shelf Go.Proofs.Ytfldklimlcnnnaa.PHq Go.Proofs.YtfldklimlcnnnaaW.PrintWords Go.Proofs.YtfldklimlcnnnaaW.PrintLast Go.Proofs.YtfldklimlcnnnaaW.PrintMore Go.Proofs.Ytfldklimlcnnnaa.MWords Go.Proofs.Ytfldklimlcnnnaa.MOpen
open Go.Proofs.Ytfldklimlcnnnaa.MNat Go.Proofs.Ytfldklimlcnnnaa.QNat Go.Proofs.Ytfldklimlcnnnaa.QText Go.Proofs.Ytfldklimlcnnnaa.QEv Go.Proofs.Ytfldklimlcnnnaa.QRatio Go.Proofs.Ytfldklimlcnnnaa.XHold Go.Proofs.Ytfldklimlcnnnaa.XLed Go.Proofs.Ytfldklimlcnnnaa.QHold
set_option linter.unusedVariables false
set_option linter.unusedSimpArgs false
-- regattalaw12_made.calls regattaref03_Cmp.f
/-- The last statement of a sequence: what follows gets a name (for go_cut). -/
theorem wp_last {P : Program} {s : Code} {Q : Exit → Act → World → Prop} {a : Act} {w : World} (h : ∀ K : Act → World → Prop, K = Q .normal → s.wp P (Exit.then K Q) a w) : s.wp P Q a w := by
  refine wp_mono (h _ rfl) ?_
  intro e a' w' hq
  cases e <;> exact hq
def kP2 : Kd (Int × Int) := Kd.pair (Kd.int .i64) (Kd.int .i64)
theorem kP2_open {w : World} {x : Int × Int} {cs : List Value} (h : kP2.K w x cs) : cs = [.int .i64 x.1, .int .i64 x.2] := by
  obtain ⟨_, _, rfl, rfl, rfl⟩ := h
  rfl
theorem opensP2 : Opens Try.prog 39 kP2 (fun p => (Lit.int .i64 p.1).wf = true ∧ (Lit.int .i64 p.2).wf = true) :=
  Opens.array Try.underlying39 (Ts := [3, 3]) (OpensL.cons (Opens.int Try.underlying3) (OpensL.one (Opens.int Try.underlying3))) rfl (by kernel_rfl) (by kernel_rfl)
theorem at_P2 {w : World} {A : Option Addr} {n : Nat} {xs : List (Int × Int)} (h : Kd.C kP2 w A n xs) (i : Nat) (hi : i < n) : ∃ ad, A = some ad ∧ w.cell? (ad.add (i * 2)) = some (.int .i64 (xs.getD i (0, 0)).1) ∧ w.cell? ⟨(ad.add (i * 2)).block, (ad.add (i * 2)).off + 1, none⟩ = some (.int .i64 (xs.getD i (0, 0)).2) := by
  obtain ⟨ad, c, e, _, hK, hc0⟩ := Kd.C_get h (0, 0) (i : Int) (by omega) (by omega)
  have hc : ∀ j u, c[j]? = some u → w.cell? (ad.add (i * 2 + j)) = some u := hc0
  have hK' : kP2.K w (xs.getD i (0, 0)) c := hK
  obtain rfl := kP2_open hK'
  exact ⟨ad, e, hc 0 _ rfl, by rw [← add_field _ _ 1 (by omega)]; exact hc 1 _ rfl⟩
/-- A step: kind, ID, weight, another one. -/
abbrev OpV := Int × Int × (Int × Int) × (Int × Int)
def kOp : Kd OpV := Kd.pair (Kd.int .i64) (Kd.pair (Kd.int .i64) (Kd.pair kP2 kP2))
theorem kOp_open {w : World} {x : OpV} {cs : List Value} (h : kOp.K w x cs) : cs = [.int .i64 x.1, .int .i64 x.2.1, .int .i64 x.2.2.1.1, .int .i64 x.2.2.1.2, .int .i64 x.2.2.2.1, .int .i64 x.2.2.2.2] := by
  obtain ⟨_, _, rfl, rfl, ⟨_, _, rfl, rfl, ⟨_, _, rfl, h1, h2⟩⟩⟩ := h
  obtain rfl := kP2_open h1
  obtain rfl := kP2_open h2
  rfl
theorem opensOp : Opens Try.prog 48 kOp (fun p => (Lit.int .i64 p.1).wf = true ∧ (Lit.int .i64 p.2.1).wf = true ∧ ((Lit.int .i64 p.2.2.1.1).wf = true ∧ (Lit.int .i64 p.2.2.1.2).wf = true) ∧ ((Lit.int .i64 p.2.2.2.1).wf = true ∧ (Lit.int .i64 p.2.2.2.2).wf = true)) :=
  Opens.struct Try.underlying48 (Ts := [3, 3, 39, 39]) (OpensL.cons (Opens.int Try.underlying3) (OpensL.cons (Opens.int Try.underlying3) (OpensL.cons opensP2 (OpensL.one opensP2)))) rfl (by kernel_rfl) (by kernel_rfl)
def opZ : OpV := (0, 0, (0, 0), (0, 0))
theorem at_Op {w : World} {A : Option Addr} {n : Nat} {xs : List OpV} (h : Kd.C kOp w A n xs) (i : Nat) (hi : i < n) : ∃ ad, A = some ad ∧ w.cell? (ad.add (i * 6)) = some (.int .i64 (xs.getD i opZ).1)
    ∧ w.cell? ⟨(ad.add (i * 6)).block, (ad.add (i * 6)).off + 1, none⟩ = some (.int .i64 (xs.getD i opZ).2.1)
    ∧ w.cell? ⟨(ad.add (i * 6)).block, (ad.add (i * 6)).off + 2, none⟩ = some (.int .i64 (xs.getD i opZ).2.2.1.1)
    ∧ w.cell? ⟨(ad.add (i * 6)).block, (ad.add (i * 6)).off + 3, none⟩ = some (.int .i64 (xs.getD i opZ).2.2.1.2)
    ∧ w.cell? ⟨(ad.add (i * 6)).block, (ad.add (i * 6)).off + 4, none⟩ = some (.int .i64 (xs.getD i opZ).2.2.2.1)
    ∧ w.cell? ⟨(ad.add (i * 6)).block, (ad.add (i * 6)).off + 5, none⟩ = some (.int .i64 (xs.getD i opZ).2.2.2.2) := by
  obtain ⟨ad, c, e, _, hK, hc0⟩ := Kd.C_get h opZ (i : Int) (by omega) (by omega)
  have hc : ∀ j u, c[j]? = some u → w.cell? (ad.add (i * 6 + j)) = some u := hc0
  have hK' : kOp.K w (xs.getD i opZ) c := hK
  obtain rfl := kOp_open hK'
  exact ⟨ad, e, hc 0 _ rfl, by rw [← add_field _ _ 1 (by omega)]; exact hc 1 _ rfl, by rw [← add_field _ _ 2 (by omega)]; exact hc 2 _ rfl, by rw [← add_field _ _ 3 (by omega)]; exact hc 3 _ rfl, by rw [← add_field _ _ 4 (by omega)]; exact hc 4 _ rfl, by rw [← add_field _ _ 5 (by omega)]; exact hc 5 _ rfl⟩
theorem cmp_same {l : List (Int × Hd)} (hG : GoodL l) (hl : l.length ≤ 490) : ∃ k, regattaref03_Cmp.f k (L (heldL l)).1 (L (heldL l)).2 (L (heldL l)).1 (L (heldL l)).2 = some 0 := by
  have hs := held_szN hG
  have h := r3cmp_t (1 + 2 * l.length) (1 + 2 * l.length) (heldL l).num.natAbs (heldL l).den (heldL l).num.natAbs (heldL l).den hs.2.1 hs.2.2 hs.2.1 hs.2.2 (by omega) (Rat.den_pos _) (Rat.den_pos _)
  rw [cmpR_self] at h
  exact h.get
/-- A weight by two numbers. -/
def madeW (p q : Int) : S34 := ⟨wrap64 ((Go.bits .and .i64 p 31) - 1), Go.bits .and .i64 q 31⟩
theorem made_any (p q : Int) (w : World) : Calls Try.prog 29 #[.agg #[.int .i64 p, .int .i64 q]] w fun e w' => e = .returned (.agg #[.int .i64 (madeW p q).f0, .int .i64 (madeW p q).f1]) ∧ Below w.heap.size w w' :=
  regattalaw12_made.calls p q _ _ w rfl
end Go.Proofs.Ytfldklimlcnnnaa.XOp

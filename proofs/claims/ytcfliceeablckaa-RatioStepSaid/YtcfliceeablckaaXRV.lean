/- A value is a ratio, readable at a world: the contracts of the program's functions on ratios in these words. -/
import Derived.Test.YtcfliceeablckaaQRef3
import Derived.Test.YtcfliceeablckaaPNrx14
import Derived.Test.YtcfliceeablckaaPNrx15
import Derived.Test.YtcfliceeablckaaPNrx23
import Derived.Test.YtcfliceeablckaaPNrx25
import Derived.Test.YtcfliceeablckaaPNrx26
namespace Go.Proofs.Ytcfliceeablckaa.XRV
open Go.RowKit Go.Proofs.Ytcfliceeablckaa.PNr Go.Proofs.YtcfliceeablckaaW.PrintWords Go.Proofs.YtcfliceeablckaaW.PrintLast Go.Proofs.YtcfliceeablckaaW.PrintMore Go.Proofs.Ytcfliceeablckaa.MWords
open Go.Proofs.Ytcfliceeablckaa.MNat Go.Proofs.Ytcfliceeablckaa.QNat Go.Proofs.Ytcfliceeablckaa.QText Go.Proofs.Ytcfliceeablckaa.QEv Go.Proofs.Ytcfliceeablckaa.QRatio
set_option linter.unusedVariables false
set_option linter.unusedSimpArgs false

/-- v is the ratio of two numbers, readable at W. -/
def RV (W : World) (x y : Value) (a b : List Int) : Prop :=
  (∃ A c, x = .slice A a.length c ∧ a.length ≤ c ∧ Kd.C (Kd.int .u32) W A a.length a) ∧ ∃ A c, y = .slice A b.length c ∧ b.length ≤ c ∧ Kd.C (Kd.int .u32) W A b.length b
theorem RV.below {W W' : World} {x y : Value} {a b : List Int} (h : RV W x y a b) (hb : Below W.heap.size W W') : RV W' x y a b := by
  obtain ⟨⟨A, c, e1, h1, h2⟩, A', c', e3, h3, h4⟩ := h
  exact ⟨⟨A, c, e1, h1, Kd.C_below h2 hb⟩, A', c', e3, h3, Kd.C_below h4 hb⟩
theorem RV.shape {W : World} {x y : Value} {a b : List Int} (h : RV W x y a b) : ∃ A c A' c', x = .slice A a.length c ∧ y = .slice A' b.length c' := by
  obtain ⟨⟨A, c, e1, _⟩, A', c', e3, _⟩ := h
  exact ⟨A, c, A', c', e1, e3⟩
theorem RV.ofV {W : World} {x y : Value} {a b : List Int} {e e' base base' : Nat} {ok ok' : Nat → Prop} (h1 : Kd.V (Kd.int .u32) e W base ok x a) (h2 : Kd.V (Kd.int .u32) e' W base' ok' y b) : RV W x y a b := by
  obtain ⟨A, c, rfl⟩ := Kd.V_slice h1
  obtain ⟨A', c', rfl⟩ := Kd.V_slice h2
  exact ⟨⟨A, c, rfl, (Kd.V_reads' h1).2.1, (Kd.V_reads' h1).2.2⟩, A', c', rfl, (Kd.V_reads' h2).2.1, (Kd.V_reads' h2).2.2⟩
theorem RV.ofR {W : World} {x y : Value} {a b : List Int} {e e' base base' : Nat} {ok ok' : Nat → Prop} (h1 : Kd.R (Kd.int .u32) e W base ok x a) (h2 : Kd.R (Kd.int .u32) e' W base' ok' y b) : RV W x y a b := by
  obtain ⟨A, c, rfl⟩ := Kd.R_slice h1
  obtain ⟨A', c', rfl⟩ := Kd.R_slice h2
  exact ⟨⟨A, c, rfl, (Kd.R_reads' h1).2.1, (Kd.R_reads' h1).2.2⟩, A', c', rfl, (Kd.R_reads' h2).2.1, (Kd.R_reads' h2).2.2⟩
theorem check_rv {W : World} {x y : Value} {a b : List Int} {r : Bool} (h : RV W x y a b) (hf : ratio_Check.f a b = some r) :
    Calls Try.prog 37 #[.agg #[x, y]] W fun e w' => e = .returned (.bool r) ∧ Below W.heap.size W w' := by
  obtain ⟨⟨A, c, rfl, h1, h2⟩, A', c', rfl, h3, h4⟩ := h
  exact ratio_Check.calls A c a A' c' b r W h2 h1 h4 h3 hf
theorem rcmp_rv {k : Nat} {W : World} {x y u v : Value} {a b c d : List Int} {r : Int} (h : RV W x y a b) (g : RV W u v c d) (hf : regattaref03_Cmp.f k a b c d = some r) :
    Calls Try.prog 39 #[.agg #[x, y], .agg #[u, v]] W fun e w' => e = .returned (.int .i64 r) ∧ Below W.heap.size W w' := by
  obtain ⟨⟨A1, c1, rfl, p1, q1⟩, A2, c2, rfl, p2, q2⟩ := h
  obtain ⟨⟨A3, c3, rfl, p3, q3⟩, A4, c4, rfl, p4, q4⟩ := g
  exact regattaref03_Cmp.calls k A1 c1 a A2 c2 b A3 c3 c A4 c4 d r W q1 p1 q2 p2 q3 p3 q4 p4 hf
theorem cmp_rv {k : Nat} {W : World} {x y u v : Value} {a b c d : List Int} {r : Int} (h : RV W x y a b) (g : RV W u v c d) (hf : ratio_Cmp.f k a b c d = some r) :
    Calls Try.prog 44 #[.agg #[x, y], .agg #[u, v]] W fun e w' => e = .returned (.int .i64 r) ∧ Below W.heap.size W w' := by
  obtain ⟨⟨A1, c1, rfl, p1, q1⟩, A2, c2, rfl, p2, q2⟩ := h
  obtain ⟨⟨A3, c3, rfl, p3, q3⟩, A4, c4, rfl, p4, q4⟩ := g
  exact ratio_Cmp.calls k A1 c1 a A2 c2 b A3 c3 c A4 c4 d r W q1 p1 q2 p2 q3 p3 q4 p4 hf
theorem add_rv {k : Nat} {W : World} {x y u v : Value} {a b c d r1 r2 : List Int} (h : RV W x y a b) (g : RV W u v c d) (hf : ratio_Add.f k a b c d = some (r1, r2)) :
    Calls Try.prog 45 #[.agg #[x, y], .agg #[u, v]] W fun e w' => ∃ p q : Value, e = .returned (.agg #[p, q]) ∧ RV w' p q r1 r2 ∧ Below W.heap.size W w' := by
  obtain ⟨⟨A1, c1, rfl, p1, q1⟩, A2, c2, rfl, p2, q2⟩ := h
  obtain ⟨⟨A3, c3, rfl, p3, q3⟩, A4, c4, rfl, p4, q4⟩ := g
  exact (ratio_Add.calls k A1 c1 a A2 c2 b A3 c3 c A4 c4 d r1 r2 W q1 p1 q2 p2 q3 p3 q4 p4 hf).mono fun e w' ⟨p, q, he, h1, h2, hb⟩ => ⟨p, q, he, RV.ofV h1 h2, hb⟩
theorem sub_rv {k : Nat} {W : World} {x y u v : Value} {a b c d r1 r2 : List Int} {r3 : Int} (h : RV W x y a b) (g : RV W u v c d) (hf : ratio_Sub.f k a b c d = some (r1, r2, r3)) :
    Calls Try.prog 47 #[.agg #[x, y], .agg #[u, v]] W fun e w' => ∃ p q : Value, e = .returned (.tuple #[.agg #[p, q], .int .i64 r3]) ∧ RV w' p q r1 r2 ∧ Below W.heap.size W w' := by
  obtain ⟨⟨A1, c1, rfl, p1, q1⟩, A2, c2, rfl, p2, q2⟩ := h
  obtain ⟨⟨A3, c3, rfl, p3, q3⟩, A4, c4, rfl, p4, q4⟩ := g
  exact (ratio_Sub.calls k A1 c1 a A2 c2 b A3 c3 c A4 c4 d r1 r2 r3 W q1 p1 q2 p2 q3 p3 q4 p4 hf).mono fun e w' ⟨p, q, he, h1, h2, hb⟩ => ⟨p, q, he, RV.ofV h1 h2, hb⟩
theorem plus_rv {k : Nat} {W : World} {x y u v : Value} {a b c d r1 r2 : List Int} (h : RV W x y a b) (g : RV W u v c d) (hf : regattaref03_Plus.f k a b c d = some (r1, r2)) :
    Calls Try.prog 48 #[.agg #[x, y], .agg #[u, v]] W fun e w' => ∃ p q : Value, e = .returned (.agg #[p, q]) ∧ RV w' p q r1 r2 ∧ Below W.heap.size W w' := by
  obtain ⟨⟨A1, c1, rfl, p1, q1⟩, A2, c2, rfl, p2, q2⟩ := h
  obtain ⟨⟨A3, c3, rfl, p3, q3⟩, A4, c4, rfl, p4, q4⟩ := g
  exact (regattaref03_Plus.calls k A1 c1 a A2 c2 b A3 c3 c A4 c4 d r1 r2 W q1 p1 q2 p2 q3 p3 q4 p4 hf).mono fun e w' ⟨p, q, he, h1, h2, hb⟩ => ⟨p, q, he, RV.ofR h1 h2, hb⟩
theorem sum_rv {k : Nat} {W : World} {A : Option Addr} {c : Nat} {l : List S57} {r1 r2 : List Int} (h : l.length ≤ c ∧ Kd.C k57 W A l.length l) (hf : ratio_Sum.f k l = some (r1, r2)) :
    Calls Try.prog 42 #[.slice A l.length c] W fun e w' => ∃ p q : Value, e = .returned (.agg #[p, q]) ∧ RV w' p q r1 r2 ∧ Below W.heap.size W w' :=
  (ratio_Sum.calls k A c l r1 r2 W h.2 h.1 hf).mono fun e w' ⟨p, q, he, h1, h2, hb⟩ => ⟨p, q, he, RV.ofV h1 h2, hb⟩
theorem F_heap {α : Type} {d : Kd α} (hd : Kd.Heap d) {W : World} {A : Option Addr} {n : Nat} {xs : List α} (h : d.C W A n xs) : Kd.F d W (fun _ => True) A n xs := fun W' hW => hd.C (fun k hk => hW k trivial hk) h
theorem least_rv {k : Nat} {W : World} {x y : Value} {a b r1 r2 : List Int} (h : RV W x y a b) (hf : ratio_Least.f k a b = some (r1, r2)) :
    Calls Try.prog 30 #[.agg #[x, y]] W fun e w' => ∃ p q : Value, e = .returned (.agg #[p, q]) ∧ RV w' p q r1 r2 ∧ Below W.heap.size W w' := by
  obtain ⟨⟨A1, c1, rfl, p1, q1⟩, A2, c2, rfl, p2, q2⟩ := h
  exact (ratio_Least.calls k (fun _ => True) A1 c1 a (fun _ => True) A2 c2 b r1 r2 W (Kd.V_mk p1 (F_heap (Kd.heap_int .u32) q1)) (Kd.V_mk p2 (F_heap (Kd.heap_int .u32) q2)) hf).mono fun e w' ⟨p, q, he, h1, h2, hb⟩ => ⟨p, q, he, RV.ofV h1 h2, hb⟩
theorem of_rv {W : World} {e p : Int} {r1 r2 : List Int} (hf : ratio_Of.f e p = some (r1, r2)) :
    Calls Try.prog 40 #[.agg #[.int .i64 e, .int .i64 p]] W fun e w' => ∃ p q : Value, e = .returned (.agg #[p, q]) ∧ RV w' p q r1 r2 ∧ Below W.heap.size W w' :=
  (ratio_Of.calls e p r1 r2 W hf).mono fun e w' ⟨p, q, he, h1, h2, hb⟩ => ⟨p, q, he, RV.ofV h1 h2, hb⟩
theorem whole_rv {W : World} {n : Int} {r1 r2 : List Int} (hf : ratio_Whole.f n = some (r1, r2)) :
    Calls Try.prog 43 #[.int .u64 n] W fun e w' => ∃ p q : Value, e = .returned (.agg #[p, q]) ∧ RV w' p q r1 r2 ∧ Below W.heap.size W w' :=
  (ratio_Whole.calls n r1 r2 W hf).mono fun e w' ⟨p, q, he, h1, h2, hb⟩ => ⟨p, q, he, RV.ofV h1 h2, hb⟩
theorem RV.shut {W : World} {x y : Value} {a b : List Int} (h : RV W x y a b) : ∃ A c A' c', x = .slice A a.length c ∧ y = .slice A' b.length c' := h.shape
/-- No number of 32 bits stands in block k: neither a row of limbs does. -/
def NoLimb (W : World) (k : Nat) : Prop := ∀ p : Addr, p.block = k → ∀ n : Int, W.cell? p ≠ some (.int .u32 n)
theorem C_near {W W' : World} {A : Option Addr} {n : Nat} {xs : List Int} (h : Kd.C (Kd.int .u32) W A n xs) (hk : ∀ k, k < W.heap.size → ¬ NoLimb W k → W'.heap[k]? = W.heap[k]?) : Kd.C (Kd.int .u32) W' A n xs :=
  ⟨h.1, h.2.1, fun hp => by
    obtain ⟨ad, e, hc⟩ := h.2.2 hp
    refine ⟨ad, e, fun j p hj => ?_⟩
    obtain ⟨c, hl, hK, hcell⟩ := hc j p hj
    refine ⟨c, hl, hK, fun i u hi => ?_⟩
    have h1 := hcell i u hi
    have hu : u = .int .u32 p := by
      rw [show c = [.int .u32 p] from hK] at hi
      match i, hi with
      | 0, hi => exact (Option.some.inj hi).symm
      | i + 1, hi => simp at hi
    have hb := hk _ (World.block_lt_of_cell? W _ h1) (fun hn => hn _ rfl p (by rw [h1, hu]))
    unfold World.cell? at h1 ⊢
    rw [hb]
    exact h1⟩
theorem RV.near {W W' : World} {x y : Value} {a b : List Int} (h : RV W x y a b) (hk : ∀ k, k < W.heap.size → ¬ NoLimb W k → W'.heap[k]? = W.heap[k]?) : RV W' x y a b := by
  obtain ⟨⟨A, c, e1, h1, h2⟩, A', c', e3, h3, h4⟩ := h
  exact ⟨⟨A, c, e1, h1, C_near h2 hk⟩, A', c', e3, h3, C_near h4 hk⟩
end Go.Proofs.Ytcfliceeablckaa.XRV

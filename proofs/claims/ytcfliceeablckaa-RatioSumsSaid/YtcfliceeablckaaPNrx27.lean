-- Written by wip/rprint.py of this session's repo (the kit's printer with patches), out of the translation. Not trusted: Lean checks it.
import Derived.Test.YtcfliceeablckaaPNrx0
import Derived.Test.YtcfliceeablckaaPNrx14
import Derived.Test.YtcfliceeablckaaPNrx15
import Derived.Test.YtcfliceeablckaaPNrx19
import Derived.Test.YtcfliceeablckaaPNrx23
import Derived.Test.YtcfliceeablckaaPNrx25
import Derived.Test.YtcfliceeablckaaPNrx26
import Derived.Test.YtcfliceeablckaaPNrx30
namespace Go.Proofs.Ytcfliceeablckaa.PNr
open Go.RowKit Go.Proofs.YtcfliceeablckaaW.PrintWords Go.Proofs.YtcfliceeablckaaW.PrintLast Go.Proofs.YtcfliceeablckaaW.PrintMore Go.Proofs.Ytcfliceeablckaa.MWords
attribute [local go_sem] max2_int min2_int max_two min_two max_three min_three max_four min_four   -- for this text's walks alone
set_option linter.unusedVariables false
set_option linter.unusedSimpArgs false

/-! ### regattalaw03_RatioSums: function 10 -/
def regattalaw03_RatioSums.j0 : Nat → Bool → Bool → List Int → List Int → List Int → List Int → List Int → List Int → List Int → List Int → Option (Bool)
  | 0, _, _, _, _, _, _, _, _, _, _ => none
  | k + 1, x5, x54, x917000, x917001, x927000, x927001, x937000, x937001, x947000, x947001 => if x54 = true then (some false) else ((ratio_Add.f k x917000 x917001 x927000 x927001).bind fun bt953 => ((ratio_Sub.f k x917000 x917001 x927000 x927001).bind fun bt960 => ((regattaref03_Plus.f k x937000 x937001 x947000 x947001).bind fun bt968 => ((regattaref03_Cmp.f k bt953.1 bt953.2 bt968.1 bt968.2).bind fun t974 => (if t974 = 0 then ((regattaref03_Cmp.f k x937000 x937001 x947000 x947001).bind fun t975 => (if t975 < 0 then (if x5 = true then (some (bt960.2.2 == 16)) else (some false)) else (if x5 = true then (if bt960.2.2 = 0 then ((regattaref03_Plus.f k bt960.1 bt960.2.1 x947000 x947001).bind fun bt976 => ((regattaref03_Cmp.f k bt976.1 bt976.2 x937000 x937001).bind fun t982 => (if t982 = 0 then ((ratio_Check.f bt953.1 bt953.2).bind fun t983 => (some t983)) else (some false)))) else (some false)) else (some false)))) else (some false))))))
def regattalaw03_RatioSums.f (k : Nat) (l0 : List (S55)) (l1 : List (S55)) : Option (Bool) := (regattalaw03_awake.f k).bind fun t906 => ((regattalaw03_weights.f k l0).bind fun t907 => ((ratio_Sum.f k t907).bind fun bt910 => ((regattalaw03_weights.f k l1).bind fun t917 => ((ratio_Sum.f k t917).bind fun bt920 => ((regattalaw03_weights.f k l0).bind fun t927 => ((regattaref03_Sum.f k t927).bind fun bt930 => ((regattalaw03_weights.f k l1).bind fun t937 => ((regattaref03_Sum.f k t937).bind fun bt940 => ((ratio_Check.f bt910.1 bt910.2).bind fun t947 => (if t947 = true then ((ratio_Check.f bt920.1 bt920.2).bind fun t948 => (if t948 = true then ((regattaref03_Cmp.f k bt910.1 bt910.2 bt930.1 bt930.2).bind fun t949 => (if t949 = 0 then ((regattaref03_Cmp.f k bt920.1 bt920.2 bt940.1 bt940.2).bind fun t950 => (if t950 = 0 then ((ratio_Cmp.f k bt910.1 bt910.2 bt920.1 bt920.2).bind fun t951 => ((regattaref03_Cmp.f k bt930.1 bt930.2 bt940.1 bt940.2).bind fun t952 => (regattalaw03_RatioSums.j0 k t906 (t951 != t952) bt910.1 bt910.2 bt920.1 bt920.2 bt930.1 bt930.2 bt940.1 bt940.2))) else (regattalaw03_RatioSums.j0 k t906 true bt910.1 bt910.2 bt920.1 bt920.2 bt930.1 bt930.2 bt940.1 bt940.2))) else (regattalaw03_RatioSums.j0 k t906 true bt910.1 bt910.2 bt920.1 bt920.2 bt930.1 bt930.2 bt940.1 bt940.2))) else (regattalaw03_RatioSums.j0 k t906 true bt910.1 bt910.2 bt920.1 bt920.2 bt930.1 bt930.2 bt940.1 bt940.2))) else (regattalaw03_RatioSums.j0 k t906 true bt910.1 bt910.2 bt920.1 bt920.2 bt930.1 bt930.2 bt940.1 bt940.2)))))))))))
theorem regattalaw03_RatioSums.mono_l : ∀ k, (∀ y0 y1 y2 y3 y4 y5 y6 y7 y8 y9, LeO (regattalaw03_RatioSums.j0 k y0 y1 y2 y3 y4 y5 y6 y7 y8 y9) (regattalaw03_RatioSums.j0 (k + 1) y0 y1 y2 y3 y4 y5 y6 y7 y8 y9))
  | 0 => fun _ _ _ _ _ _ _ _ _ _ r h => by simp [regattalaw03_RatioSums.j0] at h
  | k + 1 => by
    have ih0 := regattalaw03_RatioSums.mono_l k
    · intro y0 y1 y2 y3 y4 y5 y6 y7 y8 y9
      unfold regattalaw03_RatioSums.j0
      repeat' first
      | (with_reducible exact ih0 _ _ _ _ _ _ _ _ _ _)
      | (with_reducible exact ratio_Add.mono _ _ _ _ _)
      | (with_reducible exact ratio_Cmp.mono _ _ _ _ _)
      | (with_reducible exact ratio_Sub.mono _ _ _ _ _)
      | (with_reducible exact ratio_Sum.mono _ _)
      | (with_reducible exact regattalaw03_awake.mono _)
      | (with_reducible exact regattalaw03_weights.mono _ _)
      | (with_reducible exact regattaref03_Cmp.mono _ _ _ _ _)
      | (with_reducible exact regattaref03_Plus.mono _ _ _ _ _)
      | (with_reducible exact regattaref03_Sum.mono _ _)
      | (with_reducible exact LeO.refl _)
      | (with_reducible exact LeO.none _)
      | (with_reducible refine LeO.ite ?_ ?_)
      | (with_reducible refine LeO.bind ?_ (fun _ => ?_))
      | exact ih0 _ _ _ _ _ _ _ _ _ _
      | exact ratio_Add.mono _ _ _ _ _
      | exact ratio_Cmp.mono _ _ _ _ _
      | exact ratio_Sub.mono _ _ _ _ _
      | exact ratio_Sum.mono _ _
      | exact regattalaw03_awake.mono _
      | exact regattalaw03_weights.mono _ _
      | exact regattaref03_Cmp.mono _ _ _ _ _
      | exact regattaref03_Plus.mono _ _ _ _ _
      | exact regattaref03_Sum.mono _ _
      | exact LeO.none _
      | refine LeO.ite ?_ ?_
      | refine LeO.bind ?_ (fun _ => ?_)
theorem regattalaw03_RatioSums.mono : ∀ a0 a1 k, LeO (regattalaw03_RatioSums.f k a0 a1) (regattalaw03_RatioSums.f (k + 1) a0 a1) := by
  intro a0 a1 k
  have ih0 := regattalaw03_RatioSums.mono_l k
  unfold regattalaw03_RatioSums.f
  repeat' first
      | (with_reducible exact ih0 _ _ _ _ _ _ _ _ _ _)
      | (with_reducible exact ratio_Add.mono _ _ _ _ _)
      | (with_reducible exact ratio_Cmp.mono _ _ _ _ _)
      | (with_reducible exact ratio_Sub.mono _ _ _ _ _)
      | (with_reducible exact ratio_Sum.mono _ _)
      | (with_reducible exact regattalaw03_awake.mono _)
      | (with_reducible exact regattalaw03_weights.mono _ _)
      | (with_reducible exact regattaref03_Cmp.mono _ _ _ _ _)
      | (with_reducible exact regattaref03_Plus.mono _ _ _ _ _)
      | (with_reducible exact regattaref03_Sum.mono _ _)
      | (with_reducible exact LeO.refl _)
      | (with_reducible exact LeO.none _)
      | (with_reducible refine LeO.ite ?_ ?_)
      | (with_reducible refine LeO.bind ?_ (fun _ => ?_))
      | exact ih0 _ _ _ _ _ _ _ _ _ _
      | exact ratio_Add.mono _ _ _ _ _
      | exact ratio_Cmp.mono _ _ _ _ _
      | exact ratio_Sub.mono _ _ _ _ _
      | exact ratio_Sum.mono _ _
      | exact regattalaw03_awake.mono _
      | exact regattalaw03_weights.mono _ _
      | exact regattaref03_Cmp.mono _ _ _ _ _
      | exact regattaref03_Plus.mono _ _ _ _ _
      | exact regattaref03_Sum.mono _ _
      | exact LeO.none _
      | refine LeO.ite ?_ ?_
      | refine LeO.bind ?_ (fun _ => ?_)
def regattalaw03_RatioSums.T6 : Bool × List (List Nat × List Nat) := (true, [([], []), ([0], [0]), ([1], [1]), ([2, 1], [2]), ([3], [3]), ([4, 3, 3], [3, 4]), ([5, 3], [3, 5]), ([3, 6], [3, 6]), ([7, 5], [7]), ([8], [8]), ([8], [8]), ([9, 10, 8, 8], [8, 9, 10]), ([11, 8], [8, 11]), ([8, 12], [8, 12]), ([13, 11], [13]), ([14], [14]), ([14], [14]), ([15, 16, 14, 14], [14, 15, 16]), ([17, 14], [14, 17]), ([14, 18], [14, 18]), ([19, 17], [19]), ([20], [20]), ([20], [20]), ([21, 22, 20, 20], [20, 21, 22]), ([20], [20]), ([20], [20]), ([24, 25, 23, 20], [20, 24, 25]), ([23, 26, 20], [20, 23, 26]), ([20, 27], [20, 27])])
def regattalaw03_RatioSums.B6 : List Nat := [0, 1, 3, 7, 15, 31, 63, 127, 255, 511, 511, 2047, 4095, 8191, 16383, 32767, 32767, 131071, 262143, 524287, 1048575, 2097151, 2097151, 8388607, 2097151, 2097151, 67108863, 134217727, 268435455]
theorem regattalaw03_RatioSums.tab6 : rtab .any (opsOf Try.f10 6) = regattalaw03_RatioSums.T6 := by kernel_rfl
theorem regattalaw03_RatioSums.bits6 : waitsOk regattalaw03_RatioSums.T6.2 regattalaw03_RatioSums.B6 = true := by kernel_rfl
def regattalaw03_RatioSums.T14 : Bool × List (List Nat × List Nat) := (true, [([], []), ([0], [0]), ([1], [1]), ([2, 1], [1, 2]), ([1, 3], [1, 3]), ([4, 1], [4]), ([5], [5]), ([5], [5]), ([6, 7, 5, 5], [5, 6, 7]), ([5], [5]), ([8, 9, 8, 5], [5, 8, 9]), ([10, 5], [5, 10]), ([5, 11], [5, 11]), ([12, 10], [12]), ([13], [13]), ([14, 13, 13], [13, 14]), ([13, 15], [13, 15]), ([16, 15, 0, 1, 2, 3, 4, 5, 6, 7, 8, 9, 10, 11, 12, 13, 14, 15, 16], [16])])
def regattalaw03_RatioSums.B14 : List Nat := [0, 1, 3, 7, 15, 31, 63, 63, 255, 63, 1023, 2047, 4095, 8191, 16383, 32767, 65535, 131071]
theorem regattalaw03_RatioSums.tab14 : rtab .any (opsOf Try.f10 14) = regattalaw03_RatioSums.T14 := by kernel_rfl
theorem regattalaw03_RatioSums.bits14 : waitsOk regattalaw03_RatioSums.T14.2 regattalaw03_RatioSums.B14 = true := by kernel_rfl
/-- v is the ratio of two numbers, readable at W. -/
def RV (W : World) (x y : Value) (a b : List Int) : Prop :=
  (∃ A c, x = .slice A a.length c ∧ a.length ≤ c ∧ Kd.C (Kd.int .u32) W A a.length a) ∧ ∃ A c, y = .slice A b.length c ∧ b.length ≤ c ∧ Kd.C (Kd.int .u32) W A b.length b
theorem RV.below {W W' : World} {x y : Value} {a b : List Int} (h : RV W x y a b) (hb : Below W.heap.size W W') : RV W' x y a b := by
  obtain ⟨⟨A, c, e1, h1, h2⟩, A', c', e3, h3, h4⟩ := h
  exact ⟨⟨A, c, e1, h1, Kd.C_below h2 hb⟩, A', c', e3, h3, Kd.C_below h4 hb⟩
theorem RV.shape {W : World} {x y : Value} {a b : List Int} (h : RV W x y a b) : ∃ A c A' c', x = .slice A a.length c ∧ y = .slice A' b.length c' := by
  obtain ⟨⟨A, c, e1, _⟩, A', c', e3, _⟩ := h
  exact ⟨A, c, A', c', e1, e3⟩
theorem RV.ofV {W : World} {x y : Value} {a b : List Int} {e e' base base' : Nat} {ok ok' : Nat → Prop} (h1 : Kd.V (Kd.int .u32) e W base ok x a) (h2 : Kd.V (Kd.int .u32) e' W base' ok' y b) : RV W x y a b := by
  obtain ⟨A, c, rfl⟩ := Kd.V_slice h1
  obtain ⟨A', c', rfl⟩ := Kd.V_slice h2
  exact ⟨⟨A, c, rfl, (Kd.V_reads' h1).2.1, (Kd.V_reads' h1).2.2⟩, A', c', rfl, (Kd.V_reads' h2).2.1, (Kd.V_reads' h2).2.2⟩
theorem RV.ofR {W : World} {x y : Value} {a b : List Int} {e e' base base' : Nat} {ok ok' : Nat → Prop} (h1 : Kd.R (Kd.int .u32) e W base ok x a) (h2 : Kd.R (Kd.int .u32) e' W base' ok' y b) : RV W x y a b := by
  obtain ⟨A, c, rfl⟩ := Kd.R_slice h1
  obtain ⟨A', c', rfl⟩ := Kd.R_slice h2
  exact ⟨⟨A, c, rfl, (Kd.R_reads' h1).2.1, (Kd.R_reads' h1).2.2⟩, A', c', rfl, (Kd.R_reads' h2).2.1, (Kd.R_reads' h2).2.2⟩
theorem check_rv {W : World} {x y : Value} {a b : List Int} {r : Bool} (h : RV W x y a b) (hf : ratio_Check.f a b = some r) :
    Calls Try.prog 37 #[.agg #[x, y]] W fun e w' => e = .returned (.bool r) ∧ Below W.heap.size W w' := by
  obtain ⟨⟨A, c, rfl, h1, h2⟩, A', c', rfl, h3, h4⟩ := h
  exact ratio_Check.calls A c a A' c' b r W h2 h1 h4 h3 hf
theorem rcmp_rv {k : Nat} {W : World} {x y u v : Value} {a b c d : List Int} {r : Int} (h : RV W x y a b) (g : RV W u v c d) (hf : regattaref03_Cmp.f k a b c d = some r) :
    Calls Try.prog 39 #[.agg #[x, y], .agg #[u, v]] W fun e w' => e = .returned (.int .i64 r) ∧ Below W.heap.size W w' := by
  obtain ⟨⟨A1, c1, rfl, p1, q1⟩, A2, c2, rfl, p2, q2⟩ := h
  obtain ⟨⟨A3, c3, rfl, p3, q3⟩, A4, c4, rfl, p4, q4⟩ := g
  exact regattaref03_Cmp.calls k A1 c1 a A2 c2 b A3 c3 c A4 c4 d r W q1 p1 q2 p2 q3 p3 q4 p4 hf
theorem cmp_rv {k : Nat} {W : World} {x y u v : Value} {a b c d : List Int} {r : Int} (h : RV W x y a b) (g : RV W u v c d) (hf : ratio_Cmp.f k a b c d = some r) :
    Calls Try.prog 44 #[.agg #[x, y], .agg #[u, v]] W fun e w' => e = .returned (.int .i64 r) ∧ Below W.heap.size W w' := by
  obtain ⟨⟨A1, c1, rfl, p1, q1⟩, A2, c2, rfl, p2, q2⟩ := h
  obtain ⟨⟨A3, c3, rfl, p3, q3⟩, A4, c4, rfl, p4, q4⟩ := g
  exact ratio_Cmp.calls k A1 c1 a A2 c2 b A3 c3 c A4 c4 d r W q1 p1 q2 p2 q3 p3 q4 p4 hf
theorem add_rv {k : Nat} {W : World} {x y u v : Value} {a b c d r1 r2 : List Int} (h : RV W x y a b) (g : RV W u v c d) (hf : ratio_Add.f k a b c d = some (r1, r2)) :
    Calls Try.prog 45 #[.agg #[x, y], .agg #[u, v]] W fun e w' => ∃ p q : Value, e = .returned (.agg #[p, q]) ∧ RV w' p q r1 r2 ∧ Below W.heap.size W w' := by
  obtain ⟨⟨A1, c1, rfl, p1, q1⟩, A2, c2, rfl, p2, q2⟩ := h
  obtain ⟨⟨A3, c3, rfl, p3, q3⟩, A4, c4, rfl, p4, q4⟩ := g
  exact (ratio_Add.calls k A1 c1 a A2 c2 b A3 c3 c A4 c4 d r1 r2 W q1 p1 q2 p2 q3 p3 q4 p4 hf).mono fun e w' ⟨p, q, he, h1, h2, hb⟩ => ⟨p, q, he, RV.ofV h1 h2, hb⟩
theorem sub_rv {k : Nat} {W : World} {x y u v : Value} {a b c d r1 r2 : List Int} {r3 : Int} (h : RV W x y a b) (g : RV W u v c d) (hf : ratio_Sub.f k a b c d = some (r1, r2, r3)) :
    Calls Try.prog 47 #[.agg #[x, y], .agg #[u, v]] W fun e w' => ∃ p q : Value, e = .returned (.tuple #[.agg #[p, q], .int .i64 r3]) ∧ RV w' p q r1 r2 ∧ Below W.heap.size W w' := by
  obtain ⟨⟨A1, c1, rfl, p1, q1⟩, A2, c2, rfl, p2, q2⟩ := h
  obtain ⟨⟨A3, c3, rfl, p3, q3⟩, A4, c4, rfl, p4, q4⟩ := g
  exact (ratio_Sub.calls k A1 c1 a A2 c2 b A3 c3 c A4 c4 d r1 r2 r3 W q1 p1 q2 p2 q3 p3 q4 p4 hf).mono fun e w' ⟨p, q, he, h1, h2, hb⟩ => ⟨p, q, he, RV.ofV h1 h2, hb⟩
theorem plus_rv {k : Nat} {W : World} {x y u v : Value} {a b c d r1 r2 : List Int} (h : RV W x y a b) (g : RV W u v c d) (hf : regattaref03_Plus.f k a b c d = some (r1, r2)) :
    Calls Try.prog 48 #[.agg #[x, y], .agg #[u, v]] W fun e w' => ∃ p q : Value, e = .returned (.agg #[p, q]) ∧ RV w' p q r1 r2 ∧ Below W.heap.size W w' := by
  obtain ⟨⟨A1, c1, rfl, p1, q1⟩, A2, c2, rfl, p2, q2⟩ := h
  obtain ⟨⟨A3, c3, rfl, p3, q3⟩, A4, c4, rfl, p4, q4⟩ := g
  exact (regattaref03_Plus.calls k A1 c1 a A2 c2 b A3 c3 c A4 c4 d r1 r2 W q1 p1 q2 p2 q3 p3 q4 p4 hf).mono fun e w' ⟨p, q, he, h1, h2, hb⟩ => ⟨p, q, he, RV.ofR h1 h2, hb⟩
theorem weights_rv {k : Nat} {W : World} {A : Option Addr} {c : Nat} {l : List S55} {r : List S57} (hr : Kd.C k55 W A l.length l) (hc : l.length ≤ c) (hf : regattalaw03_weights.f k l = some r) :
    Calls Try.prog 36 #[.slice A l.length c] W fun e w' => ∃ (A' : Option Addr) (c' : Nat), e = .returned (.slice A' r.length c') ∧ (r.length ≤ c' ∧ Kd.C k57 w' A' r.length r) ∧ Below W.heap.size W w' :=
  (regattalaw03_weights.calls k A c l r W hr hc hf).mono fun e w' ⟨v, he, h1, hb⟩ => by
    obtain ⟨A', c', rfl⟩ := Kd.R_slice h1
    exact ⟨A', c', he, (Kd.R_reads' h1).2, hb⟩
theorem sum_rv {k : Nat} {W : World} {A : Option Addr} {c : Nat} {l : List S57} {r1 r2 : List Int} (h : l.length ≤ c ∧ Kd.C k57 W A l.length l) (hf : ratio_Sum.f k l = some (r1, r2)) :
    Calls Try.prog 42 #[.slice A l.length c] W fun e w' => ∃ p q : Value, e = .returned (.agg #[p, q]) ∧ RV w' p q r1 r2 ∧ Below W.heap.size W w' :=
  (ratio_Sum.calls k A c l r1 r2 W h.2 h.1 hf).mono fun e w' ⟨p, q, he, h1, h2, hb⟩ => ⟨p, q, he, RV.ofV h1 h2, hb⟩
theorem rsum_rv {k : Nat} {W : World} {A : Option Addr} {c : Nat} {l : List S57} {r1 r2 : List Int} (h : l.length ≤ c ∧ Kd.C k57 W A l.length l) (hf : regattaref03_Sum.f k l = some (r1, r2)) :
    Calls Try.prog 46 #[.slice A l.length c] W fun e w' => ∃ p q : Value, e = .returned (.agg #[p, q]) ∧ RV w' p q r1 r2 ∧ Below W.heap.size W w' :=
  (regattaref03_Sum.calls k A c l r1 r2 W h.2 h.1 hf).mono fun e w' ⟨p, q, he, h1, h2, hb⟩ => ⟨p, q, he, RV.ofR h1 h2, hb⟩
/-- A box: where it lies, its two cells, its two numbers. -/
structure Box where
  g : Nat
  x : Value
  y : Value
  a : List Int
  b : List Int
/-- The world of a law over ratios: nothing old has been written, the boxes hold their ratios. -/
structure St (w W : World) (bs : List Box) : Prop where
  k : Below w.heap.size w W
  m : ∀ q ∈ bs, MBlk W q.g 45 #[q.x, q.y]
  v : ∀ q ∈ bs, RV W q.x q.y q.a q.b
theorem St.start (w : World) : St w w [] := ⟨Below.refl _ _, by simp, by simp⟩
theorem St.next {w W W' : World} {bs : List Box} (h : St w W bs) (hb : Below W.heap.size W W') : St w W' bs :=
  ⟨below_step h.k hb, fun q hq => (hb.block _ (mblk_lt (h.m q hq))).trans (h.m q hq), fun q hq => (h.v q hq).below hb⟩
theorem St.drew {w W : World} {bs : List Box} (h : St w W bs) : St w W.drew bs := h.next (Below.refl _ _).drew
theorem St.push {w W : World} {bs : List Box} {x y : Value} {a b : List Int} (h : St w W bs) (hv : RV W x y a b) : St w (W.alloc (.cells #[x, y] 45)) (⟨W.heap.size, x, y, a, b⟩ :: bs) := by
  have hb : Below W.heap.size W (W.alloc (.cells #[x, y] 45)) := below_alloc (Below.refl _ _) _
  have hn := h.next hb
  refine ⟨hn.k, fun q hq => ?_, fun q hq => ?_⟩
  · rcases List.mem_cons.1 hq with rfl | hq
    · exact mblk_new W 45 #[x, y]
    · exact hn.m q hq
  · rcases List.mem_cons.1 hq with rfl | hq
    · exact hv.below hb
    · exact hn.v q hq

theorem sums_no (k : Nat) (x : Bool) (a b c d e f g h : List Int) : regattalaw03_RatioSums.j0 k x true a b c d e f g h ≠ some true := by
  cases k with
  | zero => simp [regattalaw03_RatioSums.j0]
  | succ k => rw [regattalaw03_RatioSums.j0, if_pos rfl]; simp
theorem sums_yes (k : Nat) (up : Bool) (sa sb ta tb xa xb ya yb : List Int) (h : regattalaw03_RatioSums.j0 k up false sa sb ta tb xa xb ya yb = some true) :
    ∃ (k' : Nat) (ssa ssb da db : List Int) (e : Int) (pa pb : List Int) (cxy : Int), ratio_Add.f k' sa sb ta tb = some (ssa, ssb) ∧ ratio_Sub.f k' sa sb ta tb = some (da, db, e) ∧ regattaref03_Plus.f k' xa xb ya yb = some (pa, pb) ∧ regattaref03_Cmp.f k' ssa ssb pa pb = some 0 ∧ regattaref03_Cmp.f k' xa xb ya yb = some cxy ∧ up = true ∧
      (cxy < 0 ∧ e = 16 ∨ ¬ cxy < 0 ∧ e = 0 ∧ ∃ qa qb : List Int, regattaref03_Plus.f k' da db ya yb = some (qa, qb) ∧ regattaref03_Cmp.f k' qa qb xa xb = some 0 ∧ ratio_Check.f ssa ssb = some true) := by
  cases k with
  | zero => simp [regattalaw03_RatioSums.j0] at h
  | succ k =>
    rw [regattalaw03_RatioSums.j0, if_neg (by decide)] at h
    obtain ⟨⟨ssa, ssb⟩, p1, h⟩ := Option.bind_eq_some_iff.1 h
    obtain ⟨⟨da, db, e⟩, p2, h⟩ := Option.bind_eq_some_iff.1 h
    obtain ⟨⟨pa, pb⟩, p3, h⟩ := Option.bind_eq_some_iff.1 h
    obtain ⟨c1, p4, h⟩ := Option.bind_eq_some_iff.1 h
    dsimp only at *
    by_cases e1 : c1 = 0
    case neg => rw [if_neg e1] at h; simp at h
    subst e1
    rw [if_pos rfl] at h
    obtain ⟨cxy, p5, h⟩ := Option.bind_eq_some_iff.1 h
    by_cases hlt : cxy < 0
    · rw [if_pos hlt] at h
      cases up with
      | false => rw [if_neg (by decide)] at h; simp at h
      | true =>
        rw [if_pos rfl] at h
        exact ⟨k, ssa, ssb, da, db, e, pa, pb, cxy, p1, p2, p3, p4, p5, rfl, Or.inl ⟨hlt, by simpa using h⟩⟩
    · rw [if_neg hlt] at h
      cases up with
      | false => rw [if_neg (by decide)] at h; simp at h
      | true =>
        rw [if_pos rfl] at h
        by_cases e2 : e = 0
        case neg => rw [if_neg e2] at h; simp at h
        rw [if_pos e2] at h
        obtain ⟨⟨qa, qb⟩, p6, h⟩ := Option.bind_eq_some_iff.1 h
        obtain ⟨c3, p7, h⟩ := Option.bind_eq_some_iff.1 h
        dsimp only at *
        by_cases e3 : c3 = 0
        case neg => rw [if_neg e3] at h; simp at h
        subst e3
        rw [if_pos rfl] at h
        obtain ⟨b, p8, h⟩ := Option.bind_eq_some_iff.1 h
        obtain rfl := Option.some.inj h
        exact ⟨k, ssa, ssb, da, db, e, pa, pb, cxy, p1, p2, p3, p4, p5, rfl, Or.inr ⟨hlt, e2, qa, qb, p6, p7, p8⟩⟩
set_option maxHeartbeats 8000000 in
set_option maxRecDepth 100000 in
theorem regattalaw03_RatioSums.calls (k : Nat) (A0 : Option Addr) (c0 : Nat) (l0 : List (S55)) (A1 : Option Addr) (c1 : Nat) (l1 : List (S55)) (r : Bool) (w : World) (hr_ : Aside0 (r = true)) (hr0 : Kd.C k55 w A0 l0.length l0) (hc0 : l0.length ≤ c0) (hr1 : Kd.C k55 w A1 l1.length l1) (hc1 : l1.length ≤ c1) (h : regattalaw03_RatioSums.f k l0 l1 = some r) :
    Calls Try.prog 10 #[.slice A0 l0.length c0, .slice A1 l1.length c1] w fun e w' => e = .returned (.bool r) ∧ Below w.heap.size w w' := by
  obtain rfl := hr_.out
  unfold regattalaw03_RatioSums.f at h
  obtain ⟨up, a1, h⟩ := Option.bind_eq_some_iff.1 h
  obtain ⟨wl, a2, h⟩ := Option.bind_eq_some_iff.1 h
  obtain ⟨⟨sa, sb⟩, a3, h⟩ := Option.bind_eq_some_iff.1 h
  obtain ⟨wm, a4, h⟩ := Option.bind_eq_some_iff.1 h
  obtain ⟨⟨ta, tb⟩, a5, h⟩ := Option.bind_eq_some_iff.1 h
  obtain ⟨wl', a6, h⟩ := Option.bind_eq_some_iff.1 h
  obtain ⟨⟨xa, xb⟩, a7, h⟩ := Option.bind_eq_some_iff.1 h
  obtain ⟨wm', a8, h⟩ := Option.bind_eq_some_iff.1 h
  obtain ⟨⟨ya, yb⟩, a9, h⟩ := Option.bind_eq_some_iff.1 h
  obtain ⟨ca, b1, h⟩ := Option.bind_eq_some_iff.1 h
  dsimp only at *
  cases ca with
  | false => rw [if_neg (by decide)] at h; exact absurd h (sums_no _ _ _ _ _ _ _ _ _ _)
  | true =>
  rw [if_pos rfl] at h
  obtain ⟨cb, b2, h⟩ := Option.bind_eq_some_iff.1 h
  cases cb with
  | false => rw [if_neg (by decide)] at h; exact absurd h (sums_no _ _ _ _ _ _ _ _ _ _)
  | true =>
  rw [if_pos rfl] at h
  obtain ⟨c1_, b3, h⟩ := Option.bind_eq_some_iff.1 h
  by_cases e1 : c1_ = 0
  case neg => rw [if_neg e1] at h; exact absurd h (sums_no _ _ _ _ _ _ _ _ _ _)
  subst e1
  rw [if_pos rfl] at h
  obtain ⟨c2_, b4, h⟩ := Option.bind_eq_some_iff.1 h
  by_cases e2 : c2_ = 0
  case neg => rw [if_neg e2] at h; exact absurd h (sums_no _ _ _ _ _ _ _ _ _ _)
  subst e2
  rw [if_pos rfl] at h
  obtain ⟨c3_, b5, h⟩ := Option.bind_eq_some_iff.1 h
  obtain ⟨c4_, b6, h⟩ := Option.bind_eq_some_iff.1 h
  by_cases e3 : c3_ = c4_
  case neg => rw [show (c3_ != c4_) = true by simpa using e3] at h; exact absurd h (sums_no _ _ _ _ _ _ _ _ _ _)
  subst e3
  rw [show (c3_ != c3_) = false by simp] at h
  have P := Aside0.mk (And.intro a1 (And.intro a2 (And.intro a3 (And.intro a4 (And.intro a5 (And.intro a6 (And.intro a7 (And.intro a8 a9))))))))
  have B := Aside0.mk (And.intro b1 (And.intro b2 (And.intro b3 (And.intro b4 (And.intro b5 b6)))))
  obtain ⟨k', ssa, ssb, da, db, er, pa, pb, cxy, p1, p2, p3, p4, p5, rfl, p6⟩ := sums_yes _ _ _ _ _ _ _ _ _ _ h
  have H := Aside0.mk (And.intro p1 (And.intro p2 (And.intro p3 (And.intro p4 (And.intro p5 p6)))))
  clear p1 p2 p3 p4 p5 p6
  clear a1 a2 a3 a4 a5 a6 a7 a8 a9 b1 b2 b3 b4 b5 b6 h
  have R := Aside0.mk (And.intro hr0 (And.intro hc0 (And.intro hr1 hc1)))
  clear hr0 hc0 hr1 hc1
  have hu45 := Try.underlying45
  have mixed : Try.prog.follows Departure.mixedOrders = true := by kernel_rfl
  go_enter Try.func10, Try.ntmps10
  go_wp2_with fail
  refine (regattalaw03_awake.calls k true _ P.out.1).mono ?_
  rintro e w1 ⟨rfl, hb⟩
  have HS := Aside0.mk ((St.start w).next hb)
  clear hb
  go_wp2_with fail
  refine (weights_rv (Kd.C_below R.out.1 HS.out.k) R.out.2.1 P.out.2.1).mono ?_
  rintro e w2 ⟨A2, c2, rfl, hw, hb⟩
  have HS2 := Aside0.mk (HS.out.next hb)
  clear hb HS
  go_wp2_with fail
  refine (sum_rv hw P.out.2.2.1).mono ?_
  rintro e w3 ⟨x3, y3, rfl, hv, hb⟩
  obtain ⟨A3, c3, A3', c3', rfl, rfl⟩ := hv.shape
  have HS3 := Aside0.mk ((HS2.out.next hb).push hv)
  clear hb HS2 hv hw
  go_wp2_with fail
  generalize w3.alloc _ = v3 at HS3 ⊢
  generalize w3.heap.size = g3 at HS3 ⊢
  refine (weights_rv (Kd.C_below R.out.2.2.1 HS3.out.k) R.out.2.2.2 P.out.2.2.2.1).mono ?_
  rintro e w4 ⟨A4, c4, rfl, hw, hb⟩
  have HS4 := Aside0.mk (HS3.out.next hb)
  clear hb HS3
  go_wp2_with fail
  refine (sum_rv hw P.out.2.2.2.2.1).mono ?_
  rintro e w5 ⟨x5, y5, rfl, hv, hb⟩
  obtain ⟨A5, c5, A5', c5', rfl, rfl⟩ := hv.shape
  have HS5 := Aside0.mk ((HS4.out.next hb).push hv)
  clear hb HS4 hv hw
  go_wp2_with fail
  generalize w5.alloc _ = v5 at HS5 ⊢
  generalize w5.heap.size = g5 at HS5 ⊢
  refine (weights_rv (Kd.C_below R.out.1 HS5.out.k) R.out.2.1 P.out.2.2.2.2.2.1).mono ?_
  rintro e w6 ⟨A6, c6, rfl, hw, hb⟩
  have HS6 := Aside0.mk (HS5.out.next hb)
  clear hb HS5
  go_wp2_with fail
  refine (rsum_rv hw P.out.2.2.2.2.2.2.1).mono ?_
  rintro e w7 ⟨x7, y7, rfl, hv, hb⟩
  obtain ⟨A7, c7, A7', c7', rfl, rfl⟩ := hv.shape
  have HS7 := Aside0.mk ((HS6.out.next hb).push hv)
  clear hb HS6 hv hw
  go_wp2_with fail
  generalize w7.alloc _ = v7 at HS7 ⊢
  generalize w7.heap.size = g7 at HS7 ⊢
  refine (weights_rv (Kd.C_below R.out.2.2.1 HS7.out.k) R.out.2.2.2 P.out.2.2.2.2.2.2.2.1).mono ?_
  rintro e w8 ⟨A8, c8, rfl, hw, hb⟩
  have HS8 := Aside0.mk (HS7.out.next hb)
  clear hb HS7
  go_wp2_with fail
  refine (rsum_rv hw P.out.2.2.2.2.2.2.2.2).mono ?_
  rintro e w9 ⟨x9, y9, rfl, hv, hb⟩
  obtain ⟨A9, c9, A9', c9', rfl, rfl⟩ := hv.shape
  have HS9 := Aside0.mk ((HS8.out.next hb).push hv)
  clear hb HS8 hv hw
  go_wp2_with fail
  generalize w9.alloc _ = v9 at HS9 ⊢
  generalize w9.heap.size = g9 at HS9 ⊢
  have hcells : ∀ W', St w W' [⟨g9, .slice A9 ya.length c9, .slice A9' yb.length c9', ya, yb⟩, ⟨g7, .slice A7 xa.length c7, .slice A7' xb.length c7', xa, xb⟩, ⟨g5, .slice A5 ta.length c5, .slice A5' tb.length c5', ta, tb⟩, ⟨g3, .slice A3 sa.length c3, .slice A3' sb.length c3', sa, sb⟩] → W'.cell? ⟨g3, 0, none⟩ = some (.slice A3 sa.length c3) ∧ W'.cell? ⟨g3, 1, none⟩ = some (.slice A3' sb.length c3') ∧ W'.cell? ⟨g5, 0, none⟩ = some (.slice A5 ta.length c5) ∧ W'.cell? ⟨g5, 1, none⟩ = some (.slice A5' tb.length c5') ∧ W'.cell? ⟨g7, 0, none⟩ = some (.slice A7 xa.length c7) ∧ W'.cell? ⟨g7, 1, none⟩ = some (.slice A7' xb.length c7') ∧ W'.cell? ⟨g9, 0, none⟩ = some (.slice A9 ya.length c9) ∧ W'.cell? ⟨g9, 1, none⟩ = some (.slice A9' yb.length c9') := fun W' h => ⟨(mblk_cell (h.m _ (.tail _ (.tail _ (.tail _ (.head _))))) 0).trans rfl, (mblk_cell (h.m _ (.tail _ (.tail _ (.tail _ (.head _))))) 1).trans rfl, (mblk_cell (h.m _ (.tail _ (.tail _ (.head _)))) 0).trans rfl, (mblk_cell (h.m _ (.tail _ (.tail _ (.head _)))) 1).trans rfl, (mblk_cell (h.m _ (.tail _ (.head _))) 0).trans rfl, (mblk_cell (h.m _ (.tail _ (.head _))) 1).trans rfl, (mblk_cell (h.m _ (.head _)) 0).trans rfl, (mblk_cell (h.m _ (.head _)) 1).trans rfl⟩
  refine start_ (n := 29) (S := fun W' => W'.cell? ⟨g3, 0, none⟩ = some (.slice A3 sa.length c3) ∧ W'.cell? ⟨g3, 1, none⟩ = some (.slice A3' sb.length c3') ∧ W'.cell? ⟨g5, 0, none⟩ = some (.slice A5 ta.length c5) ∧ W'.cell? ⟨g5, 1, none⟩ = some (.slice A5' tb.length c5') ∧ W'.cell? ⟨g7, 0, none⟩ = some (.slice A7 xa.length c7) ∧ W'.cell? ⟨g7, 1, none⟩ = some (.slice A7' xb.length c7') ∧ W'.cell? ⟨g9, 0, none⟩ = some (.slice A9 ya.length c9) ∧ W'.cell? ⟨g9, 1, none⟩ = some (.slice A9' yb.length c9')) (ds := []) #[false, false, false, false, false, false, false, false, false, false, false, false, false, false, false, false, false, false, false, false, false, false, false, false, false, false, false, false, false] mixed rfl rfl (hcells _ HS9.out.drew) (fun hHeld => ?_); refine with_tabW regattalaw03_RatioSums.tab6 regattalaw03_RatioSums.bits6 (fun HT_ HW_ => ?_)
  have HS20 := Aside0.mk HS9.out.drew
  clear HS9
  generalize v9.drew = w20 at HS20 hHeld ⊢
  refine take_ (i := 0) (N := some 26) (v := ?_) (a' := ?_) #[true, false, false, false, false, false, false, false, false, false, false, false, false, false, false, false, false, false, false, false, false, false, false, false, false, false, false, false, false] rfl rfl (take_ofW HT_.out HW_.out (by kernel_rfl)) (fun _ _ _ h => h) (Or.inl ⟨by rfl, ?_⟩) hHeld ?_ ?_
  rotate_left
  · rintro w' ⟨s0, s1, s2, s3, s4, s5, s6, s7⟩
    go_simp
    with_reducible rfl
  rotate_left
  · simp only [Act.put, List.setIfInBounds_toArray, List.set_cons_zero, List.set_cons_succ, i64_w, i32_w]
    rfl
  refine one_ (i := 1) (N := some 27) #[true, true, false, false, false, false, false, false, false, false, false, false, false, false, false, false, false, false, false, false, false, false, false, false, false, false, false, false, false] rfl rfl (one_of HT_.out (by kernel_rfl)) (by decide) (fun K hK => ?_)
  refine goes_ Try.func37 (by kernel_rfl) rfl #[.agg #[.slice A3 sa.length c3, .slice A3' sb.length c3']] (by rfl) rfl rfl (by (try simp only [List.map_toArray, List.map_cons, List.map_nil]); first | done | rfl) ?_
  refine (check_rv (HS20.out.v _ (.tail _ (.tail _ (.tail _ (.head _))))) B.out.1).mono ?_
  rintro e w20_1 ⟨rfl, hb⟩
  refine ⟨_, rfl, ?_⟩
  have HS20_1 := Aside0.mk (HS20.out.next hb)
  clear hb HS20
  refine hK.out _ _ (hcells _ HS20_1.out) (fun hHeld => ?_)
  clear hK K
  refine norm_ (a' := ?_) ?_ ?_
  rotate_left
  · show Act.put _ (some 27) _ = _
    simp only [Act.put, List.setIfInBounds_toArray, List.set_cons_zero, List.set_cons_succ, i64_w, i32_w]
    rfl
  refine pure_ (i := 2) (N := some 28) (v := ?_) (a' := ?_) #[true, true, true, false, false, false, false, false, false, false, false, false, false, false, false, false, false, false, false, false, false, false, false, false, false, false, false, false, false] rfl rfl (any_of HT_.out (by kernel_rfl)) (fun _ _ _ h => h) (Or.inl ⟨by rfl, ?_⟩) ?_ ?_
  rotate_left
  · intro w'
    go_simp
    with_reducible rfl
  rotate_left
  · simp only [Act.put, List.setIfInBounds_toArray, List.set_cons_zero, List.set_cons_succ, i64_w, i32_w]
    rfl
  refine pure_ (i := 3) (N := some 29) (v := ?_) (a' := ?_) #[true, true, true, true, false, false, false, false, false, false, false, false, false, false, false, false, false, false, false, false, false, false, false, false, false, false, false, false, false] rfl rfl (any_of HT_.out (by kernel_rfl)) (fun _ _ _ h => h) (Or.inl ⟨by rfl, ?_⟩) ?_ ?_
  rotate_left
  · intro w'
    go_simp
    with_reducible rfl
  rotate_left
  · simp only [Act.put, List.setIfInBounds_toArray, List.set_cons_zero, List.set_cons_succ, i64_w, i32_w]
    rfl
  refine take_ (i := 4) (N := some 30) (v := ?_) (a' := ?_) #[true, true, true, true, true, false, false, false, false, false, false, false, false, false, false, false, false, false, false, false, false, false, false, false, false, false, false, false, false] rfl rfl (take_ofW HT_.out HW_.out (by kernel_rfl)) (fun _ _ _ h => h) (Or.inl ⟨by rfl, ?_⟩) hHeld ?_ ?_
  rotate_left
  · rintro w' ⟨s0, s1, s2, s3, s4, s5, s6, s7⟩
    go_simp
    with_reducible rfl
  rotate_left
  · simp only [Act.put, List.setIfInBounds_toArray, List.set_cons_zero, List.set_cons_succ, i64_w, i32_w]
    rfl
  refine one_ (i := 5) (N := some 31) #[true, true, true, true, true, true, false, false, false, false, false, false, false, false, false, false, false, false, false, false, false, false, false, false, false, false, false, false, false] rfl rfl (one_of HT_.out (by kernel_rfl)) (by decide) (fun K hK => ?_)
  refine goes_ Try.func37 (by kernel_rfl) rfl #[.agg #[.slice A5 ta.length c5, .slice A5' tb.length c5']] (by rfl) rfl rfl (by (try simp only [List.map_toArray, List.map_cons, List.map_nil]); first | done | rfl) ?_
  refine (check_rv (HS20_1.out.v _ (.tail _ (.tail _ (.head _)))) B.out.2.1).mono ?_
  rintro e w20_2 ⟨rfl, hb⟩
  refine ⟨_, rfl, ?_⟩
  have HS20_2 := Aside0.mk (HS20_1.out.next hb)
  clear hb HS20_1
  refine hK.out _ _ (hcells _ HS20_2.out) (fun hHeld => ?_)
  clear hK K
  refine norm_ (a' := ?_) ?_ ?_
  rotate_left
  · show Act.put _ (some 31) _ = _
    simp only [Act.put, List.setIfInBounds_toArray, List.set_cons_zero, List.set_cons_succ, i64_w, i32_w]
    rfl
  refine pure_ (i := 6) (N := some 32) (v := ?_) (a' := ?_) #[true, true, true, true, true, true, true, false, false, false, false, false, false, false, false, false, false, false, false, false, false, false, false, false, false, false, false, false, false] rfl rfl (any_of HT_.out (by kernel_rfl)) (fun _ _ _ h => h) (Or.inl ⟨by rfl, ?_⟩) ?_ ?_
  rotate_left
  · intro w'
    go_simp
    with_reducible rfl
  rotate_left
  · simp only [Act.put, List.setIfInBounds_toArray, List.set_cons_zero, List.set_cons_succ, i64_w, i32_w]
    rfl
  refine pure_ (i := 7) (N := some 33) (v := ?_) (a' := ?_) #[true, true, true, true, true, true, true, true, false, false, false, false, false, false, false, false, false, false, false, false, false, false, false, false, false, false, false, false, false] rfl rfl (any_of HT_.out (by kernel_rfl)) (fun _ _ _ h => h) (Or.inl ⟨by rfl, ?_⟩) ?_ ?_
  rotate_left
  · intro w'
    go_simp
    with_reducible rfl
  rotate_left
  · simp only [Act.put, List.setIfInBounds_toArray, List.set_cons_zero, List.set_cons_succ, i64_w, i32_w]
    rfl
  refine pure_ (i := 8) (N := some 34) (v := ?_) (a' := ?_) #[true, true, true, true, true, true, true, true, true, false, false, false, false, false, false, false, false, false, false, false, false, false, false, false, false, false, false, false, false] rfl rfl (any_of HT_.out (by kernel_rfl)) (fun _ _ _ h => h) (Or.inl ⟨by rfl, ?_⟩) ?_ ?_
  rotate_left
  · intro w'
    go_simp
    with_reducible rfl
  rotate_left
  · simp only [Act.put, List.setIfInBounds_toArray, List.set_cons_zero, List.set_cons_succ, i64_w, i32_w]
    rfl
  refine take_ (i := 9) (N := some 35) (v := ?_) (a' := ?_) #[true, true, true, true, true, true, true, true, true, true, false, false, false, false, false, false, false, false, false, false, false, false, false, false, false, false, false, false, false] rfl rfl (take_ofW HT_.out HW_.out (by kernel_rfl)) (fun _ _ _ h => h) (Or.inl ⟨by rfl, ?_⟩) hHeld ?_ ?_
  rotate_left
  · rintro w' ⟨s0, s1, s2, s3, s4, s5, s6, s7⟩
    go_simp
    with_reducible rfl
  rotate_left
  · simp only [Act.put, List.setIfInBounds_toArray, List.set_cons_zero, List.set_cons_succ, i64_w, i32_w]
    rfl
  refine take_ (i := 10) (N := some 36) (v := ?_) (a' := ?_) #[true, true, true, true, true, true, true, true, true, true, true, false, false, false, false, false, false, false, false, false, false, false, false, false, false, false, false, false, false] rfl rfl (take_ofW HT_.out HW_.out (by kernel_rfl)) (fun _ _ _ h => h) (Or.inl ⟨by rfl, ?_⟩) hHeld ?_ ?_
  rotate_left
  · rintro w' ⟨s0, s1, s2, s3, s4, s5, s6, s7⟩
    go_simp
    with_reducible rfl
  rotate_left
  · simp only [Act.put, List.setIfInBounds_toArray, List.set_cons_zero, List.set_cons_succ, i64_w, i32_w]
    rfl
  refine one_ (i := 11) (N := some 37) #[true, true, true, true, true, true, true, true, true, true, true, true, false, false, false, false, false, false, false, false, false, false, false, false, false, false, false, false, false] rfl rfl (one_of HT_.out (by kernel_rfl)) (by decide) (fun K hK => ?_)
  refine goes_ Try.func39 (by kernel_rfl) rfl #[.agg #[.slice A3 sa.length c3, .slice A3' sb.length c3'], .agg #[.slice A7 xa.length c7, .slice A7' xb.length c7']] (by rfl) rfl rfl (by (try simp only [List.map_toArray, List.map_cons, List.map_nil]); first | done | rfl) ?_
  refine (rcmp_rv (HS20_2.out.v _ (.tail _ (.tail _ (.tail _ (.head _))))) (HS20_2.out.v _ (.tail _ (.head _))) B.out.2.2.1).mono ?_
  rintro e w20_3 ⟨rfl, hb⟩
  refine ⟨_, rfl, ?_⟩
  have HS20_3 := Aside0.mk (HS20_2.out.next hb)
  clear hb HS20_2
  refine hK.out _ _ (hcells _ HS20_3.out) (fun hHeld => ?_)
  clear hK K
  refine norm_ (a' := ?_) ?_ ?_
  rotate_left
  · show Act.put _ (some 37) _ = _
    simp only [Act.put, List.setIfInBounds_toArray, List.set_cons_zero, List.set_cons_succ, i64_w, i32_w]
    rfl
  refine pure_ (i := 12) (N := some 38) (v := ?_) (a' := ?_) #[true, true, true, true, true, true, true, true, true, true, true, true, true, false, false, false, false, false, false, false, false, false, false, false, false, false, false, false, false] rfl rfl (any_of HT_.out (by kernel_rfl)) (fun _ _ _ h => h) (Or.inl ⟨by rfl, ?_⟩) ?_ ?_
  rotate_left
  · intro w'
    go_simp
    with_reducible rfl
  rotate_left
  · simp only [Act.put, List.setIfInBounds_toArray, List.set_cons_zero, List.set_cons_succ, i64_w, i32_w]
    rfl
  refine pure_ (i := 13) (N := some 39) (v := ?_) (a' := ?_) #[true, true, true, true, true, true, true, true, true, true, true, true, true, true, false, false, false, false, false, false, false, false, false, false, false, false, false, false, false] rfl rfl (any_of HT_.out (by kernel_rfl)) (fun _ _ _ h => h) (Or.inl ⟨by rfl, ?_⟩) ?_ ?_
  rotate_left
  · intro w'
    go_simp
    with_reducible rfl
  rotate_left
  · simp only [Act.put, List.setIfInBounds_toArray, List.set_cons_zero, List.set_cons_succ, i64_w, i32_w]
    rfl
  refine pure_ (i := 14) (N := some 40) (v := ?_) (a' := ?_) #[true, true, true, true, true, true, true, true, true, true, true, true, true, true, true, false, false, false, false, false, false, false, false, false, false, false, false, false, false] rfl rfl (any_of HT_.out (by kernel_rfl)) (fun _ _ _ h => h) (Or.inl ⟨by rfl, ?_⟩) ?_ ?_
  rotate_left
  · intro w'
    go_simp
    with_reducible rfl
  rotate_left
  · simp only [Act.put, List.setIfInBounds_toArray, List.set_cons_zero, List.set_cons_succ, i64_w, i32_w]
    rfl
  refine take_ (i := 15) (N := some 41) (v := ?_) (a' := ?_) #[true, true, true, true, true, true, true, true, true, true, true, true, true, true, true, true, false, false, false, false, false, false, false, false, false, false, false, false, false] rfl rfl (take_ofW HT_.out HW_.out (by kernel_rfl)) (fun _ _ _ h => h) (Or.inl ⟨by rfl, ?_⟩) hHeld ?_ ?_
  rotate_left
  · rintro w' ⟨s0, s1, s2, s3, s4, s5, s6, s7⟩
    go_simp
    with_reducible rfl
  rotate_left
  · simp only [Act.put, List.setIfInBounds_toArray, List.set_cons_zero, List.set_cons_succ, i64_w, i32_w]
    rfl
  refine take_ (i := 16) (N := some 42) (v := ?_) (a' := ?_) #[true, true, true, true, true, true, true, true, true, true, true, true, true, true, true, true, true, false, false, false, false, false, false, false, false, false, false, false, false] rfl rfl (take_ofW HT_.out HW_.out (by kernel_rfl)) (fun _ _ _ h => h) (Or.inl ⟨by rfl, ?_⟩) hHeld ?_ ?_
  rotate_left
  · rintro w' ⟨s0, s1, s2, s3, s4, s5, s6, s7⟩
    go_simp
    with_reducible rfl
  rotate_left
  · simp only [Act.put, List.setIfInBounds_toArray, List.set_cons_zero, List.set_cons_succ, i64_w, i32_w]
    rfl
  refine one_ (i := 17) (N := some 43) #[true, true, true, true, true, true, true, true, true, true, true, true, true, true, true, true, true, true, false, false, false, false, false, false, false, false, false, false, false] rfl rfl (one_of HT_.out (by kernel_rfl)) (by decide) (fun K hK => ?_)
  refine goes_ Try.func39 (by kernel_rfl) rfl #[.agg #[.slice A5 ta.length c5, .slice A5' tb.length c5'], .agg #[.slice A9 ya.length c9, .slice A9' yb.length c9']] (by rfl) rfl rfl (by (try simp only [List.map_toArray, List.map_cons, List.map_nil]); first | done | rfl) ?_
  refine (rcmp_rv (HS20_3.out.v _ (.tail _ (.tail _ (.head _)))) (HS20_3.out.v _ (.head _)) B.out.2.2.2.1).mono ?_
  rintro e w20_4 ⟨rfl, hb⟩
  refine ⟨_, rfl, ?_⟩
  have HS20_4 := Aside0.mk (HS20_3.out.next hb)
  clear hb HS20_3
  refine hK.out _ _ (hcells _ HS20_4.out) (fun hHeld => ?_)
  clear hK K
  refine norm_ (a' := ?_) ?_ ?_
  rotate_left
  · show Act.put _ (some 43) _ = _
    simp only [Act.put, List.setIfInBounds_toArray, List.set_cons_zero, List.set_cons_succ, i64_w, i32_w]
    rfl
  refine pure_ (i := 18) (N := some 44) (v := ?_) (a' := ?_) #[true, true, true, true, true, true, true, true, true, true, true, true, true, true, true, true, true, true, true, false, false, false, false, false, false, false, false, false, false] rfl rfl (any_of HT_.out (by kernel_rfl)) (fun _ _ _ h => h) (Or.inl ⟨by rfl, ?_⟩) ?_ ?_
  rotate_left
  · intro w'
    go_simp
    with_reducible rfl
  rotate_left
  · simp only [Act.put, List.setIfInBounds_toArray, List.set_cons_zero, List.set_cons_succ, i64_w, i32_w]
    rfl
  refine pure_ (i := 19) (N := some 45) (v := ?_) (a' := ?_) #[true, true, true, true, true, true, true, true, true, true, true, true, true, true, true, true, true, true, true, true, false, false, false, false, false, false, false, false, false] rfl rfl (any_of HT_.out (by kernel_rfl)) (fun _ _ _ h => h) (Or.inl ⟨by rfl, ?_⟩) ?_ ?_
  rotate_left
  · intro w'
    go_simp
    with_reducible rfl
  rotate_left
  · simp only [Act.put, List.setIfInBounds_toArray, List.set_cons_zero, List.set_cons_succ, i64_w, i32_w]
    rfl
  refine pure_ (i := 20) (N := some 46) (v := ?_) (a' := ?_) #[true, true, true, true, true, true, true, true, true, true, true, true, true, true, true, true, true, true, true, true, true, false, false, false, false, false, false, false, false] rfl rfl (any_of HT_.out (by kernel_rfl)) (fun _ _ _ h => h) (Or.inl ⟨by rfl, ?_⟩) ?_ ?_
  rotate_left
  · intro w'
    go_simp
    with_reducible rfl
  rotate_left
  · simp only [Act.put, List.setIfInBounds_toArray, List.set_cons_zero, List.set_cons_succ, i64_w, i32_w]
    rfl
  refine take_ (i := 21) (N := some 47) (v := ?_) (a' := ?_) #[true, true, true, true, true, true, true, true, true, true, true, true, true, true, true, true, true, true, true, true, true, true, false, false, false, false, false, false, false] rfl rfl (take_ofW HT_.out HW_.out (by kernel_rfl)) (fun _ _ _ h => h) (Or.inl ⟨by rfl, ?_⟩) hHeld ?_ ?_
  rotate_left
  · rintro w' ⟨s0, s1, s2, s3, s4, s5, s6, s7⟩
    go_simp
    with_reducible rfl
  rotate_left
  · simp only [Act.put, List.setIfInBounds_toArray, List.set_cons_zero, List.set_cons_succ, i64_w, i32_w]
    rfl
  refine take_ (i := 22) (N := some 48) (v := ?_) (a' := ?_) #[true, true, true, true, true, true, true, true, true, true, true, true, true, true, true, true, true, true, true, true, true, true, true, false, false, false, false, false, false] rfl rfl (take_ofW HT_.out HW_.out (by kernel_rfl)) (fun _ _ _ h => h) (Or.inl ⟨by rfl, ?_⟩) hHeld ?_ ?_
  rotate_left
  · rintro w' ⟨s0, s1, s2, s3, s4, s5, s6, s7⟩
    go_simp
    with_reducible rfl
  rotate_left
  · simp only [Act.put, List.setIfInBounds_toArray, List.set_cons_zero, List.set_cons_succ, i64_w, i32_w]
    rfl
  refine take_ (i := 24) (N := some 50) (v := ?_) (a' := ?_) #[true, true, true, true, true, true, true, true, true, true, true, true, true, true, true, true, true, true, true, true, true, true, true, false, true, false, false, false, false] rfl rfl (take_ofW HT_.out HW_.out (by kernel_rfl)) (fun _ _ _ h => h) (Or.inl ⟨by rfl, ?_⟩) hHeld ?_ ?_
  rotate_left
  · rintro w' ⟨s0, s1, s2, s3, s4, s5, s6, s7⟩
    go_simp
    with_reducible rfl
  rotate_left
  · simp only [Act.put, List.setIfInBounds_toArray, List.set_cons_zero, List.set_cons_succ, i64_w, i32_w]
    rfl
  refine take_ (i := 25) (N := some 51) (v := ?_) (a' := ?_) #[true, true, true, true, true, true, true, true, true, true, true, true, true, true, true, true, true, true, true, true, true, true, true, false, true, true, false, false, false] rfl rfl (take_ofW HT_.out HW_.out (by kernel_rfl)) (fun _ _ _ h => h) (Or.inl ⟨by rfl, ?_⟩) hHeld ?_ ?_
  rotate_left
  · rintro w' ⟨s0, s1, s2, s3, s4, s5, s6, s7⟩
    go_simp
    with_reducible rfl
  rotate_left
  · simp only [Act.put, List.setIfInBounds_toArray, List.set_cons_zero, List.set_cons_succ, i64_w, i32_w]
    rfl
  refine one_ (i := 23) (N := some 49) #[true, true, true, true, true, true, true, true, true, true, true, true, true, true, true, true, true, true, true, true, true, true, true, true, true, true, false, false, false] rfl rfl (one_of HT_.out (by kernel_rfl)) (by decide) (fun K hK => ?_)
  refine goes_ Try.func44 (by kernel_rfl) rfl #[.agg #[.slice A3 sa.length c3, .slice A3' sb.length c3'], .agg #[.slice A5 ta.length c5, .slice A5' tb.length c5']] (by rfl) rfl rfl (by (try simp only [List.map_toArray, List.map_cons, List.map_nil]); first | done | rfl) ?_
  refine (cmp_rv (HS20_4.out.v _ (.tail _ (.tail _ (.tail _ (.head _))))) (HS20_4.out.v _ (.tail _ (.tail _ (.head _)))) B.out.2.2.2.2.1).mono ?_
  rintro e w20_5 ⟨rfl, hb⟩
  refine ⟨_, rfl, ?_⟩
  have HS20_5 := Aside0.mk (HS20_4.out.next hb)
  clear hb HS20_4
  refine hK.out _ _ (hcells _ HS20_5.out) (fun hHeld => ?_)
  clear hK K
  refine norm_ (a' := ?_) ?_ ?_
  rotate_left
  · show Act.put _ (some 49) _ = _
    simp only [Act.put, List.setIfInBounds_toArray, List.set_cons_zero, List.set_cons_succ, i64_w, i32_w]
    rfl
  refine one_ (i := 26) (N := some 52) #[true, true, true, true, true, true, true, true, true, true, true, true, true, true, true, true, true, true, true, true, true, true, true, true, true, true, true, false, false] rfl rfl (one_of HT_.out (by kernel_rfl)) (by decide) (fun K hK => ?_)
  refine goes_ Try.func39 (by kernel_rfl) rfl #[.agg #[.slice A7 xa.length c7, .slice A7' xb.length c7'], .agg #[.slice A9 ya.length c9, .slice A9' yb.length c9']] (by rfl) rfl rfl (by (try simp only [List.map_toArray, List.map_cons, List.map_nil]); first | done | rfl) ?_
  refine (rcmp_rv (HS20_5.out.v _ (.tail _ (.head _))) (HS20_5.out.v _ (.head _)) B.out.2.2.2.2.2).mono ?_
  rintro e w20_6 ⟨rfl, hb⟩
  refine ⟨_, rfl, ?_⟩
  have HS20_6 := Aside0.mk (HS20_5.out.next hb)
  clear hb HS20_5
  refine hK.out _ _ (hcells _ HS20_6.out) (fun hHeld => ?_)
  clear hK K
  refine norm_ (a' := ?_) ?_ ?_
  rotate_left
  · show Act.put _ (some 52) _ = _
    simp only [Act.put, List.setIfInBounds_toArray, List.set_cons_zero, List.set_cons_succ, i64_w, i32_w]
    rfl
  refine pure_ (i := 27) (N := some 53) (v := ?_) (a' := ?_) #[true, true, true, true, true, true, true, true, true, true, true, true, true, true, true, true, true, true, true, true, true, true, true, true, true, true, true, true, false] rfl rfl (any_of HT_.out (by kernel_rfl)) (fun _ _ _ h => h) (Or.inl ⟨by rfl, ?_⟩) ?_ ?_
  rotate_left
  · intro w'
    go_simp
    with_reducible rfl
  rotate_left
  · simp only [Act.put, List.setIfInBounds_toArray, List.set_cons_zero, List.set_cons_succ, i64_w, i32_w]
    rfl
  refine pure_ (i := 28) (N := some 54) (v := ?_) (a' := ?_) #[true, true, true, true, true, true, true, true, true, true, true, true, true, true, true, true, true, true, true, true, true, true, true, true, true, true, true, true, true] rfl rfl (any_of HT_.out (by kernel_rfl)) (fun _ _ _ h => h) (Or.inl ⟨by rfl, ?_⟩) ?_ ?_
  rotate_left
  · intro w'
    go_simp
    with_reducible rfl
  rotate_left
  · simp only [Act.put, List.setIfInBounds_toArray, List.set_cons_zero, List.set_cons_succ, i64_w, i32_w]
    rfl
  refine done_ (done_of HT_.out (by kernel_rfl)) ?_
  clear hcells hHeld HT_ HW_
  have hca0 : w20_6.cell? ⟨g3, 0, none⟩ = some (.slice A3 sa.length c3) := (mblk_cell (HS20_6.out.m _ (.tail _ (.tail _ (.tail _ (.head _))))) 0).trans rfl
  have hca1 : w20_6.cell? ⟨g3, 1, none⟩ = some (.slice A3' sb.length c3') := (mblk_cell (HS20_6.out.m _ (.tail _ (.tail _ (.tail _ (.head _))))) 1).trans rfl
  have hcb0 : w20_6.cell? ⟨g5, 0, none⟩ = some (.slice A5 ta.length c5) := (mblk_cell (HS20_6.out.m _ (.tail _ (.tail _ (.head _)))) 0).trans rfl
  have hcb1 : w20_6.cell? ⟨g5, 1, none⟩ = some (.slice A5' tb.length c5') := (mblk_cell (HS20_6.out.m _ (.tail _ (.tail _ (.head _)))) 1).trans rfl
  go_wp2_with fail
  refine (add_rv (HS20_6.out.v _ (.tail _ (.tail _ (.tail _ (.head _))))) (HS20_6.out.v _ (.tail _ (.tail _ (.head _)))) H.out.1).mono ?_
  rintro e w30 ⟨xs, ys, rfl, hv, hb⟩
  obtain ⟨As, cs, As', cs', rfl, rfl⟩ := hv.shape
  have HS30 := Aside0.mk ((HS20_6.out.next hb).push hv)
  clear hb hv HS20_6
  clear hca0 hca1 hcb0 hcb1
  go_upto_region 9 with (fail)
  generalize w30.alloc _ = v30 at HS30 ⊢
  generalize w30.heap.size = gs at HS30 ⊢
  have hca0 : v30.cell? ⟨g3, 0, none⟩ = some (.slice A3 sa.length c3) := (mblk_cell (HS30.out.m _ (.tail _ (.tail _ (.tail _ (.tail _ (.head _)))))) 0).trans rfl
  have hca1 : v30.cell? ⟨g3, 1, none⟩ = some (.slice A3' sb.length c3') := (mblk_cell (HS30.out.m _ (.tail _ (.tail _ (.tail _ (.tail _ (.head _)))))) 1).trans rfl
  have hcb0 : v30.cell? ⟨g5, 0, none⟩ = some (.slice A5 ta.length c5) := (mblk_cell (HS30.out.m _ (.tail _ (.tail _ (.tail _ (.head _))))) 0).trans rfl
  have hcb1 : v30.cell? ⟨g5, 1, none⟩ = some (.slice A5' tb.length c5') := (mblk_cell (HS30.out.m _ (.tail _ (.tail _ (.tail _ (.head _))))) 1).trans rfl
  go_wp2_with fail
  refine (sub_rv (HS30.out.v _ (.tail _ (.tail _ (.tail _ (.tail _ (.head _)))))) (HS30.out.v _ (.tail _ (.tail _ (.tail _ (.head _))))) H.out.2.1).mono ?_
  rintro e w31 ⟨xd, yd, rfl, hv, hb⟩
  obtain ⟨Ad, cd, Ad', cd', rfl, rfl⟩ := hv.shape
  have HS31 := Aside0.mk ((HS30.out.next hb).push hv)
  clear hb hv HS30
  clear hca0 hca1 hcb0 hcb1
  go_wp2_with fail
  generalize w31.alloc _ = v31 at HS31 ⊢
  generalize w31.heap.size = gd at HS31 ⊢
  have hcells : ∀ W', St w W' [⟨gd, .slice Ad da.length cd, .slice Ad' db.length cd', da, db⟩, ⟨gs, .slice As ssa.length cs, .slice As' ssb.length cs', ssa, ssb⟩, ⟨g9, .slice A9 ya.length c9, .slice A9' yb.length c9', ya, yb⟩, ⟨g7, .slice A7 xa.length c7, .slice A7' xb.length c7', xa, xb⟩, ⟨g5, .slice A5 ta.length c5, .slice A5' tb.length c5', ta, tb⟩, ⟨g3, .slice A3 sa.length c3, .slice A3' sb.length c3', sa, sb⟩] → W'.cell? ⟨gs, 0, none⟩ = some (.slice As ssa.length cs) ∧ W'.cell? ⟨gs, 1, none⟩ = some (.slice As' ssb.length cs') ∧ W'.cell? ⟨g7, 0, none⟩ = some (.slice A7 xa.length c7) ∧ W'.cell? ⟨g7, 1, none⟩ = some (.slice A7' xb.length c7') ∧ W'.cell? ⟨g9, 0, none⟩ = some (.slice A9 ya.length c9) ∧ W'.cell? ⟨g9, 1, none⟩ = some (.slice A9' yb.length c9') := fun W' h => ⟨(mblk_cell (h.m _ (.tail _ (.head _))) 0).trans rfl, (mblk_cell (h.m _ (.tail _ (.head _))) 1).trans rfl, (mblk_cell (h.m _ (.tail _ (.tail _ (.tail _ (.head _))))) 0).trans rfl, (mblk_cell (h.m _ (.tail _ (.tail _ (.tail _ (.head _))))) 1).trans rfl, (mblk_cell (h.m _ (.tail _ (.tail _ (.head _)))) 0).trans rfl, (mblk_cell (h.m _ (.tail _ (.tail _ (.head _)))) 1).trans rfl⟩
  refine start_ (n := 6) (S := fun W' => W'.cell? ⟨gs, 0, none⟩ = some (.slice As ssa.length cs) ∧ W'.cell? ⟨gs, 1, none⟩ = some (.slice As' ssb.length cs') ∧ W'.cell? ⟨g7, 0, none⟩ = some (.slice A7 xa.length c7) ∧ W'.cell? ⟨g7, 1, none⟩ = some (.slice A7' xb.length c7') ∧ W'.cell? ⟨g9, 0, none⟩ = some (.slice A9 ya.length c9) ∧ W'.cell? ⟨g9, 1, none⟩ = some (.slice A9' yb.length c9')) (ds := []) #[false, false, false, false, false, false] mixed rfl rfl (hcells _ HS31.out.drew) (fun hHeld => ?_)
  have HS40 := Aside0.mk HS31.out.drew
  clear HS31
  generalize v31.drew = w40 at HS40 hHeld ⊢
  refine take_ (i := 0) (N := some 64) (v := ?_) (a' := ?_) #[true, false, false, false, false, false] rfl rfl (by kernel_rfl) (fun _ _ _ h => h) (Or.inl ⟨by rfl, ?_⟩) hHeld ?_ ?_
  rotate_left
  · rintro w' ⟨s0, s1, s2, s3, s4, s5⟩
    go_simp
    with_reducible rfl
  rotate_left
  · simp only [Act.put, List.setIfInBounds_toArray, List.set_cons_zero, List.set_cons_succ, i64_w, i32_w]
    rfl
  refine take_ (i := 1) (N := some 65) (v := ?_) (a' := ?_) #[true, true, false, false, false, false] rfl rfl (by kernel_rfl) (fun _ _ _ h => h) (Or.inl ⟨by rfl, ?_⟩) hHeld ?_ ?_
  rotate_left
  · rintro w' ⟨s0, s1, s2, s3, s4, s5⟩
    go_simp
    with_reducible rfl
  rotate_left
  · simp only [Act.put, List.setIfInBounds_toArray, List.set_cons_zero, List.set_cons_succ, i64_w, i32_w]
    rfl
  refine take_ (i := 2) (N := some 66) (v := ?_) (a' := ?_) #[true, true, true, false, false, false] rfl rfl (by kernel_rfl) (fun _ _ _ h => h) (Or.inl ⟨by rfl, ?_⟩) hHeld ?_ ?_
  rotate_left
  · rintro w' ⟨s0, s1, s2, s3, s4, s5⟩
    go_simp
    with_reducible rfl
  rotate_left
  · simp only [Act.put, List.setIfInBounds_toArray, List.set_cons_zero, List.set_cons_succ, i64_w, i32_w]
    rfl
  refine one_ (i := 3) (N := some 67) #[true, true, true, true, false, false] rfl rfl (by kernel_rfl) (by decide) (fun K hK => ?_)
  refine goes_ Try.func48 (by kernel_rfl) rfl #[.agg #[.slice A7 xa.length c7, .slice A7' xb.length c7'], .agg #[.slice A9 ya.length c9, .slice A9' yb.length c9']] (by rfl) rfl rfl (by (try simp only [List.map_toArray, List.map_cons, List.map_nil]); first | done | rfl) ?_
  refine (plus_rv (HS40.out.v _ (.tail _ (.tail _ (.tail _ (.head _))))) (HS40.out.v _ (.tail _ (.tail _ (.head _)))) H.out.2.2.1).mono ?_
  rintro e w40_1 ⟨xp, yp, rfl, hv, hb⟩
  obtain ⟨Ap, cp, Ap', cp', rfl, rfl⟩ := hv.shape
  have HP := Aside0.mk hv
  clear hv
  refine ⟨_, rfl, ?_⟩
  have HS40_1 := Aside0.mk (HS40.out.next hb)
  clear hb HS40
  refine hK.out _ _ (hcells _ HS40_1.out) (fun hHeld => ?_)
  clear hK K
  refine norm_ (a' := ?_) ?_ ?_
  rotate_left
  · show Act.put _ (some 67) _ = _
    simp only [Act.put, List.setIfInBounds_toArray, List.set_cons_zero, List.set_cons_succ, i64_w, i32_w]
    rfl
  refine one_ (i := 4) (N := some 68) #[true, true, true, true, true, false] rfl rfl (by kernel_rfl) (by decide) (fun K hK => ?_)
  refine goes_ Try.func39 (by kernel_rfl) rfl #[.agg #[.slice As ssa.length cs, .slice As' ssb.length cs'], .agg #[.slice Ap pa.length cp, .slice Ap' pb.length cp']] (by rfl) rfl rfl (by (try simp only [List.map_toArray, List.map_cons, List.map_nil]); first | done | rfl) ?_
  refine (rcmp_rv (HS40_1.out.v _ (.tail _ (.head _))) HP.out H.out.2.2.2.1).mono ?_
  rintro e w40_2 ⟨rfl, hb⟩
  refine ⟨_, rfl, ?_⟩
  have HS40_2 := Aside0.mk (HS40_1.out.next hb)
  clear hb HS40_1
  refine hK.out _ _ (hcells _ HS40_2.out) (fun hHeld => ?_)
  clear hK K
  refine norm_ (a' := ?_) ?_ ?_
  rotate_left
  · show Act.put _ (some 68) _ = _
    simp only [Act.put, List.setIfInBounds_toArray, List.set_cons_zero, List.set_cons_succ, i64_w, i32_w]
    rfl
  refine pure_ (i := 5) (N := some 69) (v := ?_) (a' := ?_) #[true, true, true, true, true, true] rfl rfl (by kernel_rfl) (fun _ _ _ h => h) (Or.inl ⟨by rfl, ?_⟩) ?_ ?_
  rotate_left
  · intro w'
    go_simp
    with_reducible rfl
  rotate_left
  · simp only [Act.put, List.setIfInBounds_toArray, List.set_cons_zero, List.set_cons_succ, i64_w, i32_w]
    rfl
  refine done_ (by kernel_rfl) ?_
  clear hcells hHeld
  have hcx0 : w40_2.cell? ⟨g7, 0, none⟩ = some (.slice A7 xa.length c7) := (mblk_cell (HS40_2.out.m _ (.tail _ (.tail _ (.tail _ (.head _))))) 0).trans rfl
  have hcx1 : w40_2.cell? ⟨g7, 1, none⟩ = some (.slice A7' xb.length c7') := (mblk_cell (HS40_2.out.m _ (.tail _ (.tail _ (.tail _ (.head _))))) 1).trans rfl
  have hcy0 : w40_2.cell? ⟨g9, 0, none⟩ = some (.slice A9 ya.length c9) := (mblk_cell (HS40_2.out.m _ (.tail _ (.tail _ (.head _)))) 0).trans rfl
  have hcy1 : w40_2.cell? ⟨g9, 1, none⟩ = some (.slice A9' yb.length c9') := (mblk_cell (HS40_2.out.m _ (.tail _ (.tail _ (.head _)))) 1).trans rfl
  go_wp2_with fail
  refine (rcmp_rv (HS40_2.out.v _ (.tail _ (.tail _ (.tail _ (.head _))))) (HS40_2.out.v _ (.tail _ (.tail _ (.head _)))) H.out.2.2.2.2.1).mono ?_
  rintro e w50 ⟨rfl, hb⟩
  have HS50 := Aside0.mk (HS40_2.out.next hb)
  clear hb HS40_2
  clear hcx0 hcx1 hcy0 hcy1
  rcases H.out.2.2.2.2.2 with ⟨hlt, rfl⟩ | ⟨hlt, rfl, qa, qb, p6, p7, p8⟩
  · have hd : decide (cxy < 0) = true := decide_eq_true hlt
    go_wp2_with fail
    go_ret
    exact ⟨rfl, HS50.out.k⟩
  · have hd : decide (cxy < 0) = false := decide_eq_false (by omega)
    have Q := Aside0.mk (And.intro p6 (And.intro p7 p8))
    clear p6 p7 p8 H
    go_wp2_with fail
    have hcells : ∀ W', St w W' [⟨gd, .slice Ad da.length cd, .slice Ad' db.length cd', da, db⟩, ⟨gs, .slice As ssa.length cs, .slice As' ssb.length cs', ssa, ssb⟩, ⟨g9, .slice A9 ya.length c9, .slice A9' yb.length c9', ya, yb⟩, ⟨g7, .slice A7 xa.length c7, .slice A7' xb.length c7', xa, xb⟩, ⟨g5, .slice A5 ta.length c5, .slice A5' tb.length c5', ta, tb⟩, ⟨g3, .slice A3 sa.length c3, .slice A3' sb.length c3', sa, sb⟩] → W'.cell? ⟨gs, 0, none⟩ = some (.slice As ssa.length cs) ∧ W'.cell? ⟨gs, 1, none⟩ = some (.slice As' ssb.length cs') ∧ W'.cell? ⟨g7, 0, none⟩ = some (.slice A7 xa.length c7) ∧ W'.cell? ⟨g7, 1, none⟩ = some (.slice A7' xb.length c7') ∧ W'.cell? ⟨g9, 0, none⟩ = some (.slice A9 ya.length c9) ∧ W'.cell? ⟨g9, 1, none⟩ = some (.slice A9' yb.length c9') ∧ W'.cell? ⟨gd, 0, none⟩ = some (.slice Ad da.length cd) ∧ W'.cell? ⟨gd, 1, none⟩ = some (.slice Ad' db.length cd') := fun W' h => ⟨(mblk_cell (h.m _ (.tail _ (.head _))) 0).trans rfl, (mblk_cell (h.m _ (.tail _ (.head _))) 1).trans rfl, (mblk_cell (h.m _ (.tail _ (.tail _ (.tail _ (.head _))))) 0).trans rfl, (mblk_cell (h.m _ (.tail _ (.tail _ (.tail _ (.head _))))) 1).trans rfl, (mblk_cell (h.m _ (.tail _ (.tail _ (.head _)))) 0).trans rfl, (mblk_cell (h.m _ (.tail _ (.tail _ (.head _)))) 1).trans rfl, (mblk_cell (h.m _ (.head _)) 0).trans rfl, (mblk_cell (h.m _ (.head _)) 1).trans rfl⟩
    refine start_ (n := 18) (S := fun W' => W'.cell? ⟨gs, 0, none⟩ = some (.slice As ssa.length cs) ∧ W'.cell? ⟨gs, 1, none⟩ = some (.slice As' ssb.length cs') ∧ W'.cell? ⟨g7, 0, none⟩ = some (.slice A7 xa.length c7) ∧ W'.cell? ⟨g7, 1, none⟩ = some (.slice A7' xb.length c7') ∧ W'.cell? ⟨g9, 0, none⟩ = some (.slice A9 ya.length c9) ∧ W'.cell? ⟨g9, 1, none⟩ = some (.slice A9' yb.length c9') ∧ W'.cell? ⟨gd, 0, none⟩ = some (.slice Ad da.length cd) ∧ W'.cell? ⟨gd, 1, none⟩ = some (.slice Ad' db.length cd')) (ds := []) #[false, false, false, false, false, false, false, false, false, false, false, false, false, false, false, false, false, false] mixed rfl rfl (hcells _ HS50.out.drew) (fun hHeld => ?_); refine with_tabW regattalaw03_RatioSums.tab14 regattalaw03_RatioSums.bits14 (fun HT_ HW_ => ?_)
    have HS60 := Aside0.mk HS50.out.drew
    clear HS50
    generalize w50.drew = w60 at HS60 hHeld ⊢
    refine pure_ (i := 0) (N := some 79) (v := ?_) (a' := ?_) #[true, false, false, false, false, false, false, false, false, false, false, false, false, false, false, false, false, false] rfl rfl (any_of HT_.out (by kernel_rfl)) (fun _ _ _ h => h) (Or.inl ⟨by rfl, ?_⟩) ?_ ?_
    rotate_left
    · intro w'
      go_simp
      with_reducible rfl
    rotate_left
    · simp only [Act.put, List.setIfInBounds_toArray, List.set_cons_zero, List.set_cons_succ, i64_w, i32_w]
      rfl
    refine pure_ (i := 1) (N := some 80) (v := ?_) (a' := ?_) #[true, true, false, false, false, false, false, false, false, false, false, false, false, false, false, false, false, false] rfl rfl (any_of HT_.out (by kernel_rfl)) (fun _ _ _ h => h) (Or.inl ⟨by rfl, ?_⟩) ?_ ?_
    rotate_left
    · intro w'
      go_simp
      with_reducible rfl
    rotate_left
    · simp only [Act.put, List.setIfInBounds_toArray, List.set_cons_zero, List.set_cons_succ, i64_w, i32_w]
      rfl
    refine pure_ (i := 2) (N := some 81) (v := ?_) (a' := ?_) #[true, true, true, false, false, false, false, false, false, false, false, false, false, false, false, false, false, false] rfl rfl (any_of HT_.out (by kernel_rfl)) (fun _ _ _ h => h) (Or.inl ⟨by rfl, ?_⟩) ?_ ?_
    rotate_left
    · intro w'
      go_simp
      with_reducible rfl
    rotate_left
    · simp only [Act.put, List.setIfInBounds_toArray, List.set_cons_zero, List.set_cons_succ, i64_w, i32_w]
      rfl
    refine pure_ (i := 3) (N := some 82) (v := ?_) (a' := ?_) #[true, true, true, true, false, false, false, false, false, false, false, false, false, false, false, false, false, false] rfl rfl (any_of HT_.out (by kernel_rfl)) (fun _ _ _ h => h) (Or.inl ⟨by rfl, ?_⟩) ?_ ?_
    rotate_left
    · intro w'
      go_simp
      with_reducible rfl
    rotate_left
    · simp only [Act.put, List.setIfInBounds_toArray, List.set_cons_zero, List.set_cons_succ, i64_w, i32_w]
      rfl
    refine pure_ (i := 4) (N := some 83) (v := ?_) (a' := ?_) #[true, true, true, true, true, false, false, false, false, false, false, false, false, false, false, false, false, false] rfl rfl (any_of HT_.out (by kernel_rfl)) (fun _ _ _ h => h) (Or.inl ⟨by rfl, ?_⟩) ?_ ?_
    rotate_left
    · intro w'
      go_simp
      with_reducible rfl
    rotate_left
    · simp only [Act.put, List.setIfInBounds_toArray, List.set_cons_zero, List.set_cons_succ, i64_w, i32_w]
      rfl
    refine pure_ (i := 5) (N := some 84) (v := ?_) (a' := ?_) #[true, true, true, true, true, true, false, false, false, false, false, false, false, false, false, false, false, false] rfl rfl (any_of HT_.out (by kernel_rfl)) (fun _ _ _ h => h) (Or.inl ⟨by rfl, ?_⟩) ?_ ?_
    rotate_left
    · intro w'
      go_simp
      with_reducible rfl
    rotate_left
    · simp only [Act.put, List.setIfInBounds_toArray, List.set_cons_zero, List.set_cons_succ, i64_w, i32_w]
      rfl
    refine take_ (i := 6) (N := some 85) (v := ?_) (a' := ?_) #[true, true, true, true, true, true, true, false, false, false, false, false, false, false, false, false, false, false] rfl rfl (take_ofW HT_.out HW_.out (by kernel_rfl)) (fun _ _ _ h => h) (Or.inl ⟨by rfl, ?_⟩) hHeld ?_ ?_
    rotate_left
    · rintro w' ⟨s0, s1, s2, s3, s4, s5, s6, s7⟩
      go_simp
      with_reducible rfl
    rotate_left
    · simp only [Act.put, List.setIfInBounds_toArray, List.set_cons_zero, List.set_cons_succ, i64_w, i32_w]
      rfl
    refine take_ (i := 7) (N := some 86) (v := ?_) (a' := ?_) #[true, true, true, true, true, true, true, true, false, false, false, false, false, false, false, false, false, false] rfl rfl (take_ofW HT_.out HW_.out (by kernel_rfl)) (fun _ _ _ h => h) (Or.inl ⟨by rfl, ?_⟩) hHeld ?_ ?_
    rotate_left
    · rintro w' ⟨s0, s1, s2, s3, s4, s5, s6, s7⟩
      go_simp
      with_reducible rfl
    rotate_left
    · simp only [Act.put, List.setIfInBounds_toArray, List.set_cons_zero, List.set_cons_succ, i64_w, i32_w]
      rfl
    refine take_ (i := 9) (N := some 88) (v := ?_) (a' := ?_) #[true, true, true, true, true, true, true, true, false, true, false, false, false, false, false, false, false, false] rfl rfl (take_ofW HT_.out HW_.out (by kernel_rfl)) (fun _ _ _ h => h) (Or.inl ⟨by rfl, ?_⟩) hHeld ?_ ?_
    rotate_left
    · rintro w' ⟨s0, s1, s2, s3, s4, s5, s6, s7⟩
      go_simp
      with_reducible rfl
    rotate_left
    · simp only [Act.put, List.setIfInBounds_toArray, List.set_cons_zero, List.set_cons_succ, i64_w, i32_w]
      rfl
    refine one_ (i := 8) (N := some 87) #[true, true, true, true, true, true, true, true, true, true, false, false, false, false, false, false, false, false] rfl rfl (one_of HT_.out (by kernel_rfl)) (by decide) (fun K hK => ?_)
    refine goes_ Try.func48 (by kernel_rfl) rfl #[.agg #[.slice Ad da.length cd, .slice Ad' db.length cd'], .agg #[.slice A9 ya.length c9, .slice A9' yb.length c9']] (by rfl) rfl rfl (by (try simp only [List.map_toArray, List.map_cons, List.map_nil]); first | done | rfl) ?_
    refine (plus_rv (HS60.out.v _ (.head _)) (HS60.out.v _ (.tail _ (.tail _ (.head _)))) Q.out.1).mono ?_
    rintro e w60_1 ⟨xp, yp, rfl, hv, hb⟩
    obtain ⟨Aq, cq, Aq', cq', rfl, rfl⟩ := hv.shape
    have HP := Aside0.mk hv
    clear hv
    refine ⟨_, rfl, ?_⟩
    have HS60_1 := Aside0.mk (HS60.out.next hb)
    clear hb HS60
    refine hK.out _ _ (hcells _ HS60_1.out) (fun hHeld => ?_)
    clear hK K
    refine norm_ (a' := ?_) ?_ ?_
    rotate_left
    · show Act.put _ (some 87) _ = _
      simp only [Act.put, List.setIfInBounds_toArray, List.set_cons_zero, List.set_cons_succ, i64_w, i32_w]
      rfl
    refine one_ (i := 10) (N := some 89) #[true, true, true, true, true, true, true, true, true, true, true, false, false, false, false, false, false, false] rfl rfl (one_of HT_.out (by kernel_rfl)) (by decide) (fun K hK => ?_)
    refine goes_ Try.func39 (by kernel_rfl) rfl #[.agg #[.slice Aq qa.length cq, .slice Aq' qb.length cq'], .agg #[.slice A7 xa.length c7, .slice A7' xb.length c7']] (by rfl) rfl rfl (by (try simp only [List.map_toArray, List.map_cons, List.map_nil]); first | done | rfl) ?_
    refine (rcmp_rv HP.out (HS60_1.out.v _ (.tail _ (.tail _ (.tail _ (.head _))))) Q.out.2.1).mono ?_
    rintro e w60_2 ⟨rfl, hb⟩
    refine ⟨_, rfl, ?_⟩
    have HS60_2 := Aside0.mk (HS60_1.out.next hb)
    clear hb HS60_1
    refine hK.out _ _ (hcells _ HS60_2.out) (fun hHeld => ?_)
    clear hK K
    refine norm_ (a' := ?_) ?_ ?_
    rotate_left
    · show Act.put _ (some 89) _ = _
      simp only [Act.put, List.setIfInBounds_toArray, List.set_cons_zero, List.set_cons_succ, i64_w, i32_w]
      rfl
    refine pure_ (i := 11) (N := some 90) (v := ?_) (a' := ?_) #[true, true, true, true, true, true, true, true, true, true, true, true, false, false, false, false, false, false] rfl rfl (any_of HT_.out (by kernel_rfl)) (fun _ _ _ h => h) (Or.inl ⟨by rfl, ?_⟩) ?_ ?_
    rotate_left
    · intro w'
      go_simp
      with_reducible rfl
    rotate_left
    · simp only [Act.put, List.setIfInBounds_toArray, List.set_cons_zero, List.set_cons_succ, i64_w, i32_w]
      rfl
    refine pure_ (i := 12) (N := some 91) (v := ?_) (a' := ?_) #[true, true, true, true, true, true, true, true, true, true, true, true, true, false, false, false, false, false] rfl rfl (any_of HT_.out (by kernel_rfl)) (fun _ _ _ h => h) (Or.inl ⟨by rfl, ?_⟩) ?_ ?_
    rotate_left
    · intro w'
      go_simp
      with_reducible rfl
    rotate_left
    · simp only [Act.put, List.setIfInBounds_toArray, List.set_cons_zero, List.set_cons_succ, i64_w, i32_w]
      rfl
    refine pure_ (i := 13) (N := some 92) (v := ?_) (a' := ?_) #[true, true, true, true, true, true, true, true, true, true, true, true, true, true, false, false, false, false] rfl rfl (any_of HT_.out (by kernel_rfl)) (fun _ _ _ h => h) (Or.inl ⟨by rfl, ?_⟩) ?_ ?_
    rotate_left
    · intro w'
      go_simp
      with_reducible rfl
    rotate_left
    · simp only [Act.put, List.setIfInBounds_toArray, List.set_cons_zero, List.set_cons_succ, i64_w, i32_w]
      rfl
    refine take_ (i := 14) (N := some 93) (v := ?_) (a' := ?_) #[true, true, true, true, true, true, true, true, true, true, true, true, true, true, true, false, false, false] rfl rfl (take_ofW HT_.out HW_.out (by kernel_rfl)) (fun _ _ _ h => h) (Or.inl ⟨by rfl, ?_⟩) hHeld ?_ ?_
    rotate_left
    · rintro w' ⟨s0, s1, s2, s3, s4, s5, s6, s7⟩
      go_simp
      with_reducible rfl
    rotate_left
    · simp only [Act.put, List.setIfInBounds_toArray, List.set_cons_zero, List.set_cons_succ, i64_w, i32_w]
      rfl
    refine one_ (i := 15) (N := some 94) #[true, true, true, true, true, true, true, true, true, true, true, true, true, true, true, true, false, false] rfl rfl (one_of HT_.out (by kernel_rfl)) (by decide) (fun K hK => ?_)
    refine goes_ Try.func37 (by kernel_rfl) rfl #[.agg #[.slice As ssa.length cs, .slice As' ssb.length cs']] (by rfl) rfl rfl (by (try simp only [List.map_toArray, List.map_cons, List.map_nil]); first | done | rfl) ?_
    refine (check_rv (HS60_2.out.v _ (.tail _ (.head _))) Q.out.2.2).mono ?_
    rintro e w60_3 ⟨rfl, hb⟩
    refine ⟨_, rfl, ?_⟩
    have HS60_3 := Aside0.mk (HS60_2.out.next hb)
    clear hb HS60_2
    refine hK.out _ _ (hcells _ HS60_3.out) (fun hHeld => ?_)
    clear hK K
    refine norm_ (a' := ?_) ?_ ?_
    rotate_left
    · show Act.put _ (some 94) _ = _
      simp only [Act.put, List.setIfInBounds_toArray, List.set_cons_zero, List.set_cons_succ, i64_w, i32_w]
      rfl
    refine pure_ (i := 16) (N := some 95) (v := ?_) (a' := ?_) #[true, true, true, true, true, true, true, true, true, true, true, true, true, true, true, true, true, false] rfl rfl (any_of HT_.out (by kernel_rfl)) (fun _ _ _ h => h) (Or.inl ⟨by rfl, ?_⟩) ?_ ?_
    rotate_left
    · intro w'
      go_simp
      with_reducible rfl
    rotate_left
    · simp only [Act.put, List.setIfInBounds_toArray, List.set_cons_zero, List.set_cons_succ, i64_w, i32_w]
      rfl
    refine pure_ (i := 17) (N := some 4) (v := ?_) (a' := ?_) #[true, true, true, true, true, true, true, true, true, true, true, true, true, true, true, true, true, true] rfl rfl (any_of HT_.out (by kernel_rfl)) (fun _ _ _ h => h) (Or.inl ⟨by rfl, ?_⟩) ?_ ?_
    rotate_left
    · intro w'
      go_simp
      with_reducible rfl
    rotate_left
    · simp only [Act.put, List.setIfInBounds_toArray, List.set_cons_zero, List.set_cons_succ, i64_w, i32_w]
      rfl
    refine done_ (done_of HT_.out (by kernel_rfl)) ?_
    clear hcells hHeld HT_ HW_
    go_wp2_with fail
    go_ret
    exact ⟨rfl, HS60_3.out.k⟩
def regattalaw03_RatioSums.Pure : Prop := ∀ (x0 : List (S55)) (x1 : List (S55)), (x0.length ≤ 9223372036854775807 ∧ ∀ y ∈ x0, ok55 y) → (x1.length ≤ 9223372036854775807 ∧ ∀ y ∈ x1, ok55 y) → ∃ k, regattalaw03_RatioSums.f k x0 x1 = some true

end Go.Proofs.Ytcfliceeablckaa.PNr

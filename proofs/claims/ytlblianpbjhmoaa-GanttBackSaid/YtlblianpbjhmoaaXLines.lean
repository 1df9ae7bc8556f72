/- The walk of strings.Lines: what a range over it hands to its body. -/
import Derived.Test.YtlblianpbjhmoaaXRange
import Derived.Test.YtlblianpbjhmoaaMWords
import Derived.Test.YtlblianpbjhmoaaMBuild
import Derived.Test.YtlblianpbjhmoaaProg
import Derived.Maps.OwnIn
import Derived.BigRegion
import Derived.WalkKit
import Derived.OwnWalkIn
import Derived.TacticsInMore
import Derived.LoopNIn
import Derived.LoopIn
import Derived.RangeFuncBox

namespace Go.Proofs.Ytlblianpbjhmoaa.XLines
open Go.RowKit Go.Proofs.YtlblianpbjhmoaaW.PrintWords Go.Proofs.YtlblianpbjhmoaaW.PrintLast Go.Proofs.YtlblianpbjhmoaaW.PrintMore Go.Proofs.Ytlblianpbjhmoaa.MWords Go.Proofs.Ytlblianpbjhmoaa.MBuild Go.Proofs.Ytlblianpbjhmoaa.XRange
set_option linter.unusedVariables false
set_option linter.unusedSimpArgs false
attribute [local go_sem] Oper.semAt_some

section
variable {F : Fence} {n : Nat} {P : Program} {ops : Array Oper} {rest : List Oper} {o : Oper} {a : Act} {Q : Exit → Act → World → Prop} {α : Type}
/-- append(v, x) of one element inside a fence. -/
theorem appendIn (d : Kd α) {W : World} (base : Nat) (hgd : o.guard = none) (s x : Operand) (t e : TypeId) (z : Value) (bytes : Nat)
    (ho : o.op = .call { callee := .builtin .append, args := #[s, x], argTypes := #[t, t] }) (ht : P.underlying t = some (.slice e))
    (hinfo : (P.info? e).map (fun i => (i.zero, i.size, i.bytes)) = some (some z, d.sz, bytes)) (hz : z.cells.size = d.sz) (hs0 : 0 < d.sz) (hb0 : 0 < bytes)
    (v : Value) (xs : List α) (p : α) (cs : List Value) (ok okp : Nat → Prop) (hs : a.eval s = v) (hx : a.eval x = .slice (some ⟨W.heap.size, 0, none⟩) 1 1) (hp : d.M W base okp p cs) (hokp : ∀ k, okp k → ok k ∧ some k ≠ v.ownBlock) (hfresh : ∀ k, W.heap.size ≤ k → ok k)
    (HO : d.R e W base ok v xs) (hbase : base ≤ W.heap.size) (hl : (xs.length + 1) * bytes ≤ 140737488355328)
    (h : ∀ v1 w1, d.R e w1 base ok v1 (xs ++ [p]) → W.grownBy w1 v.ownBlock → wpListIn F n P ops Q rest (a.put o.dst v1) w1) :
    wpListIn F n P ops Q (o :: rest) a (W.alloc (.cells cs.toArray e)) := by
  obtain ⟨h0, inner, hown, hr⟩ := HO
  obtain ⟨i, hi, hi'⟩ := Option.map_eq_some_iff.1 hinfo
  obtain ⟨i1, i2⟩ := Prod.mk.inj hi'
  obtain ⟨i2, i3⟩ := Prod.mk.inj i2
  have hlen := d.K_len (d.K_of_M hp)
  have hmax : xs.length + 1 ≤ 140737488355328 := Nat.le_trans (Nat.le_mul_of_pos_right _ hb0) hl
  refine wpListIn_append_own_at (W.alloc (.cells cs.toArray e)) hgd s x t ho base e i z d.sz bytes ht hi i1 i2 i3 hz hs0 v xs.length inner hs (hown.alloc _) ⟨W.heap.size, 0, none⟩ 1 1 cs hx (by rw [hlen, Nat.one_mul])
    (by simpa using World.news_of_block (cs := cs.toArray) (t := e) (fr := (0, 0)) (heap_alloc_new W (.cells cs.toArray e))) (d.K_one (d.K_of_M hp)) (by simp only [maxLen]; omega) hl (by simp; omega) ?_
  intro v1 w1 hown1 hg _ hat
  have hg1 := World.grownBy.trans (World.grownBy_alloc W (.cells cs.toArray e) v.ownBlock) hg
  refine h v1 w1 (Kd.R_appended h0 hr hp hokp hfresh hown1 hg1 ?_) hg1
  rcases hat with hat | hat
  · exact .inl hat
  · exact .inr ⟨_, hat, by simp⟩
end
/-- Where a text's first line ends; -1: it has no end. -/
def nlAt (s : ByteArray) : Int := Lib.indexByte s.data.toList 10
def headL (s : ByteArray) : ByteArray := if 0 ≤ nlAt s then s.extract 0 (nlAt s + 1).toNat else s
def restL (s : ByteArray) : ByteArray := if 0 ≤ nlAt s then s.extract (nlAt s + 1).toNat s.size else ⟨#[]⟩
def linesF : Nat → ByteArray → List ByteArray
  | 0, _ => []
  | n + 1, s => if s.size = 0 then [] else headL s :: linesF n (restL s)
def linesOf (s : ByteArray) : List ByteArray := linesF s.size s
theorem idx_lt : ∀ (l : List UInt8) (c : UInt8), Lib.indexByte l c < l.length ∨ l = []
  | [], _ => .inr rfl
  | b :: l, c => .inl (by
    unfold Lib.indexByte
    have h := idx_lt l c
    simp only [List.length_cons]
    split
    · omega
    split
    · omega
    · rcases h with h | rfl
      · omega
      · rename_i h1
        exact absurd rfl h1)
theorem nlAt_ge (s : ByteArray) : -1 ≤ nlAt s := Lib.indexByte_ge _ _
theorem nlAt_lt (s : ByteArray) (h : s.size ≠ 0) : nlAt s < s.size := by
  rcases idx_lt s.data.toList 10 with h1 | h1
  · simpa [nlAt] using h1
  · exact absurd (by have := congrArg List.length h1; simpa using this) h
theorem rest_lt (s : ByteArray) (h : s.size ≠ 0) : (restL s).size < s.size := by
  have h1 := nlAt_lt s h
  have h2 := nlAt_ge s
  unfold restL
  split
  · rw [ByteArray.size_extract]; omega
  · show 0 < s.size; omega
theorem linesF_any : ∀ (n m : Nat) (s : ByteArray), s.size ≤ n → s.size ≤ m → linesF n s = linesF m s
  | 0, 0, _, _, _ => rfl
  | 0, m + 1, s, h, _ => by unfold linesF; rw [if_pos (by omega)]
  | n + 1, 0, s, _, h => by unfold linesF; rw [if_pos (by omega)]
  | n + 1, m + 1, s, h1, h2 => by
    unfold linesF
    by_cases h : s.size = 0
    · rw [if_pos h, if_pos h]
    · have := rest_lt s h
      rw [if_neg h, if_neg h, linesF_any n m _ (by omega) (by omega)]
theorem lines_nil (s : ByteArray) (h : s.size = 0) : linesOf s = [] := by unfold linesOf; rw [h]; rfl
theorem lines_cons (s : ByteArray) (h : s.size ≠ 0) : linesOf s = headL s :: linesOf (restL s) := by
  have hr := rest_lt s h
  obtain ⟨n, hn⟩ : ∃ n, s.size = n + 1 := ⟨s.size - 1, by omega⟩
  show linesF s.size s = headL s :: linesF (restL s).size (restL s)
  rw [linesF_any s.size (n + 1) s (Nat.le_refl _) (by omega)]
  show (if s.size = 0 then [] else headL s :: linesF n (restL s)) = _
  rw [if_neg h, linesF_any n (restL s).size _ (by omega) (Nat.le_refl _)]
theorem head_size (s : ByteArray) (h : s.size ≠ 0) : 0 < (headL s).size ∧ (headL s).size ≤ s.size := by
  have h1 := nlAt_lt s h
  have h2 := nlAt_ge s
  unfold headL
  split
  · rw [ByteArray.size_extract]; omega
  · omega
theorem lines_mem : ∀ (n : Nat) (s x : ByteArray), x ∈ linesF n s → 0 < x.size ∧ x.size ≤ s.size
  | 0, s, x, h => by simp [linesF] at h
  | n + 1, s, x, h => by
    unfold linesF at h
    split at h
    · simp at h
    · rename_i hs
      rcases List.mem_cons.1 h with rfl | h
      · exact head_size s hs
      · have := lines_mem n _ x h
        have := rest_lt s hs
        omega
theorem lines_count : ∀ (n : Nat) (s : ByteArray), (linesF n s).length ≤ s.size
  | 0, s => by simp [linesF]
  | n + 1, s => by
    unfold linesF
    split
    · simp
    · rename_i hs
      have := lines_count n (restL s)
      have := rest_lt s hs
      rw [List.length_cons]
      omega
def boxSz (B : Nat) (W : World) : Nat := match W.cell? ⟨B, 0, none⟩ with
  | some (.string t) => t.size
  | _ => 0
theorem boxSz_of {B : Nat} {W : World} {t : ByteArray} (h : W.cell? ⟨B, 0, none⟩ = some (.string t)) : boxSz B W = t.size := by unfold boxSz; rw [h]
set_option maxRecDepth 100000 in
set_option maxHeartbeats 2000000 in
/-- strings.Lines's closure. -/
theorem lines_seq (B : Nat) (s : ByteArray) (w : World) (hs : s.size ≤ 1000000000) (hB : MBlk w B 9 #[.string s]) :
    SeqBox Fence.wide 5 Try.prog 72 B (fun x : ByteArray => #[.string x]) (linesOf s) w := by
  intro l J Jx W hW hJ hJB hJd hY h0
  have HB0 := Aside0.mk (show MBlk W B 9 #[.string s] from (hW.block B (mblk_lt hB)).trans hB)
  clear hB hW
  have HJ := Aside0.mk hJ
  have HJB := Aside0.mk hJB
  have HJD := Aside0.mk hJd
  have HY := Aside0.mk hY
  clear hJ hJB hJd hY
  refine callsIn_of_wp Try.func72 rfl trivial ?_ rfl
  simp only [Try.ntmps72, List.size_toArray, List.length_cons, List.length_nil, Nat.reduceAdd, Nat.reduceSub, Array.replicate_succ, Array.replicate_zero, List.push_toArray, List.append_toArray, List.nil_append, List.cons_append]
  gi_wp2
  gi_loopw [3] (fun _ wr => ∃ (pre : List ByteArray) (t : ByteArray), Aside0 (J pre wr) ∧ Aside0 (pre ++ linesOf t = linesOf s) ∧ Aside0 (MBlk wr B 9 #[.string t]) ∧ Aside0 (W.heap.size ≤ wr.heap.size) ∧ t.size ≤ s.size) (fun _ wr => boxSz B wr)
  case atStart => exact ⟨[], s, ⟨h0⟩, ⟨rfl⟩, HB0, ⟨Nat.le_refl _⟩, Nat.le_refl _⟩
  case round =>
    obtain ⟨pre, t, HJp, HL, HM, HW, hts⟩ := hrel
    have k0 : wr.cell? ⟨B, 0, none⟩ = some (.string t) := (mblk_cell HM.out 0).trans rfl
    have kf : wr.frozen? ⟨B, 0, none⟩ = false := mblk_frozen HM.out 0
    rw [boxSz_of k0]
    by_cases h : t.size = 0
    · have HE := Aside0.mk (show pre = linesOf s by rw [← HL.out, lines_nil t h, List.append_nil])
      gi_wp2
      go_end0
      exact ⟨⟨_, rfl⟩, .inl (by rw [← HE.out]; exact HJp.out)⟩
    · have HLT := Aside0.mk (rest_lt t h)
      have HN := Aside0.mk (And.intro (nlAt_ge t) (nlAt_lt t h))
      have hix := (callsIn_wide (n := 4)).2 (indexByte_any t 10 wr)
      have HIX := Aside0.mk (show CallsIn Fence.wide 4 Try.prog 44 #[.string t, .int .u8 10] wr fun e w' => e = .returned (.int .i64 (nlAt t)) ∧ w' = wr from hix)
      clear hix
      by_cases hnl : 0 ≤ nlAt t
      · have d1 : decide (0 ≤ nlAt t) = true := decide_eq_true hnl
        have hlt := HN.out.2
        gi_wp2
        refine ⟨trivial, HIX.out.mono ?_⟩
        rintro e w1 ⟨rfl, rfl⟩
        clear HIX
        gi_wp2
        gi_region
        obtain ⟨X, hX⟩ : ∃ X, X = (w1.setCell ⟨B, 0, none⟩ (.string (t.extract (nlAt t + 1).toNat t.size))).drew := ⟨_, rfl⟩
        have hJX : J pre X := by rw [hX]; exact HJD.out _ _ (HJB.out _ _ _ HJp.out)
        have hMX : MBlk X B 9 #[.string (restL t)] := by
          rw [hX]
          have := mblk_set HM.out 0 (.string (t.extract (nlAt t + 1).toNat t.size))
          unfold restL
          rw [if_pos hnl]
          exact this
        have hsX : W.heap.size ≤ X.heap.size := by rw [hX]; simp [World.setCell]; exact HW.out
        have hhd : t.extract 0 (nlAt t + 1).toNat = headL t := by unfold headL; rw [if_pos hnl]
        obtain ⟨fn, tmps, assign, body, hy, hR⟩ := HY.out pre (headL t) X hJX (by rw [← HL.out, lines_cons t h]; exact ⟨linesOf (restL t), by simp⟩) hsX
        have HMX := Aside0.mk hMX
        have HSX := Aside0.mk hsX
        have HLX := Aside0.mk (show (pre ++ [headL t]) ++ linesOf (restL t) = linesOf s by rw [← HL.out, lines_cons t h]; simp)
        rw [← hX, hhd]
        clear hX hJX hMX hsX HJp HM HW HL hhd k0 kf
        gi_wp2
        refine hR.mono ?_
        rintro e W3 (⟨rfl, hJ3, hk3, hs3⟩ | ⟨rfl, hJx3⟩)
        · have HJ3 := Aside0.mk hJ3
          have HM3 := Aside0.mk (hk3.trans HMX.out)
          have HS3 := Aside0.mk (Nat.le_trans HSX.out hs3)
          clear hJ3 hk3 hs3
          gi_wp2
          go_roundw
          case rel => exact ⟨_, _, HJ3, HLX, HM3, HS3, by have := HLT.out; omega⟩
          case measure => rw [boxSz_of ((mblk_cell HM3.out 0).trans rfl)]; exact HLT.out
        · have HJx := Aside0.mk hJx3
          clear hJx3
          gi_wp2
          refine bodyPost_ret (results_none rfl _ _ _) rfl ?_
          exact ⟨⟨_, rfl⟩, .inr ⟨_, ⟨_, HLX.out⟩, HJx.out⟩⟩
      · have d1 : decide (0 ≤ nlAt t) = false := decide_eq_false hnl
        gi_wp2
        refine ⟨trivial, HIX.out.mono ?_⟩
        rintro e w1 ⟨rfl, rfl⟩
        clear HIX
        gi_wp2
        obtain ⟨X, hX⟩ : ∃ X, X = w1.setCell ⟨B, 0, none⟩ (.string ⟨#[]⟩) := ⟨_, rfl⟩
        have hJX : J pre X := by rw [hX]; exact HJB.out _ _ _ HJp.out
        have hMX : MBlk X B 9 #[.string (restL t)] := by
          rw [hX]
          have := mblk_set HM.out 0 (.string ⟨#[]⟩)
          unfold restL
          rw [if_neg (show ¬ 0 ≤ nlAt t by omega)]
          exact this
        have hsX : W.heap.size ≤ X.heap.size := by rw [hX]; simp [World.setCell]; exact HW.out
        have hhd : t = headL t := by unfold headL; rw [if_neg (show ¬ 0 ≤ nlAt t by omega)]
        obtain ⟨fn, tmps, assign, body, hy, hR⟩ := HY.out pre (headL t) X hJX (by rw [← HL.out, lines_cons t h]; exact ⟨linesOf (restL t), by simp⟩) hsX
        have HMX := Aside0.mk hMX
        have HSX := Aside0.mk hsX
        have HLX := Aside0.mk (show (pre ++ [headL t]) ++ linesOf (restL t) = linesOf s by rw [← HL.out, lines_cons t h]; simp)
        rw [← hX]
        have HHD := Aside0.mk hhd
        rw [show (Value.string t) = Value.string (headL t) from congrArg Value.string hhd]
        clear hX hJX hMX hsX HJp HM HW HL hhd k0 kf
        gi_wp2
        rw [hy]
        gi_wp2
        refine hR.mono ?_
        rintro e W3 (⟨rfl, hJ3, hk3, hs3⟩ | ⟨rfl, hJx3⟩)
        · have HJ3 := Aside0.mk hJ3
          have HM3 := Aside0.mk (hk3.trans HMX.out)
          have HS3 := Aside0.mk (Nat.le_trans HSX.out hs3)
          clear hJ3 hk3 hs3
          gi_wp2
          go_roundw
          case rel => exact ⟨_, _, HJ3, HLX, HM3, HS3, by have := HLT.out; omega⟩
          case measure => rw [boxSz_of ((mblk_cell HM3.out 0).trans rfl)]; exact HLT.out
        · have HJx := Aside0.mk hJx3
          clear hJx3
          gi_wp2
          refine bodyPost_ret (results_none rfl _ _ _) rfl ?_
          exact ⟨⟨_, rfl⟩, .inr ⟨_, ⟨_, HLX.out⟩, HJx.out⟩⟩
/-- strings.Lines(s): the text is boxed; the function value captures the box. -/
theorem lines_calls (s : ByteArray) (w : World) :
    Calls Try.prog 61 #[.string s] w fun e w' => e = .returned (.func (.func 72) #[] #[.pointer (some ⟨w.heap.size, 0, none⟩)]) ∧ w' = w.alloc (.cells #[.string s] 9) := by
  go_enter Try.func61, Try.ntmps61
  go_wp2_with fail
  go_ret
  exact ⟨rfl, rfl⟩
end Go.Proofs.Ytlblianpbjhmoaa.XLines

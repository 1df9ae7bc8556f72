-- Written by wip/rprint.py of this session's repo (the kit's printer with patches), out of the translation. Not trusted: Lean checks it.
import Derived.Test.YtlblianpbjhmoaaPGsx0
import Derived.Test.YtlblianpbjhmoaaPGsx4
namespace Go.Proofs.Ytlblianpbjhmoaa.PGs
open Go.RowKit Go.Proofs.YtlblianpbjhmoaaW.PrintWords Go.Proofs.YtlblianpbjhmoaaW.PrintLast Go.Proofs.YtlblianpbjhmoaaW.PrintMore Go.Proofs.Ytlblianpbjhmoaa.MWords
attribute [local go_sem] max2_int min2_int max_two min_two max_three min_three max_four min_four   -- for this text's walks alone
set_option linter.unusedVariables false
set_option linter.unusedSimpArgs false

/-! ### slot_Read: function 32 -/
open Go.Proofs.Ytlblianpbjhmoaa.MNext in
/-- n runs from here on. -/
def runsP : Nat → ByteArray → Int → List S59 → Option (List S59 × ByteArray)
  | 0, t, _, acc => some (acc, t)
  | n + 1, t, core, acc =>
    match nextP t 1023 with
    | none => none
    | some (d, t1) => match nextP t1 1023 with
      | none => none
      | some (id, t2) => match nextP t2 1099511627776 with
        | none => none
        | some (ix, t3) => runsP n t3 (wrap64 (core + d)) (acc ++ [⟨id, wrap64 (core + d), ix⟩])
open Go.Proofs.Ytlblianpbjhmoaa.MNext in
def slotP (s : ByteArray) (at0 : Int) : Option (S57 × ByteArray) :=
  match nextP s 1024 with
  | none => none
  | some (n, t) => match runsP n.toNat t 0 [] with
    | none => none
    | some (rs, t2) => some (⟨at0, rs⟩, t2)
theorem runsP_bound : ∀ (n : Nat) (t : ByteArray) (core : Int) (acc : List S59) (rs : List S59) (t2 : ByteArray), runsP n t core acc = some (rs, t2) → t2.size ≤ t.size := by
  intro n
  induction n with
  | zero => intro t core acc rs t2 h; have e := Option.some.inj h; injection e with _ e; rw [e]; exact Nat.le_refl _
  | succ n ih =>
    intro t core acc rs t2 h
    simp only [runsP] at h
    split at h
    · cases h
    · rename_i d t1 e1
      split at h
      · cases h
      · rename_i id t3 e2
        split at h
        · cases h
        · rename_i ix t4 e3
          have h1 := (Go.Proofs.Ytlblianpbjhmoaa.MNext.nextP_bound e1).2.2
          have h2 := (Go.Proofs.Ytlblianpbjhmoaa.MNext.nextP_bound e2).2.2
          have h3 := (Go.Proofs.Ytlblianpbjhmoaa.MNext.nextP_bound e3).2.2
          have h4 := ih _ _ _ _ _ h
          omega
theorem slotP_bound {s : ByteArray} {at0 : Int} {x : S57} {t : ByteArray} (h : slotP s at0 = some (x, t)) : t.size ≤ s.size := by
  unfold slotP at h
  split at h
  · cases h
  · rename_i n t1 e1
    split at h
    · cases h
    · rename_i rs t2 e2
      have h1 := (Go.Proofs.Ytlblianpbjhmoaa.MNext.nextP_bound e1).2.2
      have h2 := runsP_bound _ _ _ _ _ _ e2
      have e := Option.some.inj h
      injection e with _ e
      rw [← e]
      omega
/-- Nothing there at w is written, but block g. -/
structure Keep1 (g : Nat) (w W : World) : Prop where
  os : W.os = w.os
  tape : W.tape = w.tape
  output : W.output = w.output
  size : w.heap.size ≤ W.heap.size
  block : ∀ k, k < w.heap.size → k ≠ g → W.heap[k]? = w.heap[k]?
theorem Keep1.refl (g : Nat) (w : World) : Keep1 g w w := ⟨rfl, rfl, rfl, Nat.le_refl _, fun _ _ _ => rfl⟩
theorem Keep1.below {g : Nat} {w W W2 : World} (h : Keep1 g w W) (k : Below w.heap.size W W2) : Keep1 g w W2 :=
  ⟨k.os.trans h.os, k.tape.trans h.tape, k.output.trans h.output, Nat.le_trans h.size k.size, fun i hi hg => (k.block i hi).trans (h.block i hi hg)⟩
theorem Keep1.set {g : Nat} {w W : World} (h : Keep1 g w W) {p : Addr} (hp : p.block = g ∨ w.heap.size ≤ p.block) (v : Value) : Keep1 g w (W.setCell p v) :=
  ⟨h.os, h.tape, h.output, by simpa [World.setCell] using h.size, fun i hi hg => (Below.heap_setCell W p v i (by rcases hp with hp | hp <;> omega)).trans (h.block i hi hg)⟩
theorem Keep1.alloc {g : Nat} {w W : World} (h : Keep1 g w W) (o : Obj) : Keep1 g w (W.alloc o) := h.below ((Below.refl _ _).alloc h.size o)
theorem Keep1.drew {g : Nat} {w W : World} (h : Keep1 g w W) : Keep1 g w W.drew := ⟨h.os, h.tape, h.output, h.size, h.block⟩
theorem Keep1.trans {g : Nat} {w W W2 : World} (h : Keep1 g w W) (k : Keep1 g W W2) : Keep1 g w W2 :=
  ⟨k.os.trans h.os, k.tape.trans h.tape, k.output.trans h.output, Nat.le_trans h.size k.size, fun i hi hg => (k.block i (Nat.lt_of_lt_of_le hi h.size) hg).trans (h.block i hi hg)⟩
theorem Keep1.toBelow {g B : Nat} {w W : World} (h : Keep1 g w W) (hB : B ≤ g) (hw : B ≤ w.heap.size) : Below B w W :=
  ⟨h.os, h.tape, h.output, h.size, fun i hi => h.block i (Nat.lt_of_lt_of_le hi hw) (by omega)⟩
/-- What a call of the reader's slot has come to. -/
structure SlotRes (g : Nat) (w : World) (r : Option (S57 × ByteArray)) (e : Ending) (w' : World) : Prop where
  keep : Keep1 g w w'
  out : match r with
      | some (x, t) => ∃ A c, e = .returned (.agg #[.int .i64 x.f0, .slice A x.f1.length c]) ∧ Kd.R k59 59 w' w.heap.size (fun _ => True) (.slice A x.f1.length c) x.f1 ∧ MBlk w' g 77 #[.string t]
      | none => e = .panicked [{ v := .iface 97 (.agg #[]), recovered := false }]
/-- The world while a slot is read: its reader, its named result, its box, its runs. -/
structure RdInv (g gb : Nat) (w W : World) (t : ByteArray) (at0 : Int) (u : Value) (acc : List S59) : Prop where
  r : MBlk W g 77 #[.string t]
  c : MBlk W w.heap.size 57 #[.int .i64 0, .slice none 0 0]
  b : MBlk W gb 57 #[.int .i64 at0, u]
  a : Kd.R k59 59 W w.heap.size (fun _ => True) u acc
  k : Keep1 g w W
  lt : g < w.heap.size
  gb : w.heap.size < gb
theorem RdInv.drew {g gb : Nat} {w W : World} {t : ByteArray} {at0 : Int} {u : Value} {acc : List S59} (h : RdInv g gb w W t at0 u acc) : RdInv g gb w W.drew t at0 u acc :=
  ⟨h.r, h.c, h.b, Kd.R_drew h.a, h.k.drew, h.lt, h.gb⟩
theorem RdInv.read {g gb : Nat} {w W : World} {t : ByteArray} {at0 : Int} {u : Value} {acc : List S59} (h : RdInv g gb w W t at0 u acc) (t2 : ByteArray) : RdInv g gb w (W.setCell ⟨g, 0, none⟩ (.string t2)) t2 at0 u acc :=
  have h1 := h.lt
  have h2 := h.gb
  ⟨mblk_set h.r 0 _, mblk_far h.c (by show w.heap.size ≠ g; omega) _, mblk_far h.b (by show gb ≠ g; omega) _,
    Kd.R_mono (Kd.R_far (p := ⟨g, 0, none⟩) (Kd.R_bound h.a) (fun k hk => by have := hk.2.1; show k ≠ g; omega) _) (fun _ _ => trivial), h.k.set (Or.inl rfl) _, h.lt, h.gb⟩
theorem goesP_ {P : Program} {ops : Array Oper} {Q : Exit → Act → World → Prop} {oi : Oper} {N : Option Tmp} {a : Act} {w : World} {K : Act → World → Prop} {f : FuncId} {fn : Func} {ops0 : Array Operand} {ts : Array TypeId} (hf : P.funcs[f]? = some fn) (hname : (fn.name == "runtime.NumGoroutine") = false) (hb : fn.body.isSome = true) (args : Array Value)
    (hw : Region.wanted oi (yielded ops a.tmps) = true) (hN : oi.dst = N) (hop : oi.op = .call { callee := .value (.func f), args := ops0, argTypes := ts }) (hargs : ops0.map a.eval = args)
    (h : Calls P f args w fun e w' => (∃ v, e = .returned v ∧ K (a.put N v) w') ∨ ∃ c, e = .panicked c ∧ Q (.panic c) a w') : if Region.wanted oi (yielded ops a.tmps) = true then Oper.wp P oi a w K Q else K (a.put N undef) w := by
  have he := enters_ hf hname hb args w
  have hrun : (execOp a.eval oi).run P w = .ok (.enter f args) w := by
    unfold execOp
    simp [hop, resolve, Deferred.ofValue, invoke, Act.eval, hargs, he]
  rw [if_pos hw]
  subst hN
  unfold Oper.wp
  rw [hrun, Oper.upon_enter]
  refine h.mono fun e w'' hh => ?_
  rcases hh with ⟨v, rfl, hk⟩ | ⟨c, rfl, hk⟩
  · exact hk
  · exact hk
open Go.Proofs.Ytlblianpbjhmoaa.MNext in
set_option maxHeartbeats 4000000 in
set_option maxRecDepth 100000 in
theorem slot_calls (g : Nat) (s : ByteArray) (at0 : Int) (w : World) (hm : MBlk w g 77 #[.string s]) (hs : s.size ≤ 1000000000) :
    Calls Try.prog 57 #[.pointer (some ⟨g, 0, none⟩), .int .i64 at0] w fun e w' => SlotRes g w (slotP s at0) e w' := by
  have hu57 := Try.underlying57
  have hu59 := Try.underlying59
  have mixed : Try.prog.follows Departure.mixedOrders = true := by kernel_rfl
  have HM := Aside0.mk hm
  clear hm
  go_enter Try.func57, Try.ntmps57
  go_wp2_with fail
  have hn := next_calls g s 1024 _ (mblk_alloc (mblk_alloc HM.out (.cells #[.int .i64 0, .slice none 0 0] 57)) (.cells #[.int .i64 at0, .slice none 0 0] 57)) hs
  refine hn.mono ?_
  rintro e w2 ⟨h⟩
  clear hn
  have HK0 := Aside0.mk (((Keep1.refl g w).alloc (.cells #[.int .i64 0, .slice none 0 0] 57)).alloc (.cells #[.int .i64 at0, .slice none 0 0] 57))
  cases hP : nextP s 1024 with
  | none =>
    rw [hP] at h
    obtain ⟨rfl, rfl⟩ := h
    exact ⟨rfl, ⟨HK0.out, by rw [slotP, hP]⟩⟩
  | some q =>
    obtain ⟨n, t0⟩ := q
    rw [hP] at h
    obtain ⟨rfl, hw2⟩ := h
    obtain ⟨hn0, hn1, ht0⟩ := nextP_bound hP
    have HSP := Aside0.mk (show slotP s at0 = (match runsP n.toNat t0 0 [] with | none => none | some (rs, t2) => some (⟨at0, rs⟩, t2)) by rw [slotP, hP])
    have hg0 := mblk_lt HM.out
    have HI2 := Aside0.mk (show RdInv g (w.heap.size + 1) w w2 t0 at0 (.slice none 0 0) [] by
      rw [hw2]
      exact ⟨mblk_set (mblk_alloc (mblk_alloc HM.out _) _) 0 _, mblk_far (mblk_alloc (mblk_new _ _ _) _) (by show w.heap.size ≠ g; omega) _,
        mblk_far (by have := mblk_new (w.alloc (.cells #[.int .i64 0, .slice none 0 0] 57)) 57 #[.int .i64 at0, .slice none 0 0]; rwa [show (w.alloc (.cells #[.int .i64 0, .slice none 0 0] 57)).heap.size = w.heap.size + 1 from by simp] at this) (by show w.heap.size + 1 ≠ g; omega) _,
        Kd.R_nil _ _ _ _ _, HK0.out.set (Or.inl rfl) _, hg0, Nat.lt_succ_self _⟩)
    clear hw2 HK0 HM hP
    obtain ⟨gb, hgb⟩ : ∃ gb, gb = w.heap.size + 1 := ⟨_, rfl⟩
    rw [← hgb] at HI2 ⊢
    clear hgb
    obtain ⟨N, hN⟩ : ∃ N : Nat, n = (N : Int) := ⟨n.toNat, by omega⟩
    subst hN
    have HN := Aside0.mk (show N ≤ 1024 by omega)
    rw [Int.toNat_natCast] at HSP
    have hts : t0.size ≤ 1000000000 := by omega
    clear hn0 hn1 ht0 hg0
    go_wp2_with fail
    go_loopw [6, 12] (fun v6 v12 wr => ∃ (i : Nat) (core : Int) (t : ByteArray) (acc : List S59) (u : Value), v12 = .int .i64 i ∧ v6 = .int .i64 core ∧ i ≤ N ∧ t.size ≤ 1000000000 ∧ Aside0 (acc.length ≤ i) ∧ Aside0 (runsP (N - i) t core acc = runsP N t0 0 []) ∧ Aside0 (RdInv g gb w wr t at0 u acc)) (fun _ v _ => N - (intOf v).toNat)
    case atStart => exact ⟨0, 0, t0, [], .slice none 0 0, rfl, rfl, Nat.zero_le _, hts, ⟨Nat.le_refl _⟩, ⟨rfl⟩, HI2⟩
    case round =>
      clear HI2 hts
      obtain ⟨i, core, t, acc, u, rfl, rfl, hi, hts, HAL, HR, HI2⟩ := hrel
      by_cases hlt : i < N
      · obtain ⟨m, hm⟩ : ∃ m, N - i = m + 1 := ⟨N - i - 1, by omega⟩
        have HNM := Aside0.mk hm
        rw [hm] at HR
        clear hm
        go_wp2_with fail
        have hn1 := next_calls g t 1023 _ HI2.out.r hts
        refine hn1.mono ?_
        rintro e w3 ⟨h⟩
        clear hn1
        cases hP1 : nextP t 1023 with
        | none =>
          rw [hP1] at h
          obtain ⟨rfl, rfl⟩ := h
          exact ⟨rfl, ⟨HI2.out.k, by rw [HSP.out, ← HR.out]; simp only [runsP, hP1]⟩⟩
        | some q1 =>
        obtain ⟨d, t1⟩ := q1
        rw [hP1] at h
        obtain ⟨rfl, hw3⟩ := h
        have HI3 := Aside0.mk (show RdInv g gb w w3 t1 at0 u acc by rw [hw3]; exact HI2.out.read t1)
        have ht1 : t1.size ≤ 1000000000 := by have := (nextP_bound hP1).2.2; omega
        have HP1 := Aside0.mk hP1
        clear hw3 HI2 hP1 hts
        go_wp2_with fail
        have hn1 := next_calls g t1 1023 _ HI3.out.r ht1
        refine hn1.mono ?_
        rintro e w4 ⟨h⟩
        clear hn1
        cases hP2 : nextP t1 1023 with
        | none =>
          rw [hP2] at h
          obtain ⟨rfl, rfl⟩ := h
          exact ⟨rfl, ⟨HI3.out.k, by rw [HSP.out, ← HR.out]; simp only [runsP, HP1.out, hP2]⟩⟩
        | some q2 =>
        obtain ⟨id, t2⟩ := q2
        rw [hP2] at h
        obtain ⟨rfl, hw4⟩ := h
        have HI4 := Aside0.mk (show RdInv g gb w w4 t2 at0 u acc by rw [hw4]; exact HI3.out.read t2)
        have ht2 : t2.size ≤ 1000000000 := by have := (nextP_bound hP2).2.2; omega
        have HP2 := Aside0.mk hP2
        clear hw4 HI3 hP2 ht1
        obtain ⟨A0, c0, rfl⟩ := Kd.R_slice HI4.out.a
        go_wp2_with fail
        refine start_ (n := 11) (S := fun w' => w'.cell? ⟨gb, 1, none⟩ = some (.slice A0 acc.length c0)) (ds := [10]) #[false, false, false, false, false, false, false, false, false, false, false] mixed rfl rfl ((mblk_cell HI4.out.b 1).trans rfl) (fun hHeld => ?_)
        have HI5 := Aside0.mk HI4.out.drew
        clear HI4
        generalize w4.drew = w5 at HI5 hHeld ⊢
        refine pure_ (i := 0) (N := some 20) (v := ?_) (a' := ?_) #[true, false, false, false, false, false, false, false, false, false, false] rfl rfl (by kernel_rfl) (fun _ _ _ h => h) (Or.inl ⟨by rfl, ?_⟩) ?_ ?_
        rotate_left
        · intro w'
          go_simp
          with_reducible rfl
        rotate_left
        · simp only [Act.put, List.setIfInBounds_toArray, List.set_cons_zero, List.set_cons_succ, i64_w, i32_w]
          rfl
        refine pure_ (i := 2) (N := some 22) (v := ?_) (a' := ?_) #[true, false, true, false, false, false, false, false, false, false, false] rfl rfl (by kernel_rfl) (fun _ _ _ h => h) (Or.inl ⟨by rfl, ?_⟩) ?_ ?_
        rotate_left
        · intro w'
          go_simp
          with_reducible rfl
        rotate_left
        · simp only [Act.put, List.setIfInBounds_toArray, List.set_cons_zero, List.set_cons_succ, i64_w, i32_w]
          rfl
        refine pure_ (i := 3) (N := some 23) (v := ?_) (a' := ?_) #[true, false, true, true, false, false, false, false, false, false, false] rfl rfl (by kernel_rfl) (fun _ _ _ h => h) (Or.inl ⟨by rfl, ?_⟩) ?_ ?_
        rotate_left
        · intro w'
          go_simp
          with_reducible rfl
        rotate_left
        · simp only [Act.put, List.setIfInBounds_toArray, List.set_cons_zero, List.set_cons_succ, i64_w, i32_w]
          rfl
        refine pure_ (i := 4) (N := some 24) (v := ?_) (a' := ?_) #[true, false, true, true, true, false, false, false, false, false, false] rfl rfl (by kernel_rfl) (fun _ _ _ h => h) (Or.inl ⟨by rfl, ?_⟩) ?_ ?_
        rotate_left
        · intro w'
          go_simp
          with_reducible rfl
        rotate_left
        · simp only [Act.put, List.setIfInBounds_toArray, List.set_cons_zero, List.set_cons_succ, i64_w, i32_w]
          rfl
        refine take_ (i := 1) (N := some 21) (v := ?_) (a' := ?_) #[true, true, true, true, true, false, false, false, false, false, false] rfl rfl (by kernel_rfl) (fun _ _ _ h => h) (Or.inl ⟨by rfl, ?_⟩) hHeld ?_ ?_
        rotate_left
        · intro w' s0
          go_simp
          with_reducible rfl
        rotate_left
        · simp only [Act.put, List.setIfInBounds_toArray, List.set_cons_zero, List.set_cons_succ, i64_w, i32_w]
          rfl
        refine one_ (i := 5) (N := some 25) #[true, true, true, true, true, true, false, false, false, false, false] rfl rfl (by kernel_rfl) (by decide) (fun K hK => ?_)
        refine goesP_ Try.func56 (by kernel_rfl) rfl #[.pointer (some ⟨g, 0, none⟩), .int .i64 1099511627776] (by rfl) rfl rfl (by (try simp only [List.map_toArray, List.map_cons, List.map_nil]); first | done | rfl) ?_
        have hn1 := next_calls g t2 1099511627776 _ HI5.out.r ht2
        refine hn1.mono ?_
        rintro e w6 ⟨h⟩
        clear hn1
        cases hP3 : nextP t2 1099511627776 with
        | none =>
          rw [hP3] at h
          obtain ⟨rfl, rfl⟩ := h
          exact Or.inr ⟨_, rfl, rfl, ⟨HI5.out.k, by rw [HSP.out, ← HR.out]; simp only [runsP, HP1.out, HP2.out, hP3]⟩⟩
        | some q3 =>
        obtain ⟨ix, t3⟩ := q3
        rw [hP3] at h
        obtain ⟨rfl, hw6⟩ := h
        refine Or.inl ⟨_, rfl, ?_⟩
        have HI6 := Aside0.mk (show RdInv g gb w w6 t3 at0 (.slice A0 acc.length c0) acc by rw [hw6]; exact HI5.out.read t3)
        have ht3 : t3.size ≤ 1000000000 := by have := (nextP_bound hP3).2.2; omega
        have HP3 := Aside0.mk hP3
        clear hw6 HI5 hP3 ht2 hHeld
        refine hK.out _ _ ((mblk_cell HI6.out.b 1).trans rfl) (fun hHeld => ?_)
        clear hK K
        refine norm_ (a' := ?_) ?_ ?_
        rotate_left
        · show Act.put _ (some 25) _ = _
          simp only [Act.put, List.setIfInBounds_toArray, List.set_cons_zero, List.set_cons_succ, i64_w, i32_w]
          rfl
        refine pure_ (i := 6) (N := some 26) (v := ?_) (a' := ?_) #[true, true, true, true, true, true, true, false, false, false, false] rfl rfl (by kernel_rfl) (fun _ _ _ h => h) (Or.inl ⟨by rfl, ?_⟩) ?_ ?_
        rotate_left
        · intro w'
          go_simp
          with_reducible rfl
        rotate_left
        · simp only [Act.put, List.setIfInBounds_toArray, List.set_cons_zero, List.set_cons_succ, i64_w, i32_w]
          rfl
        refine one_ (i := 7) (N := some 27) #[true, true, true, true, true, true, true, true, false, false, false] rfl rfl (by kernel_rfl) (by decide) (fun K hK => ?_)
        refine value_ (w1 := ?_) (v := ?_) (by rfl) rfl ?_ ?_
        rotate_left 2
        · go_simp
          constructor
          · rfl
          · rfl
        refine hK.out _ _ ((mblk_cell (mblk_alloc HI6.out.b _) 1).trans rfl) (fun hHeld => ?_)
        clear hK K
        refine norm_ (a' := ?_) ?_ ?_
        rotate_left
        · show Act.put _ (some 27) _ = _
          simp only [Act.put, List.setIfInBounds_toArray, List.set_cons_zero, List.set_cons_succ, i64_w, i32_w]
          rfl
        refine one_ (i := 8) (N := some 28) #[true, true, true, true, true, true, true, true, true, false, false] rfl rfl (by kernel_rfl) (by decide) (fun K hK => ?_)
        refine Kd.R_append_step k59 (w0 := w6) w.heap.size (by rfl) (.tmp 21) (.tmp 27) 55 59 (.agg #[(.int .i64 0), (.int .i64 0), (.int .i64 0)]) 24 rfl Try.underlying55 info59 rfl (by decide) (by omega) (.slice A0 acc.length c0) acc (⟨id, wrap64 (core + d), ix⟩ : S59) [.int .i64 id, .int .i64 (wrap64 (core + d)), .int .i64 ix] (fun _ => True) (fun _ => False) rfl rfl ?aP (fun _ hk => hk.elim) ?aF ?aO ?aB ?aS ?aL ?_
        case aP => exact k59_mkM _ _ _ (⟨id, wrap64 (core + d), ix⟩ : S59)
        case aB => exact Below.refl _ _
        case aF => exact (fun _ _ => trivial)
        case aO => exact HI6.out.a
        case aS => exact HI6.out.k.size
        case aL => have := HAL.out; have := HN.out; omega
        intro v7 w7 ho hb hg hat
        obtain ⟨A7, c7, e7⟩ := Kd.R_slice ho
        subst e7
        have HXb := Aside0.mk (show MBlk w7 gb 57 #[.int .i64 at0, .slice A0 acc.length c0] from blk_grown (g := gb) (o := .cells #[.int .i64 at0, .slice A0 acc.length c0] 57 (0, 0)) HI6.out.b hg (Kd.R_ne HI6.out.a HI6.out.b (by decide)))
        have HXc := Aside0.mk (show MBlk w7 w.heap.size 57 #[.int .i64 0, .slice none 0 0] from blk_grown (g := w.heap.size) (o := .cells #[.int .i64 0, .slice none 0 0] 57 (0, 0)) HI6.out.c hg (Kd.R_ne HI6.out.a HI6.out.c (by decide)))
        have HXr := Aside0.mk (show MBlk w7 g 77 #[.string t3] from (hb.block g HI6.out.lt).trans HI6.out.r)
        have HXk := Aside0.mk (HI6.out.k.below hb)
        have HXl := Aside0.mk (And.intro HI6.out.lt HI6.out.gb)
        have HO := Aside0.mk ho
        clear ho hb hg hat HI6 hHeld
        refine hK.out _ _ ((mblk_cell HXb.out 1).trans rfl) (fun hHeld => ?_)
        clear hK K
        refine norm_ (a' := ?_) ?_ ?_
        rotate_left
        · show Act.put _ (some 28) _ = _
          simp only [Act.put, List.setIfInBounds_toArray, List.set_cons_zero, List.set_cons_succ, i64_w, i32_w]
          rfl
        refine pure_ (i := 9) (N := some 29) (v := ?_) (a' := ?_) #[true, true, true, true, true, true, true, true, true, true, false] rfl rfl (by kernel_rfl) (fun _ _ _ h => h) (Or.inl ⟨by rfl, ?_⟩) ?_ ?_
        rotate_left
        · intro w'
          go_simp
          with_reducible rfl
        rotate_left
        · simp only [Act.put, List.setIfInBounds_toArray, List.set_cons_zero, List.set_cons_succ, i64_w, i32_w]
          rfl
        refine last_ (i := 10) (N := none) #[true, true, true, true, true, true, true, true, true, true, true] rfl rfl (by kernel_rfl) (by decide) (fun K hK => ?_)
        have hs16 : w7.cell? ⟨gb, 1, none⟩ = some (.slice A0 acc.length c0) := (mblk_cell HXb.out 1).trans rfl
        have hfs16 := mblk_frozen HXb.out 1
        refine skip_ (w1 := ?_) (by rfl) rfl ?_ ?_
        rotate_left
        · go_simp
          rfl
        refine hK.out _ _ ?_
        clear hK K
        refine done_ (by kernel_rfl) ?_
        have hw1 : wrap64 ((i : Int) + 1) = ((i + 1 : Nat) : Int) := by have := HN.out; unfold wrap64; omega
        have hO2 : Kd.R k59 59 w7 w.heap.size (fun _ => True) (.slice A7 (acc.length + 1) c7) (acc ++ [(⟨id, wrap64 (core + d), ix⟩ : S59)]) := by
          have h := HO.out
          rw [List.length_append] at h
          exact h
        have HO2 := Aside0.mk hO2
        clear hO2
        go_wp2_with fail
        rw [hw1]
        go_round
        case measure => simp only [intOf]; omega
        case rel =>
          obtain ⟨hl1, hl2⟩ := HXl.out
          refine ⟨i + 1, wrap64 (core + d), t3, acc ++ [(⟨id, wrap64 (core + d), ix⟩ : S59)], .slice A7 (acc.length + 1) c7, rfl, rfl, by omega, ht3, ⟨by have := HAL.out; simp; omega⟩, ⟨?_⟩, ⟨⟨mblk_far HXr.out (by show g ≠ gb; omega) _, mblk_far HXc.out (by show w.heap.size ≠ gb; omega) _, mblk_set HXb.out 1 _, ?_, HXk.out.set (Or.inr (Nat.le_of_lt hl2)) _, hl1, hl2⟩⟩⟩
          · rw [show N - (i + 1) = m by have := HNM.out; omega, ← HR.out]
            simp only [runsP, HP1.out, HP2.out, HP3.out]
          · exact Kd.R_mono (Kd.R_far (p := ⟨gb, 1, none⟩) (Kd.R_types HO2.out HXb.out (by decide)) (fun _ hk => hk.2) _) (fun _ _ => trivial)
      · have hie : i = N := by omega
        subst hie
        obtain ⟨A, c, rfl⟩ := Kd.R_slice HI2.out.a
        have hc0 : wr.cell? ⟨gb, 0, none⟩ = some (.int .i64 at0) := (mblk_cell HI2.out.b 0).trans rfl
        have hc1 : wr.cell? ⟨gb, 1, none⟩ = some (.slice A acc.length c) := (mblk_cell HI2.out.b 1).trans rfl
        have hc2 : wr.cell? ⟨w.heap.size, 0, none⟩ = some (.int .i64 0) := (mblk_cell HI2.out.c 0).trans rfl
        have hc3 : wr.cell? ⟨w.heap.size, 1, none⟩ = some (.slice none 0 0) := (mblk_cell HI2.out.c 1).trans rfl
        have hf2 : wr.frozen? ⟨w.heap.size, 0, none⟩ = false := mblk_frozen HI2.out.c 0
        have hf3 : wr.frozen? ⟨w.heap.size, 1, none⟩ = false := mblk_frozen HI2.out.c 1
        go_wp2_with fail
        have hgc := HI2.out.gb
        have hgl := HI2.out.lt
        have HE := HI2.out.a
        refine bodyPost_ret (results_cell_row rfl _ _ w.heap.size 57 #[.int .i64 at0, .slice A acc.length c] (0, 0) _ rfl (mblk_set (mblk_set HI2.out.c 0 (.int .i64 at0)) 1 (.slice A acc.length c)) Try.underlying57 rfl (by kernel_rfl)) rfl ⟨(HI2.out.k.set (Or.inr (Nat.le_refl _)) _).set (Or.inr (Nat.le_refl _)) _, ?_⟩
        rw [HSP.out, ← HR.out, Nat.sub_self]
        refine ⟨A, c, rfl, ?_, mblk_far (mblk_far HI2.out.r (by show g ≠ w.heap.size; omega) _) (by show g ≠ w.heap.size; omega) _⟩
        exact Kd.R_mono (Kd.R_far (p := ⟨w.heap.size, 1, none⟩) (Kd.R_far (p := ⟨w.heap.size, 0, none⟩) (Kd.R_types HE HI2.out.c (by decide)) (fun _ hk => hk.2) _) (fun _ hk => hk.2) _) (fun _ _ => trivial)

open Go.Proofs.Ytlblianpbjhmoaa.MNext in
/-- n slots from here on. -/
def slotsP : Nat → ByteArray → Int → Int → List S57 → Option (List S57 × ByteArray)
  | 0, t, _, _, acc => some (acc, t)
  | n + 1, t, at0, i, acc =>
    match slotP t (wrap64 (at0 + i)) with
    | none => none
    | some (x, t2) => slotsP n t2 at0 (i + 1) (acc ++ [x])
open Go.Proofs.Ytlblianpbjhmoaa.MNext in
/-- What Read has read ahead of its last test: the row, what is left, how many slots, where they begin. -/
def rowP (s : ByteArray) : Option (List S57 × ByteArray × Int × Int) :=
  match nextP s 4096 with
  | none => none
  | some (n, t) => match nextP t 1099511627776 with
    | none => none
    | some (at0, t2) => match slotsP n.toNat t2 at0 0 [] with
      | none => none
      | some (l, t3) => some (l, t3, n, at0)
def slot_Read.f (k : Nat) (s : ByteArray) : Option (List S57 × Bool) :=
  if 1000000000 < s.size then none else
  match rowP s with
  | none => some ([], false)
  | some (l, t, n, at0) => if t ≠ ⟨#[]⟩ ∨ n = 0 ∧ at0 ≠ 0 then some ([], false) else (slot_Row.f k l 1024).bind fun b => some (if b = true then (l, true) else ([], false))
theorem slot_Read.mono : ∀ a0 k, LeO (slot_Read.f k a0) (slot_Read.f (k + 1) a0) := by
  intro s k
  unfold slot_Read.f
  refine LeO.ite (LeO.refl _) ?_
  cases rowP s with
  | none => exact LeO.refl _
  | some q => exact LeO.ite (LeO.refl _) (LeO.bind (slot_Row.mono _ _ _) (fun _ => LeO.refl _))
theorem kdS_types {α : Type} {d : Kd α} {e base g t : Nat} {ok : Nat → Prop} {w : World} {v : Value} {xs : List α} {cells : Array Value} (h : Kd.S d e w base ok v xs) (hb : MBlk w g t cells) (ht : ∀ q, q ∈ e :: d.E → q ≠ t) : Kd.S d e w base (fun k => ok k ∧ k ≠ g) v xs :=
  Kd.S_mono (Kd.S_bound h) (fun k hk => ⟨hk.1, by
    rintro rfl
    obtain ⟨q, hq, cs, hc⟩ := hk.2.2.2
    unfold MBlk at hb
    rw [hb] at hc
    injection hc with hc
    injection hc with _ hc
    exact ht q hq hc.symm⟩)
/-- The world while a row is read: the reader, the two named results, the row. -/
structure RowInv (w W : World) (t : ByteArray) (u : Value) (acc : List S57) : Prop where
  r : MBlk W (w.heap.size + 1 + 1) 77 #[.string t]
  l : MBlk W w.heap.size 22 #[u]
  o : MBlk W (w.heap.size + 1) 4 #[.bool false]
  a : Kd.S k57 57 W w.heap.size (fun _ => True) u acc
  k : Below w.heap.size w W
theorem RowInv.read {w W : World} {t : ByteArray} {u : Value} {acc : List S57} (h : RowInv w W t u acc) (t2 : ByteArray) : RowInv w (W.setCell ⟨w.heap.size + 1 + 1, 0, none⟩ (.string t2)) t2 u acc :=
  ⟨mblk_set h.r 0 _, mblk_far h.l (by show w.heap.size ≠ w.heap.size + 1 + 1; omega) _, mblk_far h.o (by show w.heap.size + 1 ≠ w.heap.size + 1 + 1; omega) _,
    Kd.S_mono (Kd.S_far (p := ⟨w.heap.size + 1 + 1, 0, none⟩) (kdS_types h.a h.r (by decide)) (fun k hk => hk.2) _) (fun _ _ => trivial), h.k.setCell (by show w.heap.size ≤ w.heap.size + 1 + 1; omega) _⟩
theorem RowInv.drew {w W : World} {t : ByteArray} {u : Value} {acc : List S57} (h : RowInv w W t u acc) : RowInv w W.drew t u acc :=
  ⟨h.r, h.l, h.o, Kd.S_drew h.a, h.k.drew⟩
structure ReadRes (w : World) (r1 : List S57) (r2 : Bool) (e : Ending) (w' : World) : Prop where
  out : ∃ v0_ : Value, e = .returned (.tuple #[v0_, .bool r2]) ∧ Kd.S k57 57 w' w.heap.size (fun _ => True) v0_ r1 ∧ Below w.heap.size w w'
set_option maxRecDepth 100000 in
theorem catch_panicking (p0 p1 : Addr) (v : Value) (b : Bool) (u : TypeId) (pv : Value) (older : List PanicEntry) (w : World) (hc0 : w.cell? p0 = some v) (hz0 : w.frozen? p0 = false) (hc1 : w.cell? p1 = some (.bool b)) (hz1 : w.frozen? p1 = false) (hne : p0.block ≠ p1.block) :
    CallsD Try.prog 55 #[.pointer (some p0), .pointer (some p1)] (.panicking ({ v := .iface u pv, recovered := false } :: older)) w fun e u' w' =>
      e = .returned (.tuple #[]) ∧ u' = .panicking ({ v := .iface u pv, recovered := true } :: older) ∧ w' = (w.setCell p0 (.slice none 0 0)).setCell p1 (.bool false) := by
  refine callsD_of_wpS Try.func55 rfl fun c₀ cs hu => ?_
  apply wpS_seq
  apply wpS_region
  simp [wpOpsS, go_sem, recoverD, hu, Try.ntmps55, Exit.thenS]
  refine wpS_cond (t := true) (by simp [Act.eval, Array.replicate]) ?_
  simp only [if_true]
  apply wpS_region
  have hz2 : (w.setCell p0 (.slice none 0 0)).frozen? p1 = false := by rw [World.frozen?_setCell]; exact hz1
  have hc2 : (w.setCell p0 (.slice none 0 0)).cell? p1 = some (.bool b) := (World.cell?_setCell_other _ _ _ _ (by rintro rfl; exact hne rfl)).trans hc1
  simp [wpOpsS, go_sem, hc0, hz0, hc2, hz2, bodyPostS, results, Try.results55]
set_option maxRecDepth 100000 in
theorem catch_idle (p0 p1 : Addr) (w : World) :
    CallsD Try.prog 55 #[.pointer (some p0), .pointer (some p1)] .returning w fun e u' w' => e = .returned (.tuple #[]) ∧ u' = .returning ∧ w' = w := by
  refine callsD_of_wpS Try.func55 rfl fun c₀ cs hu => ?_
  apply wpS_seq
  apply wpS_region
  simp [wpOpsS, go_sem, recoverD, hu, Try.ntmps55, Exit.thenS]
  refine wpS_cond (t := false) (by simp [Act.eval, Array.replicate]) ?_
  simp only [Bool.false_eq_true, if_false]
  refine wpS_of_wp (wp_skip ?_)
  cases c₀
  simp_all [bodyPostS, results, Try.results55]
theorem leaves_congr {P : Program} {fn : Func} {tmps tmps' : Array Value} {R : Ending → World → Prop} (h : ∀ w, (results fn tmps).run P w = (results fn tmps').run P w) : ∀ (ds : List Deferred) (u : FrameMode) (w : World), Leaves P fn tmps R ds u w → Leaves P fn tmps' R ds u w
  | [], .returning, w => fun ⟨v, hr, hv⟩ => ⟨v, (h w).symm.trans hr, hv⟩
  | [], .panicking _, _ => fun h => h
  | [], .run, _ => fun h => h
  | d :: ds, u, w => fun ⟨h1, fv, cap, f, args, h2, h3, h4⟩ => ⟨h1, fv, cap, f, args, h2, h3, h4.mono (fun e u' w' he => by
      cases e with
      | returned v => exact leaves_congr h ds _ _ he
      | panicked c => exact leaves_congr h ds _ _ he
      | outgrown => exact he)⟩
theorem read_put (R : Ending → World → Prop) (n : Nat) (v : Value) (hn : n ≠ 2 ∧ n ≠ 3) (c : List PanicEntry) (a : Act) (w : World) (h : bodyPostD Try.prog Try.f32 R (.panic c) (a.put (some n) v) w) : bodyPostD Try.prog Try.f32 R (.panic c) a w := by
  refine leaves_congr (tmps := (a.put (some n) v).tmps) (fun w => ?_) _ _ _ h
  have e2 : (a.put (some n) v).tmps[2]? = a.tmps[2]? := by simp [Act.put, Array.getElem?_setIfInBounds, hn.1]
  have e3 : (a.put (some n) v).tmps[3]? = a.tmps[3]? := by simp [Act.put, Array.getElem?_setIfInBounds, hn.2]
  simp [results, Try.results32, e2, e3]
theorem read_results (w W : World) (tmps : Array Value) (u : Value) (b : Bool) (ht2 : tmps[2]? = some (.pointer (some ⟨w.heap.size, 0, none⟩))) (ht3 : tmps[3]? = some (.pointer (some ⟨w.heap.size + 1, 0, none⟩)))
    (hl : MBlk W w.heap.size 22 #[u]) (ho : MBlk W (w.heap.size + 1) 4 #[.bool b]) : (results Try.f32 tmps).run Try.prog W = .ok (.tuple #[u, .bool b]) W := by
  have h1 : W.cell? ⟨w.heap.size, 0, none⟩ = some u := (mblk_cell hl 0).trans rfl
  have h2 : W.cell? ⟨w.heap.size + 1, 0, none⟩ = some (.bool b) := (mblk_cell ho 0).trans rfl
  simp [results, Try.results32, go_sem, ht2, ht3, h1, h2]
theorem leave_idle (w W : World) (tmps : Array Value) (r1 : List S57) (r2 : Bool) (u : Value) (ht2 : tmps[2]? = some (.pointer (some ⟨w.heap.size, 0, none⟩))) (ht3 : tmps[3]? = some (.pointer (some ⟨w.heap.size + 1, 0, none⟩)))
    (hl : MBlk W w.heap.size 22 #[u]) (ho : MBlk W (w.heap.size + 1) 4 #[.bool r2]) (hS : Kd.S k57 57 W w.heap.size (fun _ => True) u r1) (hk : Below w.heap.size w W) :
    Leaves Try.prog Try.f32 tmps (fun e w' => ReadRes w r1 r2 e w') [{ target := .fn (.func 55) #[.pointer (some ⟨w.heap.size, 0, none⟩), .pointer (some ⟨w.heap.size + 1, 0, none⟩)], args := #[] }] .returning W := by
  refine leaves_cons (f := 55) (args := #[.pointer (some ⟨w.heap.size, 0, none⟩), .pointer (some ⟨w.heap.size + 1, 0, none⟩)]) (by simp) (by simp [go_sem]) ?_
  refine (catch_idle _ _ _).mono ?_
  rintro e u' w'' ⟨rfl, rfl, rfl⟩
  exact ⟨_, read_results w _ tmps u r2 ht2 ht3 hl ho, ⟨u, rfl, hS, hk⟩⟩
theorem leave_panic (w W : World) (tmps : Array Value) (u : Value) (b : Bool) (r1 : List S57) (r2 : Bool) (tp : TypeId) (pv : Value) (ht2 : tmps[2]? = some (.pointer (some ⟨w.heap.size, 0, none⟩))) (ht3 : tmps[3]? = some (.pointer (some ⟨w.heap.size + 1, 0, none⟩)))
    (hl : MBlk W w.heap.size 22 #[u]) (ho : MBlk W (w.heap.size + 1) 4 #[.bool b]) (hk : Below w.heap.size w W) (hr : r1 = [] ∧ r2 = false) :
    Leaves Try.prog Try.f32 tmps (fun e w' => ReadRes w r1 r2 e w') [{ target := .fn (.func 55) #[.pointer (some ⟨w.heap.size, 0, none⟩), .pointer (some ⟨w.heap.size + 1, 0, none⟩)], args := #[] }] (.panicking [{ v := .iface tp pv, recovered := false }]) W := by
  obtain ⟨rfl, rfl⟩ := hr
  refine leaves_cons (f := 55) (args := #[.pointer (some ⟨w.heap.size, 0, none⟩), .pointer (some ⟨w.heap.size + 1, 0, none⟩)]) (by simp) (by simp [go_sem]) ?_
  refine (catch_panicking _ _ u b tp pv [] _ ((mblk_cell hl 0).trans rfl) (mblk_frozen hl 0) ((mblk_cell ho 0).trans rfl) (mblk_frozen ho 0) (by show w.heap.size ≠ w.heap.size + 1; omega)).mono ?_
  rintro e u' w'' ⟨rfl, rfl, rfl⟩
  refine ⟨_, read_results w _ tmps (.slice none 0 0) false ht2 ht3 (mblk_far (mblk_set hl 0 _) (by show w.heap.size ≠ w.heap.size + 1; omega) _) (mblk_set (mblk_far ho (by show w.heap.size + 1 ≠ w.heap.size; omega) _) 0 _), ⟨_, rfl, Kd.S_nil _ _ _ _ _, (hk.setCell (Nat.le_refl _) _).setCell (Nat.le_succ _) _⟩⟩
theorem done_false (w W : World) (tmps : Array Value) (r1 : List S57) (r2 : Bool) (u : Value) (b : Bool) (ht2 : tmps[2]? = some (.pointer (some ⟨w.heap.size, 0, none⟩))) (ht3 : tmps[3]? = some (.pointer (some ⟨w.heap.size + 1, 0, none⟩)))
    (hl : MBlk W w.heap.size 22 #[u]) (ho : MBlk W (w.heap.size + 1) 4 #[.bool b]) (hk : Below w.heap.size w W) (hr : r1 = [] ∧ r2 = false) :
    Leaves Try.prog Try.f32 tmps (fun e w' => ReadRes w r1 r2 e w') [{ target := .fn (.func 55) #[.pointer (some ⟨w.heap.size, 0, none⟩), .pointer (some ⟨w.heap.size + 1, 0, none⟩)], args := #[] }] .returning ((W.setCell ⟨w.heap.size, 0, none⟩ (.slice none 0 0)).setCell ⟨w.heap.size + 1, 0, none⟩ (.bool false)) := by
  obtain ⟨rfl, rfl⟩ := hr
  exact leave_idle w _ tmps [] false (.slice none 0 0) ht2 ht3 (mblk_far (mblk_set hl 0 _) (by show w.heap.size ≠ w.heap.size + 1; omega) _) (mblk_set (mblk_far ho (by show w.heap.size + 1 ≠ w.heap.size; omega) _) 0 _) (Kd.S_nil _ _ _ _ _) ((hk.setCell (Nat.le_refl _) _).setCell (Nat.le_succ _) _)
theorem done_true (w W : World) (tmps : Array Value) (r1 : List S57) (r2 : Bool) (u : Value) (b : Bool) (ht2 : tmps[2]? = some (.pointer (some ⟨w.heap.size, 0, none⟩))) (ht3 : tmps[3]? = some (.pointer (some ⟨w.heap.size + 1, 0, none⟩)))
    (hl : MBlk W w.heap.size 22 #[u]) (ho : MBlk W (w.heap.size + 1) 4 #[.bool b]) (hk : Below w.heap.size w W) (hS : Kd.S k57 57 W w.heap.size (fun _ => True) u r1) (hr : r2 = true) :
    Leaves Try.prog Try.f32 tmps (fun e w' => ReadRes w r1 r2 e w') [{ target := .fn (.func 55) #[.pointer (some ⟨w.heap.size, 0, none⟩), .pointer (some ⟨w.heap.size + 1, 0, none⟩)], args := #[] }] .returning ((W.setCell ⟨w.heap.size, 0, none⟩ u).setCell ⟨w.heap.size + 1, 0, none⟩ (.bool true)) := by
  subst hr
  have hl1 := mblk_set hl 0 u
  have ho1 := mblk_far (p := ⟨w.heap.size, 0, none⟩) ho (by show w.heap.size + 1 ≠ w.heap.size; omega) u
  exact leave_idle w _ tmps r1 true u ht2 ht3 (mblk_far hl1 (by show w.heap.size ≠ w.heap.size + 1; omega) _) (mblk_set ho1 0 _)
    (Kd.S_mono (Kd.S_far (p := ⟨w.heap.size + 1, 0, none⟩) (kdS_types (Kd.S_mono (ok' := fun _ => True) (Kd.S_far (p := ⟨w.heap.size, 0, none⟩) (kdS_types hS hl (by decide)) (fun _ hk => hk.2) u) (fun _ _ => trivial)) ho1 (by decide)) (fun _ hk => hk.2) _) (fun _ _ => trivial)) ((hk.setCell (Nat.le_refl _) _).setCell (Nat.le_succ _) _)
open Go.Proofs.Ytlblianpbjhmoaa.MNext in
set_option maxHeartbeats 4000000 in
set_option maxRecDepth 100000 in
theorem slot_Read.calls_ (k : Nat) (s : ByteArray) (r1 : List S57) (r2 : Bool) (w : World) (h : slot_Read.f k s = some (r1, r2)) :
    Calls Try.prog 32 #[.string s] w fun e w' => ReadRes w r1 r2 e w' := by
  have hu57 := Try.underlying57
  have mixed : Try.prog.follows Departure.mixedOrders = true := by kernel_rfl
  have hmf : ∀ (fn : Fn) (first cap : Array Value) (w : World), (Instr.makeFunc fn first cap).run Try.prog w = .ok (.func fn first cap) w := fun _ _ _ _ => rfl
  have hs : s.size ≤ 1000000000 := by
    unfold slot_Read.f at h
    split at h
    · cases h
    · omega
  have H0 := Aside0.mk (show (match rowP s with | none => some ([], false) | some (l, t, n, at0) => if t ≠ ⟨#[]⟩ ∨ n = 0 ∧ at0 ≠ 0 then some ([], false) else (slot_Row.f k l 1024).bind fun b => some (if b = true then (l, true) else ([], false))) = some (r1, r2) by
    rw [← h, slot_Read.f, if_neg (by omega)])
  clear h
  have HI := Aside0.mk (show RowInv w (((w.alloc (.cells #[.slice none 0 0] 22)).alloc (.cells #[.bool false] 4)).alloc (.cells #[.string s] 77)) s (.slice none 0 0) [] from by
    have e1 : (w.alloc (.cells #[.slice none 0 0] 22)).heap.size = w.heap.size + 1 := by simp
    have e2 : ((w.alloc (.cells #[.slice none 0 0] 22)).alloc (.cells #[.bool false] 4)).heap.size = w.heap.size + 1 + 1 := by simp
    have b2 := mblk_new (w.alloc (.cells #[.slice none 0 0] 22)) 4 #[.bool false]
    have b3 := mblk_new ((w.alloc (.cells #[.slice none 0 0] 22)).alloc (.cells #[.bool false] 4)) 77 #[.string s]
    rw [e1] at b2
    rw [e2] at b3
    exact ⟨b3, mblk_alloc (mblk_alloc (mblk_new _ _ _) _) _, mblk_alloc b2 _, Kd.S_nil _ _ _ _ _, below_alloc (below_alloc (below_alloc (Below.refl _ _) _) _) _⟩)
  go_enter_defers Try.func32, Try.ntmps32
  go_wp2_with fail
  have hn := next_calls (w.heap.size + 1 + 1) s 4096 _ HI.out.r hs
  refine hn.mono ?_
  rintro e w2 ⟨h⟩
  clear hn
  cases hP : nextP s 4096 with
  | none =>
    rw [hP] at h
    obtain ⟨rfl, rfl⟩ := h
    refine leave_panic w _ _ _ _ r1 r2 _ _ rfl rfl HI.out.l HI.out.o HI.out.k ?_
    have h := H0.out
    simp only [rowP, hP] at h
    injection h with h
    injection h with h1 h2
    exact ⟨h1.symm, h2.symm⟩
  | some q =>
  obtain ⟨n, t0⟩ := q
  rw [hP] at h
  obtain ⟨rfl, hw2⟩ := h
  obtain ⟨hn0, hn1, ht0⟩ := nextP_bound hP
  have HI2 := Aside0.mk (show RowInv w w2 t0 (.slice none 0 0) [] by rw [hw2]; exact HI.out.read t0)
  have HP := Aside0.mk hP
  have ht1 : t0.size ≤ 1000000000 := by omega
  clear hw2 HI hP ht0
  go_wp2_with fail
  have hn := next_calls (w.heap.size + 1 + 1) t0 1099511627776 _ HI2.out.r ht1
  refine hn.mono ?_
  rintro e w3 ⟨h⟩
  clear hn
  cases hP : nextP t0 1099511627776 with
  | none =>
    rw [hP] at h
    obtain ⟨rfl, rfl⟩ := h
    refine leave_panic w _ _ _ _ r1 r2 _ _ rfl rfl HI2.out.l HI2.out.o HI2.out.k ?_
    have h := H0.out
    simp only [rowP, HP.out, hP] at h
    injection h with h
    injection h with h1 h2
    exact ⟨h1.symm, h2.symm⟩
  | some q =>
  obtain ⟨at0, t1⟩ := q
  rw [hP] at h
  obtain ⟨rfl, hw3⟩ := h
  obtain ⟨ha0, ha1, hta⟩ := nextP_bound hP
  have HI3 := Aside0.mk (show RowInv w w3 t1 (.slice none 0 0) [] by rw [hw3]; exact HI2.out.read t1)
  have HP2 := Aside0.mk hP
  have ht2 : t1.size ≤ 1000000000 := by omega
  clear hw3 HI2 hP hta ht1
  obtain ⟨N, hN⟩ : ∃ N : Nat, n = (N : Int) := ⟨n.toNat, by omega⟩
  subst hN
  have HN := Aside0.mk (show N ≤ 4096 by omega)
  have HR0 := Aside0.mk (show rowP s = (match slotsP N t1 at0 0 [] with | none => none | some (l, t3) => some (l, t3, (N : Int), at0)) by
    simp only [rowP, HP.out, HP2.out, Int.toNat_natCast])
  clear HP HP2 hn0 hn1
  go_wp2_with fail
  go_loopw [17] (fun v17 wr => ∃ (i : Nat) (t : ByteArray) (acc : List S57) (u : Value), v17 = .int .i64 i ∧ i ≤ N ∧ t.size ≤ 1000000000 ∧ Aside0 (acc.length ≤ i) ∧ Aside0 (slotsP (N - i) t at0 i acc = slotsP N t1 at0 0 []) ∧ Aside0 (RowInv w wr t u acc)) (fun v _ => N - (intOf v).toNat)
  case atStart => exact ⟨0, t1, [], .slice none 0 0, rfl, Nat.zero_le _, ht2, ⟨Nat.le_refl _⟩, ⟨rfl⟩, HI3⟩
  case round =>
    clear HI3 ht2
    obtain ⟨i, t, acc, u, rfl, hi, hts, HAL, HR, HI2⟩ := hrel
    by_cases hlt : i < N
    · obtain ⟨m, hm⟩ : ∃ m, N - i = m + 1 := ⟨N - i - 1, by omega⟩
      have HNM := Aside0.mk hm
      rw [hm] at HR
      clear hm
      go_wp2_with fail
      refine start_ (n := 9) (S := fun w' => w'.cell? ⟨w.heap.size, 0, none⟩ = some u) (ds := [8]) #[false, false, false, false, false, false, false, false, false] mixed rfl rfl ((mblk_cell HI2.out.l 0).trans rfl) (fun hHeld => ?_)
      have HI5 := Aside0.mk HI2.out.drew
      clear HI2
      generalize wr.drew = w5 at HI5 hHeld ⊢
      refine pure_ (i := 1) (N := some 21) (v := ?_) (a' := ?_) #[false, true, false, false, false, false, false, false, false] rfl rfl (by kernel_rfl) (fun c a w h => read_put _ 21 _ (by decide) c a w h) (Or.inl ⟨by rfl, ?_⟩) ?_ ?_
      rotate_left
      · intro w'
        go_simp
        with_reducible rfl
      rotate_left
      · simp only [Act.put, List.setIfInBounds_toArray, List.set_cons_zero, List.set_cons_succ, i64_w, i32_w]
        rfl
      refine pure_ (i := 2) (N := some 22) (v := ?_) (a' := ?_) #[false, true, true, false, false, false, false, false, false] rfl rfl (by kernel_rfl) (fun c a w h => read_put _ 22 _ (by decide) c a w h) (Or.inl ⟨by rfl, ?_⟩) ?_ ?_
      rotate_left
      · intro w'
        go_simp
        with_reducible rfl
      rotate_left
      · simp only [Act.put, List.setIfInBounds_toArray, List.set_cons_zero, List.set_cons_succ, i64_w, i32_w]
        rfl
      refine pure_ (i := 3) (N := some 23) (v := ?_) (a' := ?_) #[false, true, true, true, false, false, false, false, false] rfl rfl (by kernel_rfl) (fun c a w h => read_put _ 23 _ (by decide) c a w h) (Or.inl ⟨by rfl, ?_⟩) ?_ ?_
      rotate_left
      · intro w'
        go_simp
        with_reducible rfl
      rotate_left
      · simp only [Act.put, List.setIfInBounds_toArray, List.set_cons_zero, List.set_cons_succ, i64_w, i32_w]
        rfl
      refine pure_ (i := 4) (N := some 24) (v := ?_) (a' := ?_) #[false, true, true, true, true, false, false, false, false] rfl rfl (by kernel_rfl) (fun c a w h => read_put _ 24 _ (by decide) c a w h) (Or.inl ⟨by rfl, ?_⟩) ?_ ?_
      rotate_left
      · intro w'
        go_simp
        with_reducible rfl
      rotate_left
      · simp only [Act.put, List.setIfInBounds_toArray, List.set_cons_zero, List.set_cons_succ, i64_w, i32_w]
        rfl
      refine take_ (i := 0) (N := some 20) (v := ?_) (a' := ?_) #[true, true, true, true, true, false, false, false, false] rfl rfl (by kernel_rfl) (fun c a w h => read_put _ 20 _ (by decide) c a w h) (Or.inl ⟨by rfl, ?_⟩) hHeld ?_ ?_
      rotate_left
      · intro w' s0
        go_simp
        with_reducible rfl
      rotate_left
      · simp only [Act.put, List.setIfInBounds_toArray, List.set_cons_zero, List.set_cons_succ, i64_w, i32_w]
        rfl
      refine one_ (i := 5) (N := some 25) #[true, true, true, true, true, true, false, false, false] rfl rfl (by kernel_rfl) (by decide) (fun K hK => ?_)
      refine goesP_ Try.func57 (by kernel_rfl) rfl #[.pointer (some ⟨w.heap.size + 1 + 1, 0, none⟩), .int .i64 (wrap64 (at0 + i))] (by rfl) rfl rfl (by (try simp only [List.map_toArray, List.map_cons, List.map_nil]); first | done | rfl) ?_
      have hn1 := slot_calls (w.heap.size + 1 + 1) t (wrap64 (at0 + i)) _ HI5.out.r hts
      refine hn1.mono ?_
      rintro e w6 ⟨hkeep, h⟩
      clear hn1
      have hk6 : Below w.heap.size w w6 := HI5.out.k.trans (hkeep.toBelow (by omega) HI5.out.k.size)
      have hl6 : MBlk w6 w.heap.size 22 #[u] := (hkeep.block _ (mblk_lt HI5.out.l) (by omega)).trans HI5.out.l
      have ho6 : MBlk w6 (w.heap.size + 1) 4 #[.bool false] := (hkeep.block _ (mblk_lt HI5.out.o) (by omega)).trans HI5.out.o
      cases hP3 : slotP t (wrap64 (at0 + i)) with
      | none =>
        rw [hP3] at h
        obtain rfl := h
        refine Or.inr ⟨_, rfl, leave_panic w _ _ u false r1 r2 _ _ rfl rfl hl6 ho6 hk6 ?_⟩
        have h := H0.out
        rw [HR0.out, ← HR.out] at h
        simp only [slotsP, hP3] at h
        injection h with h
        injection h with h1 h2
        exact ⟨h1.symm, h2.symm⟩
      | some q3 =>
      obtain ⟨x, t3⟩ := q3
      rw [hP3] at h
      obtain ⟨A, c, rfl, hR6, hr6⟩ := h
      refine Or.inl ⟨_, rfl, ?_⟩
      have ht3 : t3.size ≤ 1000000000 := Nat.le_trans (slotP_bound hP3) hts
      have HP3 := Aside0.mk hP3
      have hS5 : Kd.S k57 57 w5 w.heap.size (fun k => k < w5.heap.size ∧ k ≠ w.heap.size + 1 + 1) u acc := Kd.S_mono (Kd.S_bound (kdS_types HI5.out.a HI5.out.r (by decide))) (fun k hk => ⟨hk.2.2.1, hk.1.2⟩)
      have hS6 := Kd.S_step hS5 (fun k hk hlt => hkeep.block k hlt hk.2)
      have HS6 := Aside0.mk hS6
      have HR6 := Aside0.mk hR6
      have HL6 := Aside0.mk (And.intro hl6 (And.intro ho6 (And.intro hr6 (And.intro hk6 HI5.out.k.size))))
      have hcell : w6.cell? ⟨w.heap.size, 0, none⟩ = some u := (mblk_cell hl6 0).trans rfl
      clear hkeep hk6 hl6 ho6 hr6 hR6 hS5 hS6 HI5 hP3 hHeld
      refine hK.out _ _ hcell (fun hHeld => ?_)
      clear hK K hcell
      refine norm_ (a' := ?_) ?_ ?_
      rotate_left
      · show Act.put _ (some 25) _ = _
        simp only [Act.put, List.setIfInBounds_toArray, List.set_cons_zero, List.set_cons_succ, i64_w, i32_w]
        rfl
      refine one_ (i := 6) (N := some 26) #[true, true, true, true, true, true, true, false, false] rfl rfl (by kernel_rfl) (by decide) (fun K hK => ?_)
      refine value_ (w1 := ?_) (v := ?_) (by rfl) rfl ?_ ?_
      rotate_left 2
      · go_simp
        constructor
        · rfl
        · rfl
      refine hK.out _ _ ((mblk_cell (mblk_alloc HL6.out.1 _) 0).trans rfl) (fun hHeld => ?_)
      clear hK K
      refine norm_ (a' := ?_) ?_ ?_
      rotate_left
      · show Act.put _ (some 26) _ = _
        simp only [Act.put, List.setIfInBounds_toArray, List.set_cons_zero, List.set_cons_succ, i64_w, i32_w]
        rfl
      refine one_ (i := 7) (N := some 27) #[true, true, true, true, true, true, true, true, false] rfl rfl (by kernel_rfl) (by decide) (fun K hK => ?_)
      have hbase : ∀ k, (.slice A x.f1.length c : Value).ownBlock = some k → w5.heap.size ≤ k := Kd.R_base HR6.out
      refine Kd.S_append_step k57 (w0 := w6) w.heap.size (by rfl) (.tmp 20) (.tmp 26) 22 57 (.agg #[(.int .i64 0), (.slice none 0 0)]) 32 rfl Try.underlying22 info57 rfl (by decide) (by omega) u acc x [.int .i64 x.f0, .slice A x.f1.length c] (fun _ => True) (fun k_ => some k_ = (.slice A x.f1.length c : Value).ownBlock) rfl rfl ?aP ?aQ ?aF ?aO ?aB ?aS ?aL ?_
      case aP => exact k57_mkM _ _ _ x (Kd.R_tight rfl (Kd.R_lower HR6.out HL6.out.2.2.2.2))
      case aQ => exact fun k hk => ⟨trivial, fun he => by have h1 := hbase k hk.symm; have h2 := ((Kd.S_R HS6.out).1 k he.symm).1; omega⟩
      case aB => exact Below.refl _ _
      case aF => exact (fun _ _ => trivial)
      case aO => exact Kd.S_mono HS6.out (fun k hk => ⟨trivial, fun he => by have h1 := hbase k he.symm; have h2 := hk.1; omega⟩)
      case aS => exact HL6.out.2.2.2.1.size
      case aL => have := HAL.out; have := HN.out; omega
      intro v7 w7 ho hb hg hat
      clear hbase
      obtain ⟨A7, c7, e7⟩ := Kd.S_slice ho
      subst e7
      have hO2 : Kd.S k57 57 w7 w.heap.size (fun _ => True) (.slice A7 (acc.length + 1) c7) (acc ++ [x]) := by
        have h := ho
        rw [List.length_append] at h
        exact h
      have HO2 := Aside0.mk hO2
      have HXl := Aside0.mk (show MBlk w7 w.heap.size 22 #[u] from blk_grown (g := w.heap.size) (o := .cells #[u] 22 (0, 0)) HL6.out.1 hg (Kd.S_away (kdS_types HS6.out HL6.out.1 (by decide)) (fun _ hk => hk.2)))
      have HXo := Aside0.mk (show MBlk w7 (w.heap.size + 1) 4 #[.bool false] from blk_grown (g := w.heap.size + 1) (o := .cells #[.bool false] 4 (0, 0)) HL6.out.2.1 hg (Kd.S_away (kdS_types HS6.out HL6.out.2.1 (by decide)) (fun _ hk => hk.2)))
      have HXr := Aside0.mk (show MBlk w7 (w.heap.size + 1 + 1) 77 #[.string t3] from blk_grown (g := w.heap.size + 1 + 1) (o := .cells #[.string t3] 77 (0, 0)) HL6.out.2.2.1 hg (Kd.S_away (kdS_types HS6.out HL6.out.2.2.1 (by decide)) (fun _ hk => hk.2)))
      have HXk := Aside0.mk (HL6.out.2.2.2.1.trans hb)
      clear ho hb hg hat hO2 HS6 HR6 HL6 hHeld
      refine hK.out _ _ ((mblk_cell HXl.out 0).trans rfl) (fun hHeld => ?_)
      clear hK K
      refine norm_ (a' := ?_) ?_ ?_
      rotate_left
      · show Act.put _ (some 27) _ = _
        simp only [Act.put, List.setIfInBounds_toArray, List.set_cons_zero, List.set_cons_succ, i64_w, i32_w]
        rfl
      refine last_ (i := 8) (N := none) #[true, true, true, true, true, true, true, true, true] rfl rfl (by kernel_rfl) (by decide) (fun K hK => ?_)
      have hs16 : w7.cell? ⟨w.heap.size, 0, none⟩ = some u := (mblk_cell HXl.out 0).trans rfl
      have hfs16 := mblk_frozen HXl.out 0
      refine skip_ (w1 := ?_) (by rfl) rfl ?_ ?_
      rotate_left
      · go_simp
        rfl
      refine hK.out _ _ ?_
      clear hK K
      refine done_ (by kernel_rfl) ?_
      have hw1 : wrap64 ((i : Int) + 1) = ((i + 1 : Nat) : Int) := by have := HN.out; unfold wrap64; omega
      go_wp2_with fail
      rw [hw1]
      go_round
      case measure => simp only [intOf]; omega
      case rel =>
        refine ⟨i + 1, t3, acc ++ [x], .slice A7 (acc.length + 1) c7, rfl, by omega, ht3, ⟨by have := HAL.out; simp; omega⟩, ⟨?_⟩, ⟨⟨mblk_far HXr.out (by show w.heap.size + 1 + 1 ≠ w.heap.size; omega) _, mblk_set HXl.out 0 _, mblk_far HXo.out (by show w.heap.size + 1 ≠ w.heap.size; omega) _, ?_, HXk.out.setCell (Nat.le_refl _) _⟩⟩⟩
        · rw [show N - (i + 1) = m by have := HNM.out; omega, ← HR.out]
          simp only [slotsP, HP3.out]
          rfl
        · exact Kd.S_mono (Kd.S_far (p := ⟨w.heap.size, 0, none⟩) (kdS_types HO2.out HXl.out (by decide)) (fun _ hk => hk.2) _) (fun _ _ => trivial)
    · have hie : i = N := by omega
      subst hie
      have hrow : rowP s = some (acc, t, (i : Int), at0) := by
        rw [HR0.out, ← HR.out, Nat.sub_self]
        rfl
      have h0 := H0.out
      rw [hrow] at h0
      have HW := Aside0.mk (show (if t ≠ ⟨#[]⟩ ∨ (i : Int) = 0 ∧ at0 ≠ 0 then some ([], false) else (slot_Row.f k acc 1024).bind fun b => some (if b = true then (acc, true) else ([], false))) = some (r1, r2) from h0)
      clear h0 hrow HR0 H0 HR
      obtain ⟨A, c, rfl⟩ := Kd.S_slice HI2.out.a
      have hcl : wr.cell? ⟨w.heap.size, 0, none⟩ = some (.slice A acc.length c) := (mblk_cell HI2.out.l 0).trans rfl
      have hco : wr.cell? ⟨w.heap.size + 1, 0, none⟩ = some (.bool false) := (mblk_cell HI2.out.o 0).trans rfl
      have hcr : wr.cell? ⟨w.heap.size + 1 + 1, 0, none⟩ = some (.string t) := (mblk_cell HI2.out.r 0).trans rfl
      have hfl : wr.frozen? ⟨w.heap.size, 0, none⟩ = false := mblk_frozen HI2.out.l 0
      have hfo : wr.frozen? ⟨w.heap.size + 1, 0, none⟩ = false := mblk_frozen HI2.out.o 0
      by_cases ht : t = ⟨#[]⟩
      · subst ht
        by_cases hi0 : i = 0
        · subst hi0
          by_cases hat : at0 = 0
          · subst hat
            have e := HW.out
            rw [if_neg (show ¬ ((⟨#[]⟩ : ByteArray) ≠ ⟨#[]⟩ ∨ ((0 : Nat) : Int) = 0 ∧ (0 : Int) ≠ 0) from fun h => h.elim (fun h => h rfl) (fun h => h.2 rfl))] at e
            obtain ⟨b, hb, he⟩ := Option.bind_eq_some_iff.1 e
            clear e HW
            have HRow := Aside0.mk hb
            have HE := Aside0.mk he
            clear hb he
            go_wp2_with fail
            have hrd := Kd.S_reads' HI2.out.a
            refine (slot_Row.calls k A c acc 1024 b _ hrd.2.2 hrd.2.1 HRow.out).mono ?_
            rintro e w5 ⟨rfl, hbel⟩
            have hl5 : MBlk w5 w.heap.size 22 #[.slice A acc.length c] := (hbel.block _ (mblk_lt HI2.out.l)).trans HI2.out.l
            have ho5 : MBlk w5 (w.heap.size + 1) 4 #[.bool false] := (hbel.block _ (mblk_lt HI2.out.o)).trans HI2.out.o
            have HL5 := Aside0.mk (And.intro hl5 (And.intro ho5 (And.intro (Kd.S_below HI2.out.a hbel) (below_step HI2.out.k hbel))))
            have hcl : w5.cell? ⟨w.heap.size, 0, none⟩ = some (.slice A acc.length c) := (mblk_cell hl5 0).trans rfl
            have hco : w5.cell? ⟨w.heap.size + 1, 0, none⟩ = some (.bool false) := (mblk_cell ho5 0).trans rfl
            have hfl : w5.frozen? ⟨w.heap.size, 0, none⟩ = false := mblk_frozen hl5 0
            have hfo : w5.frozen? ⟨w.heap.size + 1, 0, none⟩ = false := mblk_frozen ho5 0
            clear hbel hl5 ho5 hrd HI2
            cases b with
            | true =>
              have hr : acc = r1 ∧ true = r2 := by
                have e := HE.out
                injection e with e
                injection e with e1 e2
                exact ⟨e1, e2⟩
              obtain ⟨rfl, rfl⟩ := hr
              clear HE
              go_wp2_with fail
              exact done_true w w5 _ acc true _ false rfl rfl HL5.out.1 HL5.out.2.1 HL5.out.2.2.2 HL5.out.2.2.1 rfl
            | false =>
              have hr : r1 = [] ∧ r2 = false := by
                have e := HE.out
                injection e with e
                injection e with e1 e2
                exact ⟨e1.symm, e2.symm⟩
              clear HE
              go_wp2_with fail
              exact done_false w w5 _ r1 r2 _ false rfl rfl HL5.out.1 HL5.out.2.1 HL5.out.2.2.2 hr
          · have hat2 : (at0 != 0) = true := by simpa using hat
            have hr : r1 = [] ∧ r2 = false := by
              have e := HW.out
              rw [if_pos (Or.inr ⟨rfl, hat⟩)] at e
              injection e with e
              injection e with e1 e2
              exact ⟨e1.symm, e2.symm⟩
            go_wp2_with fail
            all_goals exact done_false w _ _ r1 r2 _ false rfl rfl HI2.out.l HI2.out.o HI2.out.k hr
        · have hi2 : ((i : Int) == 0) = false := by simpa using hi0
          have e := HW.out
          rw [if_neg (show ¬ ((⟨#[]⟩ : ByteArray) ≠ ⟨#[]⟩ ∨ (i : Int) = 0 ∧ at0 ≠ 0) from fun h => h.elim (fun h => h rfl) (fun h => hi0 (by have := h.1; omega)))] at e
          obtain ⟨b, hb, he⟩ := Option.bind_eq_some_iff.1 e
          clear e HW
          have HRow := Aside0.mk hb
          have HE := Aside0.mk he
          clear hb he
          go_wp2_with fail
          have hrd := Kd.S_reads' HI2.out.a
          refine (slot_Row.calls k A c acc 1024 b _ hrd.2.2 hrd.2.1 HRow.out).mono ?_
          rintro e w5 ⟨rfl, hbel⟩
          have hl5 : MBlk w5 w.heap.size 22 #[.slice A acc.length c] := (hbel.block _ (mblk_lt HI2.out.l)).trans HI2.out.l
          have ho5 : MBlk w5 (w.heap.size + 1) 4 #[.bool false] := (hbel.block _ (mblk_lt HI2.out.o)).trans HI2.out.o
          have HL5 := Aside0.mk (And.intro hl5 (And.intro ho5 (And.intro (Kd.S_below HI2.out.a hbel) (below_step HI2.out.k hbel))))
          have hcl : w5.cell? ⟨w.heap.size, 0, none⟩ = some (.slice A acc.length c) := (mblk_cell hl5 0).trans rfl
          have hco : w5.cell? ⟨w.heap.size + 1, 0, none⟩ = some (.bool false) := (mblk_cell ho5 0).trans rfl
          have hfl : w5.frozen? ⟨w.heap.size, 0, none⟩ = false := mblk_frozen hl5 0
          have hfo : w5.frozen? ⟨w.heap.size + 1, 0, none⟩ = false := mblk_frozen ho5 0
          clear hbel hl5 ho5 hrd HI2
          cases b with
          | true =>
            have hr : acc = r1 ∧ true = r2 := by
              have e := HE.out
              injection e with e
              injection e with e1 e2
              exact ⟨e1, e2⟩
            obtain ⟨rfl, rfl⟩ := hr
            clear HE
            go_wp2_with fail
            exact done_true w w5 _ acc true _ false rfl rfl HL5.out.1 HL5.out.2.1 HL5.out.2.2.2 HL5.out.2.2.1 rfl
          | false =>
            have hr : r1 = [] ∧ r2 = false := by
              have e := HE.out
              injection e with e
              injection e with e1 e2
              exact ⟨e1.symm, e2.symm⟩
            clear HE
            go_wp2_with fail
            exact done_false w w5 _ r1 r2 _ false rfl rfl HL5.out.1 HL5.out.2.1 HL5.out.2.2.2 hr
      · have htl : ¬ t.toList = [] := fun h => ht (by
          rw [ByteArray.toList_eq] at h
          cases t
          simp at h
          subst h
          rfl)
        have hr : r1 = [] ∧ r2 = false := by
          have e := HW.out
          rw [if_pos (Or.inl ht)] at e
          injection e with e
          injection e with e1 e2
          exact ⟨e1.symm, e2.symm⟩
        go_wp2_with fail
        all_goals exact done_false w _ _ r1 r2 _ false rfl rfl HI2.out.l HI2.out.o HI2.out.k hr
theorem slot_Read.calls (k : Nat) (s : ByteArray) (r1 : List S57) (r2 : Bool) (w : World) (h : slot_Read.f k s = some (r1, r2)) :
    Calls Try.prog 32 #[.string s] w fun e w' => ∃ v0_ : Value, e = .returned (.tuple #[v0_, .bool r2]) ∧ Kd.S k57 57 w' w.heap.size (fun _ => True) v0_ r1 ∧ Below w.heap.size w w' :=
  (slot_Read.calls_ k s r1 r2 w h).mono fun _ _ h => h.out

end Go.Proofs.Ytlblianpbjhmoaa.PGs

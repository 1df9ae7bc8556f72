/- The walk of gantt.Read. -/
import Derived.Test.YtlblianpbjhmoaaXLines
import Derived.Test.YtlblianpbjhmoaaGLetters
import Derived.RangeFuncFrom
import Derived.Test.YtlblianpbjhmoaaQBits
import Derived.Test.YtlblianpbjhmoaaPGsx2
import Derived.Test.YtlblianpbjhmoaaPGsx47
import Derived.Test.YtlblianpbjhmoaaPGsx48
namespace Go.Proofs.Ytlblianpbjhmoaa.XGRead
open Go.RowKit Go.Proofs.Ytlblianpbjhmoaa.PGs Go.Proofs.YtlblianpbjhmoaaW.PrintWords Go.Proofs.YtlblianpbjhmoaaW.PrintLast Go.Proofs.YtlblianpbjhmoaaW.PrintMore Go.Proofs.Ytlblianpbjhmoaa.MWords Go.Proofs.Ytlblianpbjhmoaa.MBuild Go.Proofs.Ytlblianpbjhmoaa.XRange Go.Proofs.Ytlblianpbjhmoaa.XLines Go.Proofs.Ytlblianpbjhmoaa.GLetters Go.Proofs.Ytlblianpbjhmoaa.QBits
set_option linter.unusedVariables false
set_option linter.unusedSimpArgs false
attribute [local go_sem] Oper.semAt_some

/-- Who runs, by a line's first n bytes. -/
def rowF (t : ByteArray) : Nat → Option (List Int)
  | 0 => some []
  | n + 1 => (rowF t n).bind fun l => if place (bt t n) = -1 ∧ bt t n ≠ 46 then none else some (l ++ [place (bt t n)])
def rowR (t : ByteArray) : Option (List Int) := rowF t (t.size - 1)
def stepR (acc : List (List Int)) (t : ByteArray) : Option (List (List Int)) :=
  (rowR t).bind fun l => if 0 < acc.length ∧ l.length ≠ (acc.getD 0 []).length then none else some (acc ++ [l])
def rowsR (xs : List ByteArray) : Option (List (List Int)) := xs.foldlM stepR []
def endsNl (s : ByteArray) : Bool := decide (0 < s.size) && decide (bt s ((s.size : Int) - 1) = 10)
def readR (s : ByteArray) : List (List Int) × Bool :=
  if s.size ≠ 0 ∧ endsNl s = false then ([], false) else match rowsR (linesOf s) with
    | none => ([], false)
    | some l => (l, true)
theorem rowsR_snoc (xs : List ByteArray) (x : ByteArray) : rowsR (xs ++ [x]) = (rowsR xs).bind fun acc => stepR acc x := by
  unfold rowsR
  rw [List.foldlM_append]
  cases xs.foldlM stepR [] with
  | none => rfl
  | some a => show List.foldlM stepR a [x] = stepR a x; simp [List.foldlM]
theorem last_ext (s : ByteArray) (n : Nat) (h : s.size = n + 1) : (s.extract n s.size).toList = [s[n]'(by omega)] := by
  have hd : s.data.size = n + 1 := h
  rw [ByteArray.toList_eq, ByteArray.data_extract, Array.toList_extract]
  have e : s.data.toList.extract n s.size = s.data.toList.extract n (n + 1) := congrArg _ h
  rw [e]
  rw [List.extract_eq_take_drop, List.drop_eq_getElem_cons (by simp; omega)]
  simp
  rfl
theorem hs_f (s : ByteArray) (hs : s.size ≤ 1000000) : strings_HasSuffix.f s ⟨#[10]⟩ = some (endsNl s) := by
  have e1 : ((⟨#[10]⟩ : ByteArray).size : Int) = 1 := rfl
  unfold strings_HasSuffix.f stringslite_HasSuffix.f endsNl
  rw [e1]
  by_cases h : s.size = 0
  · rw [if_neg (by omega), decide_eq_false (show ¬ 0 < s.size by omega)]
    rfl
  · obtain ⟨n, hn⟩ : ∃ n, s.size = n + 1 := ⟨s.size - 1, by omega⟩
    have ew : wrap64 ((s.size : Int) - 1) = (n : Int) := by rw [w64 (by omega) (by omega)]; omega
    have ei : ((s.size : Int) - 1) = (n : Int) := by omega
    rw [if_pos (by omega), ew, if_pos (by omega), if_pos (by omega), decide_eq_true (show 0 < s.size by omega), ei, Int.toNat_natCast, last_ext s n hn, ByteArray.toList_eq]
    have hb := bt_at s (n : Int) (by simp; omega)
    simp only [Int.toNat_natCast] at hb
    rw [← hb]
    show some ([s[n]] == [10]) = some (true && decide _)
    generalize s[n] = b
    rw [Bool.true_and]
    congr 1
    by_cases hb10 : b = 10
    · subst hb10; rfl
    · have : ¬ ((b.toNat : Int) = 10) := fun e => hb10 (UInt8.toNat_inj.1 (show b.toNat = 10 from Int.ofNat.inj e))
      rw [decide_eq_false this]
      simpa using hb10
theorem rowsR_none {pre xs : List ByteArray} (h : pre <+: xs) (hn : rowsR pre = none) : rowsR xs = none := by
  obtain ⟨t, rfl⟩ := h
  unfold rowsR at hn ⊢
  rw [List.foldlM_append, hn]
  rfl
theorem rowF_len (t : ByteArray) : ∀ (n : Nat) (l : List Int), rowF t n = some l → l.length = n
  | 0, l, h => by obtain rfl := Option.some.inj h; rfl
  | n + 1, l, h => by
    unfold rowF at h
    obtain ⟨l0, h0, h1⟩ := Option.bind_eq_some_iff.1 h
    split at h1
    · cases h1
    · obtain rfl := Option.some.inj h1
      rw [List.length_append, rowF_len t n l0 h0]
      rfl
theorem rowF_none (t : ByteArray) (n : Nat) (h : rowF t n = none) : ∀ m, n ≤ m → rowF t m = none := by
  intro m hm
  induction hm with
  | refl => exact h
  | step _ ih => unfold rowF; rw [ih]; rfl
abbrev kRow : Kd (List Int) := Kd.slice 3 (Kd.int .i64)
theorem R_walk {W W' : World} {base : Nat} {v : Value} {xs : List (List Int)} {row : Option Nat} (h : Kd.R kRow 54 W base (fun _ => True) v xs) (hg : W.grownBy W' row) (hr : ∀ r, row = some r → ∃ o : Obj, W.heap[r]? = some o ∧ o.isCells = false) : Kd.R kRow 54 W' base (fun _ => True) v xs :=
  Kd.R_mono (Kd.R_grown (Kd.R_bound h) hg (fun k hk e => by
    obtain ⟨_, _, _, q, _, cells, hc⟩ := hk
    obtain ⟨o, ho, hn⟩ := hr k e.symm
    rw [hc] at ho
    obtain rfl := Option.some.inj ho
    simp [Obj.isCells] at hn)) (fun _ _ => trivial)
theorem mblk_walk {W W' : World} {row : Option Nat} {g : Nat} {t : TypeId} {cs : Array Value} (h : MBlk W g t cs) (hg : W.grownBy W' row) (hr : ∀ r, row = some r → ∃ o : Obj, W.heap[r]? = some o ∧ o.isCells = false) : MBlk W' g t cs :=
  (hg.block g (mblk_lt h) (fun e => by
    obtain ⟨o, ho, hc⟩ := hr g e.symm
    unfold MBlk at h
    rw [h] at ho
    obtain rfl := Option.some.inj ho
    simp [Obj.isCells] at hc)).trans h
/-- What a round keeps: B0, B0 + 1: the results; B0 + 2: the rows; B0 + 3: the text that is left. -/
structure RInv (B0 : Nat) (w : World) (pre : List ByteArray) (W : World) : Prop where
  res : MBlk W B0 23 #[.slice none 0 0]
  ok : MBlk W (B0 + 1) 4 #[.bool false]
  out : ∃ acc A c, rowsR pre = some acc ∧ MBlk W (B0 + 2) 23 #[.slice A acc.length c] ∧ Kd.R kRow 54 W (B0 + 4) (fun _ => True) (.slice A acc.length c) acc ∧ acc.length = pre.length
  box : ∃ u, MBlk W (B0 + 3) 9 #[u]
  keep : Below B0 w W
structure RStop (B0 : Nat) (w : World) (pre : List ByteArray) (W : World) : Prop where
  res : MBlk W B0 23 #[.slice none 0 0]
  ok : MBlk W (B0 + 1) 4 #[.bool false]
  no : rowsR pre = none
  keep : Below B0 w W
theorem RInv.own (B0 n : Nat) (w : World) (hw : B0 ≤ w.heap.size) (hn : B0 + 4 ≤ n) : OwnFrom n (RInv B0 w) := fun s X Y row h hg hr => by
  have hr' : ∀ r, row = some r → ∃ o : Obj, X.heap[r]? = some o ∧ o.isCells = false := fun r e => (hr r e).2
  obtain ⟨acc, A, c, h1, h2, h3, h4⟩ := h.out
  obtain ⟨u, h5⟩ := h.box
  exact ⟨mblk_walk h.res hg hr', mblk_walk h.ok hg hr', ⟨acc, A, c, h1, mblk_walk h2 hg hr', R_walk h3 hg hr', h4⟩, ⟨u, mblk_walk h5 hg hr'⟩, h.keep.grown hg (Nat.le_trans hw h.keep.size) (fun k e => by have := (hr k e).1; omega)⟩
theorem RStop.own (B0 n : Nat) (w : World) (hw : B0 ≤ w.heap.size) (hn : B0 + 4 ≤ n) : OwnFrom n (RStop B0 w) := fun s X Y row h hg hr => by
  have hr' : ∀ r, row = some r → ∃ o : Obj, X.heap[r]? = some o ∧ o.isCells = false := fun r e => (hr r e).2
  exact ⟨mblk_walk h.res hg hr', mblk_walk h.ok hg hr', h.no, h.keep.grown hg (Nat.le_trans hw h.keep.size) (fun k e => by have := (hr k e).1; omega)⟩
theorem RInv.put (B0 : Nat) (w : World) (s : List ByteArray) (X : World) (v : Value) (h : RInv B0 w s X) : RInv B0 w s (X.setCell ⟨B0 + 3, 0, none⟩ v) := by
  obtain ⟨acc, A, c, h1, h2, h3, h4⟩ := h.out
  obtain ⟨u, h5⟩ := h.box
  have hne : ∀ k, k ≠ B0 + 3 → (X.setCell ⟨B0 + 3, 0, none⟩ v).heap[k]? = X.heap[k]? := fun k hk => Below.heap_setCell X ⟨B0 + 3, 0, none⟩ v k hk
  exact ⟨(hne _ (by omega)).trans h.res, (hne _ (by omega)).trans h.ok, ⟨acc, A, c, h1, (hne _ (by omega)).trans h2, Kd.R_mono (Kd.R_step (Kd.R_bound h3) (fun k hk _ => hne k (by have := hk.2.1; omega))) (fun _ _ => trivial), h4⟩, ⟨v, mblk_set h5 0 _⟩, h.keep.setCell (p := ⟨B0 + 3, 0, none⟩) (by simp) _⟩
theorem RInv.drew (B0 : Nat) (w : World) (s : List ByteArray) (X : World) (h : RInv B0 w s X) : RInv B0 w s X.drew := by
  obtain ⟨acc, A, c, h1, h2, h3, h4⟩ := h.out
  exact ⟨h.res, h.ok, ⟨acc, A, c, h1, h2, Kd.R_drew h3, h4⟩, h.box, below_drew h.keep⟩
/-- Behind an append to a row that is all its own, whatever is no cells lies as it lay. -/
theorem keeps_append {α : Type} {d : Kd α} {e base : Nat} {ok : Nat → Prop} {W W' : World} {v : Value} {xs : List α} (h : Kd.R d e W base ok v xs) (hg : W.grownBy W' v.ownBlock) : KeepsOthers W W' :=
  KeepsOthers.of_grownBy hg fun k o e hk => by
    obtain ⟨cells, hc⟩ := Kd.R_typed h k e
    rw [hc] at hk
    obtain rfl := Option.some.inj hk
    rfl
theorem grown_round {B0 N : Nat} {w W wr w2 : World} {pre : List ByteArray} {x : ByteArray} {acc : List (List Int)} {L : List Int} {A A2 : Option Addr} {c c2 : Nat} (hI : RInv B0 w pre W) (hacc : acc.length = pre.length) (hrow : rowsR (pre ++ [x]) = some (acc ++ [L])) (hB : Below W.heap.size W wr) (hK : KeepsOthers W wr)
    (hR : Kd.R kRow 54 wr (B0 + 4) (fun _ => True) (.slice A acc.length c) acc) (hg : wr.grownBy w2 (Value.slice A acc.length c).ownBlock) (hR2 : Kd.R kRow 54 w2 (B0 + 4) (fun _ => True) (.slice A2 (acc ++ [L]).length c2) (acc ++ [L])) (hO : MBlk w2 (B0 + 2) 23 #[.slice A acc.length c]) (hlt : B0 + 4 ≤ W.heap.size) :
    KeepsFrom N W (w2.setCell ⟨B0 + 2, 0, none⟩ (.slice A2 (acc ++ [L]).length c2)) ∧ (w2.setCell ⟨B0 + 2, 0, none⟩ (.slice A2 (acc ++ [L]).length c2)).heap[B0 + 3]? = W.heap[B0 + 3]? ∧ RInv B0 w (pre ++ [x]) (w2.setCell ⟨B0 + 2, 0, none⟩ (.slice A2 (acc ++ [L]).length c2)) := by
  have hob : ∀ k, (Value.slice A acc.length c).ownBlock = some k → B0 + 4 ≤ k := Kd.R_base hR
  have hne : ∀ k, k < B0 + 4 → k ≠ B0 + 2 → (w2.setCell ⟨B0 + 2, 0, none⟩ (.slice A2 (acc ++ [L]).length c2)).heap[k]? = W.heap[k]? := fun k h1 h2 =>
    (Below.heap_setCell w2 ⟨B0 + 2, 0, none⟩ _ k h2).trans ((hg.block k (by have := hB.size; omega) (fun e => by have := hob _ e.symm; omega)).trans (hB.block k (by omega)))
  have hb2 : Below B0 w w2 := (hI.keep.trans (hB.mono (by omega))).grown hg (by have := hI.keep.size; have := hB.size; omega) (fun k e => by have := hob k e; omega)
  refine ⟨KeepsOthers.from (hK.trans ((keeps_append hR hg).trans (KeepsOthers.setCell _ _ _))) _, hne _ (by omega) (by omega), ?_⟩
  obtain ⟨u, hu⟩ := hI.box
  exact ⟨(hne _ (by omega) (by omega)).trans hI.res, (hne _ (by omega) (by omega)).trans hI.ok, ⟨_, A2, c2, hrow, mblk_set hO 0 _, Kd.R_mono (Kd.R_step (Kd.R_bound hR2) (fun k hk _ => Below.heap_setCell w2 ⟨B0 + 2, 0, none⟩ _ k (by have := hk.2.1; show k ≠ B0 + 2; omega))) (fun _ _ => trivial), by rw [List.length_append, List.length_append, hacc]; rfl⟩, ⟨u, (hne _ (by omega) (by omega)).trans hu⟩, hb2.setCell (p := ⟨B0 + 2, 0, none⟩) (by show B0 ≤ B0 + 2; omega) _⟩
set_option maxHeartbeats 4000000 in
set_option maxRecDepth 100000 in
theorem read_calls (s : ByteArray) (w : World) (hs : s.size ≤ 1000000) :
    Calls Try.prog 36 #[.string s] w fun e w' => ∃ v, e = .returned (.tuple #[v, .bool (readR s).2]) ∧ Kd.R kRow 54 w' w.heap.size (fun _ => True) v (readR s).1 ∧ Below w.heap.size w w' := by
  have HS := Aside0.mk hs
  obtain ⟨W0, hW0⟩ : ∃ W0, W0 = (w.alloc (.cells #[.slice none 0 0] 23)).alloc (.cells #[.bool false] 4) := ⟨_, rfl⟩
  have hlen : (w.alloc (.cells #[.slice none 0 0] 23)).heap.size = w.heap.size + 1 := by simp
  have HM := Aside0.mk (show MBlk W0 w.heap.size 23 #[.slice none 0 0] by rw [hW0]; exact mblk_alloc (mblk_new _ _ _) _)
  have HR := Aside0.mk (show MBlk W0 (w.heap.size + 1) 4 #[.bool false] by rw [hW0, ← hlen]; exact mblk_new _ _ _)
  have HB := Aside0.mk (show Below w.heap.size w W0 by rw [hW0]; exact below_alloc (below_alloc (Below.refl _ _) _) _)
  have HZ := Aside0.mk (show W0.heap.size = w.heap.size + 2 by rw [hW0]; simp)
  clear hlen
  refine (callsIn_wide (n := 6)).1 (callsIn_of_wp_marks Try.func36 rfl trivial (wpIn_wide.2 ?_) rfl)
  simp only [Try.ntmps36, List.size_toArray, List.length_cons, List.length_nil, Nat.reduceAdd, Nat.reduceSub, Array.replicate_succ, Array.replicate_zero, List.push_toArray, List.append_toArray, List.nil_append, List.cons_append]
  go_upto_region 1 with fail
  rw [← hW0]
  clear hW0
  go_cut [15] from 9 to 15 (fun v15 wc => v15 = .bool (decide (s.size ≠ 0 ∧ endsNl s = false)) ∧ Aside0 (Below w.heap.size w wc) ∧ Aside0 (MBlk wc w.heap.size 23 #[.slice none 0 0]) ∧ Aside0 (MBlk wc (w.heap.size + 1) 4 #[.bool false]) ∧ Aside0 (wc.heap.size = w.heap.size + 2))
  case first =>
    by_cases h0 : s.size = 0
    · obtain rfl : s = ⟨#[]⟩ := by
        cases s with
        | mk d => cases d with
          | mk l => cases l with
            | nil => rfl
            | cons b l => simp [ByteArray.size] at h0
      go_wp2_with fail
      go_meet
      case rel => exact ⟨by simp [ByteArray.size], HB, HM, HR, HZ⟩
    · have hne : ¬ s.toList = [] := fun e => h0 (by
        have := congrArg List.length e
        rw [ByteArray.toList_eq] at this
        simpa using this)
      have HX := Aside0.mk (show decide (s.size ≠ 0 ∧ endsNl s = false) = !(endsNl s) by cases endsNl s <;> simp [h0])
      have HNE := Aside0.mk (show s.toList.isEmpty = false by simpa using hne)
      clear h0
      go_wp2_with (refine (strings_HasSuffix.calls s ⟨#[10]⟩ (endsNl s) _ (hs_f s HS.out)).mono ?_; rintro e w1 ⟨rfl, nd, rfl⟩)
      go_meet
      case rel => exact ⟨by rw [HX.out, HNE.out]; rfl, ⟨pw_below_drewN HB.out _⟩, ⟨HM.out⟩, ⟨HR.out⟩, ⟨HZ.out⟩⟩
  case rest =>
    obtain ⟨rfl, HB1, HM1, HR1, HZ1⟩ := hcut
    clear HM HR HB HZ
    have k0 : wc.cell? ⟨w.heap.size, 0, none⟩ = some (.slice none 0 0) := (mblk_cell HM1.out 0).trans rfl
    have kf0 : wc.frozen? ⟨w.heap.size, 0, none⟩ = false := mblk_frozen HM1.out 0
    have k1 : wc.cell? ⟨w.heap.size + 1, 0, none⟩ = some (.bool false) := (mblk_cell HR1.out 0).trans rfl
    have kf1 : wc.frozen? ⟨w.heap.size + 1, 0, none⟩ = false := mblk_frozen HR1.out 0
    by_cases hno : s.size ≠ 0 ∧ endsNl s = false
    · have hX : readR s = ([], false) := by unfold readR; rw [if_pos hno]
      have HX := Aside0.mk hX
      rw [decide_eq_true hno]
      clear hno hX
      go_wp2_with fail
      have e0 : ((wc.setCell ⟨w.heap.size, 0, none⟩ (.slice none 0 0)).setCell ⟨w.heap.size + 1, 0, none⟩ (.bool false)).cell? ⟨w.heap.size, 0, none⟩ = some (.slice none 0 0) :=
        (mblk_cell (mblk_far (mblk_set HM1.out 0 (.slice none 0 0)) (p := ⟨w.heap.size + 1, 0, none⟩) (by simp) _) 0).trans rfl
      have e1 : ((wc.setCell ⟨w.heap.size, 0, none⟩ (.slice none 0 0)).setCell ⟨w.heap.size + 1, 0, none⟩ (.bool false)).cell? ⟨w.heap.size + 1, 0, none⟩ = some (.bool false) :=
        (mblk_cell (mblk_set (mblk_far HR1.out (p := ⟨w.heap.size, 0, none⟩) (by simp) (.slice none 0 0)) 0 (.bool false)) 0).trans rfl
      refine ⟨_, by simp [results, Try.results36, go_sem, e0, e1]; rfl, .slice none 0 0, by rw [HX.out], by rw [HX.out]; exact Kd.R_nil _ _ _ _ _, (HB1.out.setCell (p := ⟨w.heap.size, 0, none⟩) (by simp) _).setCell (p := ⟨w.heap.size + 1, 0, none⟩) (by simp) _⟩
    rw [decide_eq_false hno]
    have HNO := Aside0.mk hno
    clear hno k0 kf0 k1 kf1
    go_wp2_with fail
    refine (lines_calls s _).mono ?_
    rintro e w1 ⟨rfl, hw1⟩
    have hz : wc.heap.size = w.heap.size + 2 := HZ1.out
    have ha : (wc.alloc (.cells #[.slice none 0 0] 23)).heap.size = w.heap.size + 3 := by simp; omega
    rw [ha]
    rw [hz]
    have hs1 : w1.heap.size = w.heap.size + 4 := by rw [hw1]; simp; omega
    have hO : MBlk w1 (w.heap.size + 2) 23 #[.slice none 0 0] := by rw [hw1, ← hz]; exact mblk_alloc (mblk_new _ _ _) _
    have hX : MBlk w1 (w.heap.size + 3) 9 #[.string s] := by rw [hw1, ← ha]; exact mblk_new _ _ _
    have hI : RInv w.heap.size w [] w1 := ⟨by rw [hw1]; exact mblk_alloc (mblk_alloc HM1.out _) _, by rw [hw1]; exact mblk_alloc (mblk_alloc HR1.out _) _, ⟨[], none, 0, rfl, hO, Kd.R_nil _ _ _ _ _, rfl⟩, ⟨_, hX⟩, by rw [hw1]; exact below_alloc (below_alloc HB1.out _) _⟩
    have HI := Aside0.mk hI
    have HX1 := Aside0.mk hX
    have HS1 := Aside0.mk hs1
    clear hw1 hz ha hO hX hI HB1 HM1 HR1 HZ1 hs1
    go_wp2_with fail
    refine (wpIn_wide (n := 6)).1 ?_
    refine range_box (F := Fence.wide) (n := 6) rfl (by omega) (gf := 72) (B := w.heap.size + 3) rfl trivial (enters_of Try.func72 (by kernel_rfl) rfl)
      (xs := linesOf s) (w0 := w1) (lines_seq (w.heap.size + 3) s w1 (by omega) HX1.out) (Below.refl _ _) (by rw [HS1.out]; omega) (fun _ => rfl) (RInv w.heap.size w) (RStop w.heap.size w)
      (RInv.own _ _ w (Nat.le_refl _) (by rw [HS1.out]; omega)) (RStop.own _ _ w (Nat.le_refl _) (by rw [HS1.out]; omega)) (RInv.put w.heap.size w) (RInv.drew w.heap.size w) HI.out
      (fun x => { tmps := #[.string s, undef, .pointer (some ⟨w.heap.size, 0, none⟩), .pointer (some ⟨w.heap.size + 1, 0, none⟩), .pointer (some ⟨w.heap.size + 2, 0, none⟩), .string x, undef, undef, undef, u9, u10, u11, u12, u13, u14, .bool false, .string s, .func (.func 72) #[] #[.pointer (some ⟨w.heap.size + 3, 0, none⟩)], .string x, undef, undef, undef, undef, undef, undef, undef, undef, undef, undef, undef, undef, undef, undef, undef, undef, undef, undef, undef, undef, undef, undef, undef, undef, undef, undef, undef, undef, undef, undef, undef, undef, undef, undef, undef, undef, undef, undef, undef, undef], defers := [] }) ?assign ?body ?done ?stop
    case assign =>
      rintro l x W K hK
      gi_wp2
      exact hK
    case body =>
      rintro l pre x W hI hpx hW
      obtain ⟨acc, A, c, hacc, hO, hOR, hal⟩ := hI.out
      have hx : 0 < x.size ∧ x.size ≤ s.size := lines_mem s.size s x (hpx.subset (by simp))
      have hcnt : pre.length + 1 ≤ s.size := by
        have h1 := hpx.length_le
        have h2 := lines_count s.size s
        unfold linesOf at h1
        rw [List.length_append] at h1
        simp at h1
        omega
      have hwz : w1.heap.size = w.heap.size + 4 := HS1.out
      have HINV := Aside0.mk hI
      have HACC := Aside0.mk (And.intro hacc hal)
      have HO := Aside0.mk hO
      have HOR := Aside0.mk hOR
      have HPX := Aside0.mk hpx
      have HCNT := Aside0.mk hcnt
      have e1 : wrap64 ((x.size : Int) - 1) = ((x.size - 1 : Nat) : Int) := by rw [w64 (by omega) (by omega)]; omega
      clear hI hacc hO hOR hal hpx hcnt
      gi_wp2
      gi_loopw [6, 22] (fun v6 v22 wr => ∃ (k : Nat) (L : List Int), v22 = .int .i64 k ∧ k ≤ x.size - 1 ∧ Aside0 (rowF x k = some L) ∧ Aside0 (Kd.R (Kd.int .i64) 3 wr W.heap.size (fun _ => True) v6 L) ∧ Aside0 (Below W.heap.size W wr) ∧ Aside0 (KeepsOthers W wr)) (fun _ v22 _ => x.size - (intOf v22).toNat)
      case atStart => exact ⟨0, [], rfl, Nat.zero_le _, ⟨rfl⟩, ⟨Kd.R_nil _ _ _ _ _⟩, ⟨Below.refl _ _⟩, ⟨KeepsOthers.refl _⟩⟩
      case round =>
        obtain ⟨k, L, rfl, hk, HL, HLR, HBl, HKO⟩ := hrel
        have hsz := HS.out
        have hid := gantt_ID.calls (bt x (k : Int)) (place (bt x (k : Int))) wr (id_f _)
        have HID := Aside0.mk hid
        clear hid
        have h111 : 1 ≤ 6 - 1 - 1 := by omega
        by_cases hlt : k < x.size - 1
        · have d1 : decide ((k : Int) < (x.size : Int) - 1) = true := decide_eq_true (by omega)
          have hkx : k < x.size := by omega
          have hx4 : (((x[k]'hkx).toNat : Nat) : Int) = bt x (k : Int) := bt_at x (k : Int) hkx
          have p4 : (0 ≤ (k : Int)) = True := eq_true (by omega)
          have q4 : ((k : Int) < (x.size : Int)) = True := eq_true (by omega)
          by_cases hbad : place (bt x (k : Int)) = -1 ∧ bt x (k : Int) ≠ 46
          · have c1 : (place (bt x (k : Int)) == -1) = true := beq_iff_eq.2 hbad.1
            have c2 : (bt x (k : Int) != 46) = true := bne_iff_ne.2 hbad.2
            have HNO2 := Aside0.mk (show rowsR (pre ++ [x]) = none by
              rw [rowsR_snoc, HACC.out.1]
              have h1 : rowF x (k + 1) = none := by
                show ((rowF x k).bind fun l => _) = none
                rw [HL.out]
                exact if_pos hbad
              show ((rowR x).bind _) = none
              unfold rowR
              rw [rowF_none x (k + 1) h1 _ (by omega)]
              rfl)
            clear hbad
            gi_wp2
            refine ⟨trivial, (CallsIn.inRound l (callsIn_wide.2 HID.out)).mono ?_⟩
            rintro e W2 ⟨rfl, nd, rfl⟩
            have HD := Aside0.mk (show Below w.heap.size w (wr.drewN nd) from pw_below_drewN (HINV.out.keep.trans (HBl.out.mono HINV.out.keep.size)) nd)
            have HM0 := Aside0.mk (show MBlk (wr.drewN nd) w.heap.size 23 #[.slice none 0 0] from (HBl.out.block _ (mblk_lt HINV.out.res)).trans HINV.out.res)
            have HM1 := Aside0.mk (show MBlk (wr.drewN nd) (w.heap.size + 1) 4 #[.bool false] from (HBl.out.block _ (mblk_lt HINV.out.ok)).trans HINV.out.ok)
            have k0 : (wr.drewN nd).cell? ⟨w.heap.size, 0, none⟩ = some (.slice none 0 0) := (mblk_cell HM0.out 0).trans rfl
            have kf0 : (wr.drewN nd).frozen? ⟨w.heap.size, 0, none⟩ = false := mblk_frozen HM0.out 0
            have k1 : (wr.drewN nd).cell? ⟨w.heap.size + 1, 0, none⟩ = some (.bool false) := (mblk_cell HM1.out 0).trans rfl
            have kf1 : (wr.drewN nd).frozen? ⟨w.heap.size + 1, 0, none⟩ = false := mblk_frozen HM1.out 0
            gi_wp2
            refine ⟨KeepsOthers.from (HKO.out.trans (KeepsOthers.trans (KeepsOthers.trans (show KeepsOthers wr (wr.drewN nd) from ⟨Nat.le_refl _, fun _ _ h _ => h⟩) (KeepsOthers.setCell _ _ _)) (KeepsOthers.setCell _ _ _))) _, ?_⟩
            exact ⟨mblk_far (mblk_set HM0.out 0 _) (p := ⟨w.heap.size + 1, 0, none⟩) (by simp) _, mblk_set (mblk_far HM1.out (p := ⟨w.heap.size, 0, none⟩) (by simp) _) 0 _, HNO2.out, (HD.out.setCell (p := ⟨w.heap.size, 0, none⟩) (by simp) _).setCell (p := ⟨w.heap.size + 1, 0, none⟩) (by simp) _⟩
          · have HOK := Aside0.mk (show rowF x (k + 1) = some (L ++ [place (bt x (k : Int))]) by
              show ((rowF x k).bind fun l => _) = _
              rw [HL.out]
              exact if_neg hbad)
            have HLL := Aside0.mk (show L.length < 1000000 by rw [rowF_len x k L HL.out]; omega)
            by_cases hpl : place (bt x (k : Int)) = -1
            · have c1 : (place (bt x (k : Int)) == -1) = true := beq_iff_eq.2 hpl
              have c2 : (bt x (k : Int) != 46) = false := bne_eq_false_iff_eq.2 (Decidable.of_not_not fun h => hbad ⟨hpl, h⟩)
              clear hbad hpl
              gi_wp2
              refine ⟨trivial, (CallsIn.inRound l (callsIn_wide.2 HID.out)).mono ?_⟩
              rintro e W2 ⟨rfl, nd, rfl⟩
              gi_wp2_with (gi_at_builtin; refine appendIn (Kd.int .i64) W.heap.size rfl (.tmp 37) (.tmp 39) 54 3 (.int .i64 0) 8 rfl Try.underlying54 info3 rfl (by decide) (by omega) _ L (place (bt x (k : Int))) [.int .i64 (place (bt x (k : Int)))] (fun _ => True) (fun _ => False) rfl rfl rfl (fun _ h => h.elim) (fun _ _ => trivial) (Kd.R_drewN HLR.out nd) HBl.out.size (by have := HLL.out; omega) ?_; intro v1 w2 hR1 hg1)
              have HL1 := Aside0.mk hR1
              have HB2 := Aside0.mk ((pw_below_drewN HBl.out nd).grown hg1 HBl.out.size (fun k e => Kd.R_base HLR.out k e))
              have HK2 := Aside0.mk (HKO.out.trans ((show KeepsOthers wr (wr.drewN nd) from ⟨Nat.le_refl _, fun _ _ h _ => h⟩).trans (keeps_append (Kd.R_drewN HLR.out nd) hg1)))
              clear hR1 hg1
              gi_wp2
              go_roundw
              case rel => exact ⟨k + 1, _, by simp, by omega, HOK, HL1, HB2, HK2⟩
              case measure => simp [intOf]; omega
            · have c1 : (place (bt x (k : Int)) == -1) = false := beq_eq_false_iff_ne.2 hpl
              clear hbad hpl
              gi_wp2
              refine ⟨trivial, (CallsIn.inRound l (callsIn_wide.2 HID.out)).mono ?_⟩
              rintro e W2 ⟨rfl, nd, rfl⟩
              gi_wp2_with (gi_at_builtin; refine appendIn (Kd.int .i64) W.heap.size rfl (.tmp 37) (.tmp 39) 54 3 (.int .i64 0) 8 rfl Try.underlying54 info3 rfl (by decide) (by omega) _ L (place (bt x (k : Int))) [.int .i64 (place (bt x (k : Int)))] (fun _ => True) (fun _ => False) rfl rfl rfl (fun _ h => h.elim) (fun _ _ => trivial) (Kd.R_drewN HLR.out nd) HBl.out.size (by have := HLL.out; omega) ?_; intro v1 w2 hR1 hg1)
              have HL1 := Aside0.mk hR1
              have HB2 := Aside0.mk ((pw_below_drewN HBl.out nd).grown hg1 HBl.out.size (fun k e => Kd.R_base HLR.out k e))
              have HK2 := Aside0.mk (HKO.out.trans ((show KeepsOthers wr (wr.drewN nd) from ⟨Nat.le_refl _, fun _ _ h _ => h⟩).trans (keeps_append (Kd.R_drewN HLR.out nd) hg1)))
              clear hR1 hg1
              gi_wp2
              go_roundw
              case rel => exact ⟨k + 1, _, by simp, by omega, HOK, HL1, HB2, HK2⟩
              case measure => simp [intOf]; omega
        · have d1 : decide ((k : Int) < (x.size : Int) - 1) = false := decide_eq_false (by omega)
          obtain rfl : k = x.size - 1 := by omega
          have hRow : rowR x = some L := HL.out
          have HL2 := Aside0.mk hRow
          have HO2 := Aside0.mk (show MBlk wr (w.heap.size + 2) 23 #[.slice A acc.length c] from (HBl.out.block _ (mblk_lt HO.out)).trans HO.out)
          have HOR2 := Aside0.mk (Kd.R_below HOR.out HBl.out)
          have HOL := Aside0.mk (show ∀ k, (Value.slice A acc.length c).ownBlock = some k → k < W.heap.size from Kd.R_lt HOR.out)
          have HOB := Aside0.mk (show ∀ k, (Value.slice A acc.length c).ownBlock = some k → w.heap.size + 4 ≤ k from Kd.R_base HOR.out)
          have HB4 := Aside0.mk (show w.heap.size + 4 ≤ wr.heap.size by have := HBl.out.size; omega)
          have HAL := Aside0.mk (show acc.length < 1000000 by have := HACC.out.2; have := HCNT.out; omega)
          obtain ⟨A6, c6, e6⟩ := Kd.R_slice HLR.out
          subst e6
          have HLM := Aside0.mk (show Kd.R (Kd.int .i64) 3 wr (w.heap.size + 4) (fun k => W.heap.size ≤ k) (.slice A6 L.length c6) L from Kd.R_lower (Kd.R_mono (Kd.R_bound HLR.out) (fun k hk => hk.2.1)) (by omega))
          have HLN := Aside0.mk (show Kd.M kRow wr (w.heap.size + 4) (fun k => W.heap.size ≤ k) L [.slice A6 L.length c6] from Exists.intro _ (And.intro rfl HLM.out))
          have k2 : wr.cell? ⟨w.heap.size + 2, 0, none⟩ = some (.slice A acc.length c) := (mblk_cell HO2.out 0).trans rfl
          have HINV0 := Aside0.mk (show w.heap.size + 2 < W.heap.size by omega)
          clear hRow
          by_cases hac : 0 < acc.length
          · have d2 : decide (0 < (acc.length : Int)) = true := decide_eq_true (by omega)
            obtain ⟨ad, cs, e, hcs, ⟨A7, c7, rfl, hc7, hC7⟩, hcell⟩ := Kd.C_get (Kd.R_reads' HOR2.out).2.2 [] 0 (by omega) (by omega)
            subst e
            have k3 : wr.cell? ad = some (.slice A7 (acc.getD 0 []).length c7) := by
              have h := hcell 0 _ rfl
              have e : ad.add (Int.toNat 0 * kRow.sz + 0) = ad := by
                show ad.add 0 = ad
                unfold Addr.add
                split <;> simp_all
              rwa [e] at h
            obtain ⟨n0, hn0⟩ : ∃ n0, n0 = (acc.getD 0 []).length := ⟨_, rfl⟩
            rw [← hn0] at k3
            have HN0 := Aside0.mk hn0
            have d4 : (0 < acc.length) = True := eq_true hac
            clear hcs hcell hC7 hc7 hn0
            by_cases heq : L.length = n0
            · have HROW := Aside0.mk (show rowsR (pre ++ [x]) = some (acc ++ [L]) by
                rw [rowsR_snoc, HACC.out.1]
                show ((rowR x).bind _) = _
                rw [HL2.out]
                exact if_neg (fun h => h.2 (heq.trans HN0.out)))
              have d3 : ((L.length : Int) != (n0 : Int)) = false := bne_eq_false_iff_eq.2 (by omega)
              clear heq
              gi_wp2_with (gi_at_builtin; refine appendIn kRow (w.heap.size + 4) rfl (.tmp 54) (.tmp 56) 23 54 (.slice none 0 0) 24 rfl Try.underlying23 info54 rfl (by decide) (by omega) (.slice (some ad) acc.length c) acc L [.slice A6 L.length c6] (fun _ => True) (fun k => W.heap.size ≤ k) rfl rfl HLN.out (fun k hk => ⟨trivial, fun e => absurd (HOL.out k e.symm) (Nat.not_lt.2 hk)⟩) (fun _ _ => trivial) HOR2.out HB4.out (by have := HAL.out; omega) ?_; intro v1 w2 hR1 hg1; obtain ⟨A2, c2, e2⟩ := Kd.R_slice hR1; subst e2; have HR2 := Aside0.mk hR1; have HG2 := Aside0.mk hg1; have HO3 := Aside0.mk (show MBlk w2 (w.heap.size + 2) 23 #[.slice (some ad) acc.length c] from (hg1.block (w.heap.size + 2) (mblk_lt HO2.out) (fun e => by have := HOB.out _ e.symm; omega)).trans HO2.out); have k9 : w2.cell? ⟨w.heap.size + 2, 0, none⟩ = some (.slice (some ad) acc.length c) := (mblk_cell HO3.out 0).trans rfl; have kf9 : w2.frozen? ⟨w.heap.size + 2, 0, none⟩ = false := mblk_frozen HO3.out 0; clear hR1 hg1)
              have hh := grown_round (N := w1.heap.size) HINV.out HACC.out.2 HROW.out HBl.out HKO.out HOR2.out HG2.out HR2.out HO3.out (by omega)
              simp only [List.length_append, List.length_cons, List.length_nil, Nat.zero_add] at hh
              exact hh
            · have HROW := Aside0.mk (show rowsR (pre ++ [x]) = none by
                rw [rowsR_snoc, HACC.out.1]
                show ((rowR x).bind _) = _
                rw [HL2.out]
                exact if_pos ⟨hac, fun h => heq (h.trans HN0.out.symm)⟩)
              have d3 : ((L.length : Int) != (n0 : Int)) = true := bne_iff_ne.2 (by omega)
              clear heq
              have HM0 := Aside0.mk (show MBlk wr w.heap.size 23 #[.slice none 0 0] from (HBl.out.block _ (mblk_lt HINV.out.res)).trans HINV.out.res)
              have HM1 := Aside0.mk (show MBlk wr (w.heap.size + 1) 4 #[.bool false] from (HBl.out.block _ (mblk_lt HINV.out.ok)).trans HINV.out.ok)
              have k0 : wr.cell? ⟨w.heap.size, 0, none⟩ = some (.slice none 0 0) := (mblk_cell HM0.out 0).trans rfl
              have kf0 : wr.frozen? ⟨w.heap.size, 0, none⟩ = false := mblk_frozen HM0.out 0
              have k1 : wr.cell? ⟨w.heap.size + 1, 0, none⟩ = some (.bool false) := (mblk_cell HM1.out 0).trans rfl
              have kf1 : wr.frozen? ⟨w.heap.size + 1, 0, none⟩ = false := mblk_frozen HM1.out 0
              gi_wp2
              refine ⟨KeepsOthers.from (HKO.out.trans ((KeepsOthers.setCell _ _ _).trans (KeepsOthers.setCell _ _ _))) _, ?_⟩
              exact ⟨mblk_far (mblk_set HM0.out 0 _) (p := ⟨w.heap.size + 1, 0, none⟩) (by simp) _, mblk_set (mblk_far HM1.out (p := ⟨w.heap.size, 0, none⟩) (by simp) _) 0 _, HROW.out, ((HINV.out.keep.trans (HBl.out.mono HINV.out.keep.size)).setCell (p := ⟨w.heap.size, 0, none⟩) (by simp) _).setCell (p := ⟨w.heap.size + 1, 0, none⟩) (by simp) _⟩
          · have d2 : decide (0 < (acc.length : Int)) = false := decide_eq_false (by omega)
            have HROW := Aside0.mk (show rowsR (pre ++ [x]) = some (acc ++ [L]) by
              rw [rowsR_snoc, HACC.out.1]
              show ((rowR x).bind _) = _
              rw [HL2.out]
              exact if_neg (fun h => hac h.1))
            have d4 : (0 < acc.length) = False := eq_false hac
            clear hac
            gi_wp2_with (gi_at_builtin; refine appendIn kRow (w.heap.size + 4) rfl (.tmp 54) (.tmp 56) 23 54 (.slice none 0 0) 24 rfl Try.underlying23 info54 rfl (by decide) (by omega) (.slice A acc.length c) acc L [.slice A6 L.length c6] (fun _ => True) (fun k => W.heap.size ≤ k) rfl rfl HLN.out (fun k hk => ⟨trivial, fun e => absurd (HOL.out k e.symm) (Nat.not_lt.2 hk)⟩) (fun _ _ => trivial) HOR2.out HB4.out (by have := HAL.out; omega) ?_; intro v1 w2 hR1 hg1; obtain ⟨A2, c2, e2⟩ := Kd.R_slice hR1; subst e2; have HR2 := Aside0.mk hR1; have HG2 := Aside0.mk hg1; have HO3 := Aside0.mk (show MBlk w2 (w.heap.size + 2) 23 #[.slice A acc.length c] from (hg1.block (w.heap.size + 2) (mblk_lt HO2.out) (fun e => by have := HOB.out _ e.symm; omega)).trans HO2.out); have k9 : w2.cell? ⟨w.heap.size + 2, 0, none⟩ = some (.slice A acc.length c) := (mblk_cell HO3.out 0).trans rfl; have kf9 : w2.frozen? ⟨w.heap.size + 2, 0, none⟩ = false := mblk_frozen HO3.out 0; clear hR1 hg1)
            have hh := grown_round (N := w1.heap.size) HINV.out HACC.out.2 HROW.out HBl.out HKO.out HOR2.out HG2.out HR2.out HO3.out (by omega)
            simp only [List.length_append, List.length_cons, List.length_nil, Nat.zero_add] at hh
            exact hh
    case done =>
      rintro W hI hD
      obtain ⟨acc, A, c, h1, h2, h3, h4⟩ := hI.out
      have k0 : W.cell? ⟨w.heap.size, 0, none⟩ = some (.slice none 0 0) := (mblk_cell hI.res 0).trans rfl
      have kf0 : W.frozen? ⟨w.heap.size, 0, none⟩ = false := mblk_frozen hI.res 0
      have k1 : W.cell? ⟨w.heap.size + 1, 0, none⟩ = some (.bool false) := (mblk_cell hI.ok 0).trans rfl
      have kf1 : W.frozen? ⟨w.heap.size + 1, 0, none⟩ = false := mblk_frozen hI.ok 0
      have k2 : W.cell? ⟨w.heap.size + 2, 0, none⟩ = some (.slice A acc.length c) := (mblk_cell h2 0).trans rfl
      have HX := Aside0.mk (show readR s = (acc, true) by unfold readR; rw [if_neg HNO.out, h1])
      have HI2 := Aside0.mk hI
      have HR3 := Aside0.mk h3
      have HD := Aside0.mk hD
      clear h1 h2 h3 h4 hI hD
      go_wp2_with fail
      have hD2 : ((W.setCell ⟨w.heap.size, 0, none⟩ (.slice A acc.length c)).setCell ⟨w.heap.size + 1, 0, none⟩ (.bool true)).heap[w1.heap.size]? = some (.deferred (some [])) := by
        have hwz := HS1.out
        rw [Below.heap_setCell _ ⟨w.heap.size + 1, 0, none⟩ _ _ (by show w1.heap.size ≠ w.heap.size + 1; omega), Below.heap_setCell _ ⟨w.heap.size, 0, none⟩ _ _ (by show w1.heap.size ≠ w.heap.size; omega)]
        exact HD.out
      have hM0 := mblk_far (mblk_set HI2.out.res 0 (.slice A acc.length c)) (p := ⟨w.heap.size + 1, 0, none⟩) (by simp) (.bool true)
      have hM1 := mblk_set (mblk_far HI2.out.ok (p := ⟨w.heap.size, 0, none⟩) (by simp) (.slice A acc.length c)) 0 (.bool true)
      have hR2 : Kd.R kRow 54 ((W.setCell ⟨w.heap.size, 0, none⟩ (.slice A acc.length c)).setCell ⟨w.heap.size + 1, 0, none⟩ (.bool true)) (w.heap.size + 4) (fun _ => True) (.slice A acc.length c) acc :=
        Kd.R_mono (Kd.R_step (Kd.R_bound HR3.out) (fun k hk _ => (Below.heap_setCell _ ⟨w.heap.size + 1, 0, none⟩ _ k (by have := hk.2.1; show k ≠ w.heap.size + 1; omega)).trans (Below.heap_setCell _ ⟨w.heap.size, 0, none⟩ _ k (by have := hk.2.1; show k ≠ w.heap.size; omega)))) (fun _ _ => trivial)
      have hg := grownBy_putObj' ((W.setCell ⟨w.heap.size, 0, none⟩ (.slice A acc.length c)).setCell ⟨w.heap.size + 1, 0, none⟩ (.bool true)) w1.heap.size (.deferred none)
      have hr : ∀ r, some w1.heap.size = some r → ∃ o : Obj, ((W.setCell ⟨w.heap.size, 0, none⟩ (.slice A acc.length c)).setCell ⟨w.heap.size + 1, 0, none⟩ (.bool true)).heap[r]? = some o ∧ o.isCells = false := fun r e => by cases e; exact ⟨_, hD2, rfl⟩
      have hM0' := (mblk_cell (mblk_walk hM0 hg hr) 0).trans rfl
      have hM1' := (mblk_cell (mblk_walk hM1 hg hr) 0).trans rfl
      refine ⟨by simp, .inl ⟨_, _, rfl, run_takeDeferred hD2, ?_⟩⟩
      refine ⟨.tuple #[.slice A acc.length c, .bool true], by simp [results, Try.results36, go_sem, hM0', hM1'], .slice A acc.length c, by rw [HX.out], by rw [HX.out]; exact Kd.R_lower (R_walk hR2 hg hr) (by omega), ?_⟩
      have hb : Below w.heap.size w ((W.setCell ⟨w.heap.size, 0, none⟩ (.slice A acc.length c)).setCell ⟨w.heap.size + 1, 0, none⟩ (.bool true)) := (HI2.out.keep.setCell (p := ⟨w.heap.size, 0, none⟩) (by simp) _).setCell (p := ⟨w.heap.size + 1, 0, none⟩) (by simp) _
      exact hb.grown hg hb.size (fun k e => by cases e; have := HS1.out; omega)
    case stop =>
      rintro pre W hp hI hD
      have k0 : W.cell? ⟨w.heap.size, 0, none⟩ = some (.slice none 0 0) := (mblk_cell hI.res 0).trans rfl
      have k1 : W.cell? ⟨w.heap.size + 1, 0, none⟩ = some (.bool false) := (mblk_cell hI.ok 0).trans rfl
      have HX := Aside0.mk (show readR s = ([], false) by unfold readR; rw [if_neg HNO.out, rowsR_none hp hI.no])
      have hg := grownBy_putObj' W w1.heap.size (.deferred none)
      have hr : ∀ r, some w1.heap.size = some r → ∃ o : Obj, W.heap[r]? = some o ∧ o.isCells = false := fun r e => by cases e; exact ⟨_, hD, rfl⟩
      have HM0 := (mblk_cell (mblk_walk hI.res hg hr) 0).trans rfl
      have HM1 := (mblk_cell (mblk_walk hI.ok hg hr) 0).trans rfl
      have HB := Aside0.mk (hI.keep.grown hg hI.keep.size (fun k e => by cases e; have := HS1.out; omega))
      gi_wp2
      refine ⟨by simp, .inl ⟨_, _, rfl, run_takeDeferred hD, ?_⟩⟩
      exact ⟨.tuple #[.slice none 0 0, .bool false], by simp [results, Try.results36, go_sem, HM0, HM1], .slice none 0 0, by rw [HX.out], by rw [HX.out]; exact Kd.R_nil _ _ _ _ _, HB.out⟩
end Go.Proofs.Ytlblianpbjhmoaa.XGRead

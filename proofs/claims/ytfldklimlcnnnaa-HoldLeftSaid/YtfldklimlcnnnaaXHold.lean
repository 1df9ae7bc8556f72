/- Words for a ledger behind a pointer: its cells, its map of holders. -/
import Derived.Test.YtfldklimlcnnnaaXRV
import Derived.Maps.OwnIn
import Derived.Maps.RangeWalk
import Derived.Maps.OwnSet
import Derived.Sort.MapsRangeIn

namespace Go.Proofs.Ytfldklimlcnnnaa.XHold
open Go.RowKit Go.Proofs.Ytfldklimlcnnnaa.PHq Go.Proofs.YtfldklimlcnnnaaW.PrintWords Go.Proofs.YtfldklimlcnnnaaW.PrintLast Go.Proofs.YtfldklimlcnnnaaW.PrintMore Go.Proofs.Ytfldklimlcnnnaa.MWords
open Go.Proofs.Ytfldklimlcnnnaa.MNat Go.Proofs.Ytfldklimlcnnnaa.QNat Go.Proofs.Ytfldklimlcnnnaa.QText Go.Proofs.Ytfldklimlcnnnaa.QEv Go.Proofs.Ytfldklimlcnnnaa.QRatio Go.Proofs.Ytfldklimlcnnnaa.XRV
open Go.Maps (Keyed int_keyed keyOf_int_mk)
set_option linter.unusedVariables false
set_option linter.unusedSimpArgs false

/-- A holder: its weight, the other one that it asked for, whether it did. -/
structure Hd where
  e : Int
  p : Int
  e2 : Int
  p2 : Int
  a : Bool
def hdV (h : Hd) : Value := .agg #[.int .i64 h.e, .int .i64 h.p, .int .i64 h.e2, .int .i64 h.p2, .bool h.a]
def hdD (h : Hd) : DataW Unit := .agg [.lit (.int .i64 h.e), .lit (.int .i64 h.p), .lit (.int .i64 h.e2), .lit (.int .i64 h.p2), .lit (.bool h.a)]
def hdL : List Value → Option (DataW Unit × List MemPlace)
  | [.int .i64 e, .int .i64 p, .int .i64 e2, .int .i64 p2, .bool a] => some (hdD ⟨e, p, e2, p2, a⟩, [])
  | _ => none
def hdR (v : Value) : Option (DataW Unit × List MemPlace) := match v with
  | .agg cs => hdL cs.toList
  | _ => none
theorem hdR_mk (h : Hd) : hdR (hdV h) = some (hdD h, []) := rfl
theorem hdR_inv {v : Value} {y : DataW Unit × List MemPlace} (h : hdR v = some y) : ∃ x, v = hdV x ∧ y = (hdD x, []) := by
  unfold hdR at h
  split at h
  · rename_i cs
    unfold hdL at h
    split at h
    · rename_i e p e2 p2 a hc
      refine ⟨⟨e, p, e2, p2, a⟩, ?_, (Option.some.inj h).symm⟩
      show Value.agg cs = Value.agg #[.int .i64 e, .int .i64 p, .int .i64 e2, .int .i64 p2, .bool a]
      congr 1
      rw [← Array.toList_inj, hc]
    · cases h
  · cases h
theorem hdD_inj {h k : Hd} (e : hdD h = hdD k) : h = k := by
  cases h; cases k
  simp [hdD] at e
  obtain ⟨rfl, rfl, rfl, rfl, rfl⟩ := e
  rfl
theorem keyed : Keyed Try.prog 3 := int_keyed Try.underlying3
def wfI (x : Int) : Prop := (Lit.int .i64 x).wf = true
theorem wfI_of {x : Int} (h0 : -9223372036854775808 ≤ x) (h1 : x ≤ 9223372036854775807) : wfI x := by
  unfold wfI
  simp [Lit.wf, IntKind.min, IntKind.max, IntKind.signed, IntKind.bits]
  omega
theorem key_of {x : Int} (h : wfI x) : keyOf Try.prog 3 (.int .i64 x) = some (.int .i64 x) := keyOf_int_mk Try.underlying3 h
theorem key_lit (x : Int) : WideAt.IsKeyLit (.int .i64 x : Lit) := trivial
/-- What a map reads as tells the holders l. -/
structure View (D : DataW Unit) (l : List (Int × Hd)) : Prop where
  has : ∀ x : Int, Maps.has D (.int .i64 x) = l.any fun y => decide (y.1 = x)
  at_ : ∀ y ∈ l, ∀ z, D.atKey (.int .i64 y.1) z = hdD y.2
  nodup : (l.map (·.1)).Nodup
  size : Maps.size D = l.length
  wf : ∀ y ∈ l, wfI y.1
def MapIs (W : World) (b : Nat) (l : List (Int × Hd)) : Prop := ∃ D : DataW Unit, W.ownsMap Try.prog 3 hdR b l.length D ∧ View D l
theorem MapIs.kept {W W' : World} {b : Nat} {l : List (Int × Hd)} (h : MapIs W b l) (hb : W'.heap[b]? = W.heap[b]?) : MapIs W' b l := by
  obtain ⟨D, ⟨es, clock, h1, h2⟩, hv⟩ := h
  exact ⟨D, ⟨es, clock, hb.trans h1, h2⟩, hv⟩
theorem MapIs.lt {W : World} {b : Nat} {l : List (Int × Hd)} (h : MapIs W b l) : b < W.heap.size := by
  obtain ⟨D, ho, _⟩ := h
  exact ho.lt
theorem MapIs.obj {W : World} {b : Nat} {l : List (Int × Hd)} (h : MapIs W b l) : ∃ es clock, W.heap[b]? = some (.map es clock) := by
  obtain ⟨D, ⟨es, clock, h1, _⟩, _⟩ := h
  exact ⟨es, clock, h1⟩
theorem own_size {W : World} {b n : Nat} {D : DataW Unit} (h : W.ownsMap Try.prog 3 hdR b n D) : W.ownsMap Try.prog 3 hdR b (Maps.size D) D := by
  obtain ⟨es, clock, h1, F, hn, hD⟩ := h
  refine ⟨es, clock, h1, F, ?_, hD⟩
  rw [hD, Maps.size_eq]
  have := length_read (P := Try.prog) (k := 3) (R0 := hdR) es
  omega
/-- The holder of an ID. -/
def getL (l : List (Int × Hd)) (x : Int) : Option Hd := (l.find? fun y => decide (y.1 = x)).map (·.2)
def hasL (l : List (Int × Hd)) (x : Int) : Bool := l.any fun y => decide (y.1 = x)
def setL (l : List (Int × Hd)) (x : Int) (h : Hd) : List (Int × Hd) := if hasL l x = true then l.map (fun y => if y.1 = x then (x, h) else y) else l ++ [(x, h)]
def delL (l : List (Int × Hd)) (x : Int) : List (Int × Hd) := l.filter fun y => decide (y.1 ≠ x)
def zeroH : Hd := ⟨0, 0, 0, 0, false⟩
theorem getL_mem {l : List (Int × Hd)} {x : Int} {h : Hd} (e : getL l x = some h) : (x, h) ∈ l := by
  unfold getL at e
  obtain ⟨y, hy, rfl⟩ := Option.map_eq_some_iff.1 e
  have h1 := List.mem_of_find?_eq_some hy
  have h2 := List.find?_some hy
  have h3 : y.1 = x := by simpa using h2
  rw [← h3]
  exact h1
theorem getL_none {l : List (Int × Hd)} {x : Int} (e : getL l x = none) : hasL l x = false := by
  unfold getL at e
  rw [Option.map_eq_none_iff, List.find?_eq_none] at e
  unfold hasL
  rw [List.any_eq_false]
  exact e
theorem getL_has (l : List (Int × Hd)) (x : Int) : hasL l x = (getL l x).isSome := by
  cases h : getL l x with
  | none => exact getL_none h
  | some y =>
    show (l.any fun y => decide (y.1 = x)) = true
    rw [List.any_eq_true]
    exact ⟨_, getL_mem h, by simp⟩
theorem lit_ne {x y : Int} (h : x ≠ y) : (Lit.int .i64 x) ≠ (Lit.int .i64 y) := fun e => h (by injection e)
theorem View.nil : View (.map []) [] := ⟨fun _ => rfl, by simp, by simp, rfl, by simp⟩
theorem View.get {D : DataW Unit} {l : List (Int × Hd)} (h : View D l) (x : Int) : D.atKey (.int .i64 x) (hdD zeroH) = hdD ((getL l x).getD zeroH) := by
  cases e : getL l x with
  | none =>
    refine Maps.atKey_of_not_has ?_ _
    rw [h.has]
    exact getL_none e
  | some y => exact h.at_ _ (getL_mem e) _
theorem mem_unique {l : List (Int × Hd)} (h : (l.map (·.1)).Nodup) {x : Int} {a b : Hd} (ha : (x, a) ∈ l) (hb : (x, b) ∈ l) : a = b := by
  induction l with
  | nil => simp at ha
  | cons y l ih =>
    rw [List.map_cons, List.nodup_cons] at h
    rcases List.mem_cons.1 ha with e1 | ha
    · rcases List.mem_cons.1 hb with e2 | hb
      · rw [← e1] at e2
        injection e2 with _ e2
        exact e2.symm
      · exact absurd (List.mem_map.2 ⟨_, hb, rfl⟩) (by rw [← e1] at h; exact h.1)
    · rcases List.mem_cons.1 hb with e2 | hb
      · exact absurd (List.mem_map.2 ⟨_, ha, rfl⟩) (by rw [← e2] at h; exact h.1)
      · exact ih h.2 ha hb
theorem set_keys (l : List (Int × Hd)) (x : Int) (h : Hd) : (setL l x h).map (·.1) = if hasL l x = true then l.map (·.1) else l.map (·.1) ++ [x] := by
  unfold setL
  split
  · rw [List.map_map]
    refine List.map_congr_left fun y _ => ?_
    show (if y.1 = x then (x, h) else y).1 = y.1
    split
    · rename_i e; exact e.symm
    · rfl
  · rw [List.map_append]
    rfl
theorem set_len (l : List (Int × Hd)) (x : Int) (h : Hd) : (setL l x h).length = if hasL l x = true then l.length else l.length + 1 := by
  have := congrArg List.length (set_keys l x h)
  rw [List.length_map] at this
  rw [this]
  split <;> simp
theorem set_mem {l : List (Int × Hd)} {x : Int} {h : Hd} {y : Int × Hd} (hy : y ∈ setL l x h) : y = (x, h) ∨ (y ∈ l ∧ y.1 ≠ x) := by
  unfold setL at hy
  split at hy
  · obtain ⟨z, hz, e⟩ := List.mem_map.1 hy
    split at e
    · exact .inl e.symm
    · rename_i hne
      exact .inr (e ▸ ⟨hz, hne⟩)
  · rename_i hn
    rcases List.mem_append.1 hy with hy | hy
    · refine .inr ⟨hy, fun e => hn ?_⟩
      unfold hasL
      rw [List.any_eq_true]
      exact ⟨y, hy, by simpa using e⟩
    · exact .inl (List.mem_singleton.1 hy)
theorem set_has (l : List (Int × Hd)) (x y : Int) (h : Hd) : hasL (setL l x h) y = (decide (x = y) || hasL l y) := by
  have e : ∀ l : List (Int × Hd), hasL l y = (l.map (·.1)).any fun z => decide (z = y) := fun l => by unfold hasL; rw [List.any_map]; rfl
  rw [e, set_keys]
  split
  · rename_i hx
    rw [← e]
    by_cases hxy : x = y
    · subst hxy; rw [hx]; simp
    · simp [hxy]
  · rw [List.any_append, ← e, Bool.or_comm]
    simp
theorem View.put {D : DataW Unit} {l : List (Int × Hd)} (v : View D l) (ht : Maps.Tidy D) {x : Int} (hx : wfI x) (h : Hd) : View (D.put (.int .i64 x) (hdD h)) (setL l x h) := by
  refine ⟨fun y => ?_, fun y hy z => ?_, ?_, ?_, fun y hy => ?_⟩
  · show _ = hasL (setL l x h) y
    rw [set_has]
    by_cases hxy : x = y
    · subst hxy
      rw [Maps.has_put_same ht.isMap (key_lit x)]
      simp
    · rw [Maps.has_put_other (lit_ne (fun e => hxy e.symm)), v.has y]
      simp [hxy, hasL]
  · rcases set_mem hy with rfl | ⟨hm, hne⟩
    · exact Maps.atKey_put_same ht.isMap (key_lit x) _ _
    · rw [Maps.atKey_put_other (lit_ne hne)]
      exact v.at_ y hm z
  · rw [set_keys]
    split
    · exact v.nodup
    · rename_i hn
      rw [List.nodup_append]
      refine ⟨v.nodup, by simp, fun a ha b hb e => hn ?_⟩
      obtain ⟨y, hy, rfl⟩ := List.mem_map.1 ha
      rw [List.mem_singleton.1 hb] at e
      unfold hasL
      rw [List.any_eq_true]
      exact ⟨y, hy, by simpa using e⟩
  · rw [Maps.size_put ht, v.has x, v.size, set_len]
    rfl
  · rcases set_mem hy with rfl | ⟨hm, _⟩
    · exact hx
    · exact v.wf y hm
theorem View.del {D : DataW Unit} {l : List (Int × Hd)} (v : View D l) (ht : Maps.Tidy D) (x : Int) : View (D.del (.int .i64 x)) (delL l x) := by
  have hd : ∀ y ∈ delL l x, y ∈ l ∧ y.1 ≠ x := fun y hy => by
    unfold delL at hy
    rw [List.mem_filter] at hy
    exact ⟨hy.1, by simpa using hy.2⟩
  refine ⟨fun y => ?_, fun y hy z => ?_, ?_, ?_, fun y hy => v.wf y (hd y hy).1⟩
  · show _ = hasL (delL l x) y
    by_cases hxy : x = y
    · subst hxy
      rw [Maps.has_del_same]
      symm
      unfold hasL
      rw [List.any_eq_false]
      intro z hz
      simpa using (hd z hz).2
    · rw [Maps.has_del_other (lit_ne (fun e => hxy e.symm)), v.has y]
      unfold delL hasL
      rw [List.any_filter]
      congr 1
      funext z
      by_cases hz : z.1 = y
      · have : z.1 ≠ x := fun e => hxy (e.symm.trans hz)
        rw [decide_eq_true hz, decide_eq_true this]
        rfl
      · simp [hz]
  · rw [Maps.atKey_del_other (lit_ne (hd y hy).2)]
    exact v.at_ y (hd y hy).1 z
  · exact (v.nodup).sublist (List.Sublist.map _ List.filter_sublist)
  · have h1 := Maps.size_del (k := .int .i64 x) ht
    rw [v.has x, v.size] at h1
    have h2 : ∀ l : List (Int × Hd), (l.map (·.1)).Nodup → (delL l x).length + (if (l.any fun y => decide (y.1 = x)) = true then 1 else 0) = l.length := by
      intro l
      induction l with
      | nil => intro _; rfl
      | cons y l ih =>
        intro hn
        rw [List.map_cons, List.nodup_cons] at hn
        have ih := ih hn.2
        unfold delL at ih ⊢
        rw [List.any_cons, List.filter_cons]
        by_cases hy : y.1 = x
        · have hno : (l.any fun y => decide (y.1 = x)) = false := by
            rw [List.any_eq_false]
            intro z hz e
            exact hn.1 (List.mem_map.2 ⟨z, hz, by rw [hy]; simpa using e⟩)
          rw [hno] at ih
          rw [if_neg (by simpa using hy), decide_eq_true hy, List.length_cons]
          simp at ih ⊢
          exact ih
        · rw [if_pos (by simpa using hy), decide_eq_false hy, Bool.false_or]
          simp only [List.length_cons]
          omega
    have := h2 l v.nodup
    omega
theorem zeroE (w : World) : (zeroValue 102).run Try.prog w = .ok (hdV zeroH) w := by kernel_rfl
end Go.Proofs.Ytfldklimlcnnnaa.XHold

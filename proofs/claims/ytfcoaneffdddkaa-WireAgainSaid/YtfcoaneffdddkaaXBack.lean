/- Plain Lean: what command reads, and what Bytes writes, are each other's. -/
import Derived.Test.YtfcoaneffdddkaaXCmd
import Derived.Test.YtfcoaneffdddkaaXBytes
import Derived.Test.YtfcoaneffdddkaaQWireGood

namespace Go.Proofs.Ytfcoaneffdddkaa.XBack
open Go.RowKit Go.Proofs.Ytfcoaneffdddkaa.PWt Go.Proofs.YtfcoaneffdddkaaW.PrintWords Go.Proofs.YtfcoaneffdddkaaW.PrintLast
open Go.Proofs.Ytfcoaneffdddkaa.QBits Go.Proofs.Ytfcoaneffdddkaa.MPut Go.Proofs.Ytfcoaneffdddkaa.XDig Go.Proofs.Ytfcoaneffdddkaa.XNext Go.Proofs.Ytfcoaneffdddkaa.XNum Go.Proofs.Ytfcoaneffdddkaa.XCmd Go.Proofs.Ytfcoaneffdddkaa.XFields Go.Proofs.Ytfcoaneffdddkaa.QWire Go.Proofs.Ytfcoaneffdddkaa.XBytes Go.Proofs.Ytfcoaneffdddkaa.QWireGood
set_option linter.unusedVariables false
set_option linter.unusedSimpArgs false

theorem vn_cons (x : Int) (l : List Int) : vnums (x :: l) = vnum x.toNat ++ vnums l := by simp [vnums]
theorem vn_nil : vnums [] = [] := rfl
theorem str_nil : strOfNums [] = ⟨#[]⟩ := rfl
theorem emp (t : ByteArray) : (⟨#[]⟩ : ByteArray) ++ t = t := by
  apply ByteArray.ext
  simp
theorem nx_ok {m v : Int} {st st' : St} (h : nx m st = (v, st')) (hb : st'.2 = false) : st.2 = false ∧ st.1 = strOfNums (vnum v.toNat) ++ st'.1 ∧ 0 ≤ v ∧ v ≤ m := by
  unfold nx nxOf at h
  cases hn : nextP st.1 m with
  | none =>
    rw [hn] at h
    injection h with h1 h2
    rw [← h2] at hb
    cases hb
  | some p =>
    obtain ⟨x, t⟩ := p
    rw [hn] at h
    injection h with h1 h2
    subst h1
    rw [← h2] at hb ⊢
    have hbd := nextP_bound hn
    exact ⟨hb, next_inv hn, hbd.1, hbd.2.1⟩
theorem wR_ok {x y : Int} {st st' : St} (h : wR st = (⟨x, y⟩, st')) (hb : st'.2 = false) : st.2 = false ∧ st.1 = strOfNums (vnum x.toNat) ++ (strOfNums (vnum y.toNat) ++ st'.1) ∧ 0 ≤ x ∧ x ≤ 1073741824 ∧ 0 ≤ y ∧ y ≤ 1073741824 := by
  obtain ⟨a, s1, e1⟩ : ∃ a s1, nx 1073741824 st = (a, s1) := ⟨_, _, rfl⟩
  obtain ⟨b, s2, e2⟩ : ∃ b s2, nx 1073741824 s1 = (b, s2) := ⟨_, _, rfl⟩
  unfold wR at h
  simp only [e1, e2, Prod.mk.injEq] at h
  obtain ⟨h1, rfl⟩ := h
  injection h1 with h2 h3
  subst h2
  subst h3
  have k2 := nx_ok e2 hb
  have k1 := nx_ok e1 k2.1
  exact ⟨k1.1, by rw [k1.2.1, k2.2.1], k1.2.2.1, k1.2.2.2, k2.2.2.1, k2.2.2.2⟩
theorem parts_ok : ∀ (n : Nat) (st : St) (acc ps : List S67) (st' : St), partsR n st acc = (ps, st') → st'.2 = false →
    st.2 = false ∧ ∃ qs, ps = acc ++ qs ∧ qs.length = n ∧ st.1 = strOfNums (vnums ((partF qs).map (·.1))) ++ st'.1 ∧ ∀ p ∈ qs, 0 ≤ p.f0 ∧ p.f0 ≤ 1073741824 ∧ 0 ≤ p.f1 ∧ p.f1 ≤ 1073741824 := by
  intro n
  induction n with
  | zero =>
    intro st acc ps st' h hb
    have h2 : (acc, st) = (ps, st') := h
    injection h2 with h3 h4
    subst h3
    subst h4
    exact ⟨hb, [], by simp, rfl, by simp [partF, vn_nil, str_nil, emp], by simp⟩
  | succ n ih =>
    intro st acc ps st' h hb
    obtain ⟨x, y, s1, e1⟩ : ∃ x y s1, wR st = (⟨x, y⟩, s1) := ⟨_, _, _, rfl⟩
    have h2 : partsR n (wR st).2 (acc ++ [⟨(wR st).1.f0, (wR st).1.f1⟩]) = (ps, st') := h
    rw [e1] at h2
    obtain ⟨hb1, qs, hps, hlen, hs, hq⟩ := ih s1 _ ps st' h2 hb
    obtain ⟨hb0, hs0, hx0, hx1, hy0, hy1⟩ := wR_ok e1 hb1
    refine ⟨hb0, ⟨x, y⟩ :: qs, by rw [hps]; simp, by simp [hlen], ?_, ?_⟩
    · have e : vnums ((partF ((⟨x, y⟩ : S67) :: qs)).map (·.1)) = vnum x.toNat ++ (vnum y.toNat ++ vnums ((partF qs).map (·.1))) := by
        have e2 : (partF ((⟨x, y⟩ : S67) :: qs)).map (·.1) = x :: y :: (partF qs).map (·.1) := rfl
        rw [e2, vn_cons, vn_cons]
      rw [e, strOf_append, strOf_append, hs0, hs, ByteArray.append_assoc, ByteArray.append_assoc]
    · intro p hp
      rcases List.mem_cons.1 hp with rfl | hp
      · exact ⟨hx0, hx1, hy0, hy1⟩
      · exact hq p hp
theorem parts_fine {qs : List S67} (h : ∀ p ∈ qs, 0 ≤ p.f0 ∧ p.f0 ≤ 1073741824 ∧ 0 ≤ p.f1 ∧ p.f1 ≤ 1073741824) : ∀ x ∈ partF qs, 0 ≤ x.1 ∧ x.1 ≤ x.2 := by
  intro x hx
  unfold partF at hx
  obtain ⟨l, hl, hx⟩ := List.mem_flatten.1 hx
  obtain ⟨p, hp, rfl⟩ := List.mem_map.1 hl
  have := h p hp
  simp at hx
  rcases hx with rfl | rfl
  · exact ⟨this.1, this.2.1⟩
  · exact ⟨this.2.2.1, this.2.2.2⟩
theorem chk_mk {c : S31} (h1 : 1 ≤ c.f0) (h7 : c.f0 ≤ 7) (hb : c = bareC c) (hf : ∀ x ∈ flds c, 0 ≤ x.1 ∧ x.1 ≤ x.2) : chkW c = true := by
  unfold chkW
  simp only [Bool.and_eq_true, List.all_eq_true, decide_eq_true_eq]
  exact ⟨⟨h1, h7⟩, hb, hf⟩
theorem w1 {a : Int} (h0 : 0 ≤ a) (h1 : a ≤ 1073741825) : wrap64 (a - 1 + 1) = a := by
  rw [w64 (by omega) (by omega)]
  omega
theorem cmd_inv {st st' : St} {c : S31} (h : cmdR st = (c, st')) (hb : st'.2 = false) : st.2 = false ∧ st.1 = strOfNums (cmdNums c) ++ st'.1 ∧ chkW c = true := by
  obtain ⟨k, s1, e1⟩ : ∃ k s1, nx 7 st = (k, s1) := ⟨_, _, rfl⟩
  unfold cmdR at h
  simp only [e1] at h
  by_cases k1 : k = 1
  · subst k1
    obtain ⟨a, s2, e2⟩ : ∃ a s2, nx 1073741825 s1 = (a, s2) := ⟨_, _, rfl⟩
    obtain ⟨b, s3, e3⟩ : ∃ b s3, nx 1 s2 = (b, s3) := ⟨_, _, rfl⟩
    obtain ⟨x, y, s4, e4⟩ : ∃ x y s4, wR s3 = (⟨x, y⟩, s4) := ⟨_, _, _, rfl⟩
    simp only [↓reduceIte, e2, e3, e4, Prod.mk.injEq] at h
    obtain ⟨rfl, rfl⟩ := h
    obtain ⟨b4, h4, x0, x1, y0, y1⟩ := wR_ok e4 hb
    obtain ⟨b3, h3, b0, b1⟩ := nx_ok e3 b4
    obtain ⟨b2, h2, a0, a1⟩ := nx_ok e2 b3
    obtain ⟨b1', h1, _, _⟩ := nx_ok e1 b2
    have hw := w1 a0 a1
    have hbb : (if (b == 1) = true then (1 : Int) else 0) = b := by
      by_cases e : b = 1
      · subst e; rfl
      · have : b = 0 := by omega
        subst this
        rfl
    have hfl : flds ⟨1, 0, a - 1, 0, 0, ⟨x, y⟩, b == 1, []⟩ = [(a, 1073741825), (b, 1), (x, 1073741824), (y, 1073741824)] := by
      unfold flds
      simp only [↓reduceIte]
      rw [hw, hbb]
    refine ⟨b1', ?_, chk_mk (by simp) (by simp) rfl ?_⟩
    · unfold cmdNums
      rw [hfl, h1, h2, h3, h4]
      simp only [List.map_cons, List.map_nil, vn_cons, vn_nil, strOf_append, ByteArray.append_assoc, str_nil, emp]
    · rw [hfl]
      intro z hz
      simp at hz
      rcases hz with rfl | rfl | rfl | rfl <;> exact ⟨by assumption, by assumption⟩
  by_cases k2 : k = 2
  · subst k2
    obtain ⟨a, s2, e2⟩ : ∃ a s2, nx 1073741824 s1 = (a, s2) := ⟨_, _, rfl⟩
    simp (config := {decide := true}) only [↓reduceIte, e2, true_or, or_true, Prod.mk.injEq] at h
    obtain ⟨rfl, rfl⟩ := h
    obtain ⟨q2, h2, a0, a1⟩ := nx_ok e2 hb
    obtain ⟨q1, h1, _, _⟩ := nx_ok e1 q2
    have hfl : flds ⟨2, a, 0, 0, 0, ⟨0, 0⟩, false, []⟩ = [(a, 1073741824)] := by
      unfold flds
      simp (config := {decide := true}) only [↓reduceIte, true_or, or_true]
    refine ⟨q1, ?_, chk_mk (by simp) (by simp) rfl ?_⟩
    · unfold cmdNums
      rw [hfl, h1, h2]
      simp only [List.map_cons, List.map_nil, vn_cons, vn_nil, strOf_append, ByteArray.append_assoc, str_nil, emp]
    · rw [hfl]
      intro z hz
      simp at hz
      rcases hz with rfl <;> exact ⟨by assumption, by assumption⟩
  by_cases k7 : k = 7
  · subst k7
    obtain ⟨a, s2, e2⟩ : ∃ a s2, nx 1073741824 s1 = (a, s2) := ⟨_, _, rfl⟩
    simp (config := {decide := true}) only [↓reduceIte, e2, true_or, or_true, Prod.mk.injEq] at h
    obtain ⟨rfl, rfl⟩ := h
    obtain ⟨q2, h2, a0, a1⟩ := nx_ok e2 hb
    obtain ⟨q1, h1, _, _⟩ := nx_ok e1 q2
    have hfl : flds ⟨7, a, 0, 0, 0, ⟨0, 0⟩, false, []⟩ = [(a, 1073741824)] := by
      unfold flds
      simp (config := {decide := true}) only [↓reduceIte, true_or, or_true]
    refine ⟨q1, ?_, chk_mk (by simp) (by simp) rfl ?_⟩
    · unfold cmdNums
      rw [hfl, h1, h2]
      simp only [List.map_cons, List.map_nil, vn_cons, vn_nil, strOf_append, ByteArray.append_assoc, str_nil, emp]
    · rw [hfl]
      intro z hz
      simp at hz
      rcases hz with rfl <;> exact ⟨by assumption, by assumption⟩
  by_cases k3 : k = 3
  · subst k3
    obtain ⟨a, s2, e2⟩ : ∃ a s2, nx 1073741824 s1 = (a, s2) := ⟨_, _, rfl⟩
    obtain ⟨x, y, s3, e3⟩ : ∃ x y s3, wR s2 = (⟨x, y⟩, s3) := ⟨_, _, _, rfl⟩
    simp (config := {decide := true}) only [↓reduceIte, e2, e3, true_or, or_true, Prod.mk.injEq] at h
    obtain ⟨rfl, rfl⟩ := h
    obtain ⟨q3, h3, x0, x1, y0, y1⟩ := wR_ok e3 hb
    obtain ⟨q2, h2, a0, a1⟩ := nx_ok e2 q3
    obtain ⟨q1, h1, _, _⟩ := nx_ok e1 q2
    have hfl : flds ⟨3, a, 0, 0, 0, ⟨x, y⟩, false, []⟩ = [(a, 1073741824), (x, 1073741824), (y, 1073741824)] := by
      unfold flds
      simp (config := {decide := true}) only [↓reduceIte, true_or, or_true]
    refine ⟨q1, ?_, chk_mk (by simp) (by simp) rfl ?_⟩
    · unfold cmdNums
      rw [hfl, h1, h2, h3]
      simp only [List.map_cons, List.map_nil, vn_cons, vn_nil, strOf_append, ByteArray.append_assoc, str_nil, emp]
    · rw [hfl]
      intro z hz
      simp at hz
      rcases hz with rfl | rfl | rfl <;> exact ⟨by assumption, by assumption⟩
  by_cases k4 : k = 4
  · subst k4
    obtain ⟨a, s2, e2⟩ : ∃ a s2, nx 1073741824 s1 = (a, s2) := ⟨_, _, rfl⟩
    obtain ⟨b, s3, e3⟩ : ∃ b s3, nx 1073741824 s2 = (b, s3) := ⟨_, _, rfl⟩
    simp (config := {decide := true}) only [↓reduceIte, e2, e3, true_or, or_true, Prod.mk.injEq] at h
    obtain ⟨rfl, rfl⟩ := h
    obtain ⟨q3, h3, b0, b1⟩ := nx_ok e3 hb
    obtain ⟨q2, h2, a0, a1⟩ := nx_ok e2 q3
    obtain ⟨q1, h1, _, _⟩ := nx_ok e1 q2
    have hfl : flds ⟨4, a, 0, b, 0, ⟨0, 0⟩, false, []⟩ = [(a, 1073741824), (b, 1073741824)] := by
      unfold flds
      simp (config := {decide := true}) only [↓reduceIte, true_or, or_true]
    refine ⟨q1, ?_, chk_mk (by simp) (by simp) rfl ?_⟩
    · unfold cmdNums
      rw [hfl, h1, h2, h3]
      simp only [List.map_cons, List.map_nil, vn_cons, vn_nil, strOf_append, ByteArray.append_assoc, str_nil, emp]
    · rw [hfl]
      intro z hz
      simp at hz
      rcases hz with rfl | rfl <;> exact ⟨by assumption, by assumption⟩
  by_cases k5 : k = 5
  · subst k5
    obtain ⟨a, s2, e2⟩ : ∃ a s2, nx 1073741824 s1 = (a, s2) := ⟨_, _, rfl⟩
    simp (config := {decide := true}) only [↓reduceIte, e2, true_or, or_true, Prod.mk.injEq] at h
    obtain ⟨rfl, rfl⟩ := h
    obtain ⟨q2, h2, a0, a1⟩ := nx_ok e2 hb
    obtain ⟨q1, h1, _, _⟩ := nx_ok e1 q2
    have hfl : flds ⟨5, 0, 0, a, 0, ⟨0, 0⟩, false, []⟩ = [(a, 1073741824)] := by
      unfold flds
      simp (config := {decide := true}) only [↓reduceIte, true_or, or_true]
    refine ⟨q1, ?_, chk_mk (by simp) (by simp) rfl ?_⟩
    · unfold cmdNums
      rw [hfl, h1, h2]
      simp only [List.map_cons, List.map_nil, vn_cons, vn_nil, strOf_append, ByteArray.append_assoc, str_nil, emp]
    · rw [hfl]
      intro z hz
      simp at hz
      rcases hz with rfl <;> exact ⟨by assumption, by assumption⟩
  by_cases k6 : k = 6
  · subst k6
    obtain ⟨a, s2, e2⟩ : ∃ a s2, nx 1073741825 s1 = (a, s2) := ⟨_, _, rfl⟩
    obtain ⟨b, s3, e3⟩ : ∃ b s3, nx 1073741824 s2 = (b, s3) := ⟨_, _, rfl⟩
    obtain ⟨n, s4, e4⟩ : ∃ n s4, nx 8 s3 = (n, s4) := ⟨_, _, rfl⟩
    obtain ⟨ps, s5, e5⟩ : ∃ ps s5, partsR n.toNat s4 [] = (ps, s5) := ⟨_, _, rfl⟩
    simp (config := {decide := true}) only [↓reduceIte, e2, e3, e4, e5, Prod.mk.injEq] at h
    obtain ⟨rfl, rfl⟩ := h
    obtain ⟨q5, qs, hps, hlen, h5, hq⟩ := parts_ok _ _ _ _ _ e5 hb
    obtain ⟨q4, h4, n0, n1⟩ := nx_ok e4 q5
    obtain ⟨q3, h3, b0, b1⟩ := nx_ok e3 q4
    obtain ⟨q2, h2, a0, a1⟩ := nx_ok e2 q3
    obtain ⟨q1, h1, _, _⟩ := nx_ok e1 q2
    have hpe : ps = qs := by rw [hps]; rfl
    subst hpe
    have hpl : (ps.length : Int) = n := by omega
    have hw := w1 a0 a1
    have hfl : flds ⟨6, 0, a - 1, 0, b, ⟨0, 0⟩, false, ps⟩ = [(a, 1073741825), (b, 1073741824), (n, 8)] ++ partF ps := by
      unfold flds
      simp (config := {decide := true}) only [↓reduceIte]
      rw [hw, hpl]
      rfl
    refine ⟨q1, ?_, chk_mk (by simp) (by simp) rfl ?_⟩
    · unfold cmdNums
      rw [hfl, h1, h2, h3, h4, h5]
      simp only [List.cons_append, List.nil_append, List.map_cons, List.map_nil, vn_cons, vn_nil, strOf_append, ByteArray.append_assoc, str_nil, emp]
    · rw [hfl]
      intro z hz
      rcases List.mem_append.1 hz with hz | hz
      · simp at hz
        rcases hz with rfl | rfl | rfl <;> exact ⟨by assumption, by assumption⟩
      · exact parts_fine hq z hz
  rw [if_neg k1, if_neg (by omega), if_neg k3, if_neg k4, if_neg k5, if_neg k6] at h
  injection h with h1 h2
  rw [← h2] at hb
  cases hb
/-! ### What was written is read -/
theorem nx_back (m x : Int) (rest : List Int) (h0 : 0 ≤ x) (h1 : x ≤ m) (hm : m ≤ 4398046511103) : nx m (strOfNums (vnum x.toNat ++ rest), false) = (x, (strOfNums rest, false)) := by
  unfold nx
  simp only []
  rw [next_num m x rest h0 h1 (by omega)]
  rfl
theorem wR_back (x y : Int) (rest : List Int) (h0 : 0 ≤ x) (h1 : x ≤ 1073741824) (h2 : 0 ≤ y) (h3 : y ≤ 1073741824) : wR (strOfNums (vnum x.toNat ++ (vnum y.toNat ++ rest)), false) = (⟨x, y⟩, (strOfNums rest, false)) := by
  unfold wR
  rw [nx_back 1073741824 x _ h0 h1 (by omega)]
  simp only []
  rw [nx_back 1073741824 y _ h2 h3 (by omega)]
theorem parts_back (rest : List Int) : ∀ (ps acc : List S67), (∀ z ∈ partF ps, 0 ≤ z.1 ∧ z.1 ≤ z.2) → partsR ps.length (strOfNums (vnums ((partF ps).map (·.1)) ++ rest), false) acc = (acc ++ ps, (strOfNums rest, false)) := by
  intro ps
  induction ps with
  | nil => intro acc _; simp [partsR, partF, vn_nil]
  | cons p ps ih =>
    intro acc h
    have hp0 := h (p.f0, 1073741824) (by simp [partF])
    have hp1 := h (p.f1, 1073741824) (by simp [partF])
    have e : vnums ((partF (p :: ps)).map (·.1)) ++ rest = vnum p.f0.toNat ++ (vnum p.f1.toNat ++ (vnums ((partF ps).map (·.1)) ++ rest)) := by
      have e2 : (partF (p :: ps)).map (·.1) = p.f0 :: p.f1 :: (partF ps).map (·.1) := rfl
      rw [e2, vn_cons, vn_cons, List.append_assoc, List.append_assoc]
    have e3 : partsR (p :: ps).length (strOfNums (vnums ((partF (p :: ps)).map (·.1)) ++ rest), false) acc = partsR ps.length (wR (strOfNums (vnums ((partF (p :: ps)).map (·.1)) ++ rest), false)).2 (acc ++ [⟨(wR (strOfNums (vnums ((partF (p :: ps)).map (·.1)) ++ rest), false)).1.f0, (wR (strOfNums (vnums ((partF (p :: ps)).map (·.1)) ++ rest), false)).1.f1⟩]) := rfl
    rw [e3, e, wR_back _ _ _ hp0.1 hp0.2 hp1.1 hp1.2]
    rw [ih _ (fun z hz => h z (by
      have : partF (p :: ps) = (p.f0, 1073741824) :: (p.f1, 1073741824) :: partF ps := rfl
      rw [this]
      exact List.mem_cons_of_mem _ (List.mem_cons_of_mem _ hz)))]
    simp
theorem w2 {a : Int} (h0 : -9223372036854775808 ≤ a) (h1 : a ≤ 9223372036854775807) (h2 : 0 ≤ wrap64 (a + 1)) : wrap64 (a + 1) = a + 1 := by
  unfold wrap64 at h2 ⊢
  omega
theorem chk_out {c : S31} (h : chkW c = true) : (1 ≤ c.f0 ∧ c.f0 ≤ 7) ∧ c = bareC c ∧ ∀ z ∈ flds c, 0 ≤ z.1 ∧ z.1 ≤ z.2 := by
  unfold chkW at h
  simp only [Bool.and_eq_true, List.all_eq_true, decide_eq_true_eq] at h
  exact h
theorem cmd_back {c : S31} (h : chkW c = true) (hw : Wf c) (rest : List Int) : cmdR (strOfNums (cmdNums c ++ rest), false) = (c, (strOfNums rest, false)) := by
  obtain ⟨⟨hk1, hk7⟩, hb, hf⟩ := chk_out h
  obtain ⟨k, f1, f2, f3, f4, ⟨x, y⟩, f6, f7⟩ := c
  unfold Wf at hw
  simp only at hk1 hk7 hw
  have hh : ∀ r, cmdNums (⟨k, f1, f2, f3, f4, ⟨x, y⟩, f6, f7⟩ : S31) ++ r = vnum k.toNat ++ (vnums ((flds ⟨k, f1, f2, f3, f4, ⟨x, y⟩, f6, f7⟩).map (·.1)) ++ r) := fun r => by
    unfold cmdNums
    rw [List.append_assoc]
  unfold cmdR
  rw [hh, nx_back 7 k _ (by omega) hk7 (by omega)]
  clear hh h
  unfold bareC at hb
  unfold flds at hf ⊢
  simp only at hb hf ⊢
  by_cases k1 : k = 1
  · subst k1
    simp (config := {decide := true}) only [↓reduceIte, S31.mk.injEq, true_and, and_true, S28.mk.injEq] at hb hf ⊢
    obtain ⟨rfl, rfl, rfl, rfl⟩ := hb
    have c0 := hf _ (List.mem_cons_self)
    have c1 := hf ((if f6 = true then 1 else 0), 1) (by simp)
    have c2 := hf (x, 1073741824) (by simp)
    have c3 := hf (y, 1073741824) (by simp)
    have e0 := w2 hw.1 hw.2 c0.1
    simp only [List.map_cons, List.map_nil, vn_cons, vn_nil, List.append_assoc, List.nil_append]
    rw [nx_back 1073741825 _ _ c0.1 c0.2 (by omega)]
    simp only []
    rw [nx_back 1 _ _ c1.1 c1.2 (by omega)]
    simp only []
    rw [wR_back _ _ _ c2.1 c2.2 c3.1 c3.2, e0]
    have e1 : f2 + 1 - 1 = f2 := by omega
    have e2 : ((if f6 = true then (1 : Int) else 0) == 1) = f6 := by cases f6 <;> rfl
    rw [e1, e2]
  by_cases k2 : k = 2
  · subst k2
    simp (config := {decide := true}) only [↓reduceIte, S31.mk.injEq, true_and, and_true, true_or, or_true, S28.mk.injEq] at hb hf ⊢
    obtain ⟨rfl, rfl, rfl, ⟨rfl, rfl⟩, rfl, rfl⟩ := hb
    have c0 := hf (f1, 1073741824) (by simp)
    simp only [List.map_cons, List.map_nil, vn_cons, vn_nil, List.append_assoc, List.nil_append]
    rw [nx_back 1073741824 _ _ c0.1 c0.2 (by omega)]
  by_cases k7 : k = 7
  · subst k7
    simp (config := {decide := true}) only [↓reduceIte, S31.mk.injEq, true_and, and_true, true_or, or_true, S28.mk.injEq] at hb hf ⊢
    obtain ⟨rfl, rfl, rfl, ⟨rfl, rfl⟩, rfl, rfl⟩ := hb
    have c0 := hf (f1, 1073741824) (by simp)
    simp only [List.map_cons, List.map_nil, vn_cons, vn_nil, List.append_assoc, List.nil_append]
    rw [nx_back 1073741824 _ _ c0.1 c0.2 (by omega)]
  by_cases k3 : k = 3
  · subst k3
    simp (config := {decide := true}) only [↓reduceIte, S31.mk.injEq, true_and, and_true, true_or, or_true, S28.mk.injEq] at hb hf ⊢
    obtain ⟨rfl, rfl, rfl, rfl, rfl⟩ := hb
    have c0 := hf (f1, 1073741824) (by simp)
    have c1 := hf (x, 1073741824) (by simp)
    have c2 := hf (y, 1073741824) (by simp)
    simp only [List.map_cons, List.map_nil, vn_cons, vn_nil, List.append_assoc, List.nil_append]
    rw [nx_back 1073741824 _ _ c0.1 c0.2 (by omega)]
    simp only []
    rw [wR_back _ _ _ c1.1 c1.2 c2.1 c2.2]
  by_cases k4 : k = 4
  · subst k4
    simp (config := {decide := true}) only [↓reduceIte, S31.mk.injEq, true_and, and_true, true_or, or_true, S28.mk.injEq] at hb hf ⊢
    obtain ⟨rfl, rfl, ⟨rfl, rfl⟩, rfl, rfl⟩ := hb
    have c0 := hf (f1, 1073741824) (by simp)
    have c1 := hf (f3, 1073741824) (by simp)
    simp only [List.map_cons, List.map_nil, vn_cons, vn_nil, List.append_assoc, List.nil_append]
    rw [nx_back 1073741824 _ _ c0.1 c0.2 (by omega)]
    simp only []
    rw [nx_back 1073741824 _ _ c1.1 c1.2 (by omega)]
  by_cases k5 : k = 5
  · subst k5
    simp (config := {decide := true}) only [↓reduceIte, S31.mk.injEq, true_and, and_true, true_or, or_true, S28.mk.injEq] at hb hf ⊢
    obtain ⟨rfl, rfl, rfl, ⟨rfl, rfl⟩, rfl, rfl⟩ := hb
    have c0 := hf (f3, 1073741824) (by simp)
    simp only [List.map_cons, List.map_nil, vn_cons, vn_nil, List.append_assoc, List.nil_append]
    rw [nx_back 1073741824 _ _ c0.1 c0.2 (by omega)]
  have k6 : k = 6 := by omega
  subst k6
  simp (config := {decide := true}) only [↓reduceIte, S31.mk.injEq, true_and, and_true, true_or, or_true, S28.mk.injEq] at hb hf ⊢
  obtain ⟨rfl, rfl, ⟨rfl, rfl⟩, rfl⟩ := hb
  have c0 := hf (wrap64 (f2 + 1), 1073741825) (by simp)
  have c1 := hf (f4, 1073741824) (by simp)
  have c2 := hf ((f7.length : Int), 8) (by simp)
  have e0 := w2 hw.1 hw.2 c0.1
  have hp : ∀ z ∈ partF f7, 0 ≤ z.1 ∧ z.1 ≤ z.2 := fun z hz => hf z (List.mem_append_right _ hz)
  have hm : (([(wrap64 (f2 + 1), 1073741825), (f4, 1073741824), ((f7.length : Int), 8)] ++ (f7.map fun p : S67 => [(p.f0, (1073741824 : Int)), (p.f1, (1073741824 : Int))]).flatten).map (fun z : Int × Int => z.1)) = wrap64 (f2 + 1) :: f4 :: (f7.length : Int) :: (partF f7).map (·.1) := rfl
  rw [hm]
  simp only [vn_cons, List.append_assoc]
  rw [nx_back 1073741825 _ _ c0.1 c0.2 (by omega)]
  simp only []
  rw [nx_back 1073741824 _ _ c1.1 c1.2 (by omega)]
  simp only []
  rw [nx_back 8 _ _ c2.1 c2.2 (by omega)]
  simp only [Int.toNat_natCast]
  rw [parts_back rest f7 [] hp, e0]
  have e1 : f2 + 1 - 1 = f2 := by omega
  rw [e1]
  rfl
/-! ### Read -/
/-- What Read does, from some commands on. -/
def readsP : Nat → ByteArray → List S31 → List S31 × ByteArray × Int
  | 0, rest, acc => (acc, rest, 0)
  | f + 1, rest, acc =>
    if rest.size = 0 then (acc, rest, 0)
    else if acc.length = 4096 then (acc, rest, 15)
    else if (cmdR (rest, false)).2.2 = true then (acc, rest, 10)
    else readsP f (cmdR (rest, false)).2.1 (acc ++ [(cmdR (rest, false)).1])
theorem readsP_succ (f : Nat) (rest : ByteArray) (acc : List S31) : readsP (f + 1) rest acc = if rest.size = 0 then (acc, rest, 0)
    else if acc.length = 4096 then (acc, rest, 15)
    else if (cmdR (rest, false)).2.2 = true then (acc, rest, 10)
    else readsP f (cmdR (rest, false)).2.1 (acc ++ [(cmdR (rest, false)).1]) := rfl
theorem readsP_nil (f : Nat) (rest : ByteArray) (acc : List S31) (h : rest.size = 0) : readsP f rest acc = (acc, rest, 0) := by
  cases f with
  | zero => rfl
  | succ f => rw [readsP_succ, if_pos h]
theorem eta3 {p : S31 × St} (h : p.2.2 = false) : p = (p.1, (p.2.1, false)) := by
  obtain ⟨c, t, b⟩ := p
  have h2 : b = false := h
  rw [h2]
theorem cmd_lt {s t : ByteArray} {c : S31} (h : cmdR (s, false) = (c, (t, false))) : t.size + 1 ≤ s.size := by
  have h1 := (cmd_inv h rfl).2.1
  have h2 : s = strOfNums (cmdNums c) ++ t := h1
  rw [h2, ByteArray.size_append, strOfNums_size]
  have h3 : 1 ≤ (cmdNums c).length := by
    unfold cmdNums
    rw [List.length_append]
    have : 1 ≤ (vnum c.f0.toNat).length := by rw [vnum]; split <;> simp
    omega
  omega
theorem reads_fuel : ∀ (f : Nat) (s : ByteArray) (acc : List S31), s.size ≤ f → readsP f s acc = readsP s.size s acc := by
  intro f
  induction f using Nat.strongRecOn with
  | _ f ih =>
    intro s acc h
    cases f with
    | zero =>
      have h0 : s.size = 0 := by omega
      rw [h0]
    | succ f =>
      rcases Nat.eq_zero_or_pos s.size with h0 | h0
      · rw [h0, readsP_nil _ _ _ h0, readsP_nil _ _ _ h0]
      · obtain ⟨n, hn⟩ : ∃ n, s.size = n + 1 := ⟨s.size - 1, by omega⟩
        by_cases hn2 : n = f
        · rw [hn, hn2]
        rw [hn, readsP_succ f s acc, readsP_succ n s acc]
        have hs0 : ¬ s.size = 0 := by omega
        simp only [if_neg hs0]
        by_cases h4 : acc.length = 4096
        · simp only [if_pos h4]
        simp only [if_neg h4]
        by_cases hb : (cmdR (s, false)).2.2 = true
        · simp only [if_pos hb]
        simp only [if_neg hb]
        have hlt := cmd_lt (s := s) (t := (cmdR (s, false)).2.1) (c := (cmdR (s, false)).1) (eta3 (by simpa using hb))
        rw [ih f (by omega) _ _ (by omega), ih n (by omega) _ _ (by omega)]
theorem reads_back (rest : List Int) (f : Nat) : ∀ (g acc : List S31), (∀ c ∈ g, chkW c = true ∧ Wf c) → acc.length + g.length ≤ 4096 →
    readsP (g.length + f) (strOfNums (rowNums g ++ rest)) acc = readsP f (strOfNums rest) (acc ++ g) := by
  intro g
  induction g with
  | nil => intro acc _ _; simp [rowNums]
  | cons c g ih =>
    intro acc h hl
    have hc := h c (by simp)
    have e : rowNums (c :: g) ++ rest = cmdNums c ++ (rowNums g ++ rest) := by simp [rowNums]
    have hb := cmd_back hc.1 hc.2 (rowNums g ++ rest)
    have h1 : (strOfNums (cmdNums c ++ (rowNums g ++ rest))).size ≠ 0 := by
      have := cmd_lt hb
      omega
    have e2 : (c :: g).length + f = (g.length + f) + 1 := by simp; omega
    simp only [List.length_cons] at hl
    rw [e, e2, readsP_succ, if_neg h1, if_neg (by omega), hb]
    simp only [Bool.false_eq_true, ↓reduceIte]
    rw [ih (acc ++ [c]) (fun d hd => h d (List.mem_cons_of_mem _ hd)) (by simp; omega)]
    simp
theorem reads_inv : ∀ (f : Nat) (s : ByteArray) (acc l : List S31) (rest : ByteArray) (e : Int), s.size ≤ f → readsP f s acc = (l, rest, e) →
    (∃ qs, l = acc ++ qs ∧ s = strOfNums (rowNums qs) ++ rest ∧ ∀ q ∈ qs, chkW q = true) ∧ (e = 0 ↔ rest.size = 0) := by
  intro f
  induction f with
  | zero =>
    intro s acc l rest e hs h
    unfold readsP at h
    injection h with h1 h2
    injection h2 with h2 h3
    subst h1
    subst h2
    subst h3
    exact ⟨⟨[], by simp, by simp [rowNums, str_nil, emp], by simp⟩, ⟨fun _ => by omega, fun _ => rfl⟩⟩
  | succ f ih =>
    intro s acc l rest e hs h
    rw [readsP_succ] at h
    split at h
    · rename_i h0
      injection h with h1 h2
      injection h2 with h2 h3
      subst h1
      subst h2
      subst h3
      exact ⟨⟨[], by simp, by simp [rowNums, str_nil, emp], by simp⟩, by simp [h0]⟩
    rename_i h0
    split at h
    · injection h with h1 h2
      injection h2 with h2 h3
      subst h1
      subst h2
      subst h3
      exact ⟨⟨[], by simp, by simp [rowNums, str_nil, emp], by simp⟩, by simp [h0]⟩
    split at h
    · injection h with h1 h2
      injection h2 with h2 h3
      subst h1
      subst h2
      subst h3
      exact ⟨⟨[], by simp, by simp [rowNums, str_nil, emp], by simp⟩, by simp [h0]⟩
    rename_i hb
    have hb2 : (cmdR (s, false)).2.2 = false := by simpa using hb
    obtain ⟨c, t, hct⟩ : ∃ c t, cmdR (s, false) = (c, (t, false)) := ⟨(cmdR (s, false)).1, (cmdR (s, false)).2.1, eta3 hb2⟩
    rw [hct] at h
    have hlt := cmd_lt hct
    have hinv := cmd_inv hct rfl
    have hs2 : s = strOfNums (cmdNums c) ++ t := hinv.2.1
    obtain ⟨⟨qs, h1, h2, h3⟩, h4⟩ := ih t _ _ _ _ (by omega) h
    refine ⟨⟨c :: qs, by rw [h1]; simp, ?_, ?_⟩, h4⟩
    · have e5 : rowNums (c :: qs) = cmdNums c ++ rowNums qs := by simp [rowNums]
      rw [e5, strOf_append, ByteArray.append_assoc, ← h2, ← hs2]
    · intro q hq
      rcases List.mem_cons.1 hq with rfl | hq
      · exact hinv.2.2
      · exact h3 q hq
end Go.Proofs.Ytfcoaneffdddkaa.XBack

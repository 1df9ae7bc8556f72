import Derived.Test.YtlblianpbjhmoaaQEmpty
import Derived.Test.YtlblianpbjhmoaaPGsx4
import Derived.Test.YtlblianpbjhmoaaPGsx10
namespace Go.Proofs.Ytlblianpbjhmoaa.Pure
open Go.RowKit Go.Proofs.Ytlblianpbjhmoaa.PGs Go.Proofs.YtlblianpbjhmoaaW.PrintWords Go.Proofs.YtlblianpbjhmoaaW.PrintLast
open Go.Proofs.Ytlblianpbjhmoaa.QEv Go.Proofs.Ytlblianpbjhmoaa.QBits Go.Proofs.Ytlblianpbjhmoaa.QSlot Go.Proofs.Ytlblianpbjhmoaa.GLetters Go.Proofs.Ytlblianpbjhmoaa.QGantt Go.Proofs.Ytlblianpbjhmoaa.QDraw Go.Proofs.Ytlblianpbjhmoaa.QEmpty

theorem refempty_l0 (m : Int) (hm : 0 ≤ m) (hm2 : m ≤ 100000) (l : List S57) (hl : SmallRow l) (hl2 : l.length ≤ 1000) (d : Nat) : ∀ (i : Nat) (n : Int), i + d = l.length → -(100000 * (i : Int)) ≤ n → n ≤ 100000 * (i : Int) →
    Tell (fun k => regattaref16_Empty.l0 k l m true n (i : Int)) (n + ((l.drop i).map (fun s => m - (s.f1.length : Int))).sum) := by
  induction d with
  | zero =>
    intro i n hi _ _
    rw [List.drop_of_length_le (by omega)]
    simp only [List.map_nil, List.sum_nil, Int.add_zero]
    exact Tell.step (g := fun _ => some n) (fun k => by rw [regattaref16_Empty.l0, if_neg (by omega)]) (Tell.const _)
  | succ d ih =>
    intro i n hi h0 h1
    have hlt : i < l.length := by omega
    have hs : l[i].f1.length ≤ 100000 := hl.2 l[i] (List.getElem_mem hlt)
    rw [List.drop_eq_getElem_cons hlt, List.map_cons, List.sum_cons]
    have h := ih (i + 1) (n + (m - (l[i].f1.length : Int))) (by omega) (by omega) (by omega)
    rw [Int.add_assoc] at h
    refine Tell.step (fun k => ?_) h
    rw [regattaref16_Empty.l0, if_pos (by omega), if_pos rfl, if_pos (by omega), rd57 l i hlt, w64 (x := m - (l[i].f1.length : Int)) (by omega) (by omega), w64 (x := n + (m - (l[i].f1.length : Int))) (by omega) (by omega), w64 (x := (i : Int) + 1) (by omega) (by omega)]
    rfl
theorem refempty_made (x : List (List Int)) : Tell (fun k => regattaref16_Empty.f k (madeRow x) 64) ((madeRow x).map (fun s => 64 - (s.f1.length : Int))).sum := by
  unfold regattaref16_Empty.f
  have h := refrow_f 64 (madeRow x) (made_small x)
  rw [made_row] at h
  refine Tell.bind h ?_
  have hb := madeFrom_len x 0 (by omega)
  have h2 := refempty_l0 64 (by omega) (by omega) (madeRow x) (made_small x) (by unfold madeRow; omega) (madeRow x).length 0 0 (by omega) (by omega) (by omega)
  simpa using h2
theorem w_nat (n : Nat) (h : n < 1000000) : wrap64 ((n : Int) + 1) = ((n + 1 : Nat) : Int) := by rw [w64 (by omega) (by omega)]; omega
theorem empty_l0 (c : Int) (hc0 : 0 ≤ c) (hc1 : c < 256) (x : List (List Int)) (xs : List Int) (hx : ∀ y ∈ xs, 0 ≤ y ∧ y ≤ 255) (hlen : xs.length ≤ 1000000) (hp : ((points xs : Nat) : Int) = ((madeRow x).map (fun s => 64 - (s.f1.length : Int))).sum) (hn : lines xs = 64) (d : Nat) :
    ∀ (i p q : Nat), i + d = xs.length → p + points (xs.drop i) = points xs → q + lines (xs.drop i) = lines xs → p ≤ i → q ≤ i → Tell (fun k => regattalaw25_GanttEmpty.l0 k c true (madeRow x) (strOfNums xs) (p : Int) (q : Int) (i : Int)) true := by
  induction d with
  | zero =>
    intro i p q hi hp' hq' _ _
    rw [List.drop_of_length_le (by omega)] at hp' hq'
    have e1 : p = points xs := by simpa [points] using hp'
    have e2 : q = 64 := by rw [← hn]; simpa [lines] using hq'
    refine Tell.step (fun k => by rw [regattalaw25_GanttEmpty.l0, if_neg (by rw [strOfNums_size]; omega), id_f]) ?_
    simp only [Option.bind_some, if_true]
    refine Tell.bind (refempty_made x) ?_
    rw [e1, hp, e2]
    simp only [if_true]
    by_cases h : place c < 0
    · refine Tell.of (fun k => ?_) (Tell.const true)
      rw [if_pos (by rfl), if_pos h]
    · refine Tell.of (fun k => ?_) (Tell.const true)
      rw [if_pos (by rfl), if_neg h, letter_f]
      rcases letter_place c hc0 hc1 with h2 | h2
      · exact absurd h2 h
      · simp [h2]
  | succ d ih =>
    intro i p q hi hp' hq' h1 h2
    have hlt : i < xs.length := by omega
    rw [List.drop_eq_getElem_cons hlt] at hp' hq'
    have hi9 : i < 1000000 := by omega
    have hp9 : p < 1000000 := by omega
    have hq9 : q < 1000000 := by omega
    have hsz : (i : Int) < ((strOfNums xs).size : Int) := by rw [strOfNums_size]; omega
    have hb := bt_nums xs hx i hlt
    have hi0 : (0 : Int) ≤ (i : Int) := Int.natCast_nonneg i
    have cp : points (xs[i] :: xs.drop (i + 1)) = points (xs.drop (i + 1)) + if xs[i] = 46 then 1 else 0 := by
      unfold points; rw [List.count_cons]; simp
    have cq : lines (xs[i] :: xs.drop (i + 1)) = lines (xs.drop (i + 1)) + if xs[i] = 10 then 1 else 0 := by
      unfold lines; rw [List.count_cons]; simp
    rw [cp] at hp'
    rw [cq] at hq'
    by_cases h46 : xs[i] = 46
    · have h10 : ¬ xs[i] = 10 := by omega
      rw [if_pos h46] at hp'
      rw [if_neg h10] at hq'
      refine Tell.step (fun k => ?_) (ih (i + 1) (p + 1) q (by omega) (by omega) (by omega) (by omega) (by omega))
      rw [regattalaw25_GanttEmpty.l0, if_pos hsz, if_pos hi0, hb, if_pos h46, if_neg h10, w_nat i hi9, w_nat p hp9]
    · by_cases h10 : xs[i] = 10
      · rw [if_neg h46] at hp'
        rw [if_pos h10] at hq'
        refine Tell.step (fun k => ?_) (ih (i + 1) p (q + 1) (by omega) (by omega) (by omega) (by omega) (by omega))
        rw [regattalaw25_GanttEmpty.l0, if_pos hsz, if_pos hi0, hb, if_neg h46, if_pos h10, w_nat i hi9, w_nat q hq9]
      · rw [if_neg h46] at hp'
        rw [if_neg h10] at hq'
        refine Tell.step (fun k => ?_) (ih (i + 1) p q (by omega) (by omega) (by omega) (by omega) (by omega))
        rw [regattalaw25_GanttEmpty.l0, if_pos hsz, if_pos hi0, hb, if_neg h46, if_neg h10, w_nat i hi9]
theorem drawNums_len (l : List S57) (n : Nat) : ∀ c, (drawNums l n c).length = n * (l.length + 1) := by
  induction n with
  | zero => intro c; simp [drawNums]
  | succ n ih =>
    intro c
    unfold drawNums coreNums
    rw [List.length_append, List.length_cons, List.length_map, ih, Nat.succ_mul]
    omega
theorem wf_u8 {x : Int} (h : (Lit.int .u8 x).wf = true) : 0 ≤ x ∧ x < 256 := by
  have h' : (decide (IntKind.u8.min ≤ x) && decide (x ≤ IntKind.u8.max)) = true := h
  have e1 : IntKind.u8.min = 0 := by decide
  have e2 : IntKind.u8.max = 255 := by decide
  rw [e1, e2] at h'
  simp at h'
  omega
theorem GanttEmpty : regattalaw25_GanttEmpty.Pure := by
  intro x0 x1 h0 h1
  obtain ⟨c0, c1⟩ := wf_u8 h1
  have hall : Tell (fun k => regattalaw25_GanttEmpty.f k x0 x1) true := by
    unfold regattalaw25_GanttEmpty.f
    refine Tell.bind (⟨20, fun k hk => awake25 k hk⟩ : Tell (fun k => regattalaw25_awake.f k) true) ?_
    refine Tell.bind (made_f x0 h0.1 (fun s hs => (h0.2 s hs).1)) ?_
    refine Tell.bind (draw_f 64 (madeRow x0) (made_small x0)) ?_
    have e : drawText 64 (madeRow x0) = strOfNums (drawNums (madeRow x0) 64 0) := by
      unfold drawText
      rw [made_gchk, if_pos rfl, drawFrom_nums]
      apply ByteArray.ext; simp
    rw [e]
    have hb := madeFrom_len x0 0 (by omega)
    have hlen := drawNums_len (madeRow x0) 64 0
    have hb2 : (madeRow x0).length ≤ 12 := by unfold madeRow; omega
    exact empty_l0 x1 c0 c1 x0 _ (drawNums_range _ _ _) (by omega) (points_made x0) (lines_draw _ _ _) _ 0 0 0 (Nat.zero_add _) (by simp) (by simp) (by omega) (by omega)
  exact hall.get
end Go.Proofs.Ytlblianpbjhmoaa.Pure

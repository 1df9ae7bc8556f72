-- Written by wip/rprint.py of this session's repo (the kit's printer with patches), out of the translation. Not trusted: Lean checks it.
import Derived.Test.YtfcoaneffdddkaaPWtx0
namespace Go.Proofs.Ytfcoaneffdddkaa.PWt
open Go.RowKit Go.Proofs.YtfcoaneffdddkaaW.PrintWords Go.Proofs.YtfcoaneffdddkaaW.PrintLast Go.Proofs.YtfcoaneffdddkaaW.PrintMore Go.Proofs.Ytfcoaneffdddkaa.MWords
attribute [local go_sem] max2_int min2_int max_two min_two max_three min_three max_four min_four   -- for this text's walks alone
set_option linter.unusedVariables false
set_option linter.unusedSimpArgs false

/-! ### regattaref18_command: function 25 -/
mutual
def regattaref18_command.j0 : Nat → List Int → Int → Bool → Int → Int → Int → Int → Int → Int → Int → Bool → Option (Int × Int × Int × Int × Int × Int × Int × Bool × (List (S67)))
  | 0, _, _, _, _, _, _, _, _, _, _, _ => none
  | k + 1, x1, x9, x30, x164000, x164001, x164002, x164003, x164004, x164005, x164006, x164007 => if x30 = true then (if 0 < (x1.length : Int) then (some (x164000, rd x1 0, x164002, x164003, x164004, x164005, x164006, x164007, ([] : List (S67)))) else (none)) else (if x9 = 3 then (if 0 < (x1.length : Int) then (if 1 < (x1.length : Int) then (if 2 < (x1.length : Int) then (some (x164000, rd x1 0, x164002, x164003, x164004, rd x1 1, rd x1 2, x164007, ([] : List (S67)))) else (none)) else (none)) else (none)) else (if x9 = 4 then (if 0 < (x1.length : Int) then (if 1 < (x1.length : Int) then (some (x164000, rd x1 0, x164002, rd x1 1, x164004, x164005, x164006, x164007, ([] : List (S67)))) else (none)) else (none)) else (if x9 = 5 then (if 0 < (x1.length : Int) then (some (x164000, x164001, x164002, rd x1 0, x164004, x164005, x164006, x164007, ([] : List (S67)))) else (none)) else (if x9 = 6 then (if 0 < (x1.length : Int) then (if 1 < (x1.length : Int) then (regattaref18_command.l0 k x1 3 x164000 x164001 (wrap64 ((rd x1 0) - 1)) x164003 (rd x1 1) x164005 x164006 x164007 ([] : List (S67))) else (none)) else (none)) else (some (x164000, x164001, x164002, x164003, x164004, x164005, x164006, x164007, ([] : List (S67))))))))
def regattaref18_command.l0 : Nat → List Int → Int → Int → Int → Int → Int → Int → Int → Int → Bool → List (S67) → Option (Int × Int × Int × Int × Int × Int × Int × Bool × (List (S67)))
  | 0, _, _, _, _, _, _, _, _, _, _, _ => none
  | k + 1, x1, x6, x164000, x164001, x164002, x164003, x164004, x164005, x164006, x164007, x164008 => if (wrap64 (x6 + 1)) < (x1.length : Int) then (if 0 ≤ x6 then (if x6 < (x1.length : Int) then (if 0 ≤ (wrap64 (x6 + 1)) then (if x164008.length < 8796093022208 then (regattaref18_command.l0 k x1 (wrap64 (x6 + 2)) x164000 x164001 x164002 x164003 x164004 x164005 x164006 x164007 (x164008 ++ [(⟨rd x1 x6, rd x1 (wrap64 (x6 + 1))⟩ : S67)])) else (none)) else (none)) else (none)) else (none)) else (some (x164000, x164001, x164002, x164003, x164004, x164005, x164006, x164007, x164008))
end
def regattaref18_command.f (k : Nat) (a0 : Int) (l1 : List Int) : Option (Int × Int × Int × Int × Int × Int × Int × Bool × (List (S67))) := if a0 = 1 then (if 0 < (l1.length : Int) then (if 1 < (l1.length : Int) then (if 2 < (l1.length : Int) then (if 3 < (l1.length : Int) then (some (a0, 0, wrap64 ((rd l1 0) - 1), 0, 0, rd l1 2, rd l1 3, ((rd l1 1) == 1), ([] : List (S67)))) else (none)) else (none)) else (none)) else (none)) else (if a0 = 2 then (regattaref18_command.j0 k l1 a0 (a0 == 2) a0 0 0 0 0 0 0 false) else (regattaref18_command.j0 k l1 a0 (a0 == 7) a0 0 0 0 0 0 0 false))
theorem regattaref18_command.mono_l : ∀ k, (∀ y0 y1 y2 y3 y4 y5 y6 y7 y8 y9 y10, LeO (regattaref18_command.j0 k y0 y1 y2 y3 y4 y5 y6 y7 y8 y9 y10) (regattaref18_command.j0 (k + 1) y0 y1 y2 y3 y4 y5 y6 y7 y8 y9 y10)) ∧ (∀ y0 y1 y2 y3 y4 y5 y6 y7 y8 y9 y10, LeO (regattaref18_command.l0 k y0 y1 y2 y3 y4 y5 y6 y7 y8 y9 y10) (regattaref18_command.l0 (k + 1) y0 y1 y2 y3 y4 y5 y6 y7 y8 y9 y10))
  | 0 => ⟨fun _ _ _ _ _ _ _ _ _ _ _ r h => by simp [regattaref18_command.j0] at h, fun _ _ _ _ _ _ _ _ _ _ _ r h => by simp [regattaref18_command.l0] at h⟩
  | k + 1 => by
    obtain ⟨ih0, ih1⟩ := regattaref18_command.mono_l k
    refine ⟨?_, ?_⟩
    · intro y0 y1 y2 y3 y4 y5 y6 y7 y8 y9 y10
      unfold regattaref18_command.j0
      repeat' first
      | (with_reducible exact ih0 _ _ _ _ _ _ _ _ _ _ _)
      | (with_reducible exact ih1 _ _ _ _ _ _ _ _ _ _ _)
      | (with_reducible exact LeO.refl _)
      | (with_reducible exact LeO.none _)
      | (with_reducible refine LeO.ite ?_ ?_)
      | (with_reducible refine LeO.bind ?_ (fun _ => ?_))
      | exact ih0 _ _ _ _ _ _ _ _ _ _ _
      | exact ih1 _ _ _ _ _ _ _ _ _ _ _
      | exact LeO.none _
      | refine LeO.ite ?_ ?_
      | refine LeO.bind ?_ (fun _ => ?_)
    · intro y0 y1 y2 y3 y4 y5 y6 y7 y8 y9 y10
      unfold regattaref18_command.l0
      repeat' first
      | (with_reducible exact ih0 _ _ _ _ _ _ _ _ _ _ _)
      | (with_reducible exact ih1 _ _ _ _ _ _ _ _ _ _ _)
      | (with_reducible exact LeO.refl _)
      | (with_reducible exact LeO.none _)
      | (with_reducible refine LeO.ite ?_ ?_)
      | (with_reducible refine LeO.bind ?_ (fun _ => ?_))
      | exact ih0 _ _ _ _ _ _ _ _ _ _ _
      | exact ih1 _ _ _ _ _ _ _ _ _ _ _
      | exact LeO.none _
      | refine LeO.ite ?_ ?_
      | refine LeO.bind ?_ (fun _ => ?_)
theorem regattaref18_command.mono : ∀ a0 a1 k, LeO (regattaref18_command.f k a0 a1) (regattaref18_command.f (k + 1) a0 a1) := by
  intro a0 a1 k
  obtain ⟨ih0, ih1⟩ := regattaref18_command.mono_l k
  unfold regattaref18_command.f
  repeat' first
      | (with_reducible exact ih0 _ _ _ _ _ _ _ _ _ _ _)
      | (with_reducible exact ih1 _ _ _ _ _ _ _ _ _ _ _)
      | (with_reducible exact LeO.refl _)
      | (with_reducible exact LeO.none _)
      | (with_reducible refine LeO.ite ?_ ?_)
      | (with_reducible refine LeO.bind ?_ (fun _ => ?_))
      | exact ih0 _ _ _ _ _ _ _ _ _ _ _
      | exact ih1 _ _ _ _ _ _ _ _ _ _ _
      | exact LeO.none _
      | refine LeO.ite ?_ ?_
      | refine LeO.bind ?_ (fun _ => ?_)
def regattaref18_command.T6 : Bool × List (List Nat × List Nat) := (true, [([], []), ([0], [0]), ([1], [1]), ([], []), ([3], [3]), ([4], [4]), ([2, 5], [2, 5]), ([0, 1, 2, 3, 4, 5, 6], []), ([7, 6, 0, 1, 2, 3, 4, 5, 6], [6, 7])])
def regattaref18_command.B6 : List Nat := [0, 1, 3, 0, 8, 24, 63, 127, 255]
theorem regattaref18_command.tab6 : rtab .any (opsOf Try.f25 6) = regattaref18_command.T6 := by kernel_rfl
theorem regattaref18_command.bits6 : waitsOk regattaref18_command.T6.2 regattaref18_command.B6 = true := by kernel_rfl
def regattaref18_command.T12 : Bool × List (List Nat × List Nat) := (true, [([], []), ([0], [0]), ([1], [1]), ([], []), ([3], [3]), ([4], [4]), ([2, 5], [2, 5]), ([0, 1, 2, 3, 4, 5, 6], []), ([7, 6, 0, 1, 2, 3, 4, 5, 6], [6, 7])])
def regattaref18_command.B12 : List Nat := [0, 1, 3, 0, 8, 24, 63, 127, 255]
theorem regattaref18_command.tab12 : rtab .any (opsOf Try.f25 12) = regattaref18_command.T12 := by kernel_rfl
theorem regattaref18_command.bits12 : waitsOk regattaref18_command.T12.2 regattaref18_command.B12 = true := by kernel_rfl
def regattaref18_command.T24 : Bool × List (List Nat × List Nat) := (true, [([], []), ([0], [0]), ([], []), ([], []), ([2, 3], [2, 3]), ([4], [4]), ([], []), ([], []), ([7], [7]), ([6, 8], [6, 8]), ([9], [9]), ([5, 10], [5, 10]), ([11], [11]), ([1, 12], [1, 12]), ([0, 1, 2, 3, 4, 5, 6, 7, 8, 9, 10, 11, 12, 13], []), ([14, 13, 13, 0, 1, 2, 3, 4, 5, 6, 7, 8, 9, 10, 11, 12, 13], [13, 14])])
def regattaref18_command.B24 : List Nat := [0, 1, 0, 0, 12, 28, 0, 0, 128, 448, 960, 2044, 4092, 8191, 16383, 32767]
theorem regattaref18_command.tab24 : rtab .any (opsOf Try.f25 24) = regattaref18_command.T24 := by kernel_rfl
theorem regattaref18_command.bits24 : waitsOk regattaref18_command.T24.2 regattaref18_command.B24 = true := by kernel_rfl
set_option maxHeartbeats 8000000 in
set_option maxRecDepth 100000 in
theorem regattaref18_command.calls (k : Nat) (a0 : Int) (A1 : Option Addr) (c1 : Nat) (l1 : List Int) (r1 : Int) (r2 : Int) (r3 : Int) (r4 : Int) (r5 : Int) (r6 : Int) (r7 : Int) (r8 : Bool) (r9 : List (S67)) (w : World) (hr1 : Kd.C (Kd.int .i64) w A1 l1.length l1) (hc1 : l1.length ≤ c1) (h : regattaref18_command.f k a0 l1 = some (r1, r2, r3, r4, r5, r6, r7, r8, r9)) :
    Calls Try.prog 25 #[.int .i64 a0, .slice A1 l1.length c1] w fun e w' => ∃ v8_ : Value, e = .returned (.agg #[.int .i64 r1, .int .i64 r2, .int .i64 r3, .int .i64 r4, .int .i64 r5, .int .i64 r6, .int .i64 r7, .bool r8, v8_]) ∧ Kd.R k67 67 w' w.heap.size (fun _ => True) v8_ r9 ∧ Below w.heap.size w w' := by
  have hu31 := Try.underlying31
  have hu28 := Try.underlying28
  have hu67 := Try.underlying67
  have HR1 := Aside0.mk hr1
  have HC1 := Aside0.mk hc1
  clear hr1 hc1
  have HB := Aside0.mk (Below.refl w.heap.size w)
  have H : (if a0 = 1 then (if 0 < (l1.length : Int) then (if 1 < (l1.length : Int) then (if 2 < (l1.length : Int) then (if 3 < (l1.length : Int) then (some (a0, 0, wrap64 ((rd l1 0) - 1), 0, 0, rd l1 2, rd l1 3, ((rd l1 1) == 1), ([] : List (S67)))) else (none)) else (none)) else (none)) else (none)) else (if a0 = 2 then (regattaref18_command.j0 k l1 a0 (a0 == 2) a0 0 0 0 0 0 0 false) else (regattaref18_command.j0 k l1 a0 (a0 == 7) a0 0 0 0 0 0 0 false))) = some (r1, r2, r3, r4, r5, r6, r7, r8, r9) := h
  clear h
  by_cases c3 : a0 = 1
  · rw [if_pos c3] at H
    have c3b0 : (a0 == 1) = true := beq_iff_eq.mpr c3
    have c3b1 : (a0 != 1) = false := bne_eq_false_iff_eq.mpr c3
    clear c3
    by_cases c4 : 0 < (l1.length : Int)
    · rw [if_pos c4] at H
      have c4b0 : decide (0 < (l1.length : Int)) = true := decide_eq_true c4
      have c4b1 : decide (0 < l1.length) = true := decide_eq_true (by omega)
      clear c4
      by_cases c5 : 1 < (l1.length : Int)
      · rw [if_pos c5] at H
        have c5b0 : decide (1 < (l1.length : Int)) = true := decide_eq_true c5
        have c5b1 : decide (1 < l1.length) = true := decide_eq_true (by omega)
        clear c5
        by_cases c6 : 2 < (l1.length : Int)
        · rw [if_pos c6] at H
          have c6b0 : decide (2 < (l1.length : Int)) = true := decide_eq_true c6
          have c6b1 : decide (2 < l1.length) = true := decide_eq_true (by omega)
          clear c6
          by_cases c7 : 3 < (l1.length : Int)
          · rw [if_pos c7] at H
            have c7b0 : decide (3 < (l1.length : Int)) = true := decide_eq_true c7
            have c7b1 : decide (3 < l1.length) = true := decide_eq_true (by omega)
            clear c7
            simp only [Option.some.injEq, Prod.mk.injEq] at H
            obtain ⟨rfl, rfl, rfl, rfl, rfl, rfl, rfl, rfl, rfl⟩ := H
            go_enter Try.func25, Try.ntmps25
            try go_wp2_with (first | ((with_reducible refine gate_dst (N := 4) rfl ?_); refine box_event ?hg (N := 4) ?hd (cs := #[.int .i64 0, .int .i64 0, .int .i64 0, .int .i64 0, .int .i64 0, .int .i64 0, .int .i64 0, .bool false, .slice none 0 0]) (t := 31) ?hr ?_; (case hd => rfl); (case hg => rfl); (case hr => first | (go_simp; done) | (go_simp; rfl)); intro gb162 hg w8 hbox hb; have n0_ := Aside0.mk (below_step (by repeat (first | (with_reducible first | exact HB.out | apply below_alloc | apply pw_below_drewN | apply below_drew1) | exact HB.out)) hb); have n1_ := Aside0.mk (hbox); have n2_ := Aside0.mk ((by rw [hg]; exact (below_size (by repeat (first | (with_reducible first | exact HB.out | apply below_alloc | apply pw_below_drewN | apply below_drew1) | exact HB.out))) : w.heap.size ≤ gb162)); have n3_ := Aside0.mk ((by rw [hg]; exact (below_size (by repeat (first | (with_reducible first | exact HB.out | apply below_alloc | apply pw_below_drewN | apply below_drew1) | exact HB.out))) : w.heap.size ≤ gb162)); clear HB; have HB := n0_; have BK162 := n1_; have GW162 := n2_; have GE162 := n3_; clear n0_ n1_ n2_ n3_; clear hb hbox hg) | ((with_reducible refine gate_dst (N := 5) rfl ?_); refine box_event ?hg (N := 5) ?hd (cs := #[.int .i64 0, .int .i64 0, .int .i64 0, .int .i64 0, .int .i64 0, .int .i64 0, .int .i64 0, .bool false, .slice none 0 0]) (t := 31) ?hr ?_; (case hd => rfl); (case hg => rfl); (case hr => first | (go_simp; done) | (go_simp; rfl)); intro gb163 hg w9 hbox hb; have n0_ := Aside0.mk (blk_below (g := gb162) (o := .cells #[.int .i64 0, .int .i64 0, .int .i64 0, .int .i64 0, .int .i64 0, .int .i64 0, .int .i64 0, .bool false, .slice none 0 0] 31 (0, 0)) (by (with_reducible repeat (first | refine blk_drewN ?_ _ | refine blk_drew ?_ | refine blk_alloc ?_ _)); exact BK162.out) hb); have n1_ := Aside0.mk (below_step (by repeat (first | (with_reducible first | exact HB.out | apply below_alloc | apply pw_below_drewN | apply below_drew1 | refine below_set ?_ GE162.out) | exact HB.out)) hb); have n2_ := Aside0.mk (hbox); have n3_ := Aside0.mk ((by rw [hg]; exact (below_size (by repeat (first | (with_reducible first | exact HB.out | apply below_alloc | apply pw_below_drewN | apply below_drew1 | refine below_set ?_ GE162.out) | exact HB.out))) : w.heap.size ≤ gb163)); have n4_ := Aside0.mk ((by rw [hg]; exact (below_size (by repeat (first | (with_reducible first | exact HB.out | apply below_alloc | apply pw_below_drewN | apply below_drew1 | refine below_set ?_ GE162.out) | exact HB.out))) : w.heap.size ≤ gb163)); have n5_ := Aside0.mk ((by rw [hg]; exact Nat.ne_of_lt (blk_lt (g := gb162) (o := .cells #[.int .i64 0, .int .i64 0, .int .i64 0, .int .i64 0, .int .i64 0, .int .i64 0, .int .i64 0, .bool false, .slice none 0 0] 31 (0, 0)) (by (with_reducible repeat (first | refine blk_drewN ?_ _ | refine blk_drew ?_ | refine blk_alloc ?_ _)); exact BK162.out)) : gb162 ≠ gb163)); have n6_ := Aside0.mk ((by rw [hg]; exact Nat.ne_of_gt (blk_lt (g := gb162) (o := .cells #[.int .i64 0, .int .i64 0, .int .i64 0, .int .i64 0, .int .i64 0, .int .i64 0, .int .i64 0, .bool false, .slice none 0 0] 31 (0, 0)) (by (with_reducible repeat (first | refine blk_drewN ?_ _ | refine blk_drew ?_ | refine blk_alloc ?_ _)); exact BK162.out)) : gb163 ≠ gb162)); clear BK162; clear HB; have BK162 := n0_; have HB := n1_; have BK163 := n2_; have GW163 := n3_; have GE163 := n4_; have NB162_163 := n5_; have NB163_162 := n6_; clear n0_ n1_ n2_ n3_ n4_ n5_ n6_; clear hb hbox hg; have hnb10 := NB163_162.out; have hnc10 := NB162_163.out; have hcz11_0 : w9.cell? ⟨gb163, 0, none⟩ = some (.int .i64 0) := (blk_cell BK163.out 0).trans rfl; have hcz11_1 : w9.cell? ⟨gb163, 1, none⟩ = some (.int .i64 0) := (blk_cell BK163.out 1).trans rfl; have hcz11_2 : w9.cell? ⟨gb163, 2, none⟩ = some (.int .i64 0) := (blk_cell BK163.out 2).trans rfl; have hcz11_3 : w9.cell? ⟨gb163, 3, none⟩ = some (.int .i64 0) := (blk_cell BK163.out 3).trans rfl; have hcz11_4 : w9.cell? ⟨gb163, 4, none⟩ = some (.int .i64 0) := (blk_cell BK163.out 4).trans rfl; have hcz11_5 : w9.cell? ⟨gb163, 5, none⟩ = some (.int .i64 0) := (blk_cell BK163.out 5).trans rfl; have hcz11_6 : w9.cell? ⟨gb163, 6, none⟩ = some (.int .i64 0) := (blk_cell BK163.out 6).trans rfl; have hcz11_7 : w9.cell? ⟨gb163, 7, none⟩ = some (.bool false) := (blk_cell BK163.out 7).trans rfl; have hcz11_8 : w9.cell? ⟨gb163, 8, none⟩ = some (.slice none 0 0) := (blk_cell BK163.out 8).trans rfl; have hfz11_0 := blk_frozen BK163.out 0; have hfz11_1 := blk_frozen BK163.out 1; have hfz11_2 := blk_frozen BK163.out 2; have hfz11_3 := blk_frozen BK163.out 3; have hfz11_4 := blk_frozen BK163.out 4; have hfz11_5 := blk_frozen BK163.out 5; have hfz11_6 := blk_frozen BK163.out 6; have hfz11_7 := blk_frozen BK163.out 7; have hfz11_8 := blk_frozen BK163.out 8; have p164 : 0 ≤ (0 : Int) := (by omega); have q164 : 0 < (l1.length : Int) := of_decide_eq_true (by first | (with_reducible assumption) | assumption); obtain ⟨ad164, e164, hx164_0⟩ := Kd.at_int HR1.out 0 p164 q164; cases e164; have qi164 : (0 < l1.length) = True := eq_true (by omega); (try rw [show ((0 : Int)).toNat = 0 from rfl] at hx164_0); (try rw [Addr.add_zero'] at hx164_0); have hn164_0 : ad164.block ≠ gb163 := Nat.ne_of_lt (Nat.lt_of_lt_of_le (by have := World.block_lt_of_cell? _ _ hx164_0; first | rwa [add_block] at this | exact this) GW163.out); have hn164_1 : ad164.block ≠ gb163 := Nat.ne_of_lt (Nat.lt_of_lt_of_le (by have := World.block_lt_of_cell? _ _ hx164_0; first | rwa [add_block] at this | exact this) GW163.out); have hn164_2 : ad164.block ≠ gb163 := Nat.ne_of_lt (Nat.lt_of_lt_of_le (by have := World.block_lt_of_cell? _ _ hx164_0; first | rwa [add_block] at this | exact this) GW163.out); have hn164_3 : ad164.block ≠ gb163 := Nat.ne_of_lt (Nat.lt_of_lt_of_le (by have := World.block_lt_of_cell? _ _ hx164_0; first | rwa [add_block] at this | exact this) GW163.out); have hn164_4 : ad164.block ≠ gb163 := Nat.ne_of_lt (Nat.lt_of_lt_of_le (by have := World.block_lt_of_cell? _ _ hx164_0; first | rwa [add_block] at this | exact this) GW163.out); have hn164_5 : ad164.block ≠ gb163 := Nat.ne_of_lt (Nat.lt_of_lt_of_le (by have := World.block_lt_of_cell? _ _ hx164_0; first | rwa [add_block] at this | exact this) GW163.out); have hn164_6 : ad164.block ≠ gb163 := Nat.ne_of_lt (Nat.lt_of_lt_of_le (by have := World.block_lt_of_cell? _ _ hx164_0; first | rwa [add_block] at this | exact this) GW163.out); have hn164_7 : ad164.block ≠ gb163 := Nat.ne_of_lt (Nat.lt_of_lt_of_le (by have := World.block_lt_of_cell? _ _ hx164_0; first | rwa [add_block] at this | exact this) GW163.out); have hn164_8 : ad164.block ≠ gb163 := Nat.ne_of_lt (Nat.lt_of_lt_of_le (by have := World.block_lt_of_cell? _ _ hx164_0; first | rwa [add_block] at this | exact this) GW163.out); replace hx164_0 := (HB.out.cell (World.block_lt_of_cell? w _ hx164_0)).trans hx164_0; replace hx164_0 := (cell_far (p := ⟨gb163, 0, none⟩) (by first | (rw [add_block]; exact hn164_0) | (show (Addr.add _ _).block ≠ _; rw [add_block]; exact hn164_0) | exact hn164_0) (.int .i64 a0)).trans hx164_0; replace hx164_0 := (cell_far (p := ⟨gb163, 1, none⟩) (by first | (rw [add_block]; exact hn164_1) | (show (Addr.add _ _).block ≠ _; rw [add_block]; exact hn164_1) | exact hn164_1) (.int .i64 0)).trans hx164_0; replace hx164_0 := (cell_far (p := ⟨gb163, 2, none⟩) (by first | (rw [add_block]; exact hn164_2) | (show (Addr.add _ _).block ≠ _; rw [add_block]; exact hn164_2) | exact hn164_2) (.int .i64 0)).trans hx164_0; replace hx164_0 := (cell_far (p := ⟨gb163, 3, none⟩) (by first | (rw [add_block]; exact hn164_3) | (show (Addr.add _ _).block ≠ _; rw [add_block]; exact hn164_3) | exact hn164_3) (.int .i64 0)).trans hx164_0; replace hx164_0 := (cell_far (p := ⟨gb163, 4, none⟩) (by first | (rw [add_block]; exact hn164_4) | (show (Addr.add _ _).block ≠ _; rw [add_block]; exact hn164_4) | exact hn164_4) (.int .i64 0)).trans hx164_0; replace hx164_0 := (cell_far (p := ⟨gb163, 5, none⟩) (by first | (rw [add_block]; exact hn164_5) | (show (Addr.add _ _).block ≠ _; rw [add_block]; exact hn164_5) | exact hn164_5) (.int .i64 0)).trans hx164_0; replace hx164_0 := (cell_far (p := ⟨gb163, 6, none⟩) (by first | (rw [add_block]; exact hn164_6) | (show (Addr.add _ _).block ≠ _; rw [add_block]; exact hn164_6) | exact hn164_6) (.int .i64 0)).trans hx164_0; replace hx164_0 := (cell_far (p := ⟨gb163, 7, none⟩) (by first | (rw [add_block]; exact hn164_7) | (show (Addr.add _ _).block ≠ _; rw [add_block]; exact hn164_7) | exact hn164_7) (.bool false)).trans hx164_0; replace hx164_0 := (cell_far (p := ⟨gb163, 8, none⟩) (by first | (rw [add_block]; exact hn164_8) | (show (Addr.add _ _).block ≠ _; rw [add_block]; exact hn164_8) | exact hn164_8) (.slice none 0 0)).trans hx164_0; clear hn164_0; clear hn164_1; clear hn164_2; clear hn164_3; clear hn164_4; clear hn164_5; clear hn164_6; clear hn164_7; clear hn164_8; replace p164 := eq_true p164; replace q164 := eq_true q164; have p165 : 0 ≤ (1 : Int) := (by omega); have q165 : 1 < (l1.length : Int) := of_decide_eq_true (by first | (with_reducible assumption) | assumption); obtain ⟨ad165, e165, hx165_0⟩ := Kd.at_int HR1.out 1 p165 q165; obtain rfl : ad164 = ad165 := (by injection e165); (try simp only [show (1 : Int).toNat = 1 from rfl, Nat.reduceMul, Nat.reduceEqDiff, Go.Addr.add, ↓reduceIte] at hx165_0); have qi165 : (1 < l1.length) = True := eq_true (by omega); (try rw [show ((1 : Int)).toNat = 1 from rfl] at hx165_0); have hn165_0 : ad164.block ≠ gb163 := Nat.ne_of_lt (Nat.lt_of_lt_of_le (by have := World.block_lt_of_cell? _ _ hx165_0; first | rwa [add_block] at this | exact this) GW163.out); have hn165_1 : ad164.block ≠ gb163 := Nat.ne_of_lt (Nat.lt_of_lt_of_le (by have := World.block_lt_of_cell? _ _ hx165_0; first | rwa [add_block] at this | exact this) GW163.out); have hn165_2 : ad164.block ≠ gb163 := Nat.ne_of_lt (Nat.lt_of_lt_of_le (by have := World.block_lt_of_cell? _ _ hx165_0; first | rwa [add_block] at this | exact this) GW163.out); have hn165_3 : ad164.block ≠ gb163 := Nat.ne_of_lt (Nat.lt_of_lt_of_le (by have := World.block_lt_of_cell? _ _ hx165_0; first | rwa [add_block] at this | exact this) GW163.out); have hn165_4 : ad164.block ≠ gb163 := Nat.ne_of_lt (Nat.lt_of_lt_of_le (by have := World.block_lt_of_cell? _ _ hx165_0; first | rwa [add_block] at this | exact this) GW163.out); have hn165_5 : ad164.block ≠ gb163 := Nat.ne_of_lt (Nat.lt_of_lt_of_le (by have := World.block_lt_of_cell? _ _ hx165_0; first | rwa [add_block] at this | exact this) GW163.out); have hn165_6 : ad164.block ≠ gb163 := Nat.ne_of_lt (Nat.lt_of_lt_of_le (by have := World.block_lt_of_cell? _ _ hx165_0; first | rwa [add_block] at this | exact this) GW163.out); have hn165_7 : ad164.block ≠ gb163 := Nat.ne_of_lt (Nat.lt_of_lt_of_le (by have := World.block_lt_of_cell? _ _ hx165_0; first | rwa [add_block] at this | exact this) GW163.out); have hn165_8 : ad164.block ≠ gb163 := Nat.ne_of_lt (Nat.lt_of_lt_of_le (by have := World.block_lt_of_cell? _ _ hx165_0; first | rwa [add_block] at this | exact this) GW163.out); have hn165_9 : ad164.block ≠ gb163 := Nat.ne_of_lt (Nat.lt_of_lt_of_le (by have := World.block_lt_of_cell? _ _ hx165_0; first | rwa [add_block] at this | exact this) GW163.out); replace hx165_0 := (HB.out.cell (World.block_lt_of_cell? w _ hx165_0)).trans hx165_0; replace hx165_0 := (cell_far (p := ⟨gb163, 0, none⟩) (by first | (rw [add_block]; exact hn165_0) | (show (Addr.add _ _).block ≠ _; rw [add_block]; exact hn165_0) | exact hn165_0) (.int .i64 a0)).trans hx165_0; replace hx165_0 := (cell_far (p := ⟨gb163, 1, none⟩) (by first | (rw [add_block]; exact hn165_1) | (show (Addr.add _ _).block ≠ _; rw [add_block]; exact hn165_1) | exact hn165_1) (.int .i64 0)).trans hx165_0; replace hx165_0 := (cell_far (p := ⟨gb163, 2, none⟩) (by first | (rw [add_block]; exact hn165_2) | (show (Addr.add _ _).block ≠ _; rw [add_block]; exact hn165_2) | exact hn165_2) (.int .i64 0)).trans hx165_0; replace hx165_0 := (cell_far (p := ⟨gb163, 3, none⟩) (by first | (rw [add_block]; exact hn165_3) | (show (Addr.add _ _).block ≠ _; rw [add_block]; exact hn165_3) | exact hn165_3) (.int .i64 0)).trans hx165_0; replace hx165_0 := (cell_far (p := ⟨gb163, 4, none⟩) (by first | (rw [add_block]; exact hn165_4) | (show (Addr.add _ _).block ≠ _; rw [add_block]; exact hn165_4) | exact hn165_4) (.int .i64 0)).trans hx165_0; replace hx165_0 := (cell_far (p := ⟨gb163, 5, none⟩) (by first | (rw [add_block]; exact hn165_5) | (show (Addr.add _ _).block ≠ _; rw [add_block]; exact hn165_5) | exact hn165_5) (.int .i64 0)).trans hx165_0; replace hx165_0 := (cell_far (p := ⟨gb163, 6, none⟩) (by first | (rw [add_block]; exact hn165_6) | (show (Addr.add _ _).block ≠ _; rw [add_block]; exact hn165_6) | exact hn165_6) (.int .i64 0)).trans hx165_0; replace hx165_0 := (cell_far (p := ⟨gb163, 7, none⟩) (by first | (rw [add_block]; exact hn165_7) | (show (Addr.add _ _).block ≠ _; rw [add_block]; exact hn165_7) | exact hn165_7) (.bool false)).trans hx165_0; replace hx165_0 := (cell_far (p := ⟨gb163, 8, none⟩) (by first | (rw [add_block]; exact hn165_8) | (show (Addr.add _ _).block ≠ _; rw [add_block]; exact hn165_8) | exact hn165_8) (.slice none 0 0)).trans hx165_0; replace hx165_0 := (cell_far (p := ⟨gb163, 2, none⟩) (by first | (rw [add_block]; exact hn165_9) | (show (Addr.add _ _).block ≠ _; rw [add_block]; exact hn165_9) | exact hn165_9) (.int .i64 (wrap64 ((rd l1 0) - 1)))).trans hx165_0; clear hn165_0; clear hn165_1; clear hn165_2; clear hn165_3; clear hn165_4; clear hn165_5; clear hn165_6; clear hn165_7; clear hn165_8; clear hn165_9; replace p165 := eq_true p165; replace q165 := eq_true q165))
            have n0_ : Aside0 ((((((((((((w9.setCell ⟨gb163, 0, none⟩ (.int .i64 a0)).setCell ⟨gb163, 1, none⟩ (.int .i64 0)).setCell ⟨gb163, 2, none⟩ (.int .i64 0)).setCell ⟨gb163, 3, none⟩ (.int .i64 0)).setCell ⟨gb163, 4, none⟩ (.int .i64 0)).setCell ⟨gb163, 5, none⟩ (.int .i64 0)).setCell ⟨gb163, 6, none⟩ (.int .i64 0)).setCell ⟨gb163, 7, none⟩ (.bool false)).setCell ⟨gb163, 8, none⟩ (.slice none 0 0)).setCell ⟨gb163, 2, none⟩ (.int .i64 (wrap64 ((rd l1 0) - 1)))).setCell ⟨gb163, 7, none⟩ (.bool ((rd l1 1) == 1))).heap[gb162]? = some (.cells #[.int .i64 0, .int .i64 0, .int .i64 0, .int .i64 0, .int .i64 0, .int .i64 0, .int .i64 0, .bool false, .slice none 0 0] 31 (0, 0))) := ⟨by (with_reducible repeat (first | refine blk_drewN ?_ _ | refine blk_drew ?_ | refine blk_alloc ?_ _)); refine blk_far ?_ NB162_163.out _; (with_reducible repeat (first | refine blk_drewN ?_ _ | refine blk_drew ?_ | refine blk_alloc ?_ _)); refine blk_far ?_ NB162_163.out _; (with_reducible repeat (first | refine blk_drewN ?_ _ | refine blk_drew ?_ | refine blk_alloc ?_ _)); refine blk_far ?_ NB162_163.out _; (with_reducible repeat (first | refine blk_drewN ?_ _ | refine blk_drew ?_ | refine blk_alloc ?_ _)); refine blk_far ?_ NB162_163.out _; (with_reducible repeat (first | refine blk_drewN ?_ _ | refine blk_drew ?_ | refine blk_alloc ?_ _)); refine blk_far ?_ NB162_163.out _; (with_reducible repeat (first | refine blk_drewN ?_ _ | refine blk_drew ?_ | refine blk_alloc ?_ _)); refine blk_far ?_ NB162_163.out _; (with_reducible repeat (first | refine blk_drewN ?_ _ | refine blk_drew ?_ | refine blk_alloc ?_ _)); refine blk_far ?_ NB162_163.out _; (with_reducible repeat (first | refine blk_drewN ?_ _ | refine blk_drew ?_ | refine blk_alloc ?_ _)); refine blk_far ?_ NB162_163.out _; (with_reducible repeat (first | refine blk_drewN ?_ _ | refine blk_drew ?_ | refine blk_alloc ?_ _)); refine blk_far ?_ NB162_163.out _; (with_reducible repeat (first | refine blk_drewN ?_ _ | refine blk_drew ?_ | refine blk_alloc ?_ _)); refine blk_far ?_ NB162_163.out _; (with_reducible repeat (first | refine blk_drewN ?_ _ | refine blk_drew ?_ | refine blk_alloc ?_ _)); refine blk_far ?_ NB162_163.out _; (with_reducible repeat (first | refine blk_drewN ?_ _ | refine blk_drew ?_ | refine blk_alloc ?_ _)); exact BK162.out⟩
            have n1_ : Aside0 ((((((((((((w9.setCell ⟨gb163, 0, none⟩ (.int .i64 a0)).setCell ⟨gb163, 1, none⟩ (.int .i64 0)).setCell ⟨gb163, 2, none⟩ (.int .i64 0)).setCell ⟨gb163, 3, none⟩ (.int .i64 0)).setCell ⟨gb163, 4, none⟩ (.int .i64 0)).setCell ⟨gb163, 5, none⟩ (.int .i64 0)).setCell ⟨gb163, 6, none⟩ (.int .i64 0)).setCell ⟨gb163, 7, none⟩ (.bool false)).setCell ⟨gb163, 8, none⟩ (.slice none 0 0)).setCell ⟨gb163, 2, none⟩ (.int .i64 (wrap64 ((rd l1 0) - 1)))).setCell ⟨gb163, 7, none⟩ (.bool ((rd l1 1) == 1))).heap[gb163]? = some (.cells #[.int .i64 a0, .int .i64 0, .int .i64 (wrap64 ((rd l1 0) - 1)), .int .i64 0, .int .i64 0, .int .i64 0, .int .i64 0, .bool ((rd l1 1) == 1), .slice none 0 0] 31 (0, 0))) := ⟨by (with_reducible repeat (first | refine blk_drewN ?_ _ | refine blk_drew ?_ | refine blk_alloc ?_ _)); refine blk_put (cs := #[.int .i64 a0, .int .i64 0, .int .i64 (wrap64 ((rd l1 0) - 1)), .int .i64 0, .int .i64 0, .int .i64 0, .int .i64 0, .bool false, .slice none 0 0]) ?_ 7 _ rfl; (with_reducible repeat (first | refine blk_drewN ?_ _ | refine blk_drew ?_ | refine blk_alloc ?_ _)); refine blk_put (cs := #[.int .i64 a0, .int .i64 0, .int .i64 0, .int .i64 0, .int .i64 0, .int .i64 0, .int .i64 0, .bool false, .slice none 0 0]) ?_ 2 _ rfl; (with_reducible repeat (first | refine blk_drewN ?_ _ | refine blk_drew ?_ | refine blk_alloc ?_ _)); refine blk_put (cs := #[.int .i64 a0, .int .i64 0, .int .i64 0, .int .i64 0, .int .i64 0, .int .i64 0, .int .i64 0, .bool false, .slice none 0 0]) ?_ 8 _ rfl; (with_reducible repeat (first | refine blk_drewN ?_ _ | refine blk_drew ?_ | refine blk_alloc ?_ _)); refine blk_put (cs := #[.int .i64 a0, .int .i64 0, .int .i64 0, .int .i64 0, .int .i64 0, .int .i64 0, .int .i64 0, .bool false, .slice none 0 0]) ?_ 7 _ rfl; (with_reducible repeat (first | refine blk_drewN ?_ _ | refine blk_drew ?_ | refine blk_alloc ?_ _)); refine blk_put (cs := #[.int .i64 a0, .int .i64 0, .int .i64 0, .int .i64 0, .int .i64 0, .int .i64 0, .int .i64 0, .bool false, .slice none 0 0]) ?_ 6 _ rfl; (with_reducible repeat (first | refine blk_drewN ?_ _ | refine blk_drew ?_ | refine blk_alloc ?_ _)); refine blk_put (cs := #[.int .i64 a0, .int .i64 0, .int .i64 0, .int .i64 0, .int .i64 0, .int .i64 0, .int .i64 0, .bool false, .slice none 0 0]) ?_ 5 _ rfl; (with_reducible repeat (first | refine blk_drewN ?_ _ | refine blk_drew ?_ | refine blk_alloc ?_ _)); refine blk_put (cs := #[.int .i64 a0, .int .i64 0, .int .i64 0, .int .i64 0, .int .i64 0, .int .i64 0, .int .i64 0, .bool false, .slice none 0 0]) ?_ 4 _ rfl; (with_reducible repeat (first | refine blk_drewN ?_ _ | refine blk_drew ?_ | refine blk_alloc ?_ _)); refine blk_put (cs := #[.int .i64 a0, .int .i64 0, .int .i64 0, .int .i64 0, .int .i64 0, .int .i64 0, .int .i64 0, .bool false, .slice none 0 0]) ?_ 3 _ rfl; (with_reducible repeat (first | refine blk_drewN ?_ _ | refine blk_drew ?_ | refine blk_alloc ?_ _)); refine blk_put (cs := #[.int .i64 a0, .int .i64 0, .int .i64 0, .int .i64 0, .int .i64 0, .int .i64 0, .int .i64 0, .bool false, .slice none 0 0]) ?_ 2 _ rfl; (with_reducible repeat (first | refine blk_drewN ?_ _ | refine blk_drew ?_ | refine blk_alloc ?_ _)); refine blk_put (cs := #[.int .i64 a0, .int .i64 0, .int .i64 0, .int .i64 0, .int .i64 0, .int .i64 0, .int .i64 0, .bool false, .slice none 0 0]) ?_ 1 _ rfl; (with_reducible repeat (first | refine blk_drewN ?_ _ | refine blk_drew ?_ | refine blk_alloc ?_ _)); refine blk_put (cs := #[.int .i64 0, .int .i64 0, .int .i64 0, .int .i64 0, .int .i64 0, .int .i64 0, .int .i64 0, .bool false, .slice none 0 0]) ?_ 0 _ rfl; (with_reducible repeat (first | refine blk_drewN ?_ _ | refine blk_drew ?_ | refine blk_alloc ?_ _)); exact BK163.out⟩
            have n2_ : Aside0 (Below w.heap.size w (((((((((((w9.setCell ⟨gb163, 0, none⟩ (.int .i64 a0)).setCell ⟨gb163, 1, none⟩ (.int .i64 0)).setCell ⟨gb163, 2, none⟩ (.int .i64 0)).setCell ⟨gb163, 3, none⟩ (.int .i64 0)).setCell ⟨gb163, 4, none⟩ (.int .i64 0)).setCell ⟨gb163, 5, none⟩ (.int .i64 0)).setCell ⟨gb163, 6, none⟩ (.int .i64 0)).setCell ⟨gb163, 7, none⟩ (.bool false)).setCell ⟨gb163, 8, none⟩ (.slice none 0 0)).setCell ⟨gb163, 2, none⟩ (.int .i64 (wrap64 ((rd l1 0) - 1)))).setCell ⟨gb163, 7, none⟩ (.bool ((rd l1 1) == 1)))) := ⟨by repeat (first | (with_reducible first | exact HB.out | apply below_alloc | apply pw_below_drewN | apply below_drew1 | refine below_set ?_ GE162.out | refine below_set ?_ GE163.out) | exact HB.out)⟩
            (try clear BK162)
            (try clear BK163)
            (try clear HB)
            generalize (((((((((((w9.setCell ⟨gb163, 0, none⟩ (.int .i64 a0)).setCell ⟨gb163, 1, none⟩ (.int .i64 0)).setCell ⟨gb163, 2, none⟩ (.int .i64 0)).setCell ⟨gb163, 3, none⟩ (.int .i64 0)).setCell ⟨gb163, 4, none⟩ (.int .i64 0)).setCell ⟨gb163, 5, none⟩ (.int .i64 0)).setCell ⟨gb163, 6, none⟩ (.int .i64 0)).setCell ⟨gb163, 7, none⟩ (.bool false)).setCell ⟨gb163, 8, none⟩ (.slice none 0 0)).setCell ⟨gb163, 2, none⟩ (.int .i64 (wrap64 ((rd l1 0) - 1)))).setCell ⟨gb163, 7, none⟩ (.bool ((rd l1 1) == 1))) = w12 at n0_ n1_ n2_ ⊢
            have BK162 := n0_
            have BK163 := n1_
            have HB := n2_
            clear n0_ n1_ n2_
            have n0_ := Aside0.mk (blk_drew BK162.out)
            have n1_ := Aside0.mk (blk_drew BK163.out)
            have n2_ := Aside0.mk (below_drew1 HB.out)
            clear BK162
            clear BK163
            clear HB
            have BK162 := n0_
            have BK163 := n1_
            have HB := n2_
            clear n0_ n1_ n2_
            have p166 : 0 ≤ (2 : Int) := (by omega)
            have q166 : 2 < (l1.length : Int) := of_decide_eq_true (by first | (with_reducible assumption) | assumption)
            obtain ⟨ad166, e166, hx166_0⟩ := Kd.at_int HR1.out 2 p166 q166
            have hw166_0 := hx166_0
            (try rw [show ((2 : Int)).toNat = 2 from rfl] at hw166_0)
            (try rw [show 2 * 1 = 2 from rfl] at hw166_0)
            (try simp only [Nat.reduceMul, Nat.reduceEqDiff, Go.Addr.add, ↓reduceIte] at hw166_0)
            obtain rfl : ad164 = ad166 := (by injection e166)
            (try simp only [show (2 : Int).toNat = 2 from rfl, Nat.reduceMul, Nat.reduceEqDiff, Go.Addr.add, ↓reduceIte] at hx166_0)
            have qi166 : (2 < l1.length) = True := eq_true (by omega)
            (try rw [show ((2 : Int)).toNat = 2 from rfl] at hx166_0)
            replace hx166_0 := (HB.out.cell (World.block_lt_of_cell? w _ hx166_0)).trans hx166_0
            replace p166 := eq_true p166
            replace q166 := eq_true q166
            have p167 : 0 ≤ (3 : Int) := (by omega)
            have q167 : 3 < (l1.length : Int) := of_decide_eq_true (by first | (with_reducible assumption) | assumption)
            obtain ⟨ad167, e167, hx167_0⟩ := Kd.at_int HR1.out 3 p167 q167
            have hw167_0 := hx167_0
            (try rw [show ((3 : Int)).toNat = 3 from rfl] at hw167_0)
            (try rw [show 3 * 1 = 3 from rfl] at hw167_0)
            (try simp only [Nat.reduceMul, Nat.reduceEqDiff, Go.Addr.add, ↓reduceIte] at hw167_0)
            obtain rfl : ad164 = ad167 := (by injection e167)
            (try simp only [show (3 : Int).toNat = 3 from rfl, Nat.reduceMul, Nat.reduceEqDiff, Go.Addr.add, ↓reduceIte] at hx167_0)
            have qi167 : (3 < l1.length) = True := eq_true (by omega)
            (try rw [show ((3 : Int)).toNat = 3 from rfl] at hx167_0)
            replace hx167_0 := (HB.out.cell (World.block_lt_of_cell? w _ hx167_0)).trans hx167_0
            replace p167 := eq_true p167
            replace q167 := eq_true q167
            refine start_ (n := 9) (S := fun w' => w'.cell? ⟨ad164.block, ad164.off + 2, none⟩ = some (.int .i64 (rd l1 2)) ∧ w'.cell? ⟨ad164.block, ad164.off + 3, none⟩ = some (.int .i64 (rd l1 3))) (ds := []) #[false, false, false, false, false, false, false, false, false] (by kernel_rfl) rfl rfl ⟨((HB.out.cell (World.block_lt_of_cell? w _ hw166_0)).trans hw166_0), ((HB.out.cell (World.block_lt_of_cell? w _ hw167_0)).trans hw167_0)⟩ (fun hHeld => ?_); refine with_tabW regattaref18_command.tab6 regattaref18_command.bits6 (fun HT_ HW_ => ?_)
            generalize w12.drew = w13 at BK162 BK163 HB hx166_0 hx167_0 hHeld ⊢
            refine pure_ (i := 0) (N := some 22) (v := ?_) (a' := ?_) #[true, false, false, false, false, false, false, false, false] rfl rfl (any_of HT_.out (by kernel_rfl)) (fun _ _ _ h => h) (Or.inl ⟨by rfl, ?_⟩) ?_ ?_
            rotate_left
            · intro w'
              go_simp
              with_reducible rfl
            rotate_left
            · simp only [Act.put, List.setIfInBounds_toArray, List.set_cons_zero, List.set_cons_succ, i64_w, i32_w]
              rfl
            refine pure_ (i := 1) (N := some 23) (v := ?_) (a' := ?_) #[true, true, false, false, false, false, false, false, false] rfl rfl (any_of HT_.out (by kernel_rfl)) (fun _ _ _ h => h) (Or.inl ⟨by rfl, ?_⟩) ?_ ?_
            rotate_left
            · intro w'
              go_simp
              with_reducible rfl
            rotate_left
            · simp only [Act.put, List.setIfInBounds_toArray, List.set_cons_zero, List.set_cons_succ, i64_w, i32_w]
              rfl
            refine pure_ (i := 3) (N := some 25) (v := ?_) (a' := ?_) #[true, true, false, true, false, false, false, false, false] rfl rfl (any_of HT_.out (by kernel_rfl)) (fun _ _ _ h => h) (Or.inl ⟨by rfl, ?_⟩) ?_ ?_
            rotate_left
            · intro w'
              go_simp
              with_reducible rfl
            rotate_left
            · simp only [Act.put, List.setIfInBounds_toArray, List.set_cons_zero, List.set_cons_succ, i64_w, i32_w]
              rfl
            refine pure_ (i := 4) (N := some 26) (v := ?_) (a' := ?_) #[true, true, false, true, true, false, false, false, false] rfl rfl (any_of HT_.out (by kernel_rfl)) (fun _ _ _ h => h) (Or.inl ⟨by rfl, ?_⟩) ?_ ?_
            rotate_left
            · intro w'
              go_simp
              with_reducible rfl
            rotate_left
            · simp only [Act.put, List.setIfInBounds_toArray, List.set_cons_zero, List.set_cons_succ, i64_w, i32_w]
              rfl
            refine take_ (i := 2) (N := some 24) (v := ?_) (a' := ?_) #[true, true, true, true, true, false, false, false, false] rfl rfl (take_ofW HT_.out HW_.out (by kernel_rfl)) (fun _ _ _ h => h) (Or.inl ⟨by rfl, ?_⟩) hHeld ?_ ?_
            rotate_left
            · rintro w' ⟨s0, s1⟩
              go_simp
              with_reducible rfl
            rotate_left
            · simp only [Act.put, List.setIfInBounds_toArray, List.set_cons_zero, List.set_cons_succ, i64_w, i32_w]
              rfl
            refine take_ (i := 5) (N := some 27) (v := ?_) (a' := ?_) #[true, true, true, true, true, true, false, false, false] rfl rfl (take_ofW HT_.out HW_.out (by kernel_rfl)) (fun _ _ _ h => h) (Or.inl ⟨by rfl, ?_⟩) hHeld ?_ ?_
            rotate_left
            · rintro w' ⟨s0, s1⟩
              go_simp
              with_reducible rfl
            rotate_left
            · simp only [Act.put, List.setIfInBounds_toArray, List.set_cons_zero, List.set_cons_succ, i64_w, i32_w]
              rfl
            refine pure_ (i := 6) (N := some 28) (v := ?_) (a' := ?_) #[true, true, true, true, true, true, true, false, false] rfl rfl (any_of HT_.out (by kernel_rfl)) (fun _ _ _ h => h) (Or.inl ⟨by rfl, ?_⟩) ?_ ?_
            rotate_left
            · intro w'
              go_simp
              with_reducible rfl
            rotate_left
            · simp only [Act.put, List.setIfInBounds_toArray, List.set_cons_zero, List.set_cons_succ, i64_w, i32_w]
              rfl
            refine pure_ (i := 7) (N := some 29) (v := ?_) (a' := ?_) #[true, true, true, true, true, true, true, true, false] rfl rfl (any_of HT_.out (by kernel_rfl)) (fun _ _ _ h => h) (Or.inl ⟨by rfl, ?_⟩) ?_ ?_
            rotate_left
            · intro w'
              go_simp
              with_reducible rfl
            rotate_left
            · simp only [Act.put, List.setIfInBounds_toArray, List.set_cons_zero, List.set_cons_succ, i64_w, i32_w]
              rfl
            refine one_ (i := 8) (N := none) #[true, true, true, true, true, true, true, true, true] rfl rfl (one_of HT_.out (by kernel_rfl)) (by decide) (fun K hK => ?_)
            have hs14 : w13.cell? ⟨gb163, 5, none⟩ = some (.int .i64 0) := (blk_cell BK163.out 5).trans rfl
            have hfs14 := blk_frozen BK163.out 5
            have hns14_0 := NB162_163.out
            have hms14_0 := NB163_162.out
            have hs15 : w13.cell? ⟨gb163, 6, none⟩ = some (.int .i64 0) := (blk_cell BK163.out 6).trans rfl
            have hfs15 := blk_frozen BK163.out 6
            have hns15_0 := NB162_163.out
            have hms15_0 := NB163_162.out
            refine skip_ (w1 := ?_) (by rfl) rfl ?_ ?_
            rotate_left
            · go_simp
              rfl
            refine hK.out _ _ ⟨((cell_far (p := ⟨gb163, _, none⟩) (by first | exact Nat.ne_of_lt (Nat.lt_of_lt_of_le (by have := World.block_lt_of_cell? _ _ hw166_0; first | rwa [add_block] at this | exact this) GW163.out) | (rw [add_block]; exact Nat.ne_of_lt (Nat.lt_of_lt_of_le (by have := World.block_lt_of_cell? _ _ hw166_0; first | rwa [add_block] at this | exact this) GW163.out)) | (show (Addr.add _ _).block ≠ _; rw [add_block]; exact Nat.ne_of_lt (Nat.lt_of_lt_of_le (by have := World.block_lt_of_cell? _ _ hw166_0; first | rwa [add_block] at this | exact this) GW163.out)) | (dsimp only; exact Nat.ne_of_lt (Nat.lt_of_lt_of_le (by have := World.block_lt_of_cell? _ _ hw166_0; first | rwa [add_block] at this | exact this) GW163.out))) _).trans (((cell_far (p := ⟨gb163, _, none⟩) (by first | exact Nat.ne_of_lt (Nat.lt_of_lt_of_le (by have := World.block_lt_of_cell? _ _ hw166_0; first | rwa [add_block] at this | exact this) GW163.out) | (rw [add_block]; exact Nat.ne_of_lt (Nat.lt_of_lt_of_le (by have := World.block_lt_of_cell? _ _ hw166_0; first | rwa [add_block] at this | exact this) GW163.out)) | (show (Addr.add _ _).block ≠ _; rw [add_block]; exact Nat.ne_of_lt (Nat.lt_of_lt_of_le (by have := World.block_lt_of_cell? _ _ hw166_0; first | rwa [add_block] at this | exact this) GW163.out)) | (dsimp only; exact Nat.ne_of_lt (Nat.lt_of_lt_of_le (by have := World.block_lt_of_cell? _ _ hw166_0; first | rwa [add_block] at this | exact this) GW163.out))) _).trans (hHeld.1)))), ((cell_far (p := ⟨gb163, _, none⟩) (by first | exact Nat.ne_of_lt (Nat.lt_of_lt_of_le (by have := World.block_lt_of_cell? _ _ hw167_0; first | rwa [add_block] at this | exact this) GW163.out) | (rw [add_block]; exact Nat.ne_of_lt (Nat.lt_of_lt_of_le (by have := World.block_lt_of_cell? _ _ hw167_0; first | rwa [add_block] at this | exact this) GW163.out)) | (show (Addr.add _ _).block ≠ _; rw [add_block]; exact Nat.ne_of_lt (Nat.lt_of_lt_of_le (by have := World.block_lt_of_cell? _ _ hw167_0; first | rwa [add_block] at this | exact this) GW163.out)) | (dsimp only; exact Nat.ne_of_lt (Nat.lt_of_lt_of_le (by have := World.block_lt_of_cell? _ _ hw167_0; first | rwa [add_block] at this | exact this) GW163.out))) _).trans (((cell_far (p := ⟨gb163, _, none⟩) (by first | exact Nat.ne_of_lt (Nat.lt_of_lt_of_le (by have := World.block_lt_of_cell? _ _ hw167_0; first | rwa [add_block] at this | exact this) GW163.out) | (rw [add_block]; exact Nat.ne_of_lt (Nat.lt_of_lt_of_le (by have := World.block_lt_of_cell? _ _ hw167_0; first | rwa [add_block] at this | exact this) GW163.out)) | (show (Addr.add _ _).block ≠ _; rw [add_block]; exact Nat.ne_of_lt (Nat.lt_of_lt_of_le (by have := World.block_lt_of_cell? _ _ hw167_0; first | rwa [add_block] at this | exact this) GW163.out)) | (dsimp only; exact Nat.ne_of_lt (Nat.lt_of_lt_of_le (by have := World.block_lt_of_cell? _ _ hw167_0; first | rwa [add_block] at this | exact this) GW163.out))) _).trans (hHeld.2))))⟩ (fun hHeld => ?_)
            clear hK K
            refine done_ (done_of HT_.out (by kernel_rfl)) ?_
            have hcz16_0 : w13.cell? ⟨gb163, 0, none⟩ = some (.int .i64 a0) := (blk_cell BK163.out 0).trans rfl
            have hcz16_1 : w13.cell? ⟨gb163, 1, none⟩ = some (.int .i64 0) := (blk_cell BK163.out 1).trans rfl
            have hcz16_2 : w13.cell? ⟨gb163, 2, none⟩ = some (.int .i64 (wrap64 ((rd l1 0) - 1))) := (blk_cell BK163.out 2).trans rfl
            have hcz16_3 : w13.cell? ⟨gb163, 3, none⟩ = some (.int .i64 0) := (blk_cell BK163.out 3).trans rfl
            have hcz16_4 : w13.cell? ⟨gb163, 4, none⟩ = some (.int .i64 0) := (blk_cell BK163.out 4).trans rfl
            have hcz16_5 : w13.cell? ⟨gb163, 5, none⟩ = some (.int .i64 0) := (blk_cell BK163.out 5).trans rfl
            have hcz16_6 : w13.cell? ⟨gb163, 6, none⟩ = some (.int .i64 0) := (blk_cell BK163.out 6).trans rfl
            have hcz16_7 : w13.cell? ⟨gb163, 7, none⟩ = some (.bool ((rd l1 1) == 1)) := (blk_cell BK163.out 7).trans rfl
            have hcz16_8 : w13.cell? ⟨gb163, 8, none⟩ = some (.slice none 0 0) := (blk_cell BK163.out 8).trans rfl
            have hfz16_0 := blk_frozen BK163.out 0
            have hfz16_1 := blk_frozen BK163.out 1
            have hfz16_2 := blk_frozen BK163.out 2
            have hfz16_3 := blk_frozen BK163.out 3
            have hfz16_4 := blk_frozen BK163.out 4
            have hfz16_5 := blk_frozen BK163.out 5
            have hfz16_6 := blk_frozen BK163.out 6
            have hfz16_7 := blk_frozen BK163.out 7
            have hfz16_8 := blk_frozen BK163.out 8
            have hcz17_0 : w13.cell? ⟨gb162, 0, none⟩ = some (.int .i64 0) := (blk_cell BK162.out 0).trans rfl
            have hcz17_1 : w13.cell? ⟨gb162, 1, none⟩ = some (.int .i64 0) := (blk_cell BK162.out 1).trans rfl
            have hcz17_2 : w13.cell? ⟨gb162, 2, none⟩ = some (.int .i64 0) := (blk_cell BK162.out 2).trans rfl
            have hcz17_3 : w13.cell? ⟨gb162, 3, none⟩ = some (.int .i64 0) := (blk_cell BK162.out 3).trans rfl
            have hcz17_4 : w13.cell? ⟨gb162, 4, none⟩ = some (.int .i64 0) := (blk_cell BK162.out 4).trans rfl
            have hcz17_5 : w13.cell? ⟨gb162, 5, none⟩ = some (.int .i64 0) := (blk_cell BK162.out 5).trans rfl
            have hcz17_6 : w13.cell? ⟨gb162, 6, none⟩ = some (.int .i64 0) := (blk_cell BK162.out 6).trans rfl
            have hcz17_7 : w13.cell? ⟨gb162, 7, none⟩ = some (.bool false) := (blk_cell BK162.out 7).trans rfl
            have hcz17_8 : w13.cell? ⟨gb162, 8, none⟩ = some (.slice none 0 0) := (blk_cell BK162.out 8).trans rfl
            have hfz17_0 := blk_frozen BK162.out 0
            have hfz17_1 := blk_frozen BK162.out 1
            have hfz17_2 := blk_frozen BK162.out 2
            have hfz17_3 := blk_frozen BK162.out 3
            have hfz17_4 := blk_frozen BK162.out 4
            have hfz17_5 := blk_frozen BK162.out 5
            have hfz17_6 := blk_frozen BK162.out 6
            have hfz17_7 := blk_frozen BK162.out 7
            have hfz17_8 := blk_frozen BK162.out 8
            try go_wp2
            refine bodyPost_ret (results_cell_row rfl _ _ gb162 31 #[.int .i64 a0, .int .i64 0, .int .i64 (wrap64 ((rd l1 0) - 1)), .int .i64 0, .int .i64 0, .int .i64 (rd l1 2), .int .i64 (rd l1 3), .bool ((rd l1 1) == 1), .slice none 0 0] (0, 0) _ rfl (by (with_reducible repeat (first | refine blk_drewN ?_ _ | refine blk_drew ?_ | refine blk_alloc ?_ _)); refine blk_put (cs := #[.int .i64 a0, .int .i64 0, .int .i64 (wrap64 ((rd l1 0) - 1)), .int .i64 0, .int .i64 0, .int .i64 (rd l1 2), .int .i64 (rd l1 3), .bool ((rd l1 1) == 1), .slice none 0 0]) ?_ 8 _ rfl; (with_reducible repeat (first | refine blk_drewN ?_ _ | refine blk_drew ?_ | refine blk_alloc ?_ _)); refine blk_put (cs := #[.int .i64 a0, .int .i64 0, .int .i64 (wrap64 ((rd l1 0) - 1)), .int .i64 0, .int .i64 0, .int .i64 (rd l1 2), .int .i64 (rd l1 3), .bool false, .slice none 0 0]) ?_ 7 _ rfl; (with_reducible repeat (first | refine blk_drewN ?_ _ | refine blk_drew ?_ | refine blk_alloc ?_ _)); refine blk_put (cs := #[.int .i64 a0, .int .i64 0, .int .i64 (wrap64 ((rd l1 0) - 1)), .int .i64 0, .int .i64 0, .int .i64 (rd l1 2), .int .i64 0, .bool false, .slice none 0 0]) ?_ 6 _ rfl; (with_reducible repeat (first | refine blk_drewN ?_ _ | refine blk_drew ?_ | refine blk_alloc ?_ _)); refine blk_put (cs := #[.int .i64 a0, .int .i64 0, .int .i64 (wrap64 ((rd l1 0) - 1)), .int .i64 0, .int .i64 0, .int .i64 0, .int .i64 0, .bool false, .slice none 0 0]) ?_ 5 _ rfl; (with_reducible repeat (first | refine blk_drewN ?_ _ | refine blk_drew ?_ | refine blk_alloc ?_ _)); refine blk_put (cs := #[.int .i64 a0, .int .i64 0, .int .i64 (wrap64 ((rd l1 0) - 1)), .int .i64 0, .int .i64 0, .int .i64 0, .int .i64 0, .bool false, .slice none 0 0]) ?_ 4 _ rfl; (with_reducible repeat (first | refine blk_drewN ?_ _ | refine blk_drew ?_ | refine blk_alloc ?_ _)); refine blk_put (cs := #[.int .i64 a0, .int .i64 0, .int .i64 (wrap64 ((rd l1 0) - 1)), .int .i64 0, .int .i64 0, .int .i64 0, .int .i64 0, .bool false, .slice none 0 0]) ?_ 3 _ rfl; (with_reducible repeat (first | refine blk_drewN ?_ _ | refine blk_drew ?_ | refine blk_alloc ?_ _)); refine blk_put (cs := #[.int .i64 a0, .int .i64 0, .int .i64 0, .int .i64 0, .int .i64 0, .int .i64 0, .int .i64 0, .bool false, .slice none 0 0]) ?_ 2 _ rfl; (with_reducible repeat (first | refine blk_drewN ?_ _ | refine blk_drew ?_ | refine blk_alloc ?_ _)); refine blk_put (cs := #[.int .i64 a0, .int .i64 0, .int .i64 0, .int .i64 0, .int .i64 0, .int .i64 0, .int .i64 0, .bool false, .slice none 0 0]) ?_ 1 _ rfl; (with_reducible repeat (first | refine blk_drewN ?_ _ | refine blk_drew ?_ | refine blk_alloc ?_ _)); refine blk_put (cs := #[.int .i64 0, .int .i64 0, .int .i64 0, .int .i64 0, .int .i64 0, .int .i64 0, .int .i64 0, .bool false, .slice none 0 0]) ?_ 0 _ rfl; (with_reducible repeat (first | refine blk_drewN ?_ _ | refine blk_drew ?_ | refine blk_alloc ?_ _)); refine blk_far ?_ NB162_163.out _; (with_reducible repeat (first | refine blk_drewN ?_ _ | refine blk_drew ?_ | refine blk_alloc ?_ _)); refine blk_far ?_ NB162_163.out _; (with_reducible repeat (first | refine blk_drewN ?_ _ | refine blk_drew ?_ | refine blk_alloc ?_ _)); exact BK162.out) Try.underlying31 rfl (by kernel_rfl)) rfl ?_
            exact ⟨_, by first | rfl | (simp [errW_none, errW_some] <;> rfl) | (simp [*, errW_none, errW_some] <;> rfl), by first | exact Kd.R_nil _ _ _ _ _ | exact Kd.N_nil _ _ _ _ _ | exact Kd.V_nil _ _ _ _ _ | exact Kd.Q_nil _ _ _ _ _ | exact Kd.S_nil _ _ _ _ _, by repeat (first | (with_reducible first | exact HB.out | apply below_alloc | apply pw_below_drewN | apply below_drew1 | refine below_set ?_ GE162.out | refine below_set ?_ GE163.out) | exact HB.out)⟩
          · rw [if_neg c7] at H
            exact absurd H (by simp)
        · rw [if_neg c6] at H
          exact absurd H (by simp)
      · rw [if_neg c5] at H
        exact absurd H (by simp)
    · rw [if_neg c4] at H
      exact absurd H (by simp)
  · rw [if_neg c3] at H
    have c3b0 : (a0 == 1) = false := beq_eq_false_iff_ne.mpr c3
    have c3b1 : (a0 != 1) = true := bne_iff_ne.mpr c3
    have HC18 := Aside0.mk H
    clear H
    go_enter Try.func25, Try.ntmps25
    go_upto_if 30 with (first | ((with_reducible refine gate_dst (N := 4) rfl ?_); refine box_event ?hg (N := 4) ?hd (cs := #[.int .i64 0, .int .i64 0, .int .i64 0, .int .i64 0, .int .i64 0, .int .i64 0, .int .i64 0, .bool false, .slice none 0 0]) (t := 31) ?hr ?_; (case hd => rfl); (case hg => rfl); (case hr => first | (go_simp; done) | (go_simp; rfl)); intro gb162 hg w19 hbox hb; have n0_ := Aside0.mk (below_step (by repeat (first | (with_reducible first | exact HB.out | apply below_alloc | apply pw_below_drewN | apply below_drew1) | exact HB.out)) hb); have n1_ := Aside0.mk (hbox); have n2_ := Aside0.mk ((by rw [hg]; exact (below_size (by repeat (first | (with_reducible first | exact HB.out | apply below_alloc | apply pw_below_drewN | apply below_drew1) | exact HB.out))) : w.heap.size ≤ gb162)); have n3_ := Aside0.mk ((by rw [hg]; exact (below_size (by repeat (first | (with_reducible first | exact HB.out | apply below_alloc | apply pw_below_drewN | apply below_drew1) | exact HB.out))) : w.heap.size ≤ gb162)); clear HB; have HB := n0_; have BK162 := n1_; have GW162 := n2_; have GE162 := n3_; clear n0_ n1_ n2_ n3_; clear hb hbox hg) | ((with_reducible refine gate_dst (N := 5) rfl ?_); refine box_event ?hg (N := 5) ?hd (cs := #[.int .i64 0, .int .i64 0, .int .i64 0, .int .i64 0, .int .i64 0, .int .i64 0, .int .i64 0, .bool false, .slice none 0 0]) (t := 31) ?hr ?_; (case hd => rfl); (case hg => rfl); (case hr => first | (go_simp; done) | (go_simp; rfl)); intro gb163 hg w20 hbox hb; have n0_ := Aside0.mk (blk_below (g := gb162) (o := .cells #[.int .i64 0, .int .i64 0, .int .i64 0, .int .i64 0, .int .i64 0, .int .i64 0, .int .i64 0, .bool false, .slice none 0 0] 31 (0, 0)) (by (with_reducible repeat (first | refine blk_drewN ?_ _ | refine blk_drew ?_ | refine blk_alloc ?_ _)); exact BK162.out) hb); have n1_ := Aside0.mk (below_step (by repeat (first | (with_reducible first | exact HB.out | apply below_alloc | apply pw_below_drewN | apply below_drew1 | refine below_set ?_ GE162.out) | exact HB.out)) hb); have n2_ := Aside0.mk (hbox); have n3_ := Aside0.mk ((by rw [hg]; exact (below_size (by repeat (first | (with_reducible first | exact HB.out | apply below_alloc | apply pw_below_drewN | apply below_drew1 | refine below_set ?_ GE162.out) | exact HB.out))) : w.heap.size ≤ gb163)); have n4_ := Aside0.mk ((by rw [hg]; exact (below_size (by repeat (first | (with_reducible first | exact HB.out | apply below_alloc | apply pw_below_drewN | apply below_drew1 | refine below_set ?_ GE162.out) | exact HB.out))) : w.heap.size ≤ gb163)); have n5_ := Aside0.mk ((by rw [hg]; exact Nat.ne_of_lt (blk_lt (g := gb162) (o := .cells #[.int .i64 0, .int .i64 0, .int .i64 0, .int .i64 0, .int .i64 0, .int .i64 0, .int .i64 0, .bool false, .slice none 0 0] 31 (0, 0)) (by (with_reducible repeat (first | refine blk_drewN ?_ _ | refine blk_drew ?_ | refine blk_alloc ?_ _)); exact BK162.out)) : gb162 ≠ gb163)); have n6_ := Aside0.mk ((by rw [hg]; exact Nat.ne_of_gt (blk_lt (g := gb162) (o := .cells #[.int .i64 0, .int .i64 0, .int .i64 0, .int .i64 0, .int .i64 0, .int .i64 0, .int .i64 0, .bool false, .slice none 0 0] 31 (0, 0)) (by (with_reducible repeat (first | refine blk_drewN ?_ _ | refine blk_drew ?_ | refine blk_alloc ?_ _)); exact BK162.out)) : gb163 ≠ gb162)); clear BK162; clear HB; have BK162 := n0_; have HB := n1_; have BK163 := n2_; have GW163 := n3_; have GE163 := n4_; have NB162_163 := n5_; have NB163_162 := n6_; clear n0_ n1_ n2_ n3_ n4_ n5_ n6_; clear hb hbox hg; have hnb21 := NB163_162.out; have hnc21 := NB162_163.out; have hcz22_0 : w20.cell? ⟨gb163, 0, none⟩ = some (.int .i64 0) := (blk_cell BK163.out 0).trans rfl; have hcz22_1 : w20.cell? ⟨gb163, 1, none⟩ = some (.int .i64 0) := (blk_cell BK163.out 1).trans rfl; have hcz22_2 : w20.cell? ⟨gb163, 2, none⟩ = some (.int .i64 0) := (blk_cell BK163.out 2).trans rfl; have hcz22_3 : w20.cell? ⟨gb163, 3, none⟩ = some (.int .i64 0) := (blk_cell BK163.out 3).trans rfl; have hcz22_4 : w20.cell? ⟨gb163, 4, none⟩ = some (.int .i64 0) := (blk_cell BK163.out 4).trans rfl; have hcz22_5 : w20.cell? ⟨gb163, 5, none⟩ = some (.int .i64 0) := (blk_cell BK163.out 5).trans rfl; have hcz22_6 : w20.cell? ⟨gb163, 6, none⟩ = some (.int .i64 0) := (blk_cell BK163.out 6).trans rfl; have hcz22_7 : w20.cell? ⟨gb163, 7, none⟩ = some (.bool false) := (blk_cell BK163.out 7).trans rfl; have hcz22_8 : w20.cell? ⟨gb163, 8, none⟩ = some (.slice none 0 0) := (blk_cell BK163.out 8).trans rfl; have hfz22_0 := blk_frozen BK163.out 0; have hfz22_1 := blk_frozen BK163.out 1; have hfz22_2 := blk_frozen BK163.out 2; have hfz22_3 := blk_frozen BK163.out 3; have hfz22_4 := blk_frozen BK163.out 4; have hfz22_5 := blk_frozen BK163.out 5; have hfz22_6 := blk_frozen BK163.out 6; have hfz22_7 := blk_frozen BK163.out 7; have hfz22_8 := blk_frozen BK163.out 8))
    (try simp only [Act.put, List.setIfInBounds_toArray, List.set_cons_zero, List.set_cons_succ])
    go_cut [30] (fun v30 wc => ∃ (kq : Nat) (x30_17 : Bool), v30 = .bool x30_17 ∧ Aside0 (regattaref18_command.j0 kq l1 a0 x30_17 a0 0 0 0 0 0 0 false = some (r1, r2, r3, r4, r5, r6, r7, r8, r9)) ∧ Aside0 (kq ≤ k) ∧ Aside0 (wc.heap[gb162]? = some (.cells #[.int .i64 0, .int .i64 0, .int .i64 0, .int .i64 0, .int .i64 0, .int .i64 0, .int .i64 0, .bool false, (.slice none 0 0)] 31 (0, 0))) ∧ Aside0 (wc.heap[gb163]? = some (.cells #[.int .i64 a0, .int .i64 0, .int .i64 0, .int .i64 0, .int .i64 0, .int .i64 0, .int .i64 0, .bool false, (.slice none 0 0)] 31 (0, 0))) ∧ Aside0 (Below w.heap.size w wc))
    case first =>
      have H := HC18.out
      clear HC18
      by_cases c23 : a0 = 2
      · rw [if_pos c23] at H
        have c23b0 : (a0 == 2) = true := beq_iff_eq.mpr c23
        have c23b1 : (a0 != 2) = false := bne_eq_false_iff_eq.mpr c23
        clear c23
        (first | rw [c23b0] | rw [c23b1] | (simp only [i64_w, i32_w]; rw [c23b0]) | skip)
        have H' := Aside0.mk H
        clear H
        go_wp2
        go_meet
        case rel => exact ⟨_, ((a0 == 2)), (by first | rfl | (simp; done) | (simp [*]; done)), H', ⟨by first | omega | exact Nat.le_refl _⟩, ⟨by (with_reducible repeat (first | refine blk_drewN ?_ _ | refine blk_drew ?_ | refine blk_alloc ?_ _)); refine blk_far ?_ NB162_163.out _; (with_reducible repeat (first | refine blk_drewN ?_ _ | refine blk_drew ?_ | refine blk_alloc ?_ _)); refine blk_far ?_ NB162_163.out _; (with_reducible repeat (first | refine blk_drewN ?_ _ | refine blk_drew ?_ | refine blk_alloc ?_ _)); refine blk_far ?_ NB162_163.out _; (with_reducible repeat (first | refine blk_drewN ?_ _ | refine blk_drew ?_ | refine blk_alloc ?_ _)); refine blk_far ?_ NB162_163.out _; (with_reducible repeat (first | refine blk_drewN ?_ _ | refine blk_drew ?_ | refine blk_alloc ?_ _)); refine blk_far ?_ NB162_163.out _; (with_reducible repeat (first | refine blk_drewN ?_ _ | refine blk_drew ?_ | refine blk_alloc ?_ _)); refine blk_far ?_ NB162_163.out _; (with_reducible repeat (first | refine blk_drewN ?_ _ | refine blk_drew ?_ | refine blk_alloc ?_ _)); refine blk_far ?_ NB162_163.out _; (with_reducible repeat (first | refine blk_drewN ?_ _ | refine blk_drew ?_ | refine blk_alloc ?_ _)); refine blk_far ?_ NB162_163.out _; (with_reducible repeat (first | refine blk_drewN ?_ _ | refine blk_drew ?_ | refine blk_alloc ?_ _)); refine blk_far ?_ NB162_163.out _; (with_reducible repeat (first | refine blk_drewN ?_ _ | refine blk_drew ?_ | refine blk_alloc ?_ _)); exact BK162.out⟩, ⟨by (with_reducible repeat (first | refine blk_drewN ?_ _ | refine blk_drew ?_ | refine blk_alloc ?_ _)); refine blk_put (cs := #[.int .i64 a0, .int .i64 0, .int .i64 0, .int .i64 0, .int .i64 0, .int .i64 0, .int .i64 0, .bool false, .slice none 0 0]) ?_ 8 _ rfl; (with_reducible repeat (first | refine blk_drewN ?_ _ | refine blk_drew ?_ | refine blk_alloc ?_ _)); refine blk_put (cs := #[.int .i64 a0, .int .i64 0, .int .i64 0, .int .i64 0, .int .i64 0, .int .i64 0, .int .i64 0, .bool false, .slice none 0 0]) ?_ 7 _ rfl; (with_reducible repeat (first | refine blk_drewN ?_ _ | refine blk_drew ?_ | refine blk_alloc ?_ _)); refine blk_put (cs := #[.int .i64 a0, .int .i64 0, .int .i64 0, .int .i64 0, .int .i64 0, .int .i64 0, .int .i64 0, .bool false, .slice none 0 0]) ?_ 6 _ rfl; (with_reducible repeat (first | refine blk_drewN ?_ _ | refine blk_drew ?_ | refine blk_alloc ?_ _)); refine blk_put (cs := #[.int .i64 a0, .int .i64 0, .int .i64 0, .int .i64 0, .int .i64 0, .int .i64 0, .int .i64 0, .bool false, .slice none 0 0]) ?_ 5 _ rfl; (with_reducible repeat (first | refine blk_drewN ?_ _ | refine blk_drew ?_ | refine blk_alloc ?_ _)); refine blk_put (cs := #[.int .i64 a0, .int .i64 0, .int .i64 0, .int .i64 0, .int .i64 0, .int .i64 0, .int .i64 0, .bool false, .slice none 0 0]) ?_ 4 _ rfl; (with_reducible repeat (first | refine blk_drewN ?_ _ | refine blk_drew ?_ | refine blk_alloc ?_ _)); refine blk_put (cs := #[.int .i64 a0, .int .i64 0, .int .i64 0, .int .i64 0, .int .i64 0, .int .i64 0, .int .i64 0, .bool false, .slice none 0 0]) ?_ 3 _ rfl; (with_reducible repeat (first | refine blk_drewN ?_ _ | refine blk_drew ?_ | refine blk_alloc ?_ _)); refine blk_put (cs := #[.int .i64 a0, .int .i64 0, .int .i64 0, .int .i64 0, .int .i64 0, .int .i64 0, .int .i64 0, .bool false, .slice none 0 0]) ?_ 2 _ rfl; (with_reducible repeat (first | refine blk_drewN ?_ _ | refine blk_drew ?_ | refine blk_alloc ?_ _)); refine blk_put (cs := #[.int .i64 a0, .int .i64 0, .int .i64 0, .int .i64 0, .int .i64 0, .int .i64 0, .int .i64 0, .bool false, .slice none 0 0]) ?_ 1 _ rfl; (with_reducible repeat (first | refine blk_drewN ?_ _ | refine blk_drew ?_ | refine blk_alloc ?_ _)); refine blk_put (cs := #[.int .i64 0, .int .i64 0, .int .i64 0, .int .i64 0, .int .i64 0, .int .i64 0, .int .i64 0, .bool false, .slice none 0 0]) ?_ 0 _ rfl; (with_reducible repeat (first | refine blk_drewN ?_ _ | refine blk_drew ?_ | refine blk_alloc ?_ _)); exact BK163.out⟩, ⟨by repeat (first | (with_reducible first | exact HB.out | apply below_alloc | apply pw_below_drewN | apply below_drew1 | refine below_set ?_ GE162.out | refine below_set ?_ GE163.out) | exact HB.out)⟩⟩
      · rw [if_neg c23] at H
        have c23b0 : (a0 == 2) = false := beq_eq_false_iff_ne.mpr c23
        have c23b1 : (a0 != 2) = true := bne_iff_ne.mpr c23
        (first | rw [c23b0] | rw [c23b1] | (simp only [i64_w, i32_w]; rw [c23b0]) | skip)
        have H' := Aside0.mk H
        clear H
        go_wp2
        go_meet
        case rel => exact ⟨_, ((a0 == 7)), (by first | rfl | (simp; done) | (simp [*]; done)), H', ⟨by first | omega | exact Nat.le_refl _⟩, ⟨by (with_reducible repeat (first | refine blk_drewN ?_ _ | refine blk_drew ?_ | refine blk_alloc ?_ _)); refine blk_far ?_ NB162_163.out _; (with_reducible repeat (first | refine blk_drewN ?_ _ | refine blk_drew ?_ | refine blk_alloc ?_ _)); refine blk_far ?_ NB162_163.out _; (with_reducible repeat (first | refine blk_drewN ?_ _ | refine blk_drew ?_ | refine blk_alloc ?_ _)); refine blk_far ?_ NB162_163.out _; (with_reducible repeat (first | refine blk_drewN ?_ _ | refine blk_drew ?_ | refine blk_alloc ?_ _)); refine blk_far ?_ NB162_163.out _; (with_reducible repeat (first | refine blk_drewN ?_ _ | refine blk_drew ?_ | refine blk_alloc ?_ _)); refine blk_far ?_ NB162_163.out _; (with_reducible repeat (first | refine blk_drewN ?_ _ | refine blk_drew ?_ | refine blk_alloc ?_ _)); refine blk_far ?_ NB162_163.out _; (with_reducible repeat (first | refine blk_drewN ?_ _ | refine blk_drew ?_ | refine blk_alloc ?_ _)); refine blk_far ?_ NB162_163.out _; (with_reducible repeat (first | refine blk_drewN ?_ _ | refine blk_drew ?_ | refine blk_alloc ?_ _)); refine blk_far ?_ NB162_163.out _; (with_reducible repeat (first | refine blk_drewN ?_ _ | refine blk_drew ?_ | refine blk_alloc ?_ _)); refine blk_far ?_ NB162_163.out _; (with_reducible repeat (first | refine blk_drewN ?_ _ | refine blk_drew ?_ | refine blk_alloc ?_ _)); exact BK162.out⟩, ⟨by (with_reducible repeat (first | refine blk_drewN ?_ _ | refine blk_drew ?_ | refine blk_alloc ?_ _)); refine blk_put (cs := #[.int .i64 a0, .int .i64 0, .int .i64 0, .int .i64 0, .int .i64 0, .int .i64 0, .int .i64 0, .bool false, .slice none 0 0]) ?_ 8 _ rfl; (with_reducible repeat (first | refine blk_drewN ?_ _ | refine blk_drew ?_ | refine blk_alloc ?_ _)); refine blk_put (cs := #[.int .i64 a0, .int .i64 0, .int .i64 0, .int .i64 0, .int .i64 0, .int .i64 0, .int .i64 0, .bool false, .slice none 0 0]) ?_ 7 _ rfl; (with_reducible repeat (first | refine blk_drewN ?_ _ | refine blk_drew ?_ | refine blk_alloc ?_ _)); refine blk_put (cs := #[.int .i64 a0, .int .i64 0, .int .i64 0, .int .i64 0, .int .i64 0, .int .i64 0, .int .i64 0, .bool false, .slice none 0 0]) ?_ 6 _ rfl; (with_reducible repeat (first | refine blk_drewN ?_ _ | refine blk_drew ?_ | refine blk_alloc ?_ _)); refine blk_put (cs := #[.int .i64 a0, .int .i64 0, .int .i64 0, .int .i64 0, .int .i64 0, .int .i64 0, .int .i64 0, .bool false, .slice none 0 0]) ?_ 5 _ rfl; (with_reducible repeat (first | refine blk_drewN ?_ _ | refine blk_drew ?_ | refine blk_alloc ?_ _)); refine blk_put (cs := #[.int .i64 a0, .int .i64 0, .int .i64 0, .int .i64 0, .int .i64 0, .int .i64 0, .int .i64 0, .bool false, .slice none 0 0]) ?_ 4 _ rfl; (with_reducible repeat (first | refine blk_drewN ?_ _ | refine blk_drew ?_ | refine blk_alloc ?_ _)); refine blk_put (cs := #[.int .i64 a0, .int .i64 0, .int .i64 0, .int .i64 0, .int .i64 0, .int .i64 0, .int .i64 0, .bool false, .slice none 0 0]) ?_ 3 _ rfl; (with_reducible repeat (first | refine blk_drewN ?_ _ | refine blk_drew ?_ | refine blk_alloc ?_ _)); refine blk_put (cs := #[.int .i64 a0, .int .i64 0, .int .i64 0, .int .i64 0, .int .i64 0, .int .i64 0, .int .i64 0, .bool false, .slice none 0 0]) ?_ 2 _ rfl; (with_reducible repeat (first | refine blk_drewN ?_ _ | refine blk_drew ?_ | refine blk_alloc ?_ _)); refine blk_put (cs := #[.int .i64 a0, .int .i64 0, .int .i64 0, .int .i64 0, .int .i64 0, .int .i64 0, .int .i64 0, .bool false, .slice none 0 0]) ?_ 1 _ rfl; (with_reducible repeat (first | refine blk_drewN ?_ _ | refine blk_drew ?_ | refine blk_alloc ?_ _)); refine blk_put (cs := #[.int .i64 0, .int .i64 0, .int .i64 0, .int .i64 0, .int .i64 0, .int .i64 0, .int .i64 0, .bool false, .slice none 0 0]) ?_ 0 _ rfl; (with_reducible repeat (first | refine blk_drewN ?_ _ | refine blk_drew ?_ | refine blk_alloc ?_ _)); exact BK163.out⟩, ⟨by repeat (first | (with_reducible first | exact HB.out | apply below_alloc | apply pw_below_drewN | apply below_drew1 | refine below_set ?_ GE162.out | refine below_set ?_ GE163.out) | exact HB.out)⟩⟩
    case rest =>
      clear HC18
      try clear c1
      try clear p1
      try clear q1
      try clear hx1
      try clear qi1
      try clear c2
      try clear p2
      try clear c3
      try clear c3b0
      try clear c3b1
      try clear c4
      try clear c4b0
      try clear c4b1
      try clear c5
      try clear c5b0
      try clear c5b1
      try clear c6
      try clear c6b0
      try clear c6b1
      try clear p6
      try clear c7
      try clear c7b0
      try clear c7b1
      try clear c10
      try clear p16
      try clear q16
      try clear hx16
      try clear qi16
      try clear c21
      try clear c23
      try clear c23b0
      try clear c23b1
      try clear hcz11_0
      try clear hcz11_1
      try clear hcz11_2
      try clear hcz11_3
      try clear hcz11_4
      try clear hcz11_5
      try clear hcz11_6
      try clear hcz11_7
      try clear hcz11_8
      try clear hcz16_0
      try clear hcz16_1
      try clear hcz16_2
      try clear hcz16_3
      try clear hcz16_4
      try clear hcz16_5
      try clear hcz16_6
      try clear hcz16_7
      try clear hcz16_8
      try clear hcz17_0
      try clear hcz17_1
      try clear hcz17_2
      try clear hcz17_3
      try clear hcz17_4
      try clear hcz17_5
      try clear hcz17_6
      try clear hcz17_7
      try clear hcz17_8
      try clear hcz22_0
      try clear hcz22_1
      try clear hcz22_2
      try clear hcz22_3
      try clear hcz22_4
      try clear hcz22_5
      try clear hcz22_6
      try clear hcz22_7
      try clear hcz22_8
      try clear hfz11_0
      try clear hfz11_1
      try clear hfz11_2
      try clear hfz11_3
      try clear hfz11_4
      try clear hfz11_5
      try clear hfz11_6
      try clear hfz11_7
      try clear hfz11_8
      try clear hfz16_0
      try clear hfz16_1
      try clear hfz16_2
      try clear hfz16_3
      try clear hfz16_4
      try clear hfz16_5
      try clear hfz16_6
      try clear hfz16_7
      try clear hfz16_8
      try clear hfz17_0
      try clear hfz17_1
      try clear hfz17_2
      try clear hfz17_3
      try clear hfz17_4
      try clear hfz17_5
      try clear hfz17_6
      try clear hfz17_7
      try clear hfz17_8
      try clear hfz22_0
      try clear hfz22_1
      try clear hfz22_2
      try clear hfz22_3
      try clear hfz22_4
      try clear hfz22_5
      try clear hfz22_6
      try clear hfz22_7
      try clear hfz22_8
      try clear hx164_0
      try clear hx165_0
      try clear hx166_0
      try clear hx167_0
      try clear p164
      try clear p165
      try clear p166
      try clear p167
      try clear q164
      try clear q165
      try clear q166
      try clear q167
      obtain ⟨kq, x30_17, rfl, HA, HJ17, BK162, BK163, HB⟩ := hcut
      cases kq with
      | zero => exact absurd HA.out (by simp [regattaref18_command.j0])
      | succ kj17 =>
        have H := HA.out
        clear HA
        simp only [regattaref18_command.j0] at H
        by_cases c24 : x30_17 = true
        · subst c24
          have H1 : (if 0 < (l1.length : Int) then (some (a0, rd l1 0, 0, 0, 0, 0, 0, false, ([] : List (S67)))) else (none)) = some (r1, r2, r3, r4, r5, r6, r7, r8, r9) := by rw [if_pos rfl] at H; exact H
          clear H
          have H := H1
          clear H1
          by_cases c25 : 0 < (l1.length : Int)
          · rw [if_pos c25] at H
            have c25b0 : decide (0 < (l1.length : Int)) = true := decide_eq_true c25
            have c25b1 : decide (0 < l1.length) = true := decide_eq_true (by omega)
            clear c25
            simp only [Option.some.injEq, Prod.mk.injEq] at H
            obtain ⟨rfl, rfl, rfl, rfl, rfl, rfl, rfl, rfl, rfl⟩ := H
            have p168 : 0 ≤ (0 : Int) := (by omega)
            have q168 : 0 < (l1.length : Int) := of_decide_eq_true (by first | (with_reducible assumption) | assumption)
            obtain ⟨ad168, e168, hx168_0⟩ := Kd.at_int HR1.out 0 p168 q168
            cases e168
            have qi168 : (0 < l1.length) = True := eq_true (by omega)
            (try rw [show ((0 : Int)).toNat = 0 from rfl] at hx168_0)
            (try rw [Addr.add_zero'] at hx168_0)
            replace hx168_0 := (HB.out.cell (World.block_lt_of_cell? w _ hx168_0)).trans hx168_0
            replace p168 := eq_true p168
            replace q168 := eq_true q168
            have hnb26 := NB163_162.out
            have hnc26 := NB162_163.out
            have hcz27_0 : wc.cell? ⟨gb163, 0, none⟩ = some (.int .i64 a0) := (blk_cell BK163.out 0).trans rfl
            have hcz27_1 : wc.cell? ⟨gb163, 1, none⟩ = some (.int .i64 0) := (blk_cell BK163.out 1).trans rfl
            have hcz27_2 : wc.cell? ⟨gb163, 2, none⟩ = some (.int .i64 0) := (blk_cell BK163.out 2).trans rfl
            have hcz27_3 : wc.cell? ⟨gb163, 3, none⟩ = some (.int .i64 0) := (blk_cell BK163.out 3).trans rfl
            have hcz27_4 : wc.cell? ⟨gb163, 4, none⟩ = some (.int .i64 0) := (blk_cell BK163.out 4).trans rfl
            have hcz27_5 : wc.cell? ⟨gb163, 5, none⟩ = some (.int .i64 0) := (blk_cell BK163.out 5).trans rfl
            have hcz27_6 : wc.cell? ⟨gb163, 6, none⟩ = some (.int .i64 0) := (blk_cell BK163.out 6).trans rfl
            have hcz27_7 : wc.cell? ⟨gb163, 7, none⟩ = some (.bool false) := (blk_cell BK163.out 7).trans rfl
            have hcz27_8 : wc.cell? ⟨gb163, 8, none⟩ = some (.slice none 0 0) := (blk_cell BK163.out 8).trans rfl
            have hfz27_0 := blk_frozen BK163.out 0
            have hfz27_1 := blk_frozen BK163.out 1
            have hfz27_2 := blk_frozen BK163.out 2
            have hfz27_3 := blk_frozen BK163.out 3
            have hfz27_4 := blk_frozen BK163.out 4
            have hfz27_5 := blk_frozen BK163.out 5
            have hfz27_6 := blk_frozen BK163.out 6
            have hfz27_7 := blk_frozen BK163.out 7
            have hfz27_8 := blk_frozen BK163.out 8
            have hcz28_0 : wc.cell? ⟨gb162, 0, none⟩ = some (.int .i64 0) := (blk_cell BK162.out 0).trans rfl
            have hcz28_1 : wc.cell? ⟨gb162, 1, none⟩ = some (.int .i64 0) := (blk_cell BK162.out 1).trans rfl
            have hcz28_2 : wc.cell? ⟨gb162, 2, none⟩ = some (.int .i64 0) := (blk_cell BK162.out 2).trans rfl
            have hcz28_3 : wc.cell? ⟨gb162, 3, none⟩ = some (.int .i64 0) := (blk_cell BK162.out 3).trans rfl
            have hcz28_4 : wc.cell? ⟨gb162, 4, none⟩ = some (.int .i64 0) := (blk_cell BK162.out 4).trans rfl
            have hcz28_5 : wc.cell? ⟨gb162, 5, none⟩ = some (.int .i64 0) := (blk_cell BK162.out 5).trans rfl
            have hcz28_6 : wc.cell? ⟨gb162, 6, none⟩ = some (.int .i64 0) := (blk_cell BK162.out 6).trans rfl
            have hcz28_7 : wc.cell? ⟨gb162, 7, none⟩ = some (.bool false) := (blk_cell BK162.out 7).trans rfl
            have hcz28_8 : wc.cell? ⟨gb162, 8, none⟩ = some (.slice none 0 0) := (blk_cell BK162.out 8).trans rfl
            have hfz28_0 := blk_frozen BK162.out 0
            have hfz28_1 := blk_frozen BK162.out 1
            have hfz28_2 := blk_frozen BK162.out 2
            have hfz28_3 := blk_frozen BK162.out 3
            have hfz28_4 := blk_frozen BK162.out 4
            have hfz28_5 := blk_frozen BK162.out 5
            have hfz28_6 := blk_frozen BK162.out 6
            have hfz28_7 := blk_frozen BK162.out 7
            have hfz28_8 := blk_frozen BK162.out 8
            go_wp2
            refine bodyPost_ret (results_cell_row rfl _ _ gb162 31 #[.int .i64 a0, .int .i64 (rd l1 0), .int .i64 0, .int .i64 0, .int .i64 0, .int .i64 0, .int .i64 0, .bool false, .slice none 0 0] (0, 0) _ rfl (by (with_reducible repeat (first | refine blk_drewN ?_ _ | refine blk_drew ?_ | refine blk_alloc ?_ _)); refine blk_put (cs := #[.int .i64 a0, .int .i64 (rd l1 0), .int .i64 0, .int .i64 0, .int .i64 0, .int .i64 0, .int .i64 0, .bool false, .slice none 0 0]) ?_ 8 _ rfl; (with_reducible repeat (first | refine blk_drewN ?_ _ | refine blk_drew ?_ | refine blk_alloc ?_ _)); refine blk_put (cs := #[.int .i64 a0, .int .i64 (rd l1 0), .int .i64 0, .int .i64 0, .int .i64 0, .int .i64 0, .int .i64 0, .bool false, .slice none 0 0]) ?_ 7 _ rfl; (with_reducible repeat (first | refine blk_drewN ?_ _ | refine blk_drew ?_ | refine blk_alloc ?_ _)); refine blk_put (cs := #[.int .i64 a0, .int .i64 (rd l1 0), .int .i64 0, .int .i64 0, .int .i64 0, .int .i64 0, .int .i64 0, .bool false, .slice none 0 0]) ?_ 6 _ rfl; (with_reducible repeat (first | refine blk_drewN ?_ _ | refine blk_drew ?_ | refine blk_alloc ?_ _)); refine blk_put (cs := #[.int .i64 a0, .int .i64 (rd l1 0), .int .i64 0, .int .i64 0, .int .i64 0, .int .i64 0, .int .i64 0, .bool false, .slice none 0 0]) ?_ 5 _ rfl; (with_reducible repeat (first | refine blk_drewN ?_ _ | refine blk_drew ?_ | refine blk_alloc ?_ _)); refine blk_put (cs := #[.int .i64 a0, .int .i64 (rd l1 0), .int .i64 0, .int .i64 0, .int .i64 0, .int .i64 0, .int .i64 0, .bool false, .slice none 0 0]) ?_ 4 _ rfl; (with_reducible repeat (first | refine blk_drewN ?_ _ | refine blk_drew ?_ | refine blk_alloc ?_ _)); refine blk_put (cs := #[.int .i64 a0, .int .i64 (rd l1 0), .int .i64 0, .int .i64 0, .int .i64 0, .int .i64 0, .int .i64 0, .bool false, .slice none 0 0]) ?_ 3 _ rfl; (with_reducible repeat (first | refine blk_drewN ?_ _ | refine blk_drew ?_ | refine blk_alloc ?_ _)); refine blk_put (cs := #[.int .i64 a0, .int .i64 (rd l1 0), .int .i64 0, .int .i64 0, .int .i64 0, .int .i64 0, .int .i64 0, .bool false, .slice none 0 0]) ?_ 2 _ rfl; (with_reducible repeat (first | refine blk_drewN ?_ _ | refine blk_drew ?_ | refine blk_alloc ?_ _)); refine blk_put (cs := #[.int .i64 a0, .int .i64 0, .int .i64 0, .int .i64 0, .int .i64 0, .int .i64 0, .int .i64 0, .bool false, .slice none 0 0]) ?_ 1 _ rfl; (with_reducible repeat (first | refine blk_drewN ?_ _ | refine blk_drew ?_ | refine blk_alloc ?_ _)); refine blk_put (cs := #[.int .i64 0, .int .i64 0, .int .i64 0, .int .i64 0, .int .i64 0, .int .i64 0, .int .i64 0, .bool false, .slice none 0 0]) ?_ 0 _ rfl; (with_reducible repeat (first | refine blk_drewN ?_ _ | refine blk_drew ?_ | refine blk_alloc ?_ _)); refine blk_far ?_ NB162_163.out _; (with_reducible repeat (first | refine blk_drewN ?_ _ | refine blk_drew ?_ | refine blk_alloc ?_ _)); exact BK162.out) Try.underlying31 rfl (by kernel_rfl)) rfl ?_
            exact ⟨_, by first | rfl | (simp [errW_none, errW_some] <;> rfl) | (simp [*, errW_none, errW_some] <;> rfl), by first | exact Kd.R_nil _ _ _ _ _ | exact Kd.N_nil _ _ _ _ _ | exact Kd.V_nil _ _ _ _ _ | exact Kd.Q_nil _ _ _ _ _ | exact Kd.S_nil _ _ _ _ _, by repeat (first | (with_reducible first | exact HB.out | apply below_alloc | apply pw_below_drewN | apply below_drew1 | refine below_set ?_ GE162.out | refine below_set ?_ GE163.out) | exact HB.out)⟩
          · rw [if_neg c25] at H
            exact absurd H (by simp)
        · replace c24 := Bool.eq_false_iff.mpr c24
          subst c24
          have H1 : (if a0 = 3 then (if 0 < (l1.length : Int) then (if 1 < (l1.length : Int) then (if 2 < (l1.length : Int) then (some (a0, rd l1 0, 0, 0, 0, rd l1 1, rd l1 2, false, ([] : List (S67)))) else (none)) else (none)) else (none)) else (if a0 = 4 then (if 0 < (l1.length : Int) then (if 1 < (l1.length : Int) then (some (a0, rd l1 0, 0, rd l1 1, 0, 0, 0, false, ([] : List (S67)))) else (none)) else (none)) else (if a0 = 5 then (if 0 < (l1.length : Int) then (some (a0, 0, 0, rd l1 0, 0, 0, 0, false, ([] : List (S67)))) else (none)) else (if a0 = 6 then (if 0 < (l1.length : Int) then (if 1 < (l1.length : Int) then (regattaref18_command.l0 kj17 l1 3 a0 0 (wrap64 ((rd l1 0) - 1)) 0 (rd l1 1) 0 0 false ([] : List (S67))) else (none)) else (none)) else (some (a0, 0, 0, 0, 0, 0, 0, false, ([] : List (S67)))))))) = some (r1, r2, r3, r4, r5, r6, r7, r8, r9) := by rw [if_neg (show ¬ (false = true) by decide)] at H; exact H
          clear H
          have H := H1
          clear H1
          by_cases c29 : a0 = 3
          · rw [if_pos c29] at H
            have c29b0 : (a0 == 3) = true := beq_iff_eq.mpr c29
            have c29b1 : (a0 != 3) = false := bne_eq_false_iff_eq.mpr c29
            clear c29
            by_cases c30 : 0 < (l1.length : Int)
            · rw [if_pos c30] at H
              have c30b0 : decide (0 < (l1.length : Int)) = true := decide_eq_true c30
              have c30b1 : decide (0 < l1.length) = true := decide_eq_true (by omega)
              clear c30
              by_cases c31 : 1 < (l1.length : Int)
              · rw [if_pos c31] at H
                have c31b0 : decide (1 < (l1.length : Int)) = true := decide_eq_true c31
                have c31b1 : decide (1 < l1.length) = true := decide_eq_true (by omega)
                clear c31
                by_cases c32 : 2 < (l1.length : Int)
                · rw [if_pos c32] at H
                  have c32b0 : decide (2 < (l1.length : Int)) = true := decide_eq_true c32
                  have c32b1 : decide (2 < l1.length) = true := decide_eq_true (by omega)
                  clear c32
                  simp only [Option.some.injEq, Prod.mk.injEq] at H
                  obtain ⟨rfl, rfl, rfl, rfl, rfl, rfl, rfl, rfl, rfl⟩ := H
                  have p169 : 0 ≤ (0 : Int) := (by omega)
                  have q169 : 0 < (l1.length : Int) := of_decide_eq_true (by first | (with_reducible assumption) | assumption)
                  obtain ⟨ad169, e169, hx169_0⟩ := Kd.at_int HR1.out 0 p169 q169
                  cases e169
                  have qi169 : (0 < l1.length) = True := eq_true (by omega)
                  (try rw [show ((0 : Int)).toNat = 0 from rfl] at hx169_0)
                  (try rw [Addr.add_zero'] at hx169_0)
                  replace hx169_0 := (HB.out.cell (World.block_lt_of_cell? w _ hx169_0)).trans hx169_0
                  replace p169 := eq_true p169
                  replace q169 := eq_true q169
                  have hnb33 := NB163_162.out
                  have hnc33 := NB162_163.out
                  have hcz34_0 : wc.cell? ⟨gb163, 0, none⟩ = some (.int .i64 a0) := (blk_cell BK163.out 0).trans rfl
                  have hcz34_1 : wc.cell? ⟨gb163, 1, none⟩ = some (.int .i64 0) := (blk_cell BK163.out 1).trans rfl
                  have hcz34_2 : wc.cell? ⟨gb163, 2, none⟩ = some (.int .i64 0) := (blk_cell BK163.out 2).trans rfl
                  have hcz34_3 : wc.cell? ⟨gb163, 3, none⟩ = some (.int .i64 0) := (blk_cell BK163.out 3).trans rfl
                  have hcz34_4 : wc.cell? ⟨gb163, 4, none⟩ = some (.int .i64 0) := (blk_cell BK163.out 4).trans rfl
                  have hcz34_5 : wc.cell? ⟨gb163, 5, none⟩ = some (.int .i64 0) := (blk_cell BK163.out 5).trans rfl
                  have hcz34_6 : wc.cell? ⟨gb163, 6, none⟩ = some (.int .i64 0) := (blk_cell BK163.out 6).trans rfl
                  have hcz34_7 : wc.cell? ⟨gb163, 7, none⟩ = some (.bool false) := (blk_cell BK163.out 7).trans rfl
                  have hcz34_8 : wc.cell? ⟨gb163, 8, none⟩ = some (.slice none 0 0) := (blk_cell BK163.out 8).trans rfl
                  have hfz34_0 := blk_frozen BK163.out 0
                  have hfz34_1 := blk_frozen BK163.out 1
                  have hfz34_2 := blk_frozen BK163.out 2
                  have hfz34_3 := blk_frozen BK163.out 3
                  have hfz34_4 := blk_frozen BK163.out 4
                  have hfz34_5 := blk_frozen BK163.out 5
                  have hfz34_6 := blk_frozen BK163.out 6
                  have hfz34_7 := blk_frozen BK163.out 7
                  have hfz34_8 := blk_frozen BK163.out 8
                  try go_wp2
                  have n0_ : Aside0 ((wc.setCell ⟨gb163, 1, none⟩ (.int .i64 (rd l1 0))).heap[gb162]? = some (.cells #[.int .i64 0, .int .i64 0, .int .i64 0, .int .i64 0, .int .i64 0, .int .i64 0, .int .i64 0, .bool false, .slice none 0 0] 31 (0, 0))) := ⟨by (with_reducible repeat (first | refine blk_drewN ?_ _ | refine blk_drew ?_ | refine blk_alloc ?_ _)); refine blk_far ?_ NB162_163.out _; (with_reducible repeat (first | refine blk_drewN ?_ _ | refine blk_drew ?_ | refine blk_alloc ?_ _)); exact BK162.out⟩
                  have n1_ : Aside0 ((wc.setCell ⟨gb163, 1, none⟩ (.int .i64 (rd l1 0))).heap[gb163]? = some (.cells #[.int .i64 a0, .int .i64 (rd l1 0), .int .i64 0, .int .i64 0, .int .i64 0, .int .i64 0, .int .i64 0, .bool false, .slice none 0 0] 31 (0, 0))) := ⟨by (with_reducible repeat (first | refine blk_drewN ?_ _ | refine blk_drew ?_ | refine blk_alloc ?_ _)); refine blk_put (cs := #[.int .i64 a0, .int .i64 0, .int .i64 0, .int .i64 0, .int .i64 0, .int .i64 0, .int .i64 0, .bool false, .slice none 0 0]) ?_ 1 _ rfl; (with_reducible repeat (first | refine blk_drewN ?_ _ | refine blk_drew ?_ | refine blk_alloc ?_ _)); exact BK163.out⟩
                  have n2_ : Aside0 (Below w.heap.size w (wc.setCell ⟨gb163, 1, none⟩ (.int .i64 (rd l1 0)))) := ⟨by repeat (first | (with_reducible first | exact HB.out | apply below_alloc | apply pw_below_drewN | apply below_drew1 | refine below_set ?_ GE162.out | refine below_set ?_ GE163.out) | exact HB.out)⟩
                  (try clear BK162)
                  (try clear BK163)
                  (try clear HB)
                  generalize (wc.setCell ⟨gb163, 1, none⟩ (.int .i64 (rd l1 0))) = w35 at n0_ n1_ n2_ ⊢
                  have BK162 := n0_
                  have BK163 := n1_
                  have HB := n2_
                  clear n0_ n1_ n2_
                  have n0_ := Aside0.mk (blk_drew BK162.out)
                  have n1_ := Aside0.mk (blk_drew BK163.out)
                  have n2_ := Aside0.mk (below_drew1 HB.out)
                  clear BK162
                  clear BK163
                  clear HB
                  have BK162 := n0_
                  have BK163 := n1_
                  have HB := n2_
                  clear n0_ n1_ n2_
                  have p170 : 0 ≤ (1 : Int) := (by omega)
                  have q170 : 1 < (l1.length : Int) := of_decide_eq_true (by first | (with_reducible assumption) | assumption)
                  obtain ⟨ad170, e170, hx170_0⟩ := Kd.at_int HR1.out 1 p170 q170
                  have hw170_0 := hx170_0
                  (try rw [show ((1 : Int)).toNat = 1 from rfl] at hw170_0)
                  (try rw [show 1 * 1 = 1 from rfl] at hw170_0)
                  (try simp only [Nat.reduceMul, Nat.reduceEqDiff, Go.Addr.add, ↓reduceIte] at hw170_0)
                  obtain rfl : ad169 = ad170 := (by injection e170)
                  (try simp only [show (1 : Int).toNat = 1 from rfl, Nat.reduceMul, Nat.reduceEqDiff, Go.Addr.add, ↓reduceIte] at hx170_0)
                  have qi170 : (1 < l1.length) = True := eq_true (by omega)
                  (try rw [show ((1 : Int)).toNat = 1 from rfl] at hx170_0)
                  replace hx170_0 := (HB.out.cell (World.block_lt_of_cell? w _ hx170_0)).trans hx170_0
                  replace p170 := eq_true p170
                  replace q170 := eq_true q170
                  have p171 : 0 ≤ (2 : Int) := (by omega)
                  have q171 : 2 < (l1.length : Int) := of_decide_eq_true (by first | (with_reducible assumption) | assumption)
                  obtain ⟨ad171, e171, hx171_0⟩ := Kd.at_int HR1.out 2 p171 q171
                  have hw171_0 := hx171_0
                  (try rw [show ((2 : Int)).toNat = 2 from rfl] at hw171_0)
                  (try rw [show 2 * 1 = 2 from rfl] at hw171_0)
                  (try simp only [Nat.reduceMul, Nat.reduceEqDiff, Go.Addr.add, ↓reduceIte] at hw171_0)
                  obtain rfl : ad169 = ad171 := (by injection e171)
                  (try simp only [show (2 : Int).toNat = 2 from rfl, Nat.reduceMul, Nat.reduceEqDiff, Go.Addr.add, ↓reduceIte] at hx171_0)
                  have qi171 : (2 < l1.length) = True := eq_true (by omega)
                  (try rw [show ((2 : Int)).toNat = 2 from rfl] at hx171_0)
                  replace hx171_0 := (HB.out.cell (World.block_lt_of_cell? w _ hx171_0)).trans hx171_0
                  replace p171 := eq_true p171
                  replace q171 := eq_true q171
                  refine start_ (n := 9) (S := fun w' => w'.cell? ⟨ad169.block, ad169.off + 1, none⟩ = some (.int .i64 (rd l1 1)) ∧ w'.cell? ⟨ad169.block, ad169.off + 2, none⟩ = some (.int .i64 (rd l1 2))) (ds := []) #[false, false, false, false, false, false, false, false, false] (by kernel_rfl) rfl rfl ⟨((HB.out.cell (World.block_lt_of_cell? w _ hw170_0)).trans hw170_0), ((HB.out.cell (World.block_lt_of_cell? w _ hw171_0)).trans hw171_0)⟩ (fun hHeld => ?_); refine with_tabW regattaref18_command.tab12 regattaref18_command.bits12 (fun HT_ HW_ => ?_)
                  generalize w35.drew = w36 at BK162 BK163 HB hx170_0 hx171_0 hHeld ⊢
                  refine pure_ (i := 0) (N := some 43) (v := ?_) (a' := ?_) #[true, false, false, false, false, false, false, false, false] rfl rfl (any_of HT_.out (by kernel_rfl)) (fun _ _ _ h => h) (Or.inl ⟨by rfl, ?_⟩) ?_ ?_
                  rotate_left
                  · intro w'
                    go_simp
                    with_reducible rfl
                  rotate_left
                  · simp only [Act.put, List.setIfInBounds_toArray, List.set_cons_zero, List.set_cons_succ, i64_w, i32_w]
                    rfl
                  refine pure_ (i := 1) (N := some 44) (v := ?_) (a' := ?_) #[true, true, false, false, false, false, false, false, false] rfl rfl (any_of HT_.out (by kernel_rfl)) (fun _ _ _ h => h) (Or.inl ⟨by rfl, ?_⟩) ?_ ?_
                  rotate_left
                  · intro w'
                    go_simp
                    with_reducible rfl
                  rotate_left
                  · simp only [Act.put, List.setIfInBounds_toArray, List.set_cons_zero, List.set_cons_succ, i64_w, i32_w]
                    rfl
                  refine pure_ (i := 3) (N := some 46) (v := ?_) (a' := ?_) #[true, true, false, true, false, false, false, false, false] rfl rfl (any_of HT_.out (by kernel_rfl)) (fun _ _ _ h => h) (Or.inl ⟨by rfl, ?_⟩) ?_ ?_
                  rotate_left
                  · intro w'
                    go_simp
                    with_reducible rfl
                  rotate_left
                  · simp only [Act.put, List.setIfInBounds_toArray, List.set_cons_zero, List.set_cons_succ, i64_w, i32_w]
                    rfl
                  refine pure_ (i := 4) (N := some 47) (v := ?_) (a' := ?_) #[true, true, false, true, true, false, false, false, false] rfl rfl (any_of HT_.out (by kernel_rfl)) (fun _ _ _ h => h) (Or.inl ⟨by rfl, ?_⟩) ?_ ?_
                  rotate_left
                  · intro w'
                    go_simp
                    with_reducible rfl
                  rotate_left
                  · simp only [Act.put, List.setIfInBounds_toArray, List.set_cons_zero, List.set_cons_succ, i64_w, i32_w]
                    rfl
                  refine take_ (i := 2) (N := some 45) (v := ?_) (a' := ?_) #[true, true, true, true, true, false, false, false, false] rfl rfl (take_ofW HT_.out HW_.out (by kernel_rfl)) (fun _ _ _ h => h) (Or.inl ⟨by rfl, ?_⟩) hHeld ?_ ?_
                  rotate_left
                  · rintro w' ⟨s0, s1⟩
                    go_simp
                    with_reducible rfl
                  rotate_left
                  · simp only [Act.put, List.setIfInBounds_toArray, List.set_cons_zero, List.set_cons_succ, i64_w, i32_w]
                    rfl
                  refine take_ (i := 5) (N := some 48) (v := ?_) (a' := ?_) #[true, true, true, true, true, true, false, false, false] rfl rfl (take_ofW HT_.out HW_.out (by kernel_rfl)) (fun _ _ _ h => h) (Or.inl ⟨by rfl, ?_⟩) hHeld ?_ ?_
                  rotate_left
                  · rintro w' ⟨s0, s1⟩
                    go_simp
                    with_reducible rfl
                  rotate_left
                  · simp only [Act.put, List.setIfInBounds_toArray, List.set_cons_zero, List.set_cons_succ, i64_w, i32_w]
                    rfl
                  refine pure_ (i := 6) (N := some 49) (v := ?_) (a' := ?_) #[true, true, true, true, true, true, true, false, false] rfl rfl (any_of HT_.out (by kernel_rfl)) (fun _ _ _ h => h) (Or.inl ⟨by rfl, ?_⟩) ?_ ?_
                  rotate_left
                  · intro w'
                    go_simp
                    with_reducible rfl
                  rotate_left
                  · simp only [Act.put, List.setIfInBounds_toArray, List.set_cons_zero, List.set_cons_succ, i64_w, i32_w]
                    rfl
                  refine pure_ (i := 7) (N := some 50) (v := ?_) (a' := ?_) #[true, true, true, true, true, true, true, true, false] rfl rfl (any_of HT_.out (by kernel_rfl)) (fun _ _ _ h => h) (Or.inl ⟨by rfl, ?_⟩) ?_ ?_
                  rotate_left
                  · intro w'
                    go_simp
                    with_reducible rfl
                  rotate_left
                  · simp only [Act.put, List.setIfInBounds_toArray, List.set_cons_zero, List.set_cons_succ, i64_w, i32_w]
                    rfl
                  refine one_ (i := 8) (N := none) #[true, true, true, true, true, true, true, true, true] rfl rfl (one_of HT_.out (by kernel_rfl)) (by decide) (fun K hK => ?_)
                  have hs37 : w36.cell? ⟨gb163, 5, none⟩ = some (.int .i64 0) := (blk_cell BK163.out 5).trans rfl
                  have hfs37 := blk_frozen BK163.out 5
                  have hns37_0 := NB162_163.out
                  have hms37_0 := NB163_162.out
                  have hs38 : w36.cell? ⟨gb163, 6, none⟩ = some (.int .i64 0) := (blk_cell BK163.out 6).trans rfl
                  have hfs38 := blk_frozen BK163.out 6
                  have hns38_0 := NB162_163.out
                  have hms38_0 := NB163_162.out
                  refine skip_ (w1 := ?_) (by rfl) rfl ?_ ?_
                  rotate_left
                  · go_simp
                    rfl
                  refine hK.out _ _ ⟨((cell_far (p := ⟨gb163, _, none⟩) (by first | exact Nat.ne_of_lt (Nat.lt_of_lt_of_le (by have := World.block_lt_of_cell? _ _ hw170_0; first | rwa [add_block] at this | exact this) GW163.out) | (rw [add_block]; exact Nat.ne_of_lt (Nat.lt_of_lt_of_le (by have := World.block_lt_of_cell? _ _ hw170_0; first | rwa [add_block] at this | exact this) GW163.out)) | (show (Addr.add _ _).block ≠ _; rw [add_block]; exact Nat.ne_of_lt (Nat.lt_of_lt_of_le (by have := World.block_lt_of_cell? _ _ hw170_0; first | rwa [add_block] at this | exact this) GW163.out)) | (dsimp only; exact Nat.ne_of_lt (Nat.lt_of_lt_of_le (by have := World.block_lt_of_cell? _ _ hw170_0; first | rwa [add_block] at this | exact this) GW163.out))) _).trans (((cell_far (p := ⟨gb163, _, none⟩) (by first | exact Nat.ne_of_lt (Nat.lt_of_lt_of_le (by have := World.block_lt_of_cell? _ _ hw170_0; first | rwa [add_block] at this | exact this) GW163.out) | (rw [add_block]; exact Nat.ne_of_lt (Nat.lt_of_lt_of_le (by have := World.block_lt_of_cell? _ _ hw170_0; first | rwa [add_block] at this | exact this) GW163.out)) | (show (Addr.add _ _).block ≠ _; rw [add_block]; exact Nat.ne_of_lt (Nat.lt_of_lt_of_le (by have := World.block_lt_of_cell? _ _ hw170_0; first | rwa [add_block] at this | exact this) GW163.out)) | (dsimp only; exact Nat.ne_of_lt (Nat.lt_of_lt_of_le (by have := World.block_lt_of_cell? _ _ hw170_0; first | rwa [add_block] at this | exact this) GW163.out))) _).trans (hHeld.1)))), ((cell_far (p := ⟨gb163, _, none⟩) (by first | exact Nat.ne_of_lt (Nat.lt_of_lt_of_le (by have := World.block_lt_of_cell? _ _ hw171_0; first | rwa [add_block] at this | exact this) GW163.out) | (rw [add_block]; exact Nat.ne_of_lt (Nat.lt_of_lt_of_le (by have := World.block_lt_of_cell? _ _ hw171_0; first | rwa [add_block] at this | exact this) GW163.out)) | (show (Addr.add _ _).block ≠ _; rw [add_block]; exact Nat.ne_of_lt (Nat.lt_of_lt_of_le (by have := World.block_lt_of_cell? _ _ hw171_0; first | rwa [add_block] at this | exact this) GW163.out)) | (dsimp only; exact Nat.ne_of_lt (Nat.lt_of_lt_of_le (by have := World.block_lt_of_cell? _ _ hw171_0; first | rwa [add_block] at this | exact this) GW163.out))) _).trans (((cell_far (p := ⟨gb163, _, none⟩) (by first | exact Nat.ne_of_lt (Nat.lt_of_lt_of_le (by have := World.block_lt_of_cell? _ _ hw171_0; first | rwa [add_block] at this | exact this) GW163.out) | (rw [add_block]; exact Nat.ne_of_lt (Nat.lt_of_lt_of_le (by have := World.block_lt_of_cell? _ _ hw171_0; first | rwa [add_block] at this | exact this) GW163.out)) | (show (Addr.add _ _).block ≠ _; rw [add_block]; exact Nat.ne_of_lt (Nat.lt_of_lt_of_le (by have := World.block_lt_of_cell? _ _ hw171_0; first | rwa [add_block] at this | exact this) GW163.out)) | (dsimp only; exact Nat.ne_of_lt (Nat.lt_of_lt_of_le (by have := World.block_lt_of_cell? _ _ hw171_0; first | rwa [add_block] at this | exact this) GW163.out))) _).trans (hHeld.2))))⟩ (fun hHeld => ?_)
                  clear hK K
                  refine done_ (done_of HT_.out (by kernel_rfl)) ?_
                  have hcz39_0 : w36.cell? ⟨gb163, 0, none⟩ = some (.int .i64 a0) := (blk_cell BK163.out 0).trans rfl
                  have hcz39_1 : w36.cell? ⟨gb163, 1, none⟩ = some (.int .i64 (rd l1 0)) := (blk_cell BK163.out 1).trans rfl
                  have hcz39_2 : w36.cell? ⟨gb163, 2, none⟩ = some (.int .i64 0) := (blk_cell BK163.out 2).trans rfl
                  have hcz39_3 : w36.cell? ⟨gb163, 3, none⟩ = some (.int .i64 0) := (blk_cell BK163.out 3).trans rfl
                  have hcz39_4 : w36.cell? ⟨gb163, 4, none⟩ = some (.int .i64 0) := (blk_cell BK163.out 4).trans rfl
                  have hcz39_5 : w36.cell? ⟨gb163, 5, none⟩ = some (.int .i64 0) := (blk_cell BK163.out 5).trans rfl
                  have hcz39_6 : w36.cell? ⟨gb163, 6, none⟩ = some (.int .i64 0) := (blk_cell BK163.out 6).trans rfl
                  have hcz39_7 : w36.cell? ⟨gb163, 7, none⟩ = some (.bool false) := (blk_cell BK163.out 7).trans rfl
                  have hcz39_8 : w36.cell? ⟨gb163, 8, none⟩ = some (.slice none 0 0) := (blk_cell BK163.out 8).trans rfl
                  have hfz39_0 := blk_frozen BK163.out 0
                  have hfz39_1 := blk_frozen BK163.out 1
                  have hfz39_2 := blk_frozen BK163.out 2
                  have hfz39_3 := blk_frozen BK163.out 3
                  have hfz39_4 := blk_frozen BK163.out 4
                  have hfz39_5 := blk_frozen BK163.out 5
                  have hfz39_6 := blk_frozen BK163.out 6
                  have hfz39_7 := blk_frozen BK163.out 7
                  have hfz39_8 := blk_frozen BK163.out 8
                  have hcz40_0 : w36.cell? ⟨gb162, 0, none⟩ = some (.int .i64 0) := (blk_cell BK162.out 0).trans rfl
                  have hcz40_1 : w36.cell? ⟨gb162, 1, none⟩ = some (.int .i64 0) := (blk_cell BK162.out 1).trans rfl
                  have hcz40_2 : w36.cell? ⟨gb162, 2, none⟩ = some (.int .i64 0) := (blk_cell BK162.out 2).trans rfl
                  have hcz40_3 : w36.cell? ⟨gb162, 3, none⟩ = some (.int .i64 0) := (blk_cell BK162.out 3).trans rfl
                  have hcz40_4 : w36.cell? ⟨gb162, 4, none⟩ = some (.int .i64 0) := (blk_cell BK162.out 4).trans rfl
                  have hcz40_5 : w36.cell? ⟨gb162, 5, none⟩ = some (.int .i64 0) := (blk_cell BK162.out 5).trans rfl
                  have hcz40_6 : w36.cell? ⟨gb162, 6, none⟩ = some (.int .i64 0) := (blk_cell BK162.out 6).trans rfl
                  have hcz40_7 : w36.cell? ⟨gb162, 7, none⟩ = some (.bool false) := (blk_cell BK162.out 7).trans rfl
                  have hcz40_8 : w36.cell? ⟨gb162, 8, none⟩ = some (.slice none 0 0) := (blk_cell BK162.out 8).trans rfl
                  have hfz40_0 := blk_frozen BK162.out 0
                  have hfz40_1 := blk_frozen BK162.out 1
                  have hfz40_2 := blk_frozen BK162.out 2
                  have hfz40_3 := blk_frozen BK162.out 3
                  have hfz40_4 := blk_frozen BK162.out 4
                  have hfz40_5 := blk_frozen BK162.out 5
                  have hfz40_6 := blk_frozen BK162.out 6
                  have hfz40_7 := blk_frozen BK162.out 7
                  have hfz40_8 := blk_frozen BK162.out 8
                  try go_wp2
                  refine bodyPost_ret (results_cell_row rfl _ _ gb162 31 #[.int .i64 a0, .int .i64 (rd l1 0), .int .i64 0, .int .i64 0, .int .i64 0, .int .i64 (rd l1 1), .int .i64 (rd l1 2), .bool false, .slice none 0 0] (0, 0) _ rfl (by (with_reducible repeat (first | refine blk_drewN ?_ _ | refine blk_drew ?_ | refine blk_alloc ?_ _)); refine blk_put (cs := #[.int .i64 a0, .int .i64 (rd l1 0), .int .i64 0, .int .i64 0, .int .i64 0, .int .i64 (rd l1 1), .int .i64 (rd l1 2), .bool false, .slice none 0 0]) ?_ 8 _ rfl; (with_reducible repeat (first | refine blk_drewN ?_ _ | refine blk_drew ?_ | refine blk_alloc ?_ _)); refine blk_put (cs := #[.int .i64 a0, .int .i64 (rd l1 0), .int .i64 0, .int .i64 0, .int .i64 0, .int .i64 (rd l1 1), .int .i64 (rd l1 2), .bool false, .slice none 0 0]) ?_ 7 _ rfl; (with_reducible repeat (first | refine blk_drewN ?_ _ | refine blk_drew ?_ | refine blk_alloc ?_ _)); refine blk_put (cs := #[.int .i64 a0, .int .i64 (rd l1 0), .int .i64 0, .int .i64 0, .int .i64 0, .int .i64 (rd l1 1), .int .i64 0, .bool false, .slice none 0 0]) ?_ 6 _ rfl; (with_reducible repeat (first | refine blk_drewN ?_ _ | refine blk_drew ?_ | refine blk_alloc ?_ _)); refine blk_put (cs := #[.int .i64 a0, .int .i64 (rd l1 0), .int .i64 0, .int .i64 0, .int .i64 0, .int .i64 0, .int .i64 0, .bool false, .slice none 0 0]) ?_ 5 _ rfl; (with_reducible repeat (first | refine blk_drewN ?_ _ | refine blk_drew ?_ | refine blk_alloc ?_ _)); refine blk_put (cs := #[.int .i64 a0, .int .i64 (rd l1 0), .int .i64 0, .int .i64 0, .int .i64 0, .int .i64 0, .int .i64 0, .bool false, .slice none 0 0]) ?_ 4 _ rfl; (with_reducible repeat (first | refine blk_drewN ?_ _ | refine blk_drew ?_ | refine blk_alloc ?_ _)); refine blk_put (cs := #[.int .i64 a0, .int .i64 (rd l1 0), .int .i64 0, .int .i64 0, .int .i64 0, .int .i64 0, .int .i64 0, .bool false, .slice none 0 0]) ?_ 3 _ rfl; (with_reducible repeat (first | refine blk_drewN ?_ _ | refine blk_drew ?_ | refine blk_alloc ?_ _)); refine blk_put (cs := #[.int .i64 a0, .int .i64 (rd l1 0), .int .i64 0, .int .i64 0, .int .i64 0, .int .i64 0, .int .i64 0, .bool false, .slice none 0 0]) ?_ 2 _ rfl; (with_reducible repeat (first | refine blk_drewN ?_ _ | refine blk_drew ?_ | refine blk_alloc ?_ _)); refine blk_put (cs := #[.int .i64 a0, .int .i64 0, .int .i64 0, .int .i64 0, .int .i64 0, .int .i64 0, .int .i64 0, .bool false, .slice none 0 0]) ?_ 1 _ rfl; (with_reducible repeat (first | refine blk_drewN ?_ _ | refine blk_drew ?_ | refine blk_alloc ?_ _)); refine blk_put (cs := #[.int .i64 0, .int .i64 0, .int .i64 0, .int .i64 0, .int .i64 0, .int .i64 0, .int .i64 0, .bool false, .slice none 0 0]) ?_ 0 _ rfl; (with_reducible repeat (first | refine blk_drewN ?_ _ | refine blk_drew ?_ | refine blk_alloc ?_ _)); refine blk_far ?_ NB162_163.out _; (with_reducible repeat (first | refine blk_drewN ?_ _ | refine blk_drew ?_ | refine blk_alloc ?_ _)); refine blk_far ?_ NB162_163.out _; (with_reducible repeat (first | refine blk_drewN ?_ _ | refine blk_drew ?_ | refine blk_alloc ?_ _)); exact BK162.out) Try.underlying31 rfl (by kernel_rfl)) rfl ?_
                  exact ⟨_, by first | rfl | (simp [errW_none, errW_some] <;> rfl) | (simp [*, errW_none, errW_some] <;> rfl), by first | exact Kd.R_nil _ _ _ _ _ | exact Kd.N_nil _ _ _ _ _ | exact Kd.V_nil _ _ _ _ _ | exact Kd.Q_nil _ _ _ _ _ | exact Kd.S_nil _ _ _ _ _, by repeat (first | (with_reducible first | exact HB.out | apply below_alloc | apply pw_below_drewN | apply below_drew1 | refine below_set ?_ GE162.out | refine below_set ?_ GE163.out) | exact HB.out)⟩
                · rw [if_neg c32] at H
                  exact absurd H (by simp)
              · rw [if_neg c31] at H
                exact absurd H (by simp)
            · rw [if_neg c30] at H
              exact absurd H (by simp)
          · rw [if_neg c29] at H
            have c29b0 : (a0 == 3) = false := beq_eq_false_iff_ne.mpr c29
            have c29b1 : (a0 != 3) = true := bne_iff_ne.mpr c29
            by_cases c41 : a0 = 4
            · rw [if_pos c41] at H
              have c41b0 : (a0 == 4) = true := beq_iff_eq.mpr c41
              have c41b1 : (a0 != 4) = false := bne_eq_false_iff_eq.mpr c41
              clear c41
              by_cases c42 : 0 < (l1.length : Int)
              · rw [if_pos c42] at H
                have c42b0 : decide (0 < (l1.length : Int)) = true := decide_eq_true c42
                have c42b1 : decide (0 < l1.length) = true := decide_eq_true (by omega)
                clear c42
                by_cases c43 : 1 < (l1.length : Int)
                · rw [if_pos c43] at H
                  have c43b0 : decide (1 < (l1.length : Int)) = true := decide_eq_true c43
                  have c43b1 : decide (1 < l1.length) = true := decide_eq_true (by omega)
                  clear c43
                  simp only [Option.some.injEq, Prod.mk.injEq] at H
                  obtain ⟨rfl, rfl, rfl, rfl, rfl, rfl, rfl, rfl, rfl⟩ := H
                  have p172 : 0 ≤ (0 : Int) := (by omega)
                  have q172 : 0 < (l1.length : Int) := of_decide_eq_true (by first | (with_reducible assumption) | assumption)
                  obtain ⟨ad172, e172, hx172_0⟩ := Kd.at_int HR1.out 0 p172 q172
                  cases e172
                  have qi172 : (0 < l1.length) = True := eq_true (by omega)
                  (try rw [show ((0 : Int)).toNat = 0 from rfl] at hx172_0)
                  (try rw [Addr.add_zero'] at hx172_0)
                  replace hx172_0 := (HB.out.cell (World.block_lt_of_cell? w _ hx172_0)).trans hx172_0
                  replace p172 := eq_true p172
                  replace q172 := eq_true q172
                  have hnb44 := NB163_162.out
                  have hnc44 := NB162_163.out
                  have hcz45_0 : wc.cell? ⟨gb163, 0, none⟩ = some (.int .i64 a0) := (blk_cell BK163.out 0).trans rfl
                  have hcz45_1 : wc.cell? ⟨gb163, 1, none⟩ = some (.int .i64 0) := (blk_cell BK163.out 1).trans rfl
                  have hcz45_2 : wc.cell? ⟨gb163, 2, none⟩ = some (.int .i64 0) := (blk_cell BK163.out 2).trans rfl
                  have hcz45_3 : wc.cell? ⟨gb163, 3, none⟩ = some (.int .i64 0) := (blk_cell BK163.out 3).trans rfl
                  have hcz45_4 : wc.cell? ⟨gb163, 4, none⟩ = some (.int .i64 0) := (blk_cell BK163.out 4).trans rfl
                  have hcz45_5 : wc.cell? ⟨gb163, 5, none⟩ = some (.int .i64 0) := (blk_cell BK163.out 5).trans rfl
                  have hcz45_6 : wc.cell? ⟨gb163, 6, none⟩ = some (.int .i64 0) := (blk_cell BK163.out 6).trans rfl
                  have hcz45_7 : wc.cell? ⟨gb163, 7, none⟩ = some (.bool false) := (blk_cell BK163.out 7).trans rfl
                  have hcz45_8 : wc.cell? ⟨gb163, 8, none⟩ = some (.slice none 0 0) := (blk_cell BK163.out 8).trans rfl
                  have hfz45_0 := blk_frozen BK163.out 0
                  have hfz45_1 := blk_frozen BK163.out 1
                  have hfz45_2 := blk_frozen BK163.out 2
                  have hfz45_3 := blk_frozen BK163.out 3
                  have hfz45_4 := blk_frozen BK163.out 4
                  have hfz45_5 := blk_frozen BK163.out 5
                  have hfz45_6 := blk_frozen BK163.out 6
                  have hfz45_7 := blk_frozen BK163.out 7
                  have hfz45_8 := blk_frozen BK163.out 8
                  have p173 : 0 ≤ (1 : Int) := (by omega)
                  have q173 : 1 < (l1.length : Int) := of_decide_eq_true (by first | (with_reducible assumption) | assumption)
                  obtain ⟨ad173, e173, hx173_0⟩ := Kd.at_int HR1.out 1 p173 q173
                  obtain rfl : ad172 = ad173 := (by injection e173)
                  (try simp only [show (1 : Int).toNat = 1 from rfl, Nat.reduceMul, Nat.reduceEqDiff, Go.Addr.add, ↓reduceIte] at hx173_0)
                  have qi173 : (1 < l1.length) = True := eq_true (by omega)
                  (try rw [show ((1 : Int)).toNat = 1 from rfl] at hx173_0)
                  have hn173_0 : ad172.block ≠ gb163 := Nat.ne_of_lt (Nat.lt_of_lt_of_le (by have := World.block_lt_of_cell? _ _ hx173_0; first | rwa [add_block] at this | exact this) GW163.out)
                  replace hx173_0 := (HB.out.cell (World.block_lt_of_cell? w _ hx173_0)).trans hx173_0
                  replace hx173_0 := (cell_far (p := ⟨gb163, 1, none⟩) (by first | (rw [add_block]; exact hn173_0) | (show (Addr.add _ _).block ≠ _; rw [add_block]; exact hn173_0) | exact hn173_0) (.int .i64 (rd l1 0))).trans hx173_0
                  clear hn173_0
                  replace p173 := eq_true p173
                  replace q173 := eq_true q173
                  have hcz46_0 : wc.cell? ⟨gb162, 0, none⟩ = some (.int .i64 0) := (blk_cell BK162.out 0).trans rfl
                  have hcz46_1 : wc.cell? ⟨gb162, 1, none⟩ = some (.int .i64 0) := (blk_cell BK162.out 1).trans rfl
                  have hcz46_2 : wc.cell? ⟨gb162, 2, none⟩ = some (.int .i64 0) := (blk_cell BK162.out 2).trans rfl
                  have hcz46_3 : wc.cell? ⟨gb162, 3, none⟩ = some (.int .i64 0) := (blk_cell BK162.out 3).trans rfl
                  have hcz46_4 : wc.cell? ⟨gb162, 4, none⟩ = some (.int .i64 0) := (blk_cell BK162.out 4).trans rfl
                  have hcz46_5 : wc.cell? ⟨gb162, 5, none⟩ = some (.int .i64 0) := (blk_cell BK162.out 5).trans rfl
                  have hcz46_6 : wc.cell? ⟨gb162, 6, none⟩ = some (.int .i64 0) := (blk_cell BK162.out 6).trans rfl
                  have hcz46_7 : wc.cell? ⟨gb162, 7, none⟩ = some (.bool false) := (blk_cell BK162.out 7).trans rfl
                  have hcz46_8 : wc.cell? ⟨gb162, 8, none⟩ = some (.slice none 0 0) := (blk_cell BK162.out 8).trans rfl
                  have hfz46_0 := blk_frozen BK162.out 0
                  have hfz46_1 := blk_frozen BK162.out 1
                  have hfz46_2 := blk_frozen BK162.out 2
                  have hfz46_3 := blk_frozen BK162.out 3
                  have hfz46_4 := blk_frozen BK162.out 4
                  have hfz46_5 := blk_frozen BK162.out 5
                  have hfz46_6 := blk_frozen BK162.out 6
                  have hfz46_7 := blk_frozen BK162.out 7
                  have hfz46_8 := blk_frozen BK162.out 8
                  go_wp2
                  refine bodyPost_ret (results_cell_row rfl _ _ gb162 31 #[.int .i64 a0, .int .i64 (rd l1 0), .int .i64 0, .int .i64 (rd l1 1), .int .i64 0, .int .i64 0, .int .i64 0, .bool false, .slice none 0 0] (0, 0) _ rfl (by (with_reducible repeat (first | refine blk_drewN ?_ _ | refine blk_drew ?_ | refine blk_alloc ?_ _)); refine blk_put (cs := #[.int .i64 a0, .int .i64 (rd l1 0), .int .i64 0, .int .i64 (rd l1 1), .int .i64 0, .int .i64 0, .int .i64 0, .bool false, .slice none 0 0]) ?_ 8 _ rfl; (with_reducible repeat (first | refine blk_drewN ?_ _ | refine blk_drew ?_ | refine blk_alloc ?_ _)); refine blk_put (cs := #[.int .i64 a0, .int .i64 (rd l1 0), .int .i64 0, .int .i64 (rd l1 1), .int .i64 0, .int .i64 0, .int .i64 0, .bool false, .slice none 0 0]) ?_ 7 _ rfl; (with_reducible repeat (first | refine blk_drewN ?_ _ | refine blk_drew ?_ | refine blk_alloc ?_ _)); refine blk_put (cs := #[.int .i64 a0, .int .i64 (rd l1 0), .int .i64 0, .int .i64 (rd l1 1), .int .i64 0, .int .i64 0, .int .i64 0, .bool false, .slice none 0 0]) ?_ 6 _ rfl; (with_reducible repeat (first | refine blk_drewN ?_ _ | refine blk_drew ?_ | refine blk_alloc ?_ _)); refine blk_put (cs := #[.int .i64 a0, .int .i64 (rd l1 0), .int .i64 0, .int .i64 (rd l1 1), .int .i64 0, .int .i64 0, .int .i64 0, .bool false, .slice none 0 0]) ?_ 5 _ rfl; (with_reducible repeat (first | refine blk_drewN ?_ _ | refine blk_drew ?_ | refine blk_alloc ?_ _)); refine blk_put (cs := #[.int .i64 a0, .int .i64 (rd l1 0), .int .i64 0, .int .i64 (rd l1 1), .int .i64 0, .int .i64 0, .int .i64 0, .bool false, .slice none 0 0]) ?_ 4 _ rfl; (with_reducible repeat (first | refine blk_drewN ?_ _ | refine blk_drew ?_ | refine blk_alloc ?_ _)); refine blk_put (cs := #[.int .i64 a0, .int .i64 (rd l1 0), .int .i64 0, .int .i64 0, .int .i64 0, .int .i64 0, .int .i64 0, .bool false, .slice none 0 0]) ?_ 3 _ rfl; (with_reducible repeat (first | refine blk_drewN ?_ _ | refine blk_drew ?_ | refine blk_alloc ?_ _)); refine blk_put (cs := #[.int .i64 a0, .int .i64 (rd l1 0), .int .i64 0, .int .i64 0, .int .i64 0, .int .i64 0, .int .i64 0, .bool false, .slice none 0 0]) ?_ 2 _ rfl; (with_reducible repeat (first | refine blk_drewN ?_ _ | refine blk_drew ?_ | refine blk_alloc ?_ _)); refine blk_put (cs := #[.int .i64 a0, .int .i64 0, .int .i64 0, .int .i64 0, .int .i64 0, .int .i64 0, .int .i64 0, .bool false, .slice none 0 0]) ?_ 1 _ rfl; (with_reducible repeat (first | refine blk_drewN ?_ _ | refine blk_drew ?_ | refine blk_alloc ?_ _)); refine blk_put (cs := #[.int .i64 0, .int .i64 0, .int .i64 0, .int .i64 0, .int .i64 0, .int .i64 0, .int .i64 0, .bool false, .slice none 0 0]) ?_ 0 _ rfl; (with_reducible repeat (first | refine blk_drewN ?_ _ | refine blk_drew ?_ | refine blk_alloc ?_ _)); refine blk_far ?_ NB162_163.out _; (with_reducible repeat (first | refine blk_drewN ?_ _ | refine blk_drew ?_ | refine blk_alloc ?_ _)); refine blk_far ?_ NB162_163.out _; (with_reducible repeat (first | refine blk_drewN ?_ _ | refine blk_drew ?_ | refine blk_alloc ?_ _)); exact BK162.out) Try.underlying31 rfl (by kernel_rfl)) rfl ?_
                  exact ⟨_, by first | rfl | (simp [errW_none, errW_some] <;> rfl) | (simp [*, errW_none, errW_some] <;> rfl), by first | exact Kd.R_nil _ _ _ _ _ | exact Kd.N_nil _ _ _ _ _ | exact Kd.V_nil _ _ _ _ _ | exact Kd.Q_nil _ _ _ _ _ | exact Kd.S_nil _ _ _ _ _, by repeat (first | (with_reducible first | exact HB.out | apply below_alloc | apply pw_below_drewN | apply below_drew1 | refine below_set ?_ GE162.out | refine below_set ?_ GE163.out) | exact HB.out)⟩
                · rw [if_neg c43] at H
                  exact absurd H (by simp)
              · rw [if_neg c42] at H
                exact absurd H (by simp)
            · rw [if_neg c41] at H
              have c41b0 : (a0 == 4) = false := beq_eq_false_iff_ne.mpr c41
              have c41b1 : (a0 != 4) = true := bne_iff_ne.mpr c41
              by_cases c47 : a0 = 5
              · rw [if_pos c47] at H
                have c47b0 : (a0 == 5) = true := beq_iff_eq.mpr c47
                have c47b1 : (a0 != 5) = false := bne_eq_false_iff_eq.mpr c47
                clear c47
                by_cases c48 : 0 < (l1.length : Int)
                · rw [if_pos c48] at H
                  have c48b0 : decide (0 < (l1.length : Int)) = true := decide_eq_true c48
                  have c48b1 : decide (0 < l1.length) = true := decide_eq_true (by omega)
                  clear c48
                  simp only [Option.some.injEq, Prod.mk.injEq] at H
                  obtain ⟨rfl, rfl, rfl, rfl, rfl, rfl, rfl, rfl, rfl⟩ := H
                  have p174 : 0 ≤ (0 : Int) := (by omega)
                  have q174 : 0 < (l1.length : Int) := of_decide_eq_true (by first | (with_reducible assumption) | assumption)
                  obtain ⟨ad174, e174, hx174_0⟩ := Kd.at_int HR1.out 0 p174 q174
                  cases e174
                  have qi174 : (0 < l1.length) = True := eq_true (by omega)
                  (try rw [show ((0 : Int)).toNat = 0 from rfl] at hx174_0)
                  (try rw [Addr.add_zero'] at hx174_0)
                  replace hx174_0 := (HB.out.cell (World.block_lt_of_cell? w _ hx174_0)).trans hx174_0
                  replace p174 := eq_true p174
                  replace q174 := eq_true q174
                  have hnb49 := NB163_162.out
                  have hnc49 := NB162_163.out
                  have hcz50_0 : wc.cell? ⟨gb163, 0, none⟩ = some (.int .i64 a0) := (blk_cell BK163.out 0).trans rfl
                  have hcz50_1 : wc.cell? ⟨gb163, 1, none⟩ = some (.int .i64 0) := (blk_cell BK163.out 1).trans rfl
                  have hcz50_2 : wc.cell? ⟨gb163, 2, none⟩ = some (.int .i64 0) := (blk_cell BK163.out 2).trans rfl
                  have hcz50_3 : wc.cell? ⟨gb163, 3, none⟩ = some (.int .i64 0) := (blk_cell BK163.out 3).trans rfl
                  have hcz50_4 : wc.cell? ⟨gb163, 4, none⟩ = some (.int .i64 0) := (blk_cell BK163.out 4).trans rfl
                  have hcz50_5 : wc.cell? ⟨gb163, 5, none⟩ = some (.int .i64 0) := (blk_cell BK163.out 5).trans rfl
                  have hcz50_6 : wc.cell? ⟨gb163, 6, none⟩ = some (.int .i64 0) := (blk_cell BK163.out 6).trans rfl
                  have hcz50_7 : wc.cell? ⟨gb163, 7, none⟩ = some (.bool false) := (blk_cell BK163.out 7).trans rfl
                  have hcz50_8 : wc.cell? ⟨gb163, 8, none⟩ = some (.slice none 0 0) := (blk_cell BK163.out 8).trans rfl
                  have hfz50_0 := blk_frozen BK163.out 0
                  have hfz50_1 := blk_frozen BK163.out 1
                  have hfz50_2 := blk_frozen BK163.out 2
                  have hfz50_3 := blk_frozen BK163.out 3
                  have hfz50_4 := blk_frozen BK163.out 4
                  have hfz50_5 := blk_frozen BK163.out 5
                  have hfz50_6 := blk_frozen BK163.out 6
                  have hfz50_7 := blk_frozen BK163.out 7
                  have hfz50_8 := blk_frozen BK163.out 8
                  have hcz51_0 : wc.cell? ⟨gb162, 0, none⟩ = some (.int .i64 0) := (blk_cell BK162.out 0).trans rfl
                  have hcz51_1 : wc.cell? ⟨gb162, 1, none⟩ = some (.int .i64 0) := (blk_cell BK162.out 1).trans rfl
                  have hcz51_2 : wc.cell? ⟨gb162, 2, none⟩ = some (.int .i64 0) := (blk_cell BK162.out 2).trans rfl
                  have hcz51_3 : wc.cell? ⟨gb162, 3, none⟩ = some (.int .i64 0) := (blk_cell BK162.out 3).trans rfl
                  have hcz51_4 : wc.cell? ⟨gb162, 4, none⟩ = some (.int .i64 0) := (blk_cell BK162.out 4).trans rfl
                  have hcz51_5 : wc.cell? ⟨gb162, 5, none⟩ = some (.int .i64 0) := (blk_cell BK162.out 5).trans rfl
                  have hcz51_6 : wc.cell? ⟨gb162, 6, none⟩ = some (.int .i64 0) := (blk_cell BK162.out 6).trans rfl
                  have hcz51_7 : wc.cell? ⟨gb162, 7, none⟩ = some (.bool false) := (blk_cell BK162.out 7).trans rfl
                  have hcz51_8 : wc.cell? ⟨gb162, 8, none⟩ = some (.slice none 0 0) := (blk_cell BK162.out 8).trans rfl
                  have hfz51_0 := blk_frozen BK162.out 0
                  have hfz51_1 := blk_frozen BK162.out 1
                  have hfz51_2 := blk_frozen BK162.out 2
                  have hfz51_3 := blk_frozen BK162.out 3
                  have hfz51_4 := blk_frozen BK162.out 4
                  have hfz51_5 := blk_frozen BK162.out 5
                  have hfz51_6 := blk_frozen BK162.out 6
                  have hfz51_7 := blk_frozen BK162.out 7
                  have hfz51_8 := blk_frozen BK162.out 8
                  go_wp2
                  refine bodyPost_ret (results_cell_row rfl _ _ gb162 31 #[.int .i64 a0, .int .i64 0, .int .i64 0, .int .i64 (rd l1 0), .int .i64 0, .int .i64 0, .int .i64 0, .bool false, .slice none 0 0] (0, 0) _ rfl (by (with_reducible repeat (first | refine blk_drewN ?_ _ | refine blk_drew ?_ | refine blk_alloc ?_ _)); refine blk_put (cs := #[.int .i64 a0, .int .i64 0, .int .i64 0, .int .i64 (rd l1 0), .int .i64 0, .int .i64 0, .int .i64 0, .bool false, .slice none 0 0]) ?_ 8 _ rfl; (with_reducible repeat (first | refine blk_drewN ?_ _ | refine blk_drew ?_ | refine blk_alloc ?_ _)); refine blk_put (cs := #[.int .i64 a0, .int .i64 0, .int .i64 0, .int .i64 (rd l1 0), .int .i64 0, .int .i64 0, .int .i64 0, .bool false, .slice none 0 0]) ?_ 7 _ rfl; (with_reducible repeat (first | refine blk_drewN ?_ _ | refine blk_drew ?_ | refine blk_alloc ?_ _)); refine blk_put (cs := #[.int .i64 a0, .int .i64 0, .int .i64 0, .int .i64 (rd l1 0), .int .i64 0, .int .i64 0, .int .i64 0, .bool false, .slice none 0 0]) ?_ 6 _ rfl; (with_reducible repeat (first | refine blk_drewN ?_ _ | refine blk_drew ?_ | refine blk_alloc ?_ _)); refine blk_put (cs := #[.int .i64 a0, .int .i64 0, .int .i64 0, .int .i64 (rd l1 0), .int .i64 0, .int .i64 0, .int .i64 0, .bool false, .slice none 0 0]) ?_ 5 _ rfl; (with_reducible repeat (first | refine blk_drewN ?_ _ | refine blk_drew ?_ | refine blk_alloc ?_ _)); refine blk_put (cs := #[.int .i64 a0, .int .i64 0, .int .i64 0, .int .i64 (rd l1 0), .int .i64 0, .int .i64 0, .int .i64 0, .bool false, .slice none 0 0]) ?_ 4 _ rfl; (with_reducible repeat (first | refine blk_drewN ?_ _ | refine blk_drew ?_ | refine blk_alloc ?_ _)); refine blk_put (cs := #[.int .i64 a0, .int .i64 0, .int .i64 0, .int .i64 0, .int .i64 0, .int .i64 0, .int .i64 0, .bool false, .slice none 0 0]) ?_ 3 _ rfl; (with_reducible repeat (first | refine blk_drewN ?_ _ | refine blk_drew ?_ | refine blk_alloc ?_ _)); refine blk_put (cs := #[.int .i64 a0, .int .i64 0, .int .i64 0, .int .i64 0, .int .i64 0, .int .i64 0, .int .i64 0, .bool false, .slice none 0 0]) ?_ 2 _ rfl; (with_reducible repeat (first | refine blk_drewN ?_ _ | refine blk_drew ?_ | refine blk_alloc ?_ _)); refine blk_put (cs := #[.int .i64 a0, .int .i64 0, .int .i64 0, .int .i64 0, .int .i64 0, .int .i64 0, .int .i64 0, .bool false, .slice none 0 0]) ?_ 1 _ rfl; (with_reducible repeat (first | refine blk_drewN ?_ _ | refine blk_drew ?_ | refine blk_alloc ?_ _)); refine blk_put (cs := #[.int .i64 0, .int .i64 0, .int .i64 0, .int .i64 0, .int .i64 0, .int .i64 0, .int .i64 0, .bool false, .slice none 0 0]) ?_ 0 _ rfl; (with_reducible repeat (first | refine blk_drewN ?_ _ | refine blk_drew ?_ | refine blk_alloc ?_ _)); refine blk_far ?_ NB162_163.out _; (with_reducible repeat (first | refine blk_drewN ?_ _ | refine blk_drew ?_ | refine blk_alloc ?_ _)); exact BK162.out) Try.underlying31 rfl (by kernel_rfl)) rfl ?_
                  exact ⟨_, by first | rfl | (simp [errW_none, errW_some] <;> rfl) | (simp [*, errW_none, errW_some] <;> rfl), by first | exact Kd.R_nil _ _ _ _ _ | exact Kd.N_nil _ _ _ _ _ | exact Kd.V_nil _ _ _ _ _ | exact Kd.Q_nil _ _ _ _ _ | exact Kd.S_nil _ _ _ _ _, by repeat (first | (with_reducible first | exact HB.out | apply below_alloc | apply pw_below_drewN | apply below_drew1 | refine below_set ?_ GE162.out | refine below_set ?_ GE163.out) | exact HB.out)⟩
                · rw [if_neg c48] at H
                  exact absurd H (by simp)
              · rw [if_neg c47] at H
                have c47b0 : (a0 == 5) = false := beq_eq_false_iff_ne.mpr c47
                have c47b1 : (a0 != 5) = true := bne_iff_ne.mpr c47
                by_cases c52 : a0 = 6
                · rw [if_pos c52] at H
                  have c52b0 : (a0 == 6) = true := beq_iff_eq.mpr c52
                  have c52b1 : (a0 != 6) = false := bne_eq_false_iff_eq.mpr c52
                  clear c52
                  by_cases c53 : 0 < (l1.length : Int)
                  · rw [if_pos c53] at H
                    have c53b0 : decide (0 < (l1.length : Int)) = true := decide_eq_true c53
                    have c53b1 : decide (0 < l1.length) = true := decide_eq_true (by omega)
                    clear c53
                    by_cases c54 : 1 < (l1.length : Int)
                    · rw [if_pos c54] at H
                      have c54b0 : decide (1 < (l1.length : Int)) = true := decide_eq_true c54
                      have c54b1 : decide (1 < l1.length) = true := decide_eq_true (by omega)
                      clear c54
                      have H' := Aside0.mk H
                      clear H
                      have p175 : 0 ≤ (0 : Int) := (by omega)
                      have q175 : 0 < (l1.length : Int) := of_decide_eq_true (by first | (with_reducible assumption) | assumption)
                      obtain ⟨ad175, e175, hx175_0⟩ := Kd.at_int HR1.out 0 p175 q175
                      cases e175
                      have qi175 : (0 < l1.length) = True := eq_true (by omega)
                      (try rw [show ((0 : Int)).toNat = 0 from rfl] at hx175_0)
                      (try rw [Addr.add_zero'] at hx175_0)
                      replace hx175_0 := (HB.out.cell (World.block_lt_of_cell? w _ hx175_0)).trans hx175_0
                      replace p175 := eq_true p175
                      replace q175 := eq_true q175
                      have hnb55 := NB163_162.out
                      have hnc55 := NB162_163.out
                      have hcz56_0 : wc.cell? ⟨gb163, 0, none⟩ = some (.int .i64 a0) := (blk_cell BK163.out 0).trans rfl
                      have hcz56_1 : wc.cell? ⟨gb163, 1, none⟩ = some (.int .i64 0) := (blk_cell BK163.out 1).trans rfl
                      have hcz56_2 : wc.cell? ⟨gb163, 2, none⟩ = some (.int .i64 0) := (blk_cell BK163.out 2).trans rfl
                      have hcz56_3 : wc.cell? ⟨gb163, 3, none⟩ = some (.int .i64 0) := (blk_cell BK163.out 3).trans rfl
                      have hcz56_4 : wc.cell? ⟨gb163, 4, none⟩ = some (.int .i64 0) := (blk_cell BK163.out 4).trans rfl
                      have hcz56_5 : wc.cell? ⟨gb163, 5, none⟩ = some (.int .i64 0) := (blk_cell BK163.out 5).trans rfl
                      have hcz56_6 : wc.cell? ⟨gb163, 6, none⟩ = some (.int .i64 0) := (blk_cell BK163.out 6).trans rfl
                      have hcz56_7 : wc.cell? ⟨gb163, 7, none⟩ = some (.bool false) := (blk_cell BK163.out 7).trans rfl
                      have hcz56_8 : wc.cell? ⟨gb163, 8, none⟩ = some (.slice none 0 0) := (blk_cell BK163.out 8).trans rfl
                      have hfz56_0 := blk_frozen BK163.out 0
                      have hfz56_1 := blk_frozen BK163.out 1
                      have hfz56_2 := blk_frozen BK163.out 2
                      have hfz56_3 := blk_frozen BK163.out 3
                      have hfz56_4 := blk_frozen BK163.out 4
                      have hfz56_5 := blk_frozen BK163.out 5
                      have hfz56_6 := blk_frozen BK163.out 6
                      have hfz56_7 := blk_frozen BK163.out 7
                      have hfz56_8 := blk_frozen BK163.out 8
                      have p176 : 0 ≤ (1 : Int) := (by omega)
                      have q176 : 1 < (l1.length : Int) := of_decide_eq_true (by first | (with_reducible assumption) | assumption)
                      obtain ⟨ad176, e176, hx176_0⟩ := Kd.at_int HR1.out 1 p176 q176
                      obtain rfl : ad175 = ad176 := (by injection e176)
                      (try simp only [show (1 : Int).toNat = 1 from rfl, Nat.reduceMul, Nat.reduceEqDiff, Go.Addr.add, ↓reduceIte] at hx176_0)
                      have qi176 : (1 < l1.length) = True := eq_true (by omega)
                      (try rw [show ((1 : Int)).toNat = 1 from rfl] at hx176_0)
                      have hn176_0 : ad175.block ≠ gb163 := Nat.ne_of_lt (Nat.lt_of_lt_of_le (by have := World.block_lt_of_cell? _ _ hx176_0; first | rwa [add_block] at this | exact this) GW163.out)
                      replace hx176_0 := (HB.out.cell (World.block_lt_of_cell? w _ hx176_0)).trans hx176_0
                      replace hx176_0 := (cell_far (p := ⟨gb163, 2, none⟩) (by first | (rw [add_block]; exact hn176_0) | (show (Addr.add _ _).block ≠ _; rw [add_block]; exact hn176_0) | exact hn176_0) (.int .i64 (wrap64 ((rd l1 0) - 1)))).trans hx176_0
                      clear hn176_0
                      replace p176 := eq_true p176
                      replace q176 := eq_true q176
                      go_wp2
                      go_loopg [6] kj17 (fun kq v6 w' => ∃ (x6_2 : Int) (x164008_2 : List (S67)) (u164008 : Value), v6 = .int .i64 x6_2 ∧ Aside0 (regattaref18_command.l0 kq l1 x6_2 a0 0 (wrap64 ((rd l1 0) - 1)) 0 (rd l1 1) 0 0 false x164008_2 = some (r1, r2, r3, r4, r5, r6, r7, r8, r9)) ∧ Aside0 (kq ≤ kj17) ∧ Aside0 (Kd.R k67 67 w' w.heap.size (fun _ => True) u164008 x164008_2) ∧ Aside0 (w'.heap[gb162]? = some (.cells #[.int .i64 0, .int .i64 0, .int .i64 0, .int .i64 0, .int .i64 0, .int .i64 0, .int .i64 0, .bool false, (.slice none 0 0)] 31 (0, 0))) ∧ Aside0 (w'.heap[gb163]? = some (.cells #[.int .i64 a0, .int .i64 0, .int .i64 (wrap64 ((rd l1 0) - 1)), .int .i64 0, .int .i64 (rd l1 1), .int .i64 0, .int .i64 0, .bool false, u164008] 31 (0, 0))) ∧ Aside0 (Below w.heap.size w w'))
                      case atStart => exact ⟨(3), (([] : List (S67))), (.slice none 0 0), (by first | rfl | (simp; done) | (simp [*]; done)), H', ⟨Nat.le_refl _⟩, ⟨by first | exact Kd.R_nil _ _ _ _ _ | exact Kd.N_nil _ _ _ _ _ | exact Kd.V_nil _ _ _ _ _ | exact Kd.Q_nil _ _ _ _ _ | exact Kd.S_nil _ _ _ _ _⟩, ⟨by (with_reducible repeat (first | refine blk_drewN ?_ _ | refine blk_drew ?_ | refine blk_alloc ?_ _)); refine blk_far ?_ NB162_163.out _; (with_reducible repeat (first | refine blk_drewN ?_ _ | refine blk_drew ?_ | refine blk_alloc ?_ _)); refine blk_far ?_ NB162_163.out _; (with_reducible repeat (first | refine blk_drewN ?_ _ | refine blk_drew ?_ | refine blk_alloc ?_ _)); exact BK162.out⟩, ⟨by (with_reducible repeat (first | refine blk_drewN ?_ _ | refine blk_drew ?_ | refine blk_alloc ?_ _)); refine blk_put (cs := #[.int .i64 a0, .int .i64 0, .int .i64 (wrap64 ((rd l1 0) - 1)), .int .i64 0, .int .i64 0, .int .i64 0, .int .i64 0, .bool false, .slice none 0 0]) ?_ 4 _ rfl; (with_reducible repeat (first | refine blk_drewN ?_ _ | refine blk_drew ?_ | refine blk_alloc ?_ _)); refine blk_put (cs := #[.int .i64 a0, .int .i64 0, .int .i64 0, .int .i64 0, .int .i64 0, .int .i64 0, .int .i64 0, .bool false, .slice none 0 0]) ?_ 2 _ rfl; (with_reducible repeat (first | refine blk_drewN ?_ _ | refine blk_drew ?_ | refine blk_alloc ?_ _)); exact BK163.out⟩, ⟨by repeat (first | (with_reducible first | exact HB.out | apply below_alloc | apply pw_below_drewN | apply below_drew1 | refine below_set ?_ GE162.out | refine below_set ?_ GE163.out) | exact HB.out)⟩⟩
                      case round =>
                        clear H'
                        try clear p1
                        try clear q1
                        try clear hx1
                        try clear qi1
                        try clear c2
                        try clear p2
                        try clear c3
                        try clear c4
                        try clear c5
                        try clear p6
                        try clear p16
                        try clear q16
                        try clear hx16
                        try clear qi16
                        try clear p17
                        try clear q17
                        try clear hx17
                        try clear qi17
                        try clear c24
                        try clear c25
                        try clear c25b0
                        try clear c25b1
                        try clear c26
                        try clear c29
                        try clear c29b0
                        try clear c29b1
                        try clear c30
                        try clear c30b0
                        try clear c30b1
                        try clear c31
                        try clear c31b0
                        try clear c31b1
                        try clear c32
                        try clear c32b0
                        try clear c32b1
                        try clear c33
                        try clear c41
                        try clear c41b0
                        try clear c41b1
                        try clear c42
                        try clear c42b0
                        try clear c42b1
                        try clear c43
                        try clear c43b0
                        try clear c43b1
                        try clear c44
                        try clear c47
                        try clear c47b0
                        try clear c47b1
                        try clear c48
                        try clear c48b0
                        try clear c48b1
                        try clear c49
                        try clear c52
                        try clear c52b0
                        try clear c52b1
                        try clear c53
                        try clear c53b0
                        try clear c53b1
                        try clear c54
                        try clear c54b0
                        try clear c54b1
                        try clear c55
                        try clear hcz16_7
                        try clear hcz16_8
                        try clear hcz17_0
                        try clear hcz17_1
                        try clear hcz17_2
                        try clear hcz17_3
                        try clear hcz17_4
                        try clear hcz17_5
                        try clear hcz17_6
                        try clear hcz17_7
                        try clear hcz17_8
                        try clear hcz22_0
                        try clear hcz22_1
                        try clear hcz22_2
                        try clear hcz22_3
                        try clear hcz22_4
                        try clear hcz22_5
                        try clear hcz22_6
                        try clear hcz22_7
                        try clear hcz22_8
                        try clear hcz27_0
                        try clear hcz27_1
                        try clear hcz27_2
                        try clear hcz27_3
                        try clear hcz27_4
                        try clear hcz27_5
                        try clear hcz27_6
                        try clear hcz27_7
                        try clear hcz27_8
                        try clear hcz28_0
                        try clear hcz28_1
                        try clear hcz28_2
                        try clear hcz28_3
                        try clear hcz28_4
                        try clear hcz28_5
                        try clear hcz28_6
                        try clear hcz28_7
                        try clear hcz28_8
                        try clear hcz34_0
                        try clear hcz34_1
                        try clear hcz34_2
                        try clear hcz34_3
                        try clear hcz34_4
                        try clear hcz34_5
                        try clear hcz34_6
                        try clear hcz34_7
                        try clear hcz34_8
                        try clear hcz39_0
                        try clear hcz39_1
                        try clear hcz39_2
                        try clear hcz39_3
                        try clear hcz39_4
                        try clear hcz39_5
                        try clear hcz39_6
                        try clear hcz39_7
                        try clear hcz39_8
                        try clear hcz40_0
                        try clear hcz40_1
                        try clear hcz40_2
                        try clear hcz40_3
                        try clear hcz40_4
                        try clear hcz40_5
                        try clear hcz40_6
                        try clear hcz40_7
                        try clear hcz40_8
                        try clear hcz45_0
                        try clear hcz45_1
                        try clear hcz45_2
                        try clear hcz45_3
                        try clear hcz45_4
                        try clear hcz45_5
                        try clear hcz45_6
                        try clear hcz45_7
                        try clear hcz45_8
                        try clear hcz46_0
                        try clear hcz46_1
                        try clear hcz46_2
                        try clear hcz46_3
                        try clear hcz46_4
                        try clear hcz46_5
                        try clear hcz46_6
                        try clear hcz46_7
                        try clear hcz46_8
                        try clear hcz50_0
                        try clear hcz50_1
                        try clear hcz50_2
                        try clear hcz50_3
                        try clear hcz50_4
                        try clear hcz50_5
                        try clear hcz50_6
                        try clear hcz50_7
                        try clear hcz50_8
                        try clear hcz51_0
                        try clear hcz51_1
                        try clear hcz51_2
                        try clear hcz51_3
                        try clear hcz51_4
                        try clear hcz51_5
                        try clear hcz51_6
                        try clear hcz51_7
                        try clear hcz51_8
                        try clear hcz56_0
                        try clear hcz56_1
                        try clear hcz56_2
                        try clear hcz56_3
                        try clear hcz56_4
                        try clear hcz56_5
                        try clear hcz56_6
                        try clear hcz56_7
                        try clear hcz56_8
                        try clear hfz11_0
                        try clear hfz11_1
                        try clear hfz11_2
                        try clear hfz11_3
                        try clear hfz11_4
                        try clear hfz11_5
                        try clear hfz11_6
                        try clear hfz11_7
                        try clear hfz11_8
                        try clear hfz16_0
                        try clear hfz16_1
                        try clear hfz16_2
                        try clear hfz16_3
                        try clear hfz16_4
                        try clear hfz16_5
                        try clear hfz16_6
                        try clear hfz16_7
                        try clear hfz16_8
                        try clear hfz17_0
                        try clear hfz17_1
                        try clear hfz17_2
                        try clear hfz17_3
                        try clear hfz17_4
                        try clear hfz17_5
                        try clear hfz17_6
                        try clear hfz17_7
                        try clear hfz17_8
                        try clear hfz22_0
                        try clear hfz22_1
                        try clear hfz22_2
                        try clear hfz22_3
                        try clear hfz22_4
                        try clear hfz22_5
                        try clear hfz22_6
                        try clear hfz22_7
                        try clear hfz22_8
                        try clear hfz27_0
                        try clear hfz27_1
                        try clear hfz27_2
                        try clear hfz27_3
                        try clear hfz27_4
                        try clear hfz27_5
                        try clear hfz27_6
                        try clear hfz27_7
                        try clear hfz27_8
                        try clear hfz28_0
                        try clear hfz28_1
                        try clear hfz28_2
                        try clear hfz28_3
                        try clear hfz28_4
                        try clear hfz28_5
                        try clear hfz28_6
                        try clear hfz28_7
                        try clear hfz28_8
                        try clear hfz34_0
                        try clear hfz34_1
                        try clear hfz34_2
                        try clear hfz34_3
                        try clear hfz34_4
                        try clear hfz34_5
                        try clear hfz34_6
                        try clear hfz34_7
                        try clear hfz34_8
                        try clear hfz39_0
                        try clear hfz39_1
                        try clear hfz39_2
                        try clear hfz39_3
                        try clear hfz39_4
                        try clear hfz39_5
                        try clear hfz39_6
                        try clear hfz39_7
                        try clear hfz39_8
                        try clear hfz40_0
                        try clear hfz40_1
                        try clear hfz40_2
                        try clear hfz40_3
                        try clear hfz40_4
                        try clear hfz40_5
                        try clear hfz40_6
                        try clear hfz40_7
                        try clear hfz40_8
                        try clear hfz45_0
                        try clear hfz45_1
                        try clear hfz45_2
                        try clear hfz45_3
                        try clear hfz45_4
                        try clear hfz45_5
                        try clear hfz45_6
                        try clear hfz45_7
                        try clear hfz45_8
                        try clear hfz46_0
                        try clear hfz46_1
                        try clear hfz46_2
                        try clear hfz46_3
                        try clear hfz46_4
                        try clear hfz46_5
                        try clear hfz46_6
                        try clear hfz46_7
                        try clear hfz46_8
                        try clear hfz50_0
                        try clear hfz50_1
                        try clear hfz50_2
                        try clear hfz50_3
                        try clear hfz50_4
                        try clear hfz50_5
                        try clear hfz50_6
                        try clear hfz50_7
                        try clear hfz50_8
                        try clear hfz51_0
                        try clear hfz51_1
                        try clear hfz51_2
                        try clear hfz51_3
                        try clear hfz51_4
                        try clear hfz51_5
                        try clear hfz51_6
                        try clear hfz51_7
                        try clear hfz51_8
                        try clear hfz56_0
                        try clear hfz56_1
                        try clear hfz56_2
                        try clear hfz56_3
                        try clear hfz56_4
                        try clear hfz56_5
                        try clear hfz56_6
                        try clear hfz56_7
                        try clear hfz56_8
                        try clear hx164_0
                        try clear hx165_0
                        try clear hx166_0
                        try clear hx167_0
                        try clear hx168_0
                        try clear hx169_0
                        try clear hx170_0
                        try clear hx171_0
                        try clear hx172_0
                        try clear hx173_0
                        try clear hx174_0
                        try clear hx175_0
                        try clear hx176_0
                        try clear p164
                        try clear p165
                        try clear p166
                        try clear p167
                        try clear p168
                        try clear p169
                        try clear p170
                        try clear p171
                        try clear p172
                        try clear p173
                        try clear p174
                        try clear p175
                        try clear p176
                        try clear q164
                        try clear q165
                        try clear q166
                        try clear q167
                        try clear q168
                        try clear q169
                        try clear q170
                        try clear q171
                        try clear q172
                        try clear q173
                        try clear q174
                        try clear q175
                        try clear q176
                        obtain ⟨x6_2, x164008_2, u164008, rfl, HA, HK2, HO_164008, BK162, BK163, HB⟩ := hrel
                        cases gk with
                        | zero => exact absurd HA.out (by simp [regattaref18_command.l0])
                        | succ k2 =>
                          have H := HA.out
                          clear HA
                          simp only [regattaref18_command.l0] at H
                          by_cases c57 : (wrap64 (x6_2 + 1)) < (l1.length : Int)
                          · rw [if_pos c57] at H
                            have c57b0 : decide ((wrap64 (x6_2 + 1)) < (l1.length : Int)) = true := decide_eq_true c57
                            clear c57
                            by_cases c58 : 0 ≤ x6_2
                            · rw [if_pos c58] at H
                              have c58b0 : decide (0 ≤ x6_2) = true := decide_eq_true c58
                              clear c58
                              by_cases c59 : x6_2 < (l1.length : Int)
                              · rw [if_pos c59] at H
                                have c59b0 : decide (x6_2 < (l1.length : Int)) = true := decide_eq_true c59
                                clear c59
                                obtain ⟨ji60, hji60⟩ : ∃ j_ : Int, (wrap64 (x6_2 + 1)) = j_ := ⟨_, rfl⟩
                                replace H : (if 0 ≤ (ji60) then (if x164008_2.length < 8796093022208 then (regattaref18_command.l0 k2 l1 (wrap64 (x6_2 + 2)) a0 0 (wrap64 ((rd l1 0) - 1)) 0 (rd l1 1) 0 0 false (x164008_2 ++ [(⟨rd l1 x6_2, rd l1 (ji60)⟩ : S67)])) else (none)) else (none)) = some (r1, r2, r3, r4, r5, r6, r7, r8, r9) := by first | (rw [hji60] at H; exact H) | (simp only [hji60] at H ⊢; exact H)
                                (try rw [hji60] at c57b0)
                                have hji60w : (IntKind.i64.wrap (x6_2 + 1)) = ji60 := (i64_w _).trans hji60
                                by_cases c61 : 0 ≤ (ji60)
                                · rw [if_pos c61] at H
                                  have c61b0 : decide (0 ≤ (ji60)) = true := decide_eq_true c61
                                  clear c61
                                  by_cases c62 : x164008_2.length < 8796093022208
                                  · rw [if_pos c62] at H
                                    have LMc62 := Aside0.mk c62
                                    clear c62
                                    obtain ⟨y179, hy179⟩ : ∃ y_ : List (S67), y_ = (x164008_2 ++ [(⟨rd l1 x6_2, rd l1 (ji60)⟩ : S67)]) := ⟨_, rfl⟩
                                    replace H : (regattaref18_command.l0 k2 l1 (wrap64 (x6_2 + 2)) a0 0 (wrap64 ((rd l1 0) - 1)) 0 (rd l1 1) 0 0 false y179) = some (r1, r2, r3, r4, r5, r6, r7, r8, r9) := by first | (rw [hy179]; with_reducible exact H) | (have H2_ := (Option.bind_some _ _).symm.trans H; rw [hy179]; with_reducible exact H2_) | (have H2_ := (Option.bind_some _ _).symm.trans H; with_reducible exact H2_) | with_reducible exact H | (rw [hy179]; exact H) | exact H
                                    have Ny179 := Aside0.mk hy179
                                    clear hy179
                                    have H' := Aside0.mk H
                                    clear H
                                    try go_wp2
                                    have n0_ := Aside0.mk (Kd.R_drew HO_164008.out)
                                    have n1_ := Aside0.mk (blk_drew BK162.out)
                                    have n2_ := Aside0.mk (blk_drew BK163.out)
                                    have n3_ := Aside0.mk (below_drew1 HB.out)
                                    clear HO_164008
                                    clear BK162
                                    clear BK163
                                    clear HB
                                    have HO_164008 := n0_
                                    have BK162 := n1_
                                    have BK163 := n2_
                                    have HB := n3_
                                    clear n0_ n1_ n2_ n3_
                                    have p177 : 0 ≤ (x6_2 : Int) := of_decide_eq_true (by first | (with_reducible assumption) | assumption)
                                    have q177 : x6_2 < (l1.length : Int) := of_decide_eq_true (by first | (with_reducible assumption) | assumption)
                                    obtain ⟨ad177, e177, hx177_0⟩ := Kd.at_int HR1.out x6_2 p177 q177
                                    have hw177_0 := hx177_0
                                    obtain rfl : ad175 = ad177 := (by injection e177)
                                    replace hx177_0 := (HB.out.cell (World.block_lt_of_cell? w _ hx177_0)).trans hx177_0
                                    replace p177 := eq_true p177
                                    replace q177 := eq_true q177
                                    have p178 : 0 ≤ ((ji60) : Int) := of_decide_eq_true (by first | (with_reducible assumption) | assumption)
                                    have q178 : (ji60) < (l1.length : Int) := of_decide_eq_true (by first | (with_reducible assumption) | assumption)
                                    obtain ⟨ad178, e178, hx178_0⟩ := Kd.at_int HR1.out (ji60) p178 q178
                                    have hw178_0 := hx178_0
                                    obtain rfl : ad175 = ad178 := (by injection e178)
                                    replace hx178_0 := (HB.out.cell (World.block_lt_of_cell? w _ hx178_0)).trans hx178_0
                                    replace p178 := eq_true p178
                                    replace q178 := eq_true q178
                                    refine start_ (n := 16) (S := fun w' => w'.cell? ⟨gb163, 0, none⟩ = some (.int .i64 a0) ∧ w'.cell? ⟨gb163, 1, none⟩ = some (.int .i64 0) ∧ w'.cell? ⟨gb163, 2, none⟩ = some (.int .i64 (wrap64 ((rd l1 0) - 1))) ∧ w'.cell? ⟨gb163, 3, none⟩ = some (.int .i64 0) ∧ w'.cell? ⟨gb163, 4, none⟩ = some (.int .i64 (rd l1 1)) ∧ w'.cell? ⟨gb163, 5, none⟩ = some (.int .i64 0) ∧ w'.cell? ⟨gb163, 6, none⟩ = some (.int .i64 0) ∧ w'.cell? ⟨gb163, 7, none⟩ = some (.bool false) ∧ w'.cell? ⟨gb163, 8, none⟩ = some (u164008) ∧ w'.cell? (ad175.add (x6_2).toNat) = some (.int .i64 (rd l1 x6_2)) ∧ w'.cell? (ad175.add ((ji60)).toNat) = some (.int .i64 (rd l1 (ji60)))) (ds := [15]) #[false, false, false, false, false, false, false, false, false, false, false, false, false, false, false, false] (by kernel_rfl) rfl rfl ⟨(blk_cell BK163.out 0).trans rfl, (blk_cell BK163.out 1).trans rfl, (blk_cell BK163.out 2).trans rfl, (blk_cell BK163.out 3).trans rfl, (blk_cell BK163.out 4).trans rfl, (blk_cell BK163.out 5).trans rfl, (blk_cell BK163.out 6).trans rfl, (blk_cell BK163.out 7).trans rfl, (blk_cell BK163.out 8).trans rfl, ((HB.out.cell (World.block_lt_of_cell? w _ hw177_0)).trans hw177_0), ((HB.out.cell (World.block_lt_of_cell? w _ hw178_0)).trans hw178_0)⟩ (fun hHeld => ?_); refine with_tabW regattaref18_command.tab24 regattaref18_command.bits24 (fun HT_ HW_ => ?_)
                                    generalize wr.drew = w63 at HO_164008 BK162 BK163 HB hx177_0 hx178_0 hHeld ⊢
                                    refine pure_ (i := 0) (N := some 85) (v := ?_) (a' := ?_) #[true, false, false, false, false, false, false, false, false, false, false, false, false, false, false, false] rfl rfl (any_of HT_.out (by kernel_rfl)) (fun _ _ _ h => h) (Or.inl ⟨by rfl, ?_⟩) ?_ ?_
                                    rotate_left
                                    · intro w'
                                      go_simp
                                      with_reducible rfl
                                    rotate_left
                                    · simp only [Act.put, List.setIfInBounds_toArray, List.set_cons_zero, List.set_cons_succ, i64_w, i32_w]
                                      rfl
                                    refine pure_ (i := 2) (N := some 87) (v := ?_) (a' := ?_) #[true, false, true, false, false, false, false, false, false, false, false, false, false, false, false, false] rfl rfl (any_of HT_.out (by kernel_rfl)) (fun _ _ _ h => h) (Or.inl ⟨by rfl, ?_⟩) ?_ ?_
                                    rotate_left
                                    · intro w'
                                      go_simp
                                      with_reducible rfl
                                    rotate_left
                                    · simp only [Act.put, List.setIfInBounds_toArray, List.set_cons_zero, List.set_cons_succ, i64_w, i32_w]
                                      rfl
                                    refine pure_ (i := 3) (N := some 88) (v := ?_) (a' := ?_) #[true, false, true, true, false, false, false, false, false, false, false, false, false, false, false, false] rfl rfl (any_of HT_.out (by kernel_rfl)) (fun _ _ _ h => h) (Or.inl ⟨by rfl, ?_⟩) ?_ ?_
                                    rotate_left
                                    · intro w'
                                      go_simp
                                      with_reducible rfl
                                    rotate_left
                                    · simp only [Act.put, List.setIfInBounds_toArray, List.set_cons_zero, List.set_cons_succ, i64_w, i32_w]
                                      rfl
                                    refine pure_ (i := 4) (N := some 89) (v := ?_) (a' := ?_) #[true, false, true, true, true, false, false, false, false, false, false, false, false, false, false, false] rfl rfl (any_of HT_.out (by kernel_rfl)) (fun _ _ _ h => h) (Or.inl ⟨by rfl, ?_⟩) ?_ ?_
                                    rotate_left
                                    · intro w'
                                      go_simp
                                      with_reducible rfl
                                    rotate_left
                                    · simp only [Act.put, List.setIfInBounds_toArray, List.set_cons_zero, List.set_cons_succ, i64_w, i32_w]
                                      rfl
                                    refine pure_ (i := 6) (N := some 91) (v := ?_) (a' := ?_) #[true, false, true, true, true, false, true, false, false, false, false, false, false, false, false, false] rfl rfl (any_of HT_.out (by kernel_rfl)) (fun _ _ _ h => h) (Or.inl ⟨by rfl, ?_⟩) ?_ ?_
                                    rotate_left
                                    · intro w'
                                      go_simp
                                      with_reducible rfl
                                    rotate_left
                                    · simp only [Act.put, List.setIfInBounds_toArray, List.set_cons_zero, List.set_cons_succ, i64_w, i32_w]
                                      rfl
                                    refine pure_ (i := 7) (N := some 92) (v := ?_) (a' := ?_) #[true, false, true, true, true, false, true, true, false, false, false, false, false, false, false, false] rfl rfl (any_of HT_.out (by kernel_rfl)) (fun _ _ _ h => h) (Or.inl ⟨by rfl, ?_⟩) ?_ ?_
                                    rotate_left
                                    · intro w'
                                      go_simp
                                      with_reducible rfl
                                    rotate_left
                                    · simp only [Act.put, List.setIfInBounds_toArray, List.set_cons_zero, List.set_cons_succ, i64_w, i32_w]
                                      rfl
                                    refine pure_ (i := 8) (N := some 93) (v := ?_) (a' := ?_) #[true, false, true, true, true, false, true, true, true, false, false, false, false, false, false, false] rfl rfl (any_of HT_.out (by kernel_rfl)) (fun _ _ _ h => h) (Or.inl ⟨by rfl, ?_⟩) ?_ ?_
                                    rotate_left
                                    · intro w'
                                      go_simp
                                      with_reducible rfl
                                    rotate_left
                                    · simp only [Act.put, List.setIfInBounds_toArray, List.set_cons_zero, List.set_cons_succ, i64_w, i32_w]
                                      rfl
                                    refine pure_ (i := 9) (N := some 94) (v := ?_) (a' := ?_) #[true, false, true, true, true, false, true, true, true, true, false, false, false, false, false, false] rfl rfl (any_of HT_.out (by kernel_rfl)) (fun _ _ _ h => h) (Or.inl ⟨by rfl, ?_⟩) ?_ ?_
                                    rotate_left
                                    · intro w'
                                      go_simp
                                      with_reducible rfl
                                    rotate_left
                                    · simp only [Act.put, List.setIfInBounds_toArray, List.set_cons_zero, List.set_cons_succ, i64_w, i32_w]
                                      rfl
                                    refine take_ (i := 1) (N := some 86) (v := ?_) (a' := ?_) #[true, true, true, true, true, false, true, true, true, true, false, false, false, false, false, false] rfl rfl (take_ofW HT_.out HW_.out (by kernel_rfl)) (fun _ _ _ h => h) (Or.inl ⟨by rfl, ?_⟩) hHeld ?_ ?_
                                    rotate_left
                                    · rintro w' ⟨s0, s1, s2, s3, s4, s5, s6, s7, s8, s9, s10⟩
                                      go_simp
                                      with_reducible rfl
                                    rotate_left
                                    · simp only [Act.put, List.setIfInBounds_toArray, List.set_cons_zero, List.set_cons_succ, i64_w, i32_w]
                                      rfl
                                    refine take_ (i := 5) (N := some 90) (v := ?_) (a' := ?_) #[true, true, true, true, true, true, true, true, true, true, false, false, false, false, false, false] rfl rfl (take_ofW HT_.out HW_.out (by kernel_rfl)) (fun _ _ _ h => h) (Or.inl ⟨by rfl, ?_⟩) hHeld ?_ ?_
                                    rotate_left
                                    · rintro w' ⟨s0, s1, s2, s3, s4, s5, s6, s7, s8, s9, s10⟩
                                      go_simp
                                      with_reducible rfl
                                    rotate_left
                                    · simp only [Act.put, List.setIfInBounds_toArray, List.set_cons_zero, List.set_cons_succ, i64_w, i32_w]
                                      rfl
                                    refine take_ (i := 10) (N := some 95) (v := ?_) (a' := ?_) #[true, true, true, true, true, true, true, true, true, true, true, false, false, false, false, false] rfl rfl (take_ofW HT_.out HW_.out (by kernel_rfl)) (fun _ _ _ h => h) (Or.inl ⟨by rfl, ?_⟩) hHeld ?_ ?_
                                    rotate_left
                                    · rintro w' ⟨s0, s1, s2, s3, s4, s5, s6, s7, s8, s9, s10⟩
                                      go_simp
                                      with_reducible rfl
                                    rotate_left
                                    · simp only [Act.put, List.setIfInBounds_toArray, List.set_cons_zero, List.set_cons_succ, i64_w, i32_w]
                                      rfl
                                    refine pure_ (i := 11) (N := some 96) (v := ?_) (a' := ?_) #[true, true, true, true, true, true, true, true, true, true, true, true, false, false, false, false] rfl rfl (any_of HT_.out (by kernel_rfl)) (fun _ _ _ h => h) (Or.inl ⟨by rfl, ?_⟩) ?_ ?_
                                    rotate_left
                                    · intro w'
                                      go_simp
                                      with_reducible rfl
                                    rotate_left
                                    · simp only [Act.put, List.setIfInBounds_toArray, List.set_cons_zero, List.set_cons_succ, i64_w, i32_w]
                                      rfl
                                    refine one_ (i := 12) (N := some 97) #[true, true, true, true, true, true, true, true, true, true, true, true, true, false, false, false] rfl rfl (one_of HT_.out (by kernel_rfl)) (by decide) (fun K hK => ?_)
                                    refine value_ (w1 := ?_) (v := ?_) (by rfl) rfl ?_ ?_
                                    rotate_left 2
                                    · go_simp
                                      constructor
                                      · rfl
                                      · rfl
                                    refine hK.out _ _ ⟨(blk_cell (blk_alloc BK163.out _) 0).trans rfl, (blk_cell (blk_alloc BK163.out _) 1).trans rfl, (blk_cell (blk_alloc BK163.out _) 2).trans rfl, (blk_cell (blk_alloc BK163.out _) 3).trans rfl, (blk_cell (blk_alloc BK163.out _) 4).trans rfl, (blk_cell (blk_alloc BK163.out _) 5).trans rfl, (blk_cell (blk_alloc BK163.out _) 6).trans rfl, (blk_cell (blk_alloc BK163.out _) 7).trans rfl, (blk_cell (blk_alloc BK163.out _) 8).trans rfl, (World.cell?_alloc_lt _ _ _ (World.block_lt_of_cell? _ _ (((HB.out.cell (World.block_lt_of_cell? w _ hw177_0)).trans hw177_0)))).trans (((HB.out.cell (World.block_lt_of_cell? w _ hw177_0)).trans hw177_0)), (World.cell?_alloc_lt _ _ _ (World.block_lt_of_cell? _ _ (((HB.out.cell (World.block_lt_of_cell? w _ hw178_0)).trans hw178_0)))).trans (((HB.out.cell (World.block_lt_of_cell? w _ hw178_0)).trans hw178_0))⟩ (fun hHeld => ?_)
                                    clear hK K
                                    refine norm_ (a' := ?_) ?_ ?_
                                    rotate_left
                                    · show Act.put _ (some 97) _ = _
                                      simp only [Act.put, List.setIfInBounds_toArray, List.set_cons_zero, List.set_cons_succ, i64_w, i32_w]
                                      rfl
                                    refine one_ (i := 13) (N := some 98) #[true, true, true, true, true, true, true, true, true, true, true, true, true, true, false, false] rfl rfl (one_of HT_.out (by kernel_rfl)) (by decide) (fun K hK => ?_)
                                    refine Kd.R_append_step k67 (w0 := w) w.heap.size (by rfl) (.tmp 86) (.tmp 97) 29 67 (.agg #[(.int .i64 0), (.int .i64 0)]) 16 rfl Try.underlying29 info67 rfl (by decide) (by omega) u164008 x164008_2 (⟨rd l1 x6_2, rd l1 (ji60)⟩ : S67) [.int .i64 (rd l1 x6_2), .int .i64 (rd l1 (ji60))] (fun _ => True) (fun _ => False) rfl rfl ?aP (fun _ hk => hk.elim) ?aF ?aO ?aB ?aS ?aL ?_
                                    (case aP => exact k67_mkM _ _ _ (⟨rd l1 x6_2, rd l1 (ji60)⟩ : S67))
                                    (case aB => exact (by repeat (first | (with_reducible first | exact HB.out | apply below_alloc | apply pw_below_drewN | apply below_drew1 | refine below_set ?_ GE162.out | refine below_set ?_ GE163.out) | exact HB.out)))
                                    (case aF => exact (fun _ _ => trivial))
                                    (case aO => exact (by (with_reducible repeat (first | apply Kd.R_alloc | apply Kd.R_drewN | apply Kd.R_drew)); exact HO_164008.out))
                                    (case aS => exact (below_size (by repeat (first | (with_reducible first | exact HB.out | apply below_alloc | apply pw_below_drewN | apply below_drew1 | refine below_set ?_ GE162.out | refine below_set ?_ GE163.out) | exact HB.out))))
                                    (case aL => have := LMc62.out; omega)
                                    intro v180 w64 ho hb hg hat
                                    rw [← Ny179.out] at ho
                                    have n0_ := Aside0.mk (blk_grown (g := gb162) (o := .cells #[.int .i64 0, .int .i64 0, .int .i64 0, .int .i64 0, .int .i64 0, .int .i64 0, .int .i64 0, .bool false, .slice none 0 0] 31 (0, 0)) (by (with_reducible repeat (first | refine blk_drewN ?_ _ | refine blk_drew ?_ | refine blk_alloc ?_ _)); exact BK162.out) hg (Kd.R_ne HO_164008.out BK162.out (by decide)))
                                    have n1_ := Aside0.mk (blk_grown (g := gb163) (o := .cells #[.int .i64 a0, .int .i64 0, .int .i64 (wrap64 ((rd l1 0) - 1)), .int .i64 0, .int .i64 (rd l1 1), .int .i64 0, .int .i64 0, .bool false, u164008] 31 (0, 0)) (by (with_reducible repeat (first | refine blk_drewN ?_ _ | refine blk_drew ?_ | refine blk_alloc ?_ _)); exact BK163.out) hg (Kd.R_ne HO_164008.out BK163.out (by decide)))
                                    have n2_ := Aside0.mk (hb)
                                    have n3_ := Aside0.mk (ho)
                                    clear BK162
                                    clear BK163
                                    clear HB
                                    clear HO_164008
                                    have BK162 := n0_
                                    have BK163 := n1_
                                    have HB := n2_
                                    have HO181 := n3_
                                    clear n0_ n1_ n2_ n3_
                                    clear ho hb hg hat
                                    obtain ⟨Ao65, co65, eo65⟩ := Kd.R_slice HO181.out
                                    (first | subst eo65 | (injection eo65 with f1_ f2_ f3_; have f4_ := f1_.symm; have f5_ := f3_.symm; clear f1_ f2_ f3_; subst f4_; subst f5_))
                                    refine hK.out _ _ ⟨(blk_cell BK163.out 0).trans rfl, (blk_cell BK163.out 1).trans rfl, (blk_cell BK163.out 2).trans rfl, (blk_cell BK163.out 3).trans rfl, (blk_cell BK163.out 4).trans rfl, (blk_cell BK163.out 5).trans rfl, (blk_cell BK163.out 6).trans rfl, (blk_cell BK163.out 7).trans rfl, (blk_cell BK163.out 8).trans rfl, ((HB.out.cell (World.block_lt_of_cell? w _ hw177_0)).trans hw177_0), ((HB.out.cell (World.block_lt_of_cell? w _ hw178_0)).trans hw178_0)⟩ (fun hHeld => ?_)
                                    clear hK K
                                    refine norm_ (a' := ?_) ?_ ?_
                                    rotate_left
                                    · show Act.put _ (some 98) _ = _
                                      simp only [Act.put, List.setIfInBounds_toArray, List.set_cons_zero, List.set_cons_succ, i64_w, i32_w]
                                      rfl
                                    refine pure_ (i := 14) (N := some 99) (v := ?_) (a' := ?_) #[true, true, true, true, true, true, true, true, true, true, true, true, true, true, true, false] rfl rfl (any_of HT_.out (by kernel_rfl)) (fun _ _ _ h => h) (Or.inl ⟨by rfl, ?_⟩) ?_ ?_
                                    rotate_left
                                    · intro w'
                                      go_simp
                                      with_reducible rfl
                                    rotate_left
                                    · simp only [Act.put, List.setIfInBounds_toArray, List.set_cons_zero, List.set_cons_succ, i64_w, i32_w]
                                      rfl
                                    refine last_ (i := 15) (N := none) #[true, true, true, true, true, true, true, true, true, true, true, true, true, true, true, true] rfl rfl (one_of HT_.out (by kernel_rfl)) (by decide) (fun K hK => ?_)
                                    have hs66 : w64.cell? ⟨gb163, 8, none⟩ = some (u164008) := (blk_cell BK163.out 8).trans rfl
                                    have hfs66 := blk_frozen BK163.out 8
                                    have hns66_0 := NB162_163.out
                                    have hms66_0 := NB163_162.out
                                    refine skip_ (w1 := ?_) (by rfl) rfl ?_ ?_
                                    rotate_left
                                    · go_simp
                                      rfl
                                    refine hK.out _ _ ?_
                                    clear hK K
                                    refine done_ (done_of HT_.out (by kernel_rfl)) ?_
                                    try go_wp2
                                    go_roundg k2
                                    case measure => have := HJ17.out; have := HK2.out; omega
                                    case rel => exact ⟨(wrap64 (x6_2 + 2)), (y179), (.slice Ao65 y179.length co65), (by first | rfl | (simp; done) | (simp [*]; done)), H', ⟨by have := HJ17.out; have := HK2.out; omega⟩, ⟨by (with_reducible repeat (first | apply Kd.R_alloc | apply Kd.R_drewN | apply Kd.R_drew)); exact Kd.R_mono (Kd.R_far (p := ⟨gb163, 8, none⟩) (Kd.R_types HO181.out BK163.out (by decide)) (fun _ hk => hk.2) (.slice Ao65 y179.length co65)) (fun _ hk => trivial)⟩, ⟨by (with_reducible repeat (first | refine blk_drewN ?_ _ | refine blk_drew ?_ | refine blk_alloc ?_ _)); refine blk_far ?_ NB162_163.out _; (with_reducible repeat (first | refine blk_drewN ?_ _ | refine blk_drew ?_ | refine blk_alloc ?_ _)); exact BK162.out⟩, ⟨by (with_reducible repeat (first | refine blk_drewN ?_ _ | refine blk_drew ?_ | refine blk_alloc ?_ _)); refine blk_put (cs := #[.int .i64 a0, .int .i64 0, .int .i64 (wrap64 ((rd l1 0) - 1)), .int .i64 0, .int .i64 (rd l1 1), .int .i64 0, .int .i64 0, .bool false, u164008]) ?_ 8 _ rfl; (with_reducible repeat (first | refine blk_drewN ?_ _ | refine blk_drew ?_ | refine blk_alloc ?_ _)); exact BK163.out⟩, ⟨by repeat (first | (with_reducible first | exact HB.out | apply below_alloc | apply pw_below_drewN | apply below_drew1 | refine below_set ?_ GE162.out | refine below_set ?_ GE163.out) | exact HB.out)⟩⟩
                                  · rw [if_neg c62] at H
                                    exact absurd H (by simp)
                                · rw [if_neg c61] at H
                                  exact absurd H (by simp)
                              · rw [if_neg c59] at H
                                exact absurd H (by simp)
                            · rw [if_neg c58] at H
                              exact absurd H (by simp)
                          · rw [if_neg c57] at H
                            have c57b0 : decide ((wrap64 (x6_2 + 1)) < (l1.length : Int)) = false := decide_eq_false c57
                            clear c57
                            simp only [Option.some.injEq, Prod.mk.injEq] at H
                            obtain ⟨rfl, rfl, rfl, rfl, rfl, rfl, rfl, rfl, rfl⟩ := H
                            have hnb67 := NB163_162.out
                            have hnc67 := NB162_163.out
                            have hcz68_0 : wr.cell? ⟨gb163, 0, none⟩ = some (.int .i64 a0) := (blk_cell BK163.out 0).trans rfl
                            have hcz68_1 : wr.cell? ⟨gb163, 1, none⟩ = some (.int .i64 0) := (blk_cell BK163.out 1).trans rfl
                            have hcz68_2 : wr.cell? ⟨gb163, 2, none⟩ = some (.int .i64 (wrap64 ((rd l1 0) - 1))) := (blk_cell BK163.out 2).trans rfl
                            have hcz68_3 : wr.cell? ⟨gb163, 3, none⟩ = some (.int .i64 0) := (blk_cell BK163.out 3).trans rfl
                            have hcz68_4 : wr.cell? ⟨gb163, 4, none⟩ = some (.int .i64 (rd l1 1)) := (blk_cell BK163.out 4).trans rfl
                            have hcz68_5 : wr.cell? ⟨gb163, 5, none⟩ = some (.int .i64 0) := (blk_cell BK163.out 5).trans rfl
                            have hcz68_6 : wr.cell? ⟨gb163, 6, none⟩ = some (.int .i64 0) := (blk_cell BK163.out 6).trans rfl
                            have hcz68_7 : wr.cell? ⟨gb163, 7, none⟩ = some (.bool false) := (blk_cell BK163.out 7).trans rfl
                            have hcz68_8 : wr.cell? ⟨gb163, 8, none⟩ = some (u164008) := (blk_cell BK163.out 8).trans rfl
                            have hfz68_0 := blk_frozen BK163.out 0
                            have hfz68_1 := blk_frozen BK163.out 1
                            have hfz68_2 := blk_frozen BK163.out 2
                            have hfz68_3 := blk_frozen BK163.out 3
                            have hfz68_4 := blk_frozen BK163.out 4
                            have hfz68_5 := blk_frozen BK163.out 5
                            have hfz68_6 := blk_frozen BK163.out 6
                            have hfz68_7 := blk_frozen BK163.out 7
                            have hfz68_8 := blk_frozen BK163.out 8
                            have hcz69_0 : wr.cell? ⟨gb162, 0, none⟩ = some (.int .i64 0) := (blk_cell BK162.out 0).trans rfl
                            have hcz69_1 : wr.cell? ⟨gb162, 1, none⟩ = some (.int .i64 0) := (blk_cell BK162.out 1).trans rfl
                            have hcz69_2 : wr.cell? ⟨gb162, 2, none⟩ = some (.int .i64 0) := (blk_cell BK162.out 2).trans rfl
                            have hcz69_3 : wr.cell? ⟨gb162, 3, none⟩ = some (.int .i64 0) := (blk_cell BK162.out 3).trans rfl
                            have hcz69_4 : wr.cell? ⟨gb162, 4, none⟩ = some (.int .i64 0) := (blk_cell BK162.out 4).trans rfl
                            have hcz69_5 : wr.cell? ⟨gb162, 5, none⟩ = some (.int .i64 0) := (blk_cell BK162.out 5).trans rfl
                            have hcz69_6 : wr.cell? ⟨gb162, 6, none⟩ = some (.int .i64 0) := (blk_cell BK162.out 6).trans rfl
                            have hcz69_7 : wr.cell? ⟨gb162, 7, none⟩ = some (.bool false) := (blk_cell BK162.out 7).trans rfl
                            have hcz69_8 : wr.cell? ⟨gb162, 8, none⟩ = some (.slice none 0 0) := (blk_cell BK162.out 8).trans rfl
                            have hfz69_0 := blk_frozen BK162.out 0
                            have hfz69_1 := blk_frozen BK162.out 1
                            have hfz69_2 := blk_frozen BK162.out 2
                            have hfz69_3 := blk_frozen BK162.out 3
                            have hfz69_4 := blk_frozen BK162.out 4
                            have hfz69_5 := blk_frozen BK162.out 5
                            have hfz69_6 := blk_frozen BK162.out 6
                            have hfz69_7 := blk_frozen BK162.out 7
                            have hfz69_8 := blk_frozen BK162.out 8
                            obtain ⟨Ao70, co70, eo70⟩ := Kd.R_slice HO_164008.out
                            subst eo70
                            go_wp2
                            refine bodyPost_ret (results_cell_row rfl _ _ gb162 31 #[.int .i64 a0, .int .i64 0, .int .i64 (wrap64 ((rd l1 0) - 1)), .int .i64 0, .int .i64 (rd l1 1), .int .i64 0, .int .i64 0, .bool false, .slice Ao70 x164008_2.length co70] (0, 0) _ rfl (by (with_reducible repeat (first | refine blk_drewN ?_ _ | refine blk_drew ?_ | refine blk_alloc ?_ _)); refine blk_put (cs := #[.int .i64 a0, .int .i64 0, .int .i64 (wrap64 ((rd l1 0) - 1)), .int .i64 0, .int .i64 (rd l1 1), .int .i64 0, .int .i64 0, .bool false, .slice none 0 0]) ?_ 8 _ rfl; (with_reducible repeat (first | refine blk_drewN ?_ _ | refine blk_drew ?_ | refine blk_alloc ?_ _)); refine blk_put (cs := #[.int .i64 a0, .int .i64 0, .int .i64 (wrap64 ((rd l1 0) - 1)), .int .i64 0, .int .i64 (rd l1 1), .int .i64 0, .int .i64 0, .bool false, .slice none 0 0]) ?_ 7 _ rfl; (with_reducible repeat (first | refine blk_drewN ?_ _ | refine blk_drew ?_ | refine blk_alloc ?_ _)); refine blk_put (cs := #[.int .i64 a0, .int .i64 0, .int .i64 (wrap64 ((rd l1 0) - 1)), .int .i64 0, .int .i64 (rd l1 1), .int .i64 0, .int .i64 0, .bool false, .slice none 0 0]) ?_ 6 _ rfl; (with_reducible repeat (first | refine blk_drewN ?_ _ | refine blk_drew ?_ | refine blk_alloc ?_ _)); refine blk_put (cs := #[.int .i64 a0, .int .i64 0, .int .i64 (wrap64 ((rd l1 0) - 1)), .int .i64 0, .int .i64 (rd l1 1), .int .i64 0, .int .i64 0, .bool false, .slice none 0 0]) ?_ 5 _ rfl; (with_reducible repeat (first | refine blk_drewN ?_ _ | refine blk_drew ?_ | refine blk_alloc ?_ _)); refine blk_put (cs := #[.int .i64 a0, .int .i64 0, .int .i64 (wrap64 ((rd l1 0) - 1)), .int .i64 0, .int .i64 0, .int .i64 0, .int .i64 0, .bool false, .slice none 0 0]) ?_ 4 _ rfl; (with_reducible repeat (first | refine blk_drewN ?_ _ | refine blk_drew ?_ | refine blk_alloc ?_ _)); refine blk_put (cs := #[.int .i64 a0, .int .i64 0, .int .i64 (wrap64 ((rd l1 0) - 1)), .int .i64 0, .int .i64 0, .int .i64 0, .int .i64 0, .bool false, .slice none 0 0]) ?_ 3 _ rfl; (with_reducible repeat (first | refine blk_drewN ?_ _ | refine blk_drew ?_ | refine blk_alloc ?_ _)); refine blk_put (cs := #[.int .i64 a0, .int .i64 0, .int .i64 0, .int .i64 0, .int .i64 0, .int .i64 0, .int .i64 0, .bool false, .slice none 0 0]) ?_ 2 _ rfl; (with_reducible repeat (first | refine blk_drewN ?_ _ | refine blk_drew ?_ | refine blk_alloc ?_ _)); refine blk_put (cs := #[.int .i64 a0, .int .i64 0, .int .i64 0, .int .i64 0, .int .i64 0, .int .i64 0, .int .i64 0, .bool false, .slice none 0 0]) ?_ 1 _ rfl; (with_reducible repeat (first | refine blk_drewN ?_ _ | refine blk_drew ?_ | refine blk_alloc ?_ _)); refine blk_put (cs := #[.int .i64 0, .int .i64 0, .int .i64 0, .int .i64 0, .int .i64 0, .int .i64 0, .int .i64 0, .bool false, .slice none 0 0]) ?_ 0 _ rfl; (with_reducible repeat (first | refine blk_drewN ?_ _ | refine blk_drew ?_ | refine blk_alloc ?_ _)); exact BK162.out) Try.underlying31 rfl (by kernel_rfl)) rfl ?_
                            exact ⟨_, by first | rfl | (simp [errW_none, errW_some] <;> rfl) | (simp [*, errW_none, errW_some] <;> rfl), by (with_reducible repeat (first | apply Kd.R_alloc | apply Kd.R_drewN | apply Kd.R_drew)); exact Kd.R_mono (Kd.R_far (p := ⟨gb162, 8, none⟩) (Kd.R_far (p := ⟨gb162, 7, none⟩) (Kd.R_far (p := ⟨gb162, 6, none⟩) (Kd.R_far (p := ⟨gb162, 5, none⟩) (Kd.R_far (p := ⟨gb162, 4, none⟩) (Kd.R_far (p := ⟨gb162, 3, none⟩) (Kd.R_far (p := ⟨gb162, 2, none⟩) (Kd.R_far (p := ⟨gb162, 1, none⟩) (Kd.R_far (p := ⟨gb162, 0, none⟩) (Kd.R_types HO_164008.out BK162.out (by decide)) (fun _ hk => hk.2) (.int .i64 a0)) (fun _ hk => hk.2) (.int .i64 0)) (fun _ hk => hk.2) (.int .i64 (wrap64 ((rd l1 0) - 1)))) (fun _ hk => hk.2) (.int .i64 0)) (fun _ hk => hk.2) (.int .i64 (rd l1 1))) (fun _ hk => hk.2) (.int .i64 0)) (fun _ hk => hk.2) (.int .i64 0)) (fun _ hk => hk.2) (.bool false)) (fun _ hk => hk.2) (.slice Ao70 x164008_2.length co70)) (fun _ hk => trivial), by repeat (first | (with_reducible first | exact HB.out | apply below_alloc | apply pw_below_drewN | apply below_drew1 | refine below_set ?_ GE162.out | refine below_set ?_ GE163.out) | exact HB.out)⟩
                    · rw [if_neg c54] at H
                      exact absurd H (by simp)
                  · rw [if_neg c53] at H
                    exact absurd H (by simp)
                · rw [if_neg c52] at H
                  have c52b0 : (a0 == 6) = false := beq_eq_false_iff_ne.mpr c52
                  have c52b1 : (a0 != 6) = true := bne_iff_ne.mpr c52
                  simp only [Option.some.injEq, Prod.mk.injEq] at H
                  obtain ⟨rfl, rfl, rfl, rfl, rfl, rfl, rfl, rfl, rfl⟩ := H
                  have hnb71 := NB163_162.out
                  have hnc71 := NB162_163.out
                  have hcz72_0 : wc.cell? ⟨gb163, 0, none⟩ = some (.int .i64 a0) := (blk_cell BK163.out 0).trans rfl
                  have hcz72_1 : wc.cell? ⟨gb163, 1, none⟩ = some (.int .i64 0) := (blk_cell BK163.out 1).trans rfl
                  have hcz72_2 : wc.cell? ⟨gb163, 2, none⟩ = some (.int .i64 0) := (blk_cell BK163.out 2).trans rfl
                  have hcz72_3 : wc.cell? ⟨gb163, 3, none⟩ = some (.int .i64 0) := (blk_cell BK163.out 3).trans rfl
                  have hcz72_4 : wc.cell? ⟨gb163, 4, none⟩ = some (.int .i64 0) := (blk_cell BK163.out 4).trans rfl
                  have hcz72_5 : wc.cell? ⟨gb163, 5, none⟩ = some (.int .i64 0) := (blk_cell BK163.out 5).trans rfl
                  have hcz72_6 : wc.cell? ⟨gb163, 6, none⟩ = some (.int .i64 0) := (blk_cell BK163.out 6).trans rfl
                  have hcz72_7 : wc.cell? ⟨gb163, 7, none⟩ = some (.bool false) := (blk_cell BK163.out 7).trans rfl
                  have hcz72_8 : wc.cell? ⟨gb163, 8, none⟩ = some (.slice none 0 0) := (blk_cell BK163.out 8).trans rfl
                  have hfz72_0 := blk_frozen BK163.out 0
                  have hfz72_1 := blk_frozen BK163.out 1
                  have hfz72_2 := blk_frozen BK163.out 2
                  have hfz72_3 := blk_frozen BK163.out 3
                  have hfz72_4 := blk_frozen BK163.out 4
                  have hfz72_5 := blk_frozen BK163.out 5
                  have hfz72_6 := blk_frozen BK163.out 6
                  have hfz72_7 := blk_frozen BK163.out 7
                  have hfz72_8 := blk_frozen BK163.out 8
                  have hcz73_0 : wc.cell? ⟨gb162, 0, none⟩ = some (.int .i64 0) := (blk_cell BK162.out 0).trans rfl
                  have hcz73_1 : wc.cell? ⟨gb162, 1, none⟩ = some (.int .i64 0) := (blk_cell BK162.out 1).trans rfl
                  have hcz73_2 : wc.cell? ⟨gb162, 2, none⟩ = some (.int .i64 0) := (blk_cell BK162.out 2).trans rfl
                  have hcz73_3 : wc.cell? ⟨gb162, 3, none⟩ = some (.int .i64 0) := (blk_cell BK162.out 3).trans rfl
                  have hcz73_4 : wc.cell? ⟨gb162, 4, none⟩ = some (.int .i64 0) := (blk_cell BK162.out 4).trans rfl
                  have hcz73_5 : wc.cell? ⟨gb162, 5, none⟩ = some (.int .i64 0) := (blk_cell BK162.out 5).trans rfl
                  have hcz73_6 : wc.cell? ⟨gb162, 6, none⟩ = some (.int .i64 0) := (blk_cell BK162.out 6).trans rfl
                  have hcz73_7 : wc.cell? ⟨gb162, 7, none⟩ = some (.bool false) := (blk_cell BK162.out 7).trans rfl
                  have hcz73_8 : wc.cell? ⟨gb162, 8, none⟩ = some (.slice none 0 0) := (blk_cell BK162.out 8).trans rfl
                  have hfz73_0 := blk_frozen BK162.out 0
                  have hfz73_1 := blk_frozen BK162.out 1
                  have hfz73_2 := blk_frozen BK162.out 2
                  have hfz73_3 := blk_frozen BK162.out 3
                  have hfz73_4 := blk_frozen BK162.out 4
                  have hfz73_5 := blk_frozen BK162.out 5
                  have hfz73_6 := blk_frozen BK162.out 6
                  have hfz73_7 := blk_frozen BK162.out 7
                  have hfz73_8 := blk_frozen BK162.out 8
                  go_wp2
                  refine bodyPost_ret (results_cell_row rfl _ _ gb162 31 #[.int .i64 a0, .int .i64 0, .int .i64 0, .int .i64 0, .int .i64 0, .int .i64 0, .int .i64 0, .bool false, .slice none 0 0] (0, 0) _ rfl (by (with_reducible repeat (first | refine blk_drewN ?_ _ | refine blk_drew ?_ | refine blk_alloc ?_ _)); refine blk_put (cs := #[.int .i64 a0, .int .i64 0, .int .i64 0, .int .i64 0, .int .i64 0, .int .i64 0, .int .i64 0, .bool false, .slice none 0 0]) ?_ 8 _ rfl; (with_reducible repeat (first | refine blk_drewN ?_ _ | refine blk_drew ?_ | refine blk_alloc ?_ _)); refine blk_put (cs := #[.int .i64 a0, .int .i64 0, .int .i64 0, .int .i64 0, .int .i64 0, .int .i64 0, .int .i64 0, .bool false, .slice none 0 0]) ?_ 7 _ rfl; (with_reducible repeat (first | refine blk_drewN ?_ _ | refine blk_drew ?_ | refine blk_alloc ?_ _)); refine blk_put (cs := #[.int .i64 a0, .int .i64 0, .int .i64 0, .int .i64 0, .int .i64 0, .int .i64 0, .int .i64 0, .bool false, .slice none 0 0]) ?_ 6 _ rfl; (with_reducible repeat (first | refine blk_drewN ?_ _ | refine blk_drew ?_ | refine blk_alloc ?_ _)); refine blk_put (cs := #[.int .i64 a0, .int .i64 0, .int .i64 0, .int .i64 0, .int .i64 0, .int .i64 0, .int .i64 0, .bool false, .slice none 0 0]) ?_ 5 _ rfl; (with_reducible repeat (first | refine blk_drewN ?_ _ | refine blk_drew ?_ | refine blk_alloc ?_ _)); refine blk_put (cs := #[.int .i64 a0, .int .i64 0, .int .i64 0, .int .i64 0, .int .i64 0, .int .i64 0, .int .i64 0, .bool false, .slice none 0 0]) ?_ 4 _ rfl; (with_reducible repeat (first | refine blk_drewN ?_ _ | refine blk_drew ?_ | refine blk_alloc ?_ _)); refine blk_put (cs := #[.int .i64 a0, .int .i64 0, .int .i64 0, .int .i64 0, .int .i64 0, .int .i64 0, .int .i64 0, .bool false, .slice none 0 0]) ?_ 3 _ rfl; (with_reducible repeat (first | refine blk_drewN ?_ _ | refine blk_drew ?_ | refine blk_alloc ?_ _)); refine blk_put (cs := #[.int .i64 a0, .int .i64 0, .int .i64 0, .int .i64 0, .int .i64 0, .int .i64 0, .int .i64 0, .bool false, .slice none 0 0]) ?_ 2 _ rfl; (with_reducible repeat (first | refine blk_drewN ?_ _ | refine blk_drew ?_ | refine blk_alloc ?_ _)); refine blk_put (cs := #[.int .i64 a0, .int .i64 0, .int .i64 0, .int .i64 0, .int .i64 0, .int .i64 0, .int .i64 0, .bool false, .slice none 0 0]) ?_ 1 _ rfl; (with_reducible repeat (first | refine blk_drewN ?_ _ | refine blk_drew ?_ | refine blk_alloc ?_ _)); refine blk_put (cs := #[.int .i64 0, .int .i64 0, .int .i64 0, .int .i64 0, .int .i64 0, .int .i64 0, .int .i64 0, .bool false, .slice none 0 0]) ?_ 0 _ rfl; (with_reducible repeat (first | refine blk_drewN ?_ _ | refine blk_drew ?_ | refine blk_alloc ?_ _)); exact BK162.out) Try.underlying31 rfl (by kernel_rfl)) rfl ?_
                  exact ⟨_, by first | rfl | (simp [errW_none, errW_some] <;> rfl) | (simp [*, errW_none, errW_some] <;> rfl), by first | exact Kd.R_nil _ _ _ _ _ | exact Kd.N_nil _ _ _ _ _ | exact Kd.V_nil _ _ _ _ _ | exact Kd.Q_nil _ _ _ _ _ | exact Kd.S_nil _ _ _ _ _, by repeat (first | (with_reducible first | exact HB.out | apply below_alloc | apply pw_below_drewN | apply below_drew1 | refine below_set ?_ GE162.out | refine below_set ?_ GE163.out) | exact HB.out)⟩

end Go.Proofs.Ytfcoaneffdddkaa.PWt

-- Written by wip/rprint.py of this session's repo (the kit's printer with patches), out of the translation. Not trusted: Lean checks it.
import Derived.Test.YtcfliceeablckaaDoorPNdx0
namespace Go.Proofs.YtcfliceeablckaaDoor.PNd
open Go.RowKit Go.Proofs.YtcfliceeablckaaDoorW.PrintWords Go.Proofs.YtcfliceeablckaaDoorW.PrintLast Go.Proofs.YtcfliceeablckaaDoorW.PrintMore Go.Proofs.YtcfliceeablckaaDoor.MWords
attribute [local go_sem] max2_int min2_int max_two min_two max_three min_three max_four min_four   -- for this text's walks alone
set_option linter.unusedVariables false
set_option linter.unusedSimpArgs false

/-! ### nat_cut: function 22 -/
open Go.Proofs.YtcfliceeablckaaDoor.MNat Go.Proofs.YtcfliceeablckaaDoor.MWords in
def nat_cut.f (l0 : List Int) : Option (List Int) := some (MNat.trim l0)
section
open Go.Proofs.YtcfliceeablckaaDoor.MNat Go.Proofs.YtcfliceeablckaaDoor.MWords
set_option maxHeartbeats 400000 in
theorem cut_any (A : Option Addr) (n c : Nat) (xs : List Int) (w : World) (hr : ReadsInt w .u32 A n xs) (hc : n ≤ c) :
    Calls Tryd.prog 22 #[.slice A n c] w fun e w' => ∃ m, e = .returned (.slice A m m) ∧ trim xs = xs.take m ∧ m ≤ n ∧ w' = w := by
  obtain ⟨hl, hn, hx⟩ := hr
  have hl' := Aside0.mk hl
  have hx' := Aside0.mk hx
  clear hx
  go_enter Tryd.func22, Tryd.ntmps22
  go_wp2_with (go_step3)
  go_loop [3] (fun v => ∃ k : Nat, k ≤ n ∧ v = .int .i64 k ∧ Aside0 (trim xs = trim (xs.take k))) (fun v => (intOf v).toNat)
  case atStart => exact ⟨n, Nat.le_refl _, rfl, ⟨by rw [List.take_of_length_le (by omega)]⟩⟩
  case round =>
    obtain ⟨k, hk, rfl, ht⟩ := hrel
    by_cases h0 : k = 0
    · subst h0
      go_wp2_with (first | go_step3 | (with_reducible refine noGoto_exit_i ?_) | (with_reducible refine noGoto_ret_i ?_))
      go_ret
      exact ⟨0, rfl, by rw [ht.out]; rfl, by omega, rfl⟩
    · obtain ⟨j, rfl⟩ : ∃ j, k = j + 1 := ⟨k - 1, by omega⟩
      obtain ⟨ad, rfl, hcell⟩ := hx'.out (by omega)
      have hc1 := hcell j (by omega)
      clear hcell
      by_cases hz : xs.getD j 0 = 0
      · have ht' := Aside0.mk (show trim xs = trim (xs.take j) by rw [ht.out, take_succ_rd _ _ (by omega), hz, trim_snoc0])
        rw [hz] at hc1
        clear hz
        go_wp2_with (first | go_step3 | (with_reducible refine noGoto_exit_i ?_) | (with_reducible refine noGoto_ret_i ?_))
        go_round
        case rel => exact ⟨j, by omega, by go_num, ht'⟩
        case measure => simp [intOf]
      · have ht' := Aside0.mk (show trim xs = xs.take (j + 1) by rw [ht.out, take_succ_rd _ _ (by omega), trim_snoc _ _ hz])
        have hz1 : ((xs.getD j 0) == 0) = false := by simpa using hz
        have hz2 : ((xs.getD j 0) != 0) = true := by simpa using hz
        generalize hX : xs.getD j 0 = X at *
        clear hX hz
        go_wp2_with (first | go_step3 | (with_reducible refine noGoto_exit_i ?_) | (with_reducible refine noGoto_ret_i ?_))
        go_ret
        exact ⟨j + 1, rfl, ht'.out, by omega, rfl⟩
theorem nat_cut.calls (P0_ : Nat → Prop) (A0 : Option Addr) (c0 : Nat) (l0 : List Int) (r : List Int) (w : World) (hs0 : Kd.V (Kd.int .u32) 35 w w.heap.size (fun k_ => P0_ k_) (.slice A0 l0.length c0) l0) (h : nat_cut.f l0 = some r) :
    Calls Tryd.prog 22 #[.slice A0 l0.length c0] w fun e w' => ∃ v0_ : Value, e = .returned (v0_) ∧ Kd.V (Kd.int .u32) 35 w' w.heap.size (fun k_ => (P0_ k_ ∨ w.heap.size ≤ k_)) v0_ r ∧ Below w.heap.size w w' := by
  obtain rfl := Option.some.inj h
  have hv := Kd.V_reads' hs0
  refine (cut_any A0 l0.length c0 l0 w (Kd.reads_of_C (d := (0 : Int)) (h1 := fun _ => rfl) hv.2.2) hv.2.1).mono ?_
  rintro e w' ⟨m, rfl, hm, hml, rfl⟩
  refine ⟨_, rfl, ?_, Below.refl _ _⟩
  have h1 := Kd.F_take (m := m) (Kd.V_F hs0) hml
  have h2 : (l0.take m).length = m := by rw [List.length_take]; omega
  rw [hm]
  exact ⟨_, m, by rw [h2], by omega, Kd.F_mono h1 (fun _ hk => .inl hk)⟩
end

/-! ### nat_Check: function 14 -/
def nat_Check.f (l0 : List Int) : Option (Bool) := if (l0.length : Int) = 0 then (some true) else (if 0 ≤ (wrap64 ((l0.length : Int) - 1)) then (if (wrap64 ((l0.length : Int) - 1)) < (l0.length : Int) then (some ((rd l0 (wrap64 ((l0.length : Int) - 1))) != 0)) else (none)) else (none))
set_option maxHeartbeats 8000000 in
set_option maxRecDepth 100000 in
theorem nat_Check.calls (A0 : Option Addr) (c0 : Nat) (l0 : List Int) (r : Bool) (w : World) (hr0 : Kd.C (Kd.int .u32) w A0 l0.length l0) (hc0 : l0.length ≤ c0) (h : nat_Check.f l0 = some r) :
    Calls Tryd.prog 14 #[.slice A0 l0.length c0] w fun e w' => e = .returned (.bool r) ∧ Drawn0 w w' := by
  have HR0 := Aside0.mk hr0
  have HC0 := Aside0.mk hc0
  clear hr0 hc0
  have H : (if (l0.length : Int) = 0 then (some true) else (if 0 ≤ (wrap64 ((l0.length : Int) - 1)) then (if (wrap64 ((l0.length : Int) - 1)) < (l0.length : Int) then (some ((rd l0 (wrap64 ((l0.length : Int) - 1))) != 0)) else (none)) else (none))) = some r := h
  clear h
  by_cases c2 : (l0.length : Int) = 0
  · rw [if_pos c2] at H
    have c2b0 : ((l0.length : Int) == 0) = true := beq_iff_eq.mpr c2
    have c2b1 : ((l0.length : Int) != 0) = false := bne_eq_false_iff_eq.mpr c2
    clear c2
    obtain rfl := Option.some.inj H
    go_enter Tryd.func14, Tryd.ntmps14
    go_wp2
    go_ret
    exact ⟨by first | rfl | (simp; done) | (simp [*]; done), by repeat (first | exact Drawn0.refl _ | apply Drawn0.step)⟩
  · rw [if_neg c2] at H
    have c2b0 : ((l0.length : Int) == 0) = false := beq_eq_false_iff_ne.mpr c2
    have c2b1 : ((l0.length : Int) != 0) = true := bne_iff_ne.mpr c2
    have c2b2 : ¬ (l0 = []) := fun h_ => c2 (by rw [h_]; rfl)
    obtain ⟨ji3, hji3⟩ : ∃ j_ : Int, (wrap64 ((l0.length : Int) - 1)) = j_ := ⟨_, rfl⟩
    replace H : (if 0 ≤ (ji3) then (if (ji3) < (l0.length : Int) then (some ((rd l0 (ji3)) != 0)) else (none)) else (none)) = some r := by first | (rw [hji3] at H; exact H) | (simp only [hji3] at H ⊢; exact H)
    have hji3w : (IntKind.i64.wrap ((l0.length : Int) - 1)) = ji3 := (i64_w _).trans hji3
    by_cases c4 : 0 ≤ (ji3)
    · rw [if_pos c4] at H
      have c4b0 : decide (0 ≤ (ji3)) = true := decide_eq_true c4
      clear c4
      by_cases c5 : (ji3) < (l0.length : Int)
      · rw [if_pos c5] at H
        have c5b0 : decide ((ji3) < (l0.length : Int)) = true := decide_eq_true c5
        clear c5
        obtain rfl := Option.some.inj H
        have p125 : 0 ≤ ((ji3) : Int) := of_decide_eq_true (by first | (with_reducible assumption) | assumption)
        have q125 : (ji3) < (l0.length : Int) := of_decide_eq_true (by first | (with_reducible assumption) | assumption)
        obtain ⟨ad125, e125, hx125_0⟩ := Kd.at_int HR0.out (ji3) p125 q125
        cases e125
        replace p125 := eq_true p125
        replace q125 := eq_true q125
        go_enter Tryd.func14, Tryd.ntmps14
        go_wp2
        go_ret
        exact ⟨by first | rfl | (simp; done) | (simp only [← hji3] <;> (first | rfl | simp)) | (simp [*]; done), by repeat (first | exact Drawn0.refl _ | apply Drawn0.step)⟩
      · rw [if_neg c5] at H
        exact absurd H (by simp)
    · rw [if_neg c4] at H
      exact absurd H (by simp)

/-! ### nat_at: function 29 -/
def nat_at.f (l0 : List Int) (a1 : Int) : Option (Int) := if a1 < (l0.length : Int) then (if 0 ≤ a1 then (some (IntKind.u64.wrap (rd l0 a1))) else (none)) else (some 0)
set_option maxHeartbeats 8000000 in
set_option maxRecDepth 100000 in
theorem nat_at.calls (A0 : Option Addr) (c0 : Nat) (l0 : List Int) (a1 : Int) (r : Int) (w : World) (hr0 : Kd.C (Kd.int .u32) w A0 l0.length l0) (hc0 : l0.length ≤ c0) (h : nat_at.f l0 a1 = some r) :
    Calls Tryd.prog 29 #[.slice A0 l0.length c0, .int .i64 a1] w fun e w' => e = .returned (.int .u64 r) ∧ Drawn0 w w' := by
  have HR0 := Aside0.mk hr0
  have HC0 := Aside0.mk hc0
  clear hr0 hc0
  have H : (if a1 < (l0.length : Int) then (if 0 ≤ a1 then (some (IntKind.u64.wrap (rd l0 a1))) else (none)) else (some 0)) = some r := h
  clear h
  by_cases c3 : a1 < (l0.length : Int)
  · rw [if_pos c3] at H
    have c3b0 : decide (a1 < (l0.length : Int)) = true := decide_eq_true c3
    clear c3
    by_cases c4 : 0 ≤ a1
    · rw [if_pos c4] at H
      have c4b0 : decide (0 ≤ a1) = true := decide_eq_true c4
      clear c4
      obtain rfl := Option.some.inj H
      have p126 : 0 ≤ (a1 : Int) := of_decide_eq_true (by first | (with_reducible assumption) | assumption)
      have q126 : a1 < (l0.length : Int) := of_decide_eq_true (by first | (with_reducible assumption) | assumption)
      obtain ⟨ad126, e126, hx126_0⟩ := Kd.at_int HR0.out a1 p126 q126
      cases e126
      replace p126 := eq_true p126
      replace q126 := eq_true q126
      go_enter Tryd.func29, Tryd.ntmps29
      go_wp2
      go_ret
      exact ⟨by first | rfl | (simp; done) | (simp [*]; done), by repeat (first | exact Drawn0.refl _ | apply Drawn0.step)⟩
    · rw [if_neg c4] at H
      exact absurd H (by simp)
  · rw [if_neg c3] at H
    have c3b0 : decide (a1 < (l0.length : Int)) = false := decide_eq_false c3
    clear c3
    obtain rfl := Option.some.inj H
    go_enter Tryd.func29, Tryd.ntmps29
    go_wp2
    go_ret
    exact ⟨by first | rfl | (simp; done) | (simp [*]; done), by repeat (first | exact Drawn0.refl _ | apply Drawn0.step)⟩

/-! ### nat_Add: function 19 -/
theorem nat_info : (Tryd.prog.info? 35).map (fun i => (i.zero, i.size, i.bytes)) = some (some (.int .u32 0), 1, 4) := by kernel_rfl
def nat_Add.f (l0 l1 : List Int) : Option (List Int) := if MNat.isN l0 ∧ MNat.isN l1 then some (MNat.limbs (MNat.nval l0 + MNat.nval l1)) else none
section
open Go.Proofs.YtcfliceeablckaaDoor.MNat Go.Proofs.YtcfliceeablckaaDoor.MWords
set_option maxHeartbeats 400000 in
theorem put_any (i b off len cap gc go_ carry : Nat) (n : Int) (w : World) (x : Value) (hi : i < len) (hlen : len ≤ 9223372036854775807) (hn0 : 0 ≤ n) (hn : n + carry < 18446744073709551616)
    (hc : w.cell? ⟨gc, 0, none⟩ = some (.int .u64 carry)) (ho : w.cell? ⟨go_, 0, none⟩ = some (.slice (some ⟨b, off, none⟩) len cap)) (hb : w.cell? ⟨b, off + i, none⟩ = some x)
    (hfc : w.frozen? ⟨gc, 0, none⟩ = false) (hfb : w.frozen? ⟨b, off + i, none⟩ = false) (hne : ¬ b = gc) :
    Calls Tryd.prog 43 #[.int .i64 i, .int .u64 n, .pointer (some ⟨gc, 0, none⟩), .pointer (some ⟨go_, 0, none⟩)] w fun e w' => e = .returned (.tuple #[]) ∧ w' = (w.setCell ⟨b, off + i, none⟩ (.int .u32 ((n + (carry : Int)) % 4294967296))).setCell ⟨gc, 0, none⟩ (.int .u64 ((n + (carry : Int)) / 4294967296)) := by
  go_enter Tryd.func43, Tryd.ntmps43
  go_wp2
  go_end0
  exact ⟨rfl, rfl⟩

set_option maxHeartbeats 400000 in
theorem carrier_any (A : Option Addr) (n c : Nat) (w : World) :
    Calls Tryd.prog 28 #[.slice A n c] w fun e w' => e = .returned (.func (.func 43) #[] #[.pointer (some ⟨w.heap.size + 1, 0, none⟩), .pointer (some ⟨w.heap.size, 0, none⟩)]) ∧
      w' = (w.alloc (.cells #[.slice A n c] 22)).alloc (.cells #[.int .u64 0] 23) := by
  go_enter Tryd.func28, Tryd.ntmps28
  go_wp2
  go_ret
  exact ⟨rfl, rfl⟩


theorem at_eq (l : List Int) (k : Nat) (h : Lim l) : nat_at.f l (k : Int) = some (((l.getD k 0).toNat : Nat) : Int) := by
  have hb := lim_getD h k
  unfold nat_at.f
  by_cases hk : k < l.length
  · rw [if_pos (by omega), if_pos (by omega)]
    have e : rd l (k : Int) = l.getD k 0 := by simp [rd]
    rw [e]
    congr 1
    simp only [IntKind.wrap_u64]
    omega
  · rw [if_neg (by omega)]
    have e : l.getD k 0 = 0 := by simp [List.getD, List.getElem?_eq_none (Nat.le_of_not_lt hk)]
    rw [e]; rfl

/-- The sums' loop: k limbs are there. -/
def AddInv (l0 l1 : List Int) (M b : Nat) (w : World) (k : Nat) (wr : World) : Prop :=
  ∃ (out : List Int) (carry : Nat), out.length = k ∧ Lim out ∧ carry ≤ 1 ∧ nval out + carry * 4294967296 ^ k = nval (l0.take k) + nval (l1.take k) ∧
    MBlk wr b 35 (nums .u32 (out ++ List.replicate (M + 1 - k) 0)).toArray ∧ MBlk wr (b + 1) 22 #[.slice (some ⟨b, 0, none⟩) (M + 1) (M + 1)] ∧ MBlk wr (b + 2) 23 #[.int .u64 carry] ∧ Below w.heap.size w wr


theorem AddInv.start {l0 l1 : List Int} {M : Nat} (w : World) :
    AddInv l0 l1 M w.heap.size w 0 (((w.alloc (.cells (madeCells #[.int .u32 0] (M + 1)) 35)).alloc (.cells #[.slice (some ⟨w.heap.size, 0, none⟩) (M + 1) (M + 1)] 22)).alloc (.cells #[.int .u64 0] 23)) := by
  refine ⟨[], 0, rfl, lim_nil, by omega, by simp [nval], ?_, ?_, ?_, ?_⟩
  · have h := mblk_alloc (mblk_alloc (mblk_new w 35 (madeCells #[.int .u32 0] (M + 1))) (.cells #[.slice (some ⟨w.heap.size, 0, none⟩) (M + 1) (M + 1)] 22)) (.cells #[.int .u64 0] 23)
    have e : madeCells #[Value.int .u32 0] (M + 1) = (nums .u32 ([] ++ List.replicate (M + 1 - 0) 0)).toArray := by
      apply Array.ext
      · simp [nums, size_madeCells]
      · intro i h1 h2
        simp [nums, madeCells, Nat.mod_one]
    rw [← e]; exact h
  · exact mblk_alloc (by simpa using mblk_new (w.alloc (.cells (madeCells #[.int .u32 0] (M + 1)) 35)) 22 #[.slice (some ⟨w.heap.size, 0, none⟩) (M + 1) (M + 1)]) _
  · simpa using mblk_new ((w.alloc (.cells (madeCells #[.int .u32 0] (M + 1)) 35)).alloc (.cells #[.slice (some ⟨w.heap.size, 0, none⟩) (M + 1) (M + 1)] 22)) 23 #[.int .u64 0]
  · exact ((((Below.refl _ _).alloc (Nat.le_refl _) _).alloc (by simp) _).alloc (by simp; omega) _)

theorem AddInv.drewN {l0 l1 : List Int} {M b k : Nat} {w wr : World} (h : AddInv l0 l1 M b w k wr) (n : Nat) : AddInv l0 l1 M b w k (wr.drewN n) := by
  obtain ⟨out, carry, h1, h2, h3, h4, h5, h6, h7, h8⟩ := h
  exact ⟨out, carry, h1, h2, h3, h4, h5, h6, h7, pw_below_drewN h8 n⟩

theorem AddInv.step {l0 l1 : List Int} {M b k : Nat} {w wr : World} (h : AddInv l0 l1 M b w k wr) (hk : k < M + 1) (hL0 : Lim l0) (hL1 : Lim l1) (hb : w.heap.size ≤ b) :
    ∃ (carry : Nat) (x : Value), carry ≤ 1 ∧ wr.cell? ⟨b + 2, 0, none⟩ = some (.int .u64 carry) ∧ wr.cell? ⟨b + 1, 0, none⟩ = some (.slice (some ⟨b, 0, none⟩) (M + 1) (M + 1)) ∧ wr.cell? ⟨b, 0 + k, none⟩ = some x ∧
      wr.frozen? ⟨b + 2, 0, none⟩ = false ∧ wr.frozen? ⟨b, 0 + k, none⟩ = false ∧
      AddInv l0 l1 M b w (k + 1) ((wr.setCell ⟨b, 0 + k, none⟩ (.int .u32 ((((l0.getD k 0).toNat : Int) + ((l1.getD k 0).toNat : Int) + (carry : Int)) % 4294967296))).setCell ⟨b + 2, 0, none⟩ (.int .u64 ((((l0.getD k 0).toNat : Int) + ((l1.getD k 0).toNat : Int) + (carry : Int)) / 4294967296))) := by
  obtain ⟨out, carry, h1, h2, h3, h4, h5, h6, h7, h8⟩ := h
  have hx := lim_getD hL0 k
  have hy := lim_getD hL1 k
  generalize hX : (l0.getD k 0).toNat = X at *
  generalize hY : (l1.getD k 0).toNat = Y at *
  have hX' : X < 4294967296 := by omega
  have hY' : Y < 4294967296 := by omega
  have hlen : (nums .u32 (out ++ List.replicate (M + 1 - k) 0)).toArray.size = M + 1 := by simp [nums, h1]; omega
  refine ⟨carry, _, h3, by rw [mblk_cell h7]; rfl, by rw [mblk_cell h6]; rfl, by rw [mblk_cell h5]; exact Array.getElem?_eq_getElem (by omega), mblk_frozen h7 _, mblk_frozen h5 _, ?_⟩
  have e0 : (X : Int) + (Y : Int) + (carry : Int) = ((X + Y + carry : Nat) : Int) := by omega
  rw [e0]
  have e1 : (((X + Y + carry : Nat) : Int) % 4294967296) = (((X + Y + carry) % 4294967296 : Nat) : Int) := by omega
  have e2 : (((X + Y + carry : Nat) : Int) / 4294967296) = (((X + Y + carry) / 4294967296 : Nat) : Int) := by omega
  rw [e1, e2]
  generalize hS : X + Y + carry = S at *
  refine ⟨out ++ [((S % 4294967296 : Nat) : Int)], S / 4294967296, by simp [h1], lim_append.2 ⟨h2, lim_cons.2 ⟨by omega, lim_nil⟩⟩, by omega, ?_, ?_, ?_, ?_, ?_⟩
  · rw [nval_snoc, h1, Int.toNat_natCast]
    have t0 : nval (l0.take (k + 1)) = nval (l0.take k) + 4294967296 ^ k * X := by
      by_cases hkl : k < l0.length
      · rw [take_succ_rd _ _ hkl, nval_snoc, hX, List.length_take, Nat.min_eq_left (by omega)]
      · have : X = 0 := by rw [← hX]; simp [List.getD, List.getElem?_eq_none (Nat.le_of_not_lt hkl)]
        rw [this, List.take_of_length_le (by omega), List.take_of_length_le (by omega)]; simp
    have t1 : nval (l1.take (k + 1)) = nval (l1.take k) + 4294967296 ^ k * Y := by
      by_cases hkl : k < l1.length
      · rw [take_succ_rd _ _ hkl, nval_snoc, hY, List.length_take, Nat.min_eq_left (by omega)]
      · have : Y = 0 := by rw [← hY]; simp [List.getD, List.getElem?_eq_none (Nat.le_of_not_lt hkl)]
        rw [this, List.take_of_length_le (by omega), List.take_of_length_le (by omega)]; simp
    rw [t0, t1, Nat.pow_succ]
    have hdm := Nat.div_add_mod S 4294967296
    generalize 4294967296 ^ k = Bk at *
    generalize hq : S / 4294967296 = q at *
    generalize hr : S % 4294967296 = r at *
    have : Bk * S = Bk * X + Bk * Y + Bk * carry := by rw [← hS]; simp [Nat.mul_add]
    have h6 : Bk * S = q * (Bk * 4294967296) + Bk * r := by
      rw [← hdm, Nat.mul_add, Nat.mul_comm q (Bk * 4294967296), Nat.mul_assoc]
    have h9 : carry * Bk = Bk * carry := Nat.mul_comm _ _
    omega
  · have h := mblk_far (mblk_set h5 (0 + k) (.int .u32 ((S % 4294967296 : Nat) : Int))) (p := ⟨b + 2, 0, none⟩) (by simp) (.int .u64 ((S / 4294967296 : Nat) : Int))
    have e : ((nums .u32 (out ++ List.replicate (M + 1 - k) 0)).toArray.setIfInBounds (0 + k) (.int .u32 ((S % 4294967296 : Nat) : Int))) = (nums .u32 ((out ++ [((S % 4294967296 : Nat) : Int)]) ++ List.replicate (M + 1 - (k + 1)) 0)).toArray := by
      rw [show M + 1 - k = (M + 1 - (k + 1)) + 1 by omega, List.replicate_succ]
      simp [nums, ← h1]
    rw [← e]; exact h
  · exact mblk_far (mblk_far h6 (p := ⟨b, 0 + k, none⟩) (by simp) _) (p := ⟨b + 2, 0, none⟩) (by simp) _
  · have h := mblk_set (mblk_far h7 (p := ⟨b, 0 + k, none⟩) (by simp) (.int .u32 ((S % 4294967296 : Nat) : Int))) 0 (.int .u64 ((S / 4294967296 : Nat) : Int))
    simpa using h
  · exact (h8.setCell (by simpa using hb) _).setCell (by simp; omega) _
attribute [local go_sem] max_two min_two
set_option maxHeartbeats 400000 in
theorem add_any (A0 : Option Addr) (c0 : Nat) (l0 : List Int) (A1 : Option Addr) (c1 : Nat) (l1 : List Int) (w : World) (hr0 : Kd.C (Kd.int .u32) w A0 l0.length l0) (hc0 : l0.length ≤ c0) (hr1 : Kd.C (Kd.int .u32) w A1 l1.length l1) (hc1 : l1.length ≤ c1)
    (hN0 : isN l0) (hN1 : isN l1) :
    Calls Tryd.prog 19 #[.slice A0 l0.length c0, .slice A1 l1.length c1] w fun e w' => ∃ v0_ : Value, e = .returned (v0_) ∧ Kd.V (Kd.int .u32) 35 w' w.heap.size (fun k_ => (w.heap.size ≤ k_)) v0_ (limbs (nval l0 + nval l1)) ∧ Below w.heap.size w w' := by
  have b0 := hN0.2
  have b1 := hN1.2
  have HN0 := Aside0.mk hN0
  have HN1 := Aside0.mk hN1
  have HR0 := Aside0.mk hr0
  have HR1 := Aside0.mk hr1
  clear hN0 hN1 hr0 hr1
  obtain ⟨M, hmax, hM0, hM1, hM⟩ : ∃ M : Nat, Builtin.max2 (.int .i64 (l0.length : Int)) (.int .i64 (l1.length : Int)) = pure (.int .i64 (M : Int)) ∧ l0.length ≤ M ∧ l1.length ≤ M ∧ M ≤ 1000000 := by
    by_cases h : l0.length < l1.length
    · exact ⟨l1.length, by rw [max2_int, if_pos (by omega)], by omega, by omega, by omega⟩
    · exact ⟨l0.length, by rw [max2_int, if_neg (by omega)], by omega, by omega, by omega⟩
  have hmk : ∀ W : World, (Instr.makeSlice 22 (.int .i64 ((M : Int) + 1)) (.int .i64 ((M : Int) + 1))).run Tryd.prog W = .ok (.slice (some ⟨W.heap.size, 0, none⟩) (M + 1) (M + 1)) (W.alloc (.cells (madeCells #[.int .u32 0] (M + 1)) 35)) := print_make (P := Tryd.prog) 22 35 .u32 4 Tryd.underlying22 nat_info (by omega) (M + 1) (by omega)
  go_enter Tryd.func19, Tryd.ntmps19
  go_wp2_with fail
  clear hmk hmax
  refine (carrier_any _ _ _ _).mono ?_
  rintro e w1 ⟨rfl, rfl⟩
  go_wp2_with fail
  go_loopw [19] (fun v wr => ∃ k : Nat, k ≤ M + 1 ∧ v = .int .i64 k ∧ Aside0 (AddInv l0 l1 M w.heap.size w k wr)) (fun v _ => M + 1 - (intOf v).toNat)
  case atStart =>
    exact ⟨0, by omega, rfl, ⟨AddInv.start w⟩⟩
  case round =>
    obtain ⟨k, hk, rfl, hI⟩ := hrel
    by_cases hlt : k < M + 1
    · have hL0 := HN0.out.lim
      have hL1 := HN1.out.lim
      have hbw : Below w.heap.size w wr := by obtain ⟨_, _, _, _, _, _, _, _, _, h8⟩ := hI.out; exact h8
      have x0 := at_eq l0 k hL0
      have x1 := at_eq l1 k hL1
      have y0 := lim_getD hL0 k
      have y1 := lim_getD hL1 k
      obtain ⟨X, hX⟩ : ∃ X : Nat, (l0.getD k 0).toNat = X := ⟨_, rfl⟩
      obtain ⟨Y, hY⟩ : ∃ X : Nat, (l1.getD k 0).toNat = X := ⟨_, rfl⟩
      rw [hX] at x0
      rw [hY] at x1
      have hX' : X < 4294967296 := by omega
      have hY' : Y < 4294967296 := by omega
      have HX := Aside0.mk hX
      have HY := Aside0.mk hY
      clear hL0 hL1 y0 y1 hX hY
      have X0 := Aside0.mk x0
      have X1 := Aside0.mk x1
      have HBW := Aside0.mk hbw
      clear x0 x1 hbw
      go_wp2_with fail
      refine (nat_at.calls A0 c0 l0 (k : Int) _ wr (Kd.C_below HR0.out HBW.out) hc0 X0.out).mono ?_
      rintro e w1 ⟨rfl, hd⟩
      obtain ⟨n1, rfl⟩ := hd.out
      clear hd
      go_wp2_with fail
      refine (nat_at.calls A1 c1 l1 (k : Int) _ _ (Kd.C_below HR1.out (pw_below_drewN HBW.out _)) hc1 X1.out).mono ?_
      rintro e w1 ⟨rfl, hd⟩
      obtain ⟨n2, rfl⟩ := hd.out
      clear hd
      go_wp2_with fail
      obtain ⟨carry, x, hca, g1, g2, g3, g4, g5, g6⟩ := (hI.out.drewN (n1 + n2)).step hlt HN0.out.lim HN1.out.lim (Nat.le_refl _)
      rw [HX.out, HY.out, Nat.zero_add] at g6
      have G6 := Aside0.mk g6
      clear g6
      refine (put_any k w.heap.size 0 (M + 1) (M + 1) (w.heap.size + 1 + 1) (w.heap.size + 1) carry ((X : Int) + (Y : Int)) (wr.drewN (n1 + n2)) x (by omega) (by omega) (by omega) (by omega) g1 g2 g3 g4 g5 (by omega)).mono ?_
      rintro e w1 ⟨rfl, rfl⟩
      clear g1 g2 g3 g4 g5 hca
      go_wp2_with fail
      go_roundw
      case rel => exact ⟨k + 1, by omega, by go_num, G6⟩
      case measure => simp [intOf]; omega
    · obtain rfl : k = M + 1 := by omega
      obtain ⟨out, carry, h1, h2, h3, h4, h5, h6, h7, h8⟩ := hI.out
      have b0' := nval_lt HN0.out.lim
      have b1' := nval_lt HN1.out.lim
      rw [List.take_of_length_le (by omega), List.take_of_length_le (by omega)] at h4
      have hp : ∀ j, j ≤ M → 4294967296 ^ j ≤ 4294967296 ^ M := fun j hj => Nat.pow_le_pow_right (by omega) hj
      have hp0 := hp _ hM0
      have hp1 := hp _ hM1
      have hs : nval l0 + nval l1 < 4294967296 ^ (M + 1) := by rw [Nat.pow_succ]; omega
      have hc : carry = 0 := by
        rcases Nat.eq_zero_or_pos carry with h | h
        · exact h
        · have : 1 * 4294967296 ^ (M + 1) ≤ carry * 4294967296 ^ (M + 1) := Nat.mul_le_mul_right _ h
          omega
      subst hc
      have hv : nval out = nval l0 + nval l1 := by omega
      have ht : trim out = limbs (nval l0 + nval l1) := by rw [trim_eq h2, hv]
      simp only [Nat.sub_self, List.replicate_zero, List.append_nil] at h5
      have hRd : ReadsInt wr .u32 (some ⟨w.heap.size, 0, none⟩) (M + 1) out := by have := mblk_reads h5 (by omega); rwa [h1] at this
      have H5 := Aside0.mk h5
      have HT := Aside0.mk ht
      have H8 := Aside0.mk h8
      have H1 := Aside0.mk h1
      have HRd := Aside0.mk hRd
      clear h1 h2 h3 h4 h5 h6 h7 h8 hI b0' b1' hp hp0 hp1 hs hv ht hRd
      go_wp2_with fail
      refine (cut_any _ _ _ out wr HRd.out (by omega)).mono ?_
      rintro e w1 ⟨m, rfl, hm, hml, rfl⟩
      have HM := Aside0.mk hm
      clear hm
      go_wp2_with fail
      go_ret
      exact ⟨_, rfl, by rw [← HT.out, HM.out]; exact mblk_V H5.out (by have := H1.out; omega) (Nat.le_refl _) (by have := H1.out; omega), H8.out⟩
theorem nat_Add.calls (A0 : Option Addr) (c0 : Nat) (l0 : List Int) (A1 : Option Addr) (c1 : Nat) (l1 : List Int) (r : List Int) (w : World) (hr0 : Kd.C (Kd.int .u32) w A0 l0.length l0) (hc0 : l0.length ≤ c0) (hr1 : Kd.C (Kd.int .u32) w A1 l1.length l1) (hc1 : l1.length ≤ c1) (h : nat_Add.f l0 l1 = some r) :
    Calls Tryd.prog 19 #[.slice A0 l0.length c0, .slice A1 l1.length c1] w fun e w' => ∃ v0_ : Value, e = .returned (v0_) ∧ Kd.V (Kd.int .u32) 35 w' w.heap.size (fun k_ => (w.heap.size ≤ k_)) v0_ r ∧ Below w.heap.size w w' := by
  unfold nat_Add.f at h
  split at h
  · rename_i hh
    obtain rfl := Option.some.inj h
    exact add_any A0 c0 l0 A1 c1 l1 w hr0 hc0 hr1 hc1 hh.1 hh.2
  · cases h
end

/-! ### nat_Mul: function 17 -/
def nat_Mul.f (l0 l1 : List Int) : Option (List Int) := if MNat.isN l0 ∧ MNat.isN l1 then some (MNat.limbs (MNat.nval l0 * MNat.nval l1)) else none
section
open Go.Proofs.YtcfliceeablckaaDoor.MNat Go.Proofs.YtcfliceeablckaaDoor.MWords
/-- The rows' loop: i rows are there. -/
def MulOut (l0 l1 : List Int) (b : Nat) (w : World) (i : Nat) (wr : World) : Prop :=
  ∃ (out : List Int), out.length = l0.length + l1.length + 1 ∧ Lim out ∧ nval out = nval (l0.take i) * nval l1 ∧ MBlk wr b 35 (nums .u32 out).toArray ∧ Below w.heap.size w wr

/-- A row's loop: k of its limbs are there. -/
def MulIn (l1 old : List Int) (X N b i H1 : Nat) (w : World) (k : Nat) (wr : World) : Prop :=
  ∃ (mid : List Int) (carry : Nat), mid.length = k ∧ Lim mid ∧ carry < 4294967296 ∧ nval mid + carry * 4294967296 ^ k = nval ((old.drop i).take k) + X * nval (l1.take k) ∧
    MBlk wr b 35 (nums .u32 (old.take i ++ (mid ++ old.drop (i + k)))).toArray ∧ MBlk wr H1 22 #[.slice (some ⟨b, i, none⟩) (N - i) (N - i)] ∧ MBlk wr (H1 + 1) 23 #[.int .u64 carry] ∧ Below w.heap.size w wr

theorem MulIn.step {l1 old : List Int} {X N b i H1 k : Nat} {w wr : World} (h : MulIn l1 old X N b i H1 w k wr) (hk : k < N - i) (hX : X < 4294967296) (hL : Lim old) (hl : old.length = N) (hL1 : Lim l1) (hb : w.heap.size ≤ b) (hbH : b < H1) (hN : N ≤ 3000000) :
    ∃ (carry o : Nat), carry < 4294967296 ∧ o < 4294967296 ∧ wr.cell? ⟨H1 + 1, 0, none⟩ = some (.int .u64 carry) ∧ wr.cell? ⟨H1, 0, none⟩ = some (.slice (some ⟨b, i, none⟩) (N - i) (N - i)) ∧ wr.cell? ⟨b, i + k, none⟩ = some (.int .u32 o) ∧
      wr.frozen? ⟨H1 + 1, 0, none⟩ = false ∧ wr.frozen? ⟨b, i + k, none⟩ = false ∧
      ∀ m : Nat, MulIn l1 old X N b i H1 w (k + 1) (((wr.drewN m).setCell ⟨b, i + k, none⟩ (.int .u32 (((X : Int) * ((l1.getD k 0).toNat : Int) + (o : Int) + (carry : Int)) % 4294967296))).setCell ⟨H1 + 1, 0, none⟩ (.int .u64 (((X : Int) * ((l1.getD k 0).toNat : Int) + (o : Int) + (carry : Int)) / 4294967296))) := by
  obtain ⟨mid, carry, h1, h2, h3, h4, h5, h6, h7, h8⟩ := h
  have hy := lim_getD hL1 k
  have ho := lim_getD hL (i + k)
  obtain ⟨Y, hY⟩ : ∃ Y : Nat, (l1.getD k 0).toNat = Y := ⟨_, rfl⟩
  obtain ⟨o, hO⟩ : ∃ o : Nat, (old.getD (i + k) 0).toNat = o := ⟨_, rfl⟩
  rw [hY]
  have hY' : Y < 4294967296 := by omega
  have hO' : o < 4294967296 := by omega
  have hod : old.drop (i + k) = (o : Int) :: old.drop (i + k + 1) := by
    rw [List.drop_eq_getElem_cons (by omega)]
    have : old[i + k]'(by omega) = old.getD (i + k) 0 := by simp [List.getD, List.getElem?_eq_getElem (show i + k < old.length by omega)]
    rw [this]; congr 1; omega
  have hlen : (old.take i).length = i := by rw [List.length_take]; omega
  have hcs : (nums .u32 (old.take i ++ (mid ++ old.drop (i + k)))).toArray[i + k]? = some (.int .u32 (o : Int)) := by
    have hx : (nums .u32 (old.take i ++ mid)).length = i + k := by simp [nums, h1]; omega
    have hy : nums .u32 (old.take i ++ (mid ++ (o : Int) :: old.drop (i + k + 1))) = nums .u32 (old.take i ++ mid) ++ (.int .u32 (o : Int) :: nums .u32 (old.drop (i + k + 1))) := by simp [nums]
    rw [hod, hy, List.getElem?_toArray, List.getElem?_append_right (by omega), hx, Nat.sub_self]
    rfl
  refine ⟨carry, o, h3, hO', by rw [mblk_cell h7]; rfl, by rw [mblk_cell h6]; rfl, by rw [mblk_cell h5]; exact hcs, mblk_frozen h7 _, mblk_frozen h5 _, fun m => ?_⟩
  have hprod : X * Y ≤ 4294967295 * 4294967295 := Nat.mul_le_mul (by omega) (by omega)
  have e0 : (X : Int) * (Y : Int) + (o : Int) + (carry : Int) = ((X * Y + o + carry : Nat) : Int) := by simp
  rw [e0]
  obtain ⟨S, hS⟩ : ∃ S : Nat, X * Y + o + carry = S := ⟨_, rfl⟩
  rw [hS]
  have hS' : S < 4294967296 * 4294967296 := by omega
  have e1 : ((S : Int) % 4294967296) = ((S % 4294967296 : Nat) : Int) := by omega
  have e2 : ((S : Int) / 4294967296) = ((S / 4294967296 : Nat) : Int) := by omega
  rw [e1, e2]
  refine ⟨mid ++ [((S % 4294967296 : Nat) : Int)], S / 4294967296, by simp [h1], lim_append.2 ⟨h2, lim_cons.2 ⟨by omega, lim_nil⟩⟩, by omega, ?_, ?_, ?_, ?_, ?_⟩
  · rw [nval_snoc, h1, Int.toNat_natCast]
    have t0 : nval ((old.drop i).take (k + 1)) = nval ((old.drop i).take k) + 4294967296 ^ k * o := by
      rw [take_succ_rd _ _ (by simp; omega), nval_snoc, List.length_take, Nat.min_eq_left (by simp; omega)]
      congr 3
      rw [← hO]; congr 1
      simp [List.getD, List.getElem?_drop]
    have t1 : nval (l1.take (k + 1)) = nval (l1.take k) + 4294967296 ^ k * Y := by
      by_cases hkl : k < l1.length
      · rw [take_succ_rd _ _ hkl, nval_snoc, hY, List.length_take, Nat.min_eq_left (by omega)]
      · have : Y = 0 := by rw [← hY]; simp [List.getD, List.getElem?_eq_none (Nat.le_of_not_lt hkl)]
        rw [this, List.take_of_length_le (by omega), List.take_of_length_le (by omega)]; simp
    rw [t0, t1, Nat.pow_succ]
    have hdm := Nat.div_add_mod S 4294967296
    generalize 4294967296 ^ k = Bk at *
    generalize hq : S / 4294967296 = q at *
    generalize hr : S % 4294967296 = r at *
    have a1 : Bk * S = Bk * (X * Y) + Bk * o + Bk * carry := by rw [← hS]; simp [Nat.mul_add]
    have a2 : Bk * S = q * (Bk * 4294967296) + Bk * r := by
      rw [← hdm, Nat.mul_add, Nat.mul_comm q (Bk * 4294967296), Nat.mul_assoc]
    have a3 : carry * Bk = Bk * carry := Nat.mul_comm _ _
    have a4 : X * (nval (l1.take k) + Bk * Y) = X * nval (l1.take k) + Bk * (X * Y) := by
      rw [Nat.mul_add, Nat.mul_left_comm]
    omega
  · have h := mblk_far (mblk_set (mblk_drewN h5 m) (i + k) (.int .u32 ((S % 4294967296 : Nat) : Int))) (p := ⟨H1 + 1, 0, none⟩) (by simp; omega) (.int .u64 ((S / 4294967296 : Nat) : Int))
    have e : ((nums .u32 (old.take i ++ (mid ++ old.drop (i + k)))).toArray.setIfInBounds (i + k) (.int .u32 ((S % 4294967296 : Nat) : Int))) = (nums .u32 (old.take i ++ ((mid ++ [((S % 4294967296 : Nat) : Int)]) ++ old.drop (i + (k + 1))))).toArray := by
      rw [hod, show i + (k + 1) = i + k + 1 by omega]
      have hx : (nums .u32 (old.take i ++ mid)).length = i + k := by simp [nums, h1]; omega
      have hy : nums .u32 (old.take i ++ (mid ++ (o : Int) :: old.drop (i + k + 1))) = nums .u32 (old.take i ++ mid) ++ (.int .u32 (o : Int) :: nums .u32 (old.drop (i + k + 1))) := by simp [nums]
      have hz : nums .u32 (old.take i ++ ((mid ++ [((S % 4294967296 : Nat) : Int)]) ++ old.drop (i + k + 1))) = nums .u32 (old.take i ++ mid) ++ (.int .u32 ((S % 4294967296 : Nat) : Int) :: nums .u32 (old.drop (i + k + 1))) := by simp [nums]
      rw [hy, hz, List.setIfInBounds_toArray, List.set_append_right _ _ (by omega), hx, Nat.sub_self]
      rfl
    rw [← e]; exact h
  · exact mblk_far (mblk_far (mblk_drewN h6 m) (p := ⟨b, i + k, none⟩) (by simp; omega) _) (p := ⟨H1 + 1, 0, none⟩) (by simp) _
  · have h := mblk_set (mblk_far (mblk_drewN h7 m) (p := ⟨b, i + k, none⟩) (by simp; omega) (.int .u32 ((S % 4294967296 : Nat) : Int))) 0 (.int .u64 ((S / 4294967296 : Nat) : Int))
    simpa using h
  · exact ((pw_below_drewN h8 m).setCell (by simpa using hb) _).setCell (by simp; omega) _

theorem MulIn.done {l0 l1 old : List Int} {X i H1 : Nat} {w wr : World} (h : MulIn l1 old X (l0.length + l1.length + 1) w.heap.size i H1 w (l0.length + l1.length + 1 - i) wr) (hl : old.length = l0.length + l1.length + 1) (hL : Lim old) (hv : nval old = nval (l0.take i) * nval l1)
    (hX : (l0.getD i 0).toNat = X) (hX' : X < 4294967296) (hL0 : Lim l0) (hL1 : Lim l1) (hi : i < l0.length) : MulOut l0 l1 w.heap.size w (i + 1) wr := by
  obtain ⟨mid, carry, h1, h2, h3, h4, h5, h6, h7, h8⟩ := h
  rw [show i + (l0.length + l1.length + 1 - i) = old.length by omega, List.drop_of_length_le (Nat.le_refl _), List.append_nil] at h5
  rw [List.take_of_length_le (by simp; omega), List.take_of_length_le (by omega)] at h4
  have e0 : nval old = nval (old.take i) + 4294967296 ^ i * nval (old.drop i) := by
    have := nval_append (old.take i) (old.drop i)
    rw [List.take_append_drop, List.length_take, Nat.min_eq_left (by omega)] at this
    exact this
  have e1 : nval (l0.take (i + 1)) = nval (l0.take i) + 4294967296 ^ i * X := by
    rw [take_succ_rd _ _ hi, nval_snoc, hX, List.length_take, Nat.min_eq_left (by omega)]
  have e2 : nval (old.take i ++ mid) + 4294967296 ^ i * (carry * 4294967296 ^ (l0.length + l1.length + 1 - i)) = nval (l0.take (i + 1)) * nval l1 := by
    have h4' := congrArg (4294967296 ^ i * ·) h4
    simp only [Nat.mul_add] at h4'
    rw [nval_append, List.length_take, Nat.min_eq_left (by omega), e1, Nat.add_mul, ← hv, e0, Nat.mul_assoc (4294967296 ^ i) X _]
    omega
  have hb : nval (l0.take (i + 1)) * nval l1 < 4294967296 ^ (l0.length + l1.length + 1) := by
    have b0 := nval_lt (lim_take hL0 (i + 1))
    have b1 := nval_lt hL1
    rw [List.length_take, Nat.min_eq_left (by omega)] at b0
    calc nval (l0.take (i + 1)) * nval l1 ≤ 4294967296 ^ (i + 1) * 4294967296 ^ l1.length := Nat.mul_le_mul (by omega) (by omega)
      _ = 4294967296 ^ (i + 1 + l1.length) := (Nat.pow_add _ _ _).symm
      _ < 4294967296 ^ (l0.length + l1.length + 1) := Nat.pow_lt_pow_right (by omega) (by omega)
  have hc : carry = 0 := by
    rcases Nat.eq_zero_or_pos carry with h | h
    · exact h
    · have e3 : 4294967296 ^ i * (carry * 4294967296 ^ (l0.length + l1.length + 1 - i)) = carry * 4294967296 ^ (l0.length + l1.length + 1) := by
        rw [Nat.mul_comm, Nat.mul_assoc, ← Nat.pow_add, show l0.length + l1.length + 1 - i + i = l0.length + l1.length + 1 by omega]
      have : 1 * 4294967296 ^ (l0.length + l1.length + 1) ≤ carry * 4294967296 ^ (l0.length + l1.length + 1) := Nat.mul_le_mul_right _ h
      omega
  subst hc
  refine ⟨old.take i ++ mid, by simp [h1]; omega, lim_append.2 ⟨lim_take hL _, h2⟩, by simpa using e2, h5, h8⟩

set_option maxHeartbeats 400000 in
theorem mul_any (A0 : Option Addr) (c0 : Nat) (l0 : List Int) (A1 : Option Addr) (c1 : Nat) (l1 : List Int) (w : World) (hr0 : Kd.C (Kd.int .u32) w A0 l0.length l0) (hc0 : l0.length ≤ c0) (hr1 : Kd.C (Kd.int .u32) w A1 l1.length l1) (hc1 : l1.length ≤ c1)
    (hN0 : isN l0) (hN1 : isN l1) :
    Calls Tryd.prog 17 #[.slice A0 l0.length c0, .slice A1 l1.length c1] w fun e w' => ∃ v0_ : Value, e = .returned (v0_) ∧ Kd.V (Kd.int .u32) 35 w' w.heap.size (fun k_ => (w.heap.size ≤ k_)) v0_ (limbs (nval l0 * nval l1)) ∧ Below w.heap.size w w' := by
  have b0 := hN0.2
  have b1 := hN1.2
  have HN0 := Aside0.mk hN0
  have HN1 := Aside0.mk hN1
  have HR0 := Aside0.mk hr0
  have HR1 := Aside0.mk hr1
  clear hN0 hN1 hr0 hr1
  have hmk : ∀ W : World, (Instr.makeSlice 22 (.int .i64 ((l0.length : Int) + (l1.length : Int) + 1)) (.int .i64 ((l0.length : Int) + (l1.length : Int) + 1))).run Tryd.prog W = .ok (.slice (some ⟨W.heap.size, 0, none⟩) (l0.length + l1.length + 1) (l0.length + l1.length + 1)) (W.alloc (.cells (madeCells #[.int .u32 0] (l0.length + l1.length + 1)) 35)) := print_make (P := Tryd.prog) 22 35 .u32 4 Tryd.underlying22 nat_info (by omega) (l0.length + l1.length + 1) (by omega)
  go_enter Tryd.func17, Tryd.ntmps17
  go_wp2_with fail
  clear hmk
  go_loopw [19] (fun v wr => ∃ i : Nat, i ≤ l0.length ∧ v = .int .i64 i ∧ Aside0 (MulOut l0 l1 w.heap.size w i wr)) (fun v _ => l0.length - (intOf v).toNat)
  case atStart =>
    refine ⟨0, by omega, rfl, ⟨List.replicate (l0.length + l1.length + 1) 0, by simp, lim_zeros _, by simp [nval_zeros, nval], ?_, (Below.refl _ _).alloc (Nat.le_refl _) _⟩⟩
    rw [← made_nums]
    exact mblk_new w 35 (madeCells #[.int .u32 0] (l0.length + l1.length + 1))
  case round =>
    obtain ⟨i, hi, rfl, hI⟩ := hrel
    by_cases hlt : i < l0.length
    · have hbw : Below w.heap.size w wr := by obtain ⟨_, _, _, _, _, h8⟩ := hI.out; exact h8
      obtain ⟨ad, rfl, hcell⟩ := Kd.at_int (Kd.C_below HR0.out hbw) (i : Int) (by omega) (by omega)
      have hx := lim_getD HN0.out.lim i
      have e : rd l0 (i : Int) = ((l0.getD i 0).toNat : Nat) := by simp only [rd, Int.toNat_natCast]; omega
      rw [e, Int.toNat_natCast] at hcell
      obtain ⟨X, hX⟩ : ∃ X : Nat, (l0.getD i 0).toNat = X := ⟨_, rfl⟩
      rw [hX] at hcell
      have hX' : X < 4294967296 := by omega
      have HX := Aside0.mk hX
      have HBW := Aside0.mk hbw
      clear hx e hX hbw
      go_wp2_with fail
      refine (carrier_any _ _ _ _).mono ?_
      rintro e w1 ⟨rfl, rfl⟩
      obtain ⟨wo, rfl⟩ : ∃ wo : World, wo = wr := ⟨_, rfl⟩
      obtain ⟨old, o1, o2, o3, o4, o5⟩ := hI.out
      have hstart : MulIn l1 old X (l0.length + l1.length + 1) w.heap.size i wo.heap.size w 0 ((wo.alloc (.cells #[.slice (some ⟨w.heap.size, i, none⟩) (l0.length + l1.length + 1 - i) (l0.length + l1.length + 1 - i)] 22)).alloc (.cells #[.int .u64 0] 23)) := by
        refine ⟨[], 0, rfl, lim_nil, by omega, by simp [nval], ?_, ?_, ?_, ?_⟩
        · have h := mblk_alloc (mblk_alloc o4 (.cells #[.slice (some ⟨w.heap.size, i, none⟩) (l0.length + l1.length + 1 - i) (l0.length + l1.length + 1 - i)] 22)) (.cells #[.int .u64 0] 23)
          simpa [List.take_append_drop] using h
        · exact mblk_alloc (mblk_new wo 22 _) _
        · simpa using mblk_new (wo.alloc (.cells #[.slice (some ⟨w.heap.size, i, none⟩) (l0.length + l1.length + 1 - i) (l0.length + l1.length + 1 - i)] 22)) 23 #[.int .u64 0]
        · exact (o5.alloc o5.size _).alloc (by have := o5.size; simp; omega) _
      have HST := Aside0.mk hstart
      have O2 := Aside0.mk o2
      have O3 := Aside0.mk o3
      have O1 := Aside0.mk o1
      have O5 := Aside0.mk o5
      have hbH := mblk_lt o4
      clear o1 o2 o3 o4 o5 hstart
      go_wp2_with fail
      go_loopw [32] (fun v wk => ∃ k : Nat, k ≤ l0.length + l1.length + 1 - i ∧ v = .int .i64 k ∧ Aside0 (MulIn l1 old X (l0.length + l1.length + 1) w.heap.size i wo.heap.size w k wk)) (fun v _ => l0.length + l1.length + 1 - i - (intOf v).toNat)
      case atStart =>
        exact ⟨0, by omega, rfl, HST⟩
      case round =>
        obtain ⟨k, hk, rfl, hJ⟩ := hrel
        by_cases hkt : k < l0.length + l1.length + 1 - i
        · have hbk : Below w.heap.size w wr := by obtain ⟨_, _, _, _, _, _, _, _, _, h8⟩ := hJ.out; exact h8
          have HBK := Aside0.mk hbk
          obtain ⟨carry, o, hca, ho, g1, g2, g3, g4, g5, g6⟩ := hJ.out.step hkt hX' O2.out O1.out HN1.out.lim (Nat.le_refl _) hbH (by omega)
          have x1 := at_eq l1 k HN1.out.lim
          have y1 := lim_getD HN1.out.lim k
          obtain ⟨Y, hY⟩ : ∃ X : Nat, (l1.getD k 0).toNat = X := ⟨_, rfl⟩
          rw [hY] at x1 g6
          have hY' : Y < 4294967296 := by omega
          have X1 := Aside0.mk x1
          have G1 := Aside0.mk g1
          have G2 := Aside0.mk g2
          have G4 := Aside0.mk g4
          have G5 := Aside0.mk g5
          have G6 := Aside0.mk g6
          have G3 := Aside0.mk g3
          have hXY : (X : Int) * (Y : Int) ≤ 18446744065119617025 := by
            have h1 : X * Y ≤ 4294967295 * 4294967295 := Nat.mul_le_mul (by omega) (by omega)
            have h2 : ((X * Y : Nat) : Int) ≤ ((4294967295 * 4294967295 : Nat) : Int) := Int.ofNat_le.2 h1
            simpa using h2
          have hXY0 : (0 : Int) ≤ (X : Int) * (Y : Int) := Int.mul_nonneg (by omega) (by omega)
          have ik1 : (0 : Int) ≤ (i : Int) + (k : Int) := by omega
          have ik2 : (i : Int) + (k : Int) < (l0.length : Int) + (l1.length : Int) + 1 := by omega
          clear y1 hbk x1 hY g1 g2 g4 g5 g6 hJ hI
          go_wp2_with fail
          have ikw : IntKind.i64.wrap ((i : Int) + (k : Int)) = (i : Int) + (k : Int) := IntWalk.i64_in _ (by omega)
          have ikn : ((i : Int) + (k : Int)).toNat = i + k := by omega
          have wX : IntKind.u64.wrap (X : Int) = (X : Int) := by rw [IntKind.wrap_u64]; omega
          have wo' : IntKind.u64.wrap (o : Int) = (o : Int) := by rw [IntKind.wrap_u64]; omega
          have wXY : IntKind.u64.wrap ((X : Int) * (Y : Int)) = (X : Int) * (Y : Int) := by rw [IntKind.wrap_u64]; omega
          have wS : IntKind.u64.wrap ((X : Int) * (Y : Int) + (o : Int)) = (X : Int) * (Y : Int) + (o : Int) := by rw [IntKind.wrap_u64]; omega
          have hput := fun n : Nat => put_any k w.heap.size i (l0.length + l1.length + 1 - i) (l0.length + l1.length + 1 - i) (wo.heap.size + 1) wo.heap.size carry ((X : Int) * (Y : Int) + (o : Int)) (wr.drewN n) (.int .u32 (o : Int)) (by omega) (by omega) (by omega) (by omega) G1.out G2.out G3.out G4.out G5.out (by omega)
          have HP := Aside0.mk hput
          clear hput
          go_region_with (first | (go_at_call 29; (with_reducible refine (nat_at.calls A1 c1 l1 (k : Int) _ _ (Kd.C_below HR1.out (by repeat (first | exact HBK.out | apply pw_below_drewN | apply below_drew)) ) hc1 X1.out).mono ?_); rintro e w1 ⟨rfl, hd⟩; obtain ⟨n1, rfl⟩ := hd.out; clear hd) | (go_at_call 43; (with_reducible refine (HP.out _).mono ?_); rintro e w1 ⟨rfl, rfl⟩))
          all_goals
            clear ikw ikn wX wo' wXY wS
            go_wp2_with fail
            go_roundw
            case rel => exact ⟨k + 1, by omega, by go_num, ⟨G6.out _⟩⟩
            case measure => simp [intOf]; omega
        · obtain rfl : k = l0.length + l1.length + 1 - i := by omega
          have hout : MulOut l0 l1 w.heap.size w (i + 1) wr := MulIn.done hJ.out O1.out O2.out O3.out HX.out hX' HN0.out.lim HN1.out.lim hlt
          have HO := Aside0.mk hout
          clear hout
          go_wp2_with fail
          go_roundw
          case rel => exact ⟨i + 1, by omega, by go_num, HO⟩
          case measure => simp [intOf]; omega
    · obtain rfl : i = l0.length := by omega
      obtain ⟨out, h1, h2, h3, h4, h5⟩ := hI.out
      rw [List.take_of_length_le (Nat.le_refl _)] at h3
      have ht : trim out = limbs (nval l0 * nval l1) := by rw [trim_eq h2, h3]
      have hRd : ReadsInt wr .u32 (some ⟨w.heap.size, 0, none⟩) (l0.length + l1.length + 1) out := by have := mblk_reads h4 (by omega); rwa [h1] at this
      have H4 := Aside0.mk h4
      have HT := Aside0.mk ht
      have H5 := Aside0.mk h5
      have H1 := Aside0.mk h1
      have HRd := Aside0.mk hRd
      clear h1 h2 h3 h4 h5 hI ht hRd
      go_wp2_with fail
      refine (cut_any _ _ _ out wr HRd.out (by omega)).mono ?_
      rintro e w1 ⟨m, rfl, hm, hml, rfl⟩
      have HM := Aside0.mk hm
      clear hm
      go_wp2_with fail
      go_ret
      exact ⟨_, rfl, by rw [← HT.out, HM.out]; exact mblk_V H4.out (by have := H1.out; omega) (Nat.le_refl _) (by have := H1.out; omega), H5.out⟩
theorem nat_Mul.calls (A0 : Option Addr) (c0 : Nat) (l0 : List Int) (A1 : Option Addr) (c1 : Nat) (l1 : List Int) (r : List Int) (w : World) (hr0 : Kd.C (Kd.int .u32) w A0 l0.length l0) (hc0 : l0.length ≤ c0) (hr1 : Kd.C (Kd.int .u32) w A1 l1.length l1) (hc1 : l1.length ≤ c1) (h : nat_Mul.f l0 l1 = some r) :
    Calls Tryd.prog 17 #[.slice A0 l0.length c0, .slice A1 l1.length c1] w fun e w' => ∃ v0_ : Value, e = .returned (v0_) ∧ Kd.V (Kd.int .u32) 35 w' w.heap.size (fun k_ => (w.heap.size ≤ k_)) v0_ r ∧ Below w.heap.size w w' := by
  unfold nat_Mul.f at h
  split at h
  · rename_i hh
    obtain rfl := Option.some.inj h
    exact mul_any A0 c0 l0 A1 c1 l1 w hr0 hc0 hr1 hc1 hh.1 hh.2
  · cases h
end

/-! ### nat_Of: function 10 -/
def nat_Of.f (a0 : Int) : Option (List Int) := (nat_cut.f (([(a0) % 4294967296, (a0 / 4294967296) % 4294967296] : List Int))).bind fun t149 => (some t149)
set_option maxHeartbeats 8000000 in
set_option maxRecDepth 100000 in
theorem nat_Of.calls (a0 : Int) (r : List Int) (w : World) (h : nat_Of.f a0 = some r) :
    Calls Tryd.prog 10 #[.int .u64 a0] w fun e w' => ∃ v0_ : Value, e = .returned (v0_) ∧ Kd.V (Kd.int .u32) 35 w' w.heap.size (fun k_ => (w.heap.size ≤ k_)) v0_ r ∧ Below w.heap.size w w' := by
  have HB := Aside0.mk (Below.refl w.heap.size w)
  have H : ((nat_cut.f (([(a0) % 4294967296, (a0 / 4294967296) % 4294967296] : List Int))).bind fun t149 => (some t149)) = some r := h
  clear h
  obtain ⟨y146, hy146⟩ : ∃ y_ : List Int, y_ = (([(a0) % 4294967296, (a0 / 4294967296) % 4294967296] : List Int)) := ⟨_, rfl⟩
  replace H : ((nat_cut.f y146).bind fun t149 => (some t149)) = some r := by first | (rw [hy146]; with_reducible exact H) | (have H2_ := (Option.bind_some _ _).symm.trans H; rw [hy146]; with_reducible exact H2_) | (have H2_ := (Option.bind_some _ _).symm.trans H; with_reducible exact H2_) | with_reducible exact H | (rw [hy146]; exact H) | exact H
  have Ny146 := Aside0.mk hy146
  clear hy146
  replace H := Option.bind_eq_some_iff.mp H
  obtain ⟨t149, A20, H⟩ := H
  replace H : (some t149) = some r := H
  have A2 := Aside0.mk A20
  clear A20
  obtain rfl := Option.some.inj H
  go_enter Tryd.func10, Tryd.ntmps10
  go_wp2_with (first | ((with_reducible refine gate_dst (N := 8) rfl ?_); refine Kd.R_lit (Kd.int .u32) _ 35 ?hg (N := 8) ?hd (xs := ([(a0) % 4294967296, (a0 / 4294967296) % 4294967296] : List Int)) (inner := [.int .u32 ((a0) % 4294967296), .int .u32 ((a0 / 4294967296) % 4294967296)]) (ok := fun _ => True) (okp := fun _ => True) ?hr ?hp (fun _ hk => hk) trivial (Below.refl _ _) (Nat.le_refl _) (by simp) ?_; (case hd => rfl); (case hg => rfl); (case hr => first | (go_simp; done) | (go_simp; rfl)); (case hp => exact (Reps.one (show Kd.M (Kd.int .u32) _ _ _ ((a0) % 4294967296) [.int .u32 ((a0) % 4294967296)] from rfl) (Reps.one (show Kd.M (Kd.int .u32) _ _ _ ((a0 / 4294967296) % 4294967296) [.int .u32 ((a0 / 4294967296) % 4294967296)] from rfl) (Reps.none _ _)))); intro v147 w3 ho4 hb hg_ hnew_; clear hg_ hnew_; (first | rw [← Ny146.out] at ho4 | (simp only [Int.reduceToNat] at ho4; rw [← Ny146.out] at ho4)); have n0_ := Aside0.mk (Kd.R_lower (Kd.R_newM (M := fun k_ => (w.heap.size ≤ k_)) ho4 (below_size (by repeat (first | (with_reducible first | exact HB.out | apply below_alloc | apply pw_below_drewN | apply below_drew1) | exact HB.out))) (fun k_ h_ => h_)) (below_size (by repeat (first | (with_reducible first | exact HB.out | apply below_alloc | apply pw_below_drewN | apply below_drew1) | exact HB.out)))); have n1_ := Aside0.mk (below_step (by repeat (first | (with_reducible first | exact HB.out | apply below_alloc | apply pw_below_drewN | apply below_drew1) | exact HB.out)) hb); clear HB; have HO148 := n0_; have HB := n1_; clear n0_ n1_; clear hb ho4; obtain ⟨Ao5, co5, eo5⟩ := Kd.R_slice HO148.out; subst eo5) | ((with_reducible refine gate_callee (f := 22) rfl ?_); refine goesL_ (some 9) rfl rfl Tryd.func22 (by kernel_rfl) rfl #[.slice Ao5 y146.length co5] rfl (by (try simp only [List.map_toArray, List.map_cons, List.map_nil]); first | done | rfl | (simp only [List.length_drop, List.length_take]; rfl)) ?_; (with_reducible refine (nat_cut.calls (fun k_ => some k_ = (.slice Ao5 y146.length co5 : Value).ownBlock) _ _ y146 t149 _ ?side1 A2.out).mono ?_); (case side1 => exact Kd.R_V (Kd.R_tight rfl (HO148.out))); rintro e w6 ⟨v150, rfl, ho0, hb⟩; refine ⟨_, rfl, ?_⟩; have n0_ := Aside0.mk (Kd.R_below (by (with_reducible repeat (first | apply Kd.R_alloc | apply Kd.R_drewN | apply Kd.R_drew)); exact HO148.out) hb); have n1_ := Aside0.mk (Kd.V_lower (Kd.V_mono (ok' := fun k_ => (w.heap.size ≤ k_)) ho0 (fun k_ hk_ => Or.elim hk_ (fun hs_ => ((HO148.out).1 k_ hs_.symm).1) (fun hn_ => (Nat.le_trans (below_size (by repeat (first | (with_reducible first | exact HB.out | apply below_alloc | apply pw_below_drewN | apply below_drew1) | exact HB.out))) hn_)))) (below_size (by repeat (first | (with_reducible first | exact HB.out | apply below_alloc | apply pw_below_drewN | apply below_drew1) | exact HB.out)))); have n2_ := Aside0.mk (below_step (by repeat (first | (with_reducible first | exact HB.out | apply below_alloc | apply pw_below_drewN | apply below_drew1) | exact HB.out)) hb); clear HO148; clear HB; have HO148 := n0_; have HO151 := n1_; have HB := n2_; clear n0_ n1_ n2_; (try clear hb); (try clear hb2); (try clear hk); (try clear hi); (try clear ho0)))
  go_ret
  exact ⟨_, by first | rfl | (simp [errW_none, errW_some] <;> rfl) | (simp [*, errW_none, errW_some] <;> rfl), by (with_reducible repeat (first | apply Kd.V_alloc | apply Kd.V_drewN | apply Kd.V_drew)); exact HO151.out, by repeat (first | (with_reducible first | exact HB.out | apply below_alloc | apply pw_below_drewN | apply below_drew1) | exact HB.out)⟩

end Go.Proofs.YtcfliceeablckaaDoor.PNd

-- Written by wip/rprint.py of this session's repo (the kit's printer with patches), out of the translation. Not trusted: Lean checks it.
import Derived.Test.YtcfliceeablckaaPNrx0
import Derived.Test.YtcfliceeablckaaPNrx1
import Derived.Test.YtcfliceeablckaaPNrx2
namespace Go.Proofs.Ytcfliceeablckaa.PNr
open Go.RowKit Go.Proofs.YtcfliceeablckaaW.PrintWords Go.Proofs.YtcfliceeablckaaW.PrintLast Go.Proofs.YtcfliceeablckaaW.PrintMore Go.Proofs.Ytcfliceeablckaa.MWords
attribute [local go_sem] max2_int min2_int max_two min_two max_three min_three max_four min_four   -- for this text's walks alone
set_option linter.unusedVariables false
set_option linter.unusedSimpArgs false

/-! ### nat_Add: function 15 -/
theorem nat_info : (Try.prog.info? 30).map (fun i => (i.zero, i.size, i.bytes)) = some (some (.int .u32 0), 1, 4) := by kernel_rfl
def nat_Add.f (l0 l1 : List Int) : Option (List Int) := if MNat.isN l0 ∧ MNat.isN l1 then some (MNat.limbs (MNat.nval l0 + MNat.nval l1)) else none
section
open Go.Proofs.Ytcfliceeablckaa.MNat Go.Proofs.Ytcfliceeablckaa.MWords
set_option maxHeartbeats 400000 in
theorem put_any (i b off len cap gc go_ carry : Nat) (n : Int) (w : World) (x : Value) (hi : i < len) (hlen : len ≤ 9223372036854775807) (hn0 : 0 ≤ n) (hn : n + carry < 18446744073709551616)
    (hc : w.cell? ⟨gc, 0, none⟩ = some (.int .u64 carry)) (ho : w.cell? ⟨go_, 0, none⟩ = some (.slice (some ⟨b, off, none⟩) len cap)) (hb : w.cell? ⟨b, off + i, none⟩ = some x)
    (hfc : w.frozen? ⟨gc, 0, none⟩ = false) (hfb : w.frozen? ⟨b, off + i, none⟩ = false) (hne : ¬ b = gc) :
    Calls Try.prog 67 #[.int .i64 i, .int .u64 n, .pointer (some ⟨gc, 0, none⟩), .pointer (some ⟨go_, 0, none⟩)] w fun e w' => e = .returned (.tuple #[]) ∧ w' = (w.setCell ⟨b, off + i, none⟩ (.int .u32 ((n + (carry : Int)) % 4294967296))).setCell ⟨gc, 0, none⟩ (.int .u64 ((n + (carry : Int)) / 4294967296)) := by
  go_enter Try.func67, Try.ntmps67
  go_wp2
  go_end0
  exact ⟨rfl, rfl⟩

set_option maxHeartbeats 400000 in
theorem carrier_any (A : Option Addr) (n c : Nat) (w : World) :
    Calls Try.prog 50 #[.slice A n c] w fun e w' => e = .returned (.func (.func 67) #[] #[.pointer (some ⟨w.heap.size + 1, 0, none⟩), .pointer (some ⟨w.heap.size, 0, none⟩)]) ∧
      w' = (w.alloc (.cells #[.slice A n c] 22)).alloc (.cells #[.int .u64 0] 42) := by
  go_enter Try.func50, Try.ntmps50
  go_wp2
  go_ret
  exact ⟨rfl, rfl⟩


theorem at_eq (l : List Int) (k : Nat) (h : Lim l) : nat_at.f l (k : Int) = some (((l.getD k 0).toNat : Nat) : Int) := by
  have hb := lim_getD h k
  unfold nat_at.f
  by_cases hk : k < l.length
  · rw [if_pos (by omega), if_pos (by omega)]
    have e : rd l (k : Int) = l.getD k 0 := by simp [rd]
    rw [e]
    congr 1
    simp only [IntKind.wrap_u64]
    omega
  · rw [if_neg (by omega)]
    have e : l.getD k 0 = 0 := by simp [List.getD, List.getElem?_eq_none (Nat.le_of_not_lt hk)]
    rw [e]; rfl

/-- The sums' loop: k limbs are there. -/
def AddInv (l0 l1 : List Int) (M b : Nat) (w : World) (k : Nat) (wr : World) : Prop :=
  ∃ (out : List Int) (carry : Nat), out.length = k ∧ Lim out ∧ carry ≤ 1 ∧ nval out + carry * 4294967296 ^ k = nval (l0.take k) + nval (l1.take k) ∧
    MBlk wr b 30 (nums .u32 (out ++ List.replicate (M + 1 - k) 0)).toArray ∧ MBlk wr (b + 1) 22 #[.slice (some ⟨b, 0, none⟩) (M + 1) (M + 1)] ∧ MBlk wr (b + 2) 42 #[.int .u64 carry] ∧ Below w.heap.size w wr


theorem AddInv.start {l0 l1 : List Int} {M : Nat} (w : World) :
    AddInv l0 l1 M w.heap.size w 0 (((w.alloc (.cells (madeCells #[.int .u32 0] (M + 1)) 30)).alloc (.cells #[.slice (some ⟨w.heap.size, 0, none⟩) (M + 1) (M + 1)] 22)).alloc (.cells #[.int .u64 0] 42)) := by
  refine ⟨[], 0, rfl, lim_nil, by omega, by simp [nval], ?_, ?_, ?_, ?_⟩
  · have h := mblk_alloc (mblk_alloc (mblk_new w 30 (madeCells #[.int .u32 0] (M + 1))) (.cells #[.slice (some ⟨w.heap.size, 0, none⟩) (M + 1) (M + 1)] 22)) (.cells #[.int .u64 0] 42)
    have e : madeCells #[Value.int .u32 0] (M + 1) = (nums .u32 ([] ++ List.replicate (M + 1 - 0) 0)).toArray := by
      apply Array.ext
      · simp [nums, size_madeCells]
      · intro i h1 h2
        simp [nums, madeCells, Nat.mod_one]
    rw [← e]; exact h
  · exact mblk_alloc (by simpa using mblk_new (w.alloc (.cells (madeCells #[.int .u32 0] (M + 1)) 30)) 22 #[.slice (some ⟨w.heap.size, 0, none⟩) (M + 1) (M + 1)]) _
  · simpa using mblk_new ((w.alloc (.cells (madeCells #[.int .u32 0] (M + 1)) 30)).alloc (.cells #[.slice (some ⟨w.heap.size, 0, none⟩) (M + 1) (M + 1)] 22)) 42 #[.int .u64 0]
  · exact ((((Below.refl _ _).alloc (Nat.le_refl _) _).alloc (by simp) _).alloc (by simp; omega) _)

theorem AddInv.drewN {l0 l1 : List Int} {M b k : Nat} {w wr : World} (h : AddInv l0 l1 M b w k wr) (n : Nat) : AddInv l0 l1 M b w k (wr.drewN n) := by
  obtain ⟨out, carry, h1, h2, h3, h4, h5, h6, h7, h8⟩ := h
  exact ⟨out, carry, h1, h2, h3, h4, h5, h6, h7, pw_below_drewN h8 n⟩

theorem AddInv.step {l0 l1 : List Int} {M b k : Nat} {w wr : World} (h : AddInv l0 l1 M b w k wr) (hk : k < M + 1) (hL0 : Lim l0) (hL1 : Lim l1) (hb : w.heap.size ≤ b) :
    ∃ (carry : Nat) (x : Value), carry ≤ 1 ∧ wr.cell? ⟨b + 2, 0, none⟩ = some (.int .u64 carry) ∧ wr.cell? ⟨b + 1, 0, none⟩ = some (.slice (some ⟨b, 0, none⟩) (M + 1) (M + 1)) ∧ wr.cell? ⟨b, 0 + k, none⟩ = some x ∧
      wr.frozen? ⟨b + 2, 0, none⟩ = false ∧ wr.frozen? ⟨b, 0 + k, none⟩ = false ∧
      AddInv l0 l1 M b w (k + 1) ((wr.setCell ⟨b, 0 + k, none⟩ (.int .u32 ((((l0.getD k 0).toNat : Int) + ((l1.getD k 0).toNat : Int) + (carry : Int)) % 4294967296))).setCell ⟨b + 2, 0, none⟩ (.int .u64 ((((l0.getD k 0).toNat : Int) + ((l1.getD k 0).toNat : Int) + (carry : Int)) / 4294967296))) := by
  obtain ⟨out, carry, h1, h2, h3, h4, h5, h6, h7, h8⟩ := h
  have hx := lim_getD hL0 k
  have hy := lim_getD hL1 k
  generalize hX : (l0.getD k 0).toNat = X at *
  generalize hY : (l1.getD k 0).toNat = Y at *
  have hX' : X < 4294967296 := by omega
  have hY' : Y < 4294967296 := by omega
  have hlen : (nums .u32 (out ++ List.replicate (M + 1 - k) 0)).toArray.size = M + 1 := by simp [nums, h1]; omega
  refine ⟨carry, _, h3, by rw [mblk_cell h7]; rfl, by rw [mblk_cell h6]; rfl, by rw [mblk_cell h5]; exact Array.getElem?_eq_getElem (by omega), mblk_frozen h7 _, mblk_frozen h5 _, ?_⟩
  have e0 : (X : Int) + (Y : Int) + (carry : Int) = ((X + Y + carry : Nat) : Int) := by omega
  rw [e0]
  have e1 : (((X + Y + carry : Nat) : Int) % 4294967296) = (((X + Y + carry) % 4294967296 : Nat) : Int) := by omega
  have e2 : (((X + Y + carry : Nat) : Int) / 4294967296) = (((X + Y + carry) / 4294967296 : Nat) : Int) := by omega
  rw [e1, e2]
  generalize hS : X + Y + carry = S at *
  refine ⟨out ++ [((S % 4294967296 : Nat) : Int)], S / 4294967296, by simp [h1], lim_append.2 ⟨h2, lim_cons.2 ⟨by omega, lim_nil⟩⟩, by omega, ?_, ?_, ?_, ?_, ?_⟩
  · rw [nval_snoc, h1, Int.toNat_natCast]
    have t0 : nval (l0.take (k + 1)) = nval (l0.take k) + 4294967296 ^ k * X := by
      by_cases hkl : k < l0.length
      · rw [take_succ_rd _ _ hkl, nval_snoc, hX, List.length_take, Nat.min_eq_left (by omega)]
      · have : X = 0 := by rw [← hX]; simp [List.getD, List.getElem?_eq_none (Nat.le_of_not_lt hkl)]
        rw [this, List.take_of_length_le (by omega), List.take_of_length_le (by omega)]; simp
    have t1 : nval (l1.take (k + 1)) = nval (l1.take k) + 4294967296 ^ k * Y := by
      by_cases hkl : k < l1.length
      · rw [take_succ_rd _ _ hkl, nval_snoc, hY, List.length_take, Nat.min_eq_left (by omega)]
      · have : Y = 0 := by rw [← hY]; simp [List.getD, List.getElem?_eq_none (Nat.le_of_not_lt hkl)]
        rw [this, List.take_of_length_le (by omega), List.take_of_length_le (by omega)]; simp
    rw [t0, t1, Nat.pow_succ]
    have hdm := Nat.div_add_mod S 4294967296
    generalize 4294967296 ^ k = Bk at *
    generalize hq : S / 4294967296 = q at *
    generalize hr : S % 4294967296 = r at *
    have : Bk * S = Bk * X + Bk * Y + Bk * carry := by rw [← hS]; simp [Nat.mul_add]
    have h6 : Bk * S = q * (Bk * 4294967296) + Bk * r := by
      rw [← hdm, Nat.mul_add, Nat.mul_comm q (Bk * 4294967296), Nat.mul_assoc]
    have h9 : carry * Bk = Bk * carry := Nat.mul_comm _ _
    omega
  · have h := mblk_far (mblk_set h5 (0 + k) (.int .u32 ((S % 4294967296 : Nat) : Int))) (p := ⟨b + 2, 0, none⟩) (by simp) (.int .u64 ((S / 4294967296 : Nat) : Int))
    have e : ((nums .u32 (out ++ List.replicate (M + 1 - k) 0)).toArray.setIfInBounds (0 + k) (.int .u32 ((S % 4294967296 : Nat) : Int))) = (nums .u32 ((out ++ [((S % 4294967296 : Nat) : Int)]) ++ List.replicate (M + 1 - (k + 1)) 0)).toArray := by
      rw [show M + 1 - k = (M + 1 - (k + 1)) + 1 by omega, List.replicate_succ]
      simp [nums, ← h1]
    rw [← e]; exact h
  · exact mblk_far (mblk_far h6 (p := ⟨b, 0 + k, none⟩) (by simp) _) (p := ⟨b + 2, 0, none⟩) (by simp) _
  · have h := mblk_set (mblk_far h7 (p := ⟨b, 0 + k, none⟩) (by simp) (.int .u32 ((S % 4294967296 : Nat) : Int))) 0 (.int .u64 ((S / 4294967296 : Nat) : Int))
    simpa using h
  · exact (h8.setCell (by simpa using hb) _).setCell (by simp; omega) _
attribute [local go_sem] max_two min_two
set_option maxHeartbeats 400000 in
theorem add_any (A0 : Option Addr) (c0 : Nat) (l0 : List Int) (A1 : Option Addr) (c1 : Nat) (l1 : List Int) (w : World) (hr0 : Kd.C (Kd.int .u32) w A0 l0.length l0) (hc0 : l0.length ≤ c0) (hr1 : Kd.C (Kd.int .u32) w A1 l1.length l1) (hc1 : l1.length ≤ c1)
    (hN0 : isN l0) (hN1 : isN l1) :
    Calls Try.prog 15 #[.slice A0 l0.length c0, .slice A1 l1.length c1] w fun e w' => ∃ v0_ : Value, e = .returned (v0_) ∧ Kd.V (Kd.int .u32) 30 w' w.heap.size (fun k_ => (w.heap.size ≤ k_)) v0_ (limbs (nval l0 + nval l1)) ∧ Below w.heap.size w w' := by
  have b0 := hN0.2
  have b1 := hN1.2
  have HN0 := Aside0.mk hN0
  have HN1 := Aside0.mk hN1
  have HR0 := Aside0.mk hr0
  have HR1 := Aside0.mk hr1
  clear hN0 hN1 hr0 hr1
  obtain ⟨M, hmax, hM0, hM1, hM⟩ : ∃ M : Nat, Builtin.max2 (.int .i64 (l0.length : Int)) (.int .i64 (l1.length : Int)) = pure (.int .i64 (M : Int)) ∧ l0.length ≤ M ∧ l1.length ≤ M ∧ M ≤ 1000000 := by
    by_cases h : l0.length < l1.length
    · exact ⟨l1.length, by rw [max2_int, if_pos (by omega)], by omega, by omega, by omega⟩
    · exact ⟨l0.length, by rw [max2_int, if_neg (by omega)], by omega, by omega, by omega⟩
  have hmk : ∀ W : World, (Instr.makeSlice 22 (.int .i64 ((M : Int) + 1)) (.int .i64 ((M : Int) + 1))).run Try.prog W = .ok (.slice (some ⟨W.heap.size, 0, none⟩) (M + 1) (M + 1)) (W.alloc (.cells (madeCells #[.int .u32 0] (M + 1)) 30)) := print_make (P := Try.prog) 22 30 .u32 4 Try.underlying22 nat_info (by omega) (M + 1) (by omega)
  go_enter Try.func15, Try.ntmps15
  go_wp2_with fail
  clear hmk hmax
  refine (carrier_any _ _ _ _).mono ?_
  rintro e w1 ⟨rfl, rfl⟩
  go_wp2_with fail
  go_loopw [19] (fun v wr => ∃ k : Nat, k ≤ M + 1 ∧ v = .int .i64 k ∧ Aside0 (AddInv l0 l1 M w.heap.size w k wr)) (fun v _ => M + 1 - (intOf v).toNat)
  case atStart =>
    exact ⟨0, by omega, rfl, ⟨AddInv.start w⟩⟩
  case round =>
    obtain ⟨k, hk, rfl, hI⟩ := hrel
    by_cases hlt : k < M + 1
    · have hL0 := HN0.out.lim
      have hL1 := HN1.out.lim
      have hbw : Below w.heap.size w wr := by obtain ⟨_, _, _, _, _, _, _, _, _, h8⟩ := hI.out; exact h8
      have x0 := at_eq l0 k hL0
      have x1 := at_eq l1 k hL1
      have y0 := lim_getD hL0 k
      have y1 := lim_getD hL1 k
      obtain ⟨X, hX⟩ : ∃ X : Nat, (l0.getD k 0).toNat = X := ⟨_, rfl⟩
      obtain ⟨Y, hY⟩ : ∃ X : Nat, (l1.getD k 0).toNat = X := ⟨_, rfl⟩
      rw [hX] at x0
      rw [hY] at x1
      have hX' : X < 4294967296 := by omega
      have hY' : Y < 4294967296 := by omega
      have HX := Aside0.mk hX
      have HY := Aside0.mk hY
      clear hL0 hL1 y0 y1 hX hY
      have X0 := Aside0.mk x0
      have X1 := Aside0.mk x1
      have HBW := Aside0.mk hbw
      clear x0 x1 hbw
      go_wp2_with fail
      refine (nat_at.calls A0 c0 l0 (k : Int) _ wr (Kd.C_below HR0.out HBW.out) hc0 X0.out).mono ?_
      rintro e w1 ⟨rfl, hd⟩
      obtain ⟨n1, rfl⟩ := hd.out
      clear hd
      go_wp2_with fail
      refine (nat_at.calls A1 c1 l1 (k : Int) _ _ (Kd.C_below HR1.out (pw_below_drewN HBW.out _)) hc1 X1.out).mono ?_
      rintro e w1 ⟨rfl, hd⟩
      obtain ⟨n2, rfl⟩ := hd.out
      clear hd
      go_wp2_with fail
      obtain ⟨carry, x, hca, g1, g2, g3, g4, g5, g6⟩ := (hI.out.drewN (n1 + n2)).step hlt HN0.out.lim HN1.out.lim (Nat.le_refl _)
      rw [HX.out, HY.out, Nat.zero_add] at g6
      have G6 := Aside0.mk g6
      clear g6
      refine (put_any k w.heap.size 0 (M + 1) (M + 1) (w.heap.size + 1 + 1) (w.heap.size + 1) carry ((X : Int) + (Y : Int)) (wr.drewN (n1 + n2)) x (by omega) (by omega) (by omega) (by omega) g1 g2 g3 g4 g5 (by omega)).mono ?_
      rintro e w1 ⟨rfl, rfl⟩
      clear g1 g2 g3 g4 g5 hca
      go_wp2_with fail
      go_roundw
      case rel => exact ⟨k + 1, by omega, by go_num, G6⟩
      case measure => simp [intOf]; omega
    · obtain rfl : k = M + 1 := by omega
      obtain ⟨out, carry, h1, h2, h3, h4, h5, h6, h7, h8⟩ := hI.out
      have b0' := nval_lt HN0.out.lim
      have b1' := nval_lt HN1.out.lim
      rw [List.take_of_length_le (by omega), List.take_of_length_le (by omega)] at h4
      have hp : ∀ j, j ≤ M → 4294967296 ^ j ≤ 4294967296 ^ M := fun j hj => Nat.pow_le_pow_right (by omega) hj
      have hp0 := hp _ hM0
      have hp1 := hp _ hM1
      have hs : nval l0 + nval l1 < 4294967296 ^ (M + 1) := by rw [Nat.pow_succ]; omega
      have hc : carry = 0 := by
        rcases Nat.eq_zero_or_pos carry with h | h
        · exact h
        · have : 1 * 4294967296 ^ (M + 1) ≤ carry * 4294967296 ^ (M + 1) := Nat.mul_le_mul_right _ h
          omega
      subst hc
      have hv : nval out = nval l0 + nval l1 := by omega
      have ht : trim out = limbs (nval l0 + nval l1) := by rw [trim_eq h2, hv]
      simp only [Nat.sub_self, List.replicate_zero, List.append_nil] at h5
      have hRd : ReadsInt wr .u32 (some ⟨w.heap.size, 0, none⟩) (M + 1) out := by have := mblk_reads h5 (by omega); rwa [h1] at this
      have H5 := Aside0.mk h5
      have HT := Aside0.mk ht
      have H8 := Aside0.mk h8
      have H1 := Aside0.mk h1
      have HRd := Aside0.mk hRd
      clear h1 h2 h3 h4 h5 h6 h7 h8 hI b0' b1' hp hp0 hp1 hs hv ht hRd
      go_wp2_with fail
      refine (cut_any _ _ _ out wr HRd.out (by omega)).mono ?_
      rintro e w1 ⟨m, rfl, hm, hml, rfl⟩
      have HM := Aside0.mk hm
      clear hm
      go_wp2_with fail
      go_ret
      exact ⟨_, rfl, by rw [← HT.out, HM.out]; exact mblk_V H5.out (by have := H1.out; omega) (Nat.le_refl _) (by have := H1.out; omega), H8.out⟩
theorem nat_Add.calls (A0 : Option Addr) (c0 : Nat) (l0 : List Int) (A1 : Option Addr) (c1 : Nat) (l1 : List Int) (r : List Int) (w : World) (hr0 : Kd.C (Kd.int .u32) w A0 l0.length l0) (hc0 : l0.length ≤ c0) (hr1 : Kd.C (Kd.int .u32) w A1 l1.length l1) (hc1 : l1.length ≤ c1) (h : nat_Add.f l0 l1 = some r) :
    Calls Try.prog 15 #[.slice A0 l0.length c0, .slice A1 l1.length c1] w fun e w' => ∃ v0_ : Value, e = .returned (v0_) ∧ Kd.V (Kd.int .u32) 30 w' w.heap.size (fun k_ => (w.heap.size ≤ k_)) v0_ r ∧ Below w.heap.size w w' := by
  unfold nat_Add.f at h
  split at h
  · rename_i hh
    obtain rfl := Option.some.inj h
    exact add_any A0 c0 l0 A1 c1 l1 w hr0 hc0 hr1 hc1 hh.1 hh.2
  · cases h
end

end Go.Proofs.Ytcfliceeablckaa.PNr

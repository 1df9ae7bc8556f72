-- Written by wip/rprint.py of this session's repo (the kit's printer with patches), out of the translation. Not trusted: Lean checks it.
import Derived.Test.YtcfliceeablckaaPNrx0
import Derived.Test.YtcfliceeablckaaPNrx1
import Derived.Test.YtcfliceeablckaaPNrx2
import Derived.Test.YtcfliceeablckaaPNrx3
namespace Go.Proofs.Ytcfliceeablckaa.PNr
open Go.RowKit Go.Proofs.YtcfliceeablckaaW.PrintWords Go.Proofs.YtcfliceeablckaaW.PrintLast Go.Proofs.YtcfliceeablckaaW.PrintMore Go.Proofs.Ytcfliceeablckaa.MWords
attribute [local go_sem] max2_int min2_int max_two min_two max_three min_three max_four min_four   -- for this text's walks alone
set_option linter.unusedVariables false
set_option linter.unusedSimpArgs false

/-! ### nat_Mul: function 16 -/
def nat_Mul.f (l0 l1 : List Int) : Option (List Int) := if MNat.isN l0 ∧ MNat.isN l1 then some (MNat.limbs (MNat.nval l0 * MNat.nval l1)) else none
section
open Go.Proofs.Ytcfliceeablckaa.MNat Go.Proofs.Ytcfliceeablckaa.MWords
/-- The rows' loop: i rows are there. -/
def MulOut (l0 l1 : List Int) (b : Nat) (w : World) (i : Nat) (wr : World) : Prop :=
  ∃ (out : List Int), out.length = l0.length + l1.length + 1 ∧ Lim out ∧ nval out = nval (l0.take i) * nval l1 ∧ MBlk wr b 30 (nums .u32 out).toArray ∧ Below w.heap.size w wr

/-- A row's loop: k of its limbs are there. -/
def MulIn (l1 old : List Int) (X N b i H1 : Nat) (w : World) (k : Nat) (wr : World) : Prop :=
  ∃ (mid : List Int) (carry : Nat), mid.length = k ∧ Lim mid ∧ carry < 4294967296 ∧ nval mid + carry * 4294967296 ^ k = nval ((old.drop i).take k) + X * nval (l1.take k) ∧
    MBlk wr b 30 (nums .u32 (old.take i ++ (mid ++ old.drop (i + k)))).toArray ∧ MBlk wr H1 22 #[.slice (some ⟨b, i, none⟩) (N - i) (N - i)] ∧ MBlk wr (H1 + 1) 42 #[.int .u64 carry] ∧ Below w.heap.size w wr

theorem MulIn.step {l1 old : List Int} {X N b i H1 k : Nat} {w wr : World} (h : MulIn l1 old X N b i H1 w k wr) (hk : k < N - i) (hX : X < 4294967296) (hL : Lim old) (hl : old.length = N) (hL1 : Lim l1) (hb : w.heap.size ≤ b) (hbH : b < H1) (hN : N ≤ 3000000) :
    ∃ (carry o : Nat), carry < 4294967296 ∧ o < 4294967296 ∧ wr.cell? ⟨H1 + 1, 0, none⟩ = some (.int .u64 carry) ∧ wr.cell? ⟨H1, 0, none⟩ = some (.slice (some ⟨b, i, none⟩) (N - i) (N - i)) ∧ wr.cell? ⟨b, i + k, none⟩ = some (.int .u32 o) ∧
      wr.frozen? ⟨H1 + 1, 0, none⟩ = false ∧ wr.frozen? ⟨b, i + k, none⟩ = false ∧
      ∀ m : Nat, MulIn l1 old X N b i H1 w (k + 1) (((wr.drewN m).setCell ⟨b, i + k, none⟩ (.int .u32 (((X : Int) * ((l1.getD k 0).toNat : Int) + (o : Int) + (carry : Int)) % 4294967296))).setCell ⟨H1 + 1, 0, none⟩ (.int .u64 (((X : Int) * ((l1.getD k 0).toNat : Int) + (o : Int) + (carry : Int)) / 4294967296))) := by
  obtain ⟨mid, carry, h1, h2, h3, h4, h5, h6, h7, h8⟩ := h
  have hy := lim_getD hL1 k
  have ho := lim_getD hL (i + k)
  obtain ⟨Y, hY⟩ : ∃ Y : Nat, (l1.getD k 0).toNat = Y := ⟨_, rfl⟩
  obtain ⟨o, hO⟩ : ∃ o : Nat, (old.getD (i + k) 0).toNat = o := ⟨_, rfl⟩
  rw [hY]
  have hY' : Y < 4294967296 := by omega
  have hO' : o < 4294967296 := by omega
  have hod : old.drop (i + k) = (o : Int) :: old.drop (i + k + 1) := by
    rw [List.drop_eq_getElem_cons (by omega)]
    have : old[i + k]'(by omega) = old.getD (i + k) 0 := by simp [List.getD, List.getElem?_eq_getElem (show i + k < old.length by omega)]
    rw [this]; congr 1; omega
  have hlen : (old.take i).length = i := by rw [List.length_take]; omega
  have hcs : (nums .u32 (old.take i ++ (mid ++ old.drop (i + k)))).toArray[i + k]? = some (.int .u32 (o : Int)) := by
    have hx : (nums .u32 (old.take i ++ mid)).length = i + k := by simp [nums, h1]; omega
    have hy : nums .u32 (old.take i ++ (mid ++ (o : Int) :: old.drop (i + k + 1))) = nums .u32 (old.take i ++ mid) ++ (.int .u32 (o : Int) :: nums .u32 (old.drop (i + k + 1))) := by simp [nums]
    rw [hod, hy, List.getElem?_toArray, List.getElem?_append_right (by omega), hx, Nat.sub_self]
    rfl
  refine ⟨carry, o, h3, hO', by rw [mblk_cell h7]; rfl, by rw [mblk_cell h6]; rfl, by rw [mblk_cell h5]; exact hcs, mblk_frozen h7 _, mblk_frozen h5 _, fun m => ?_⟩
  have hprod : X * Y ≤ 4294967295 * 4294967295 := Nat.mul_le_mul (by omega) (by omega)
  have e0 : (X : Int) * (Y : Int) + (o : Int) + (carry : Int) = ((X * Y + o + carry : Nat) : Int) := by simp
  rw [e0]
  obtain ⟨S, hS⟩ : ∃ S : Nat, X * Y + o + carry = S := ⟨_, rfl⟩
  rw [hS]
  have hS' : S < 4294967296 * 4294967296 := by omega
  have e1 : ((S : Int) % 4294967296) = ((S % 4294967296 : Nat) : Int) := by omega
  have e2 : ((S : Int) / 4294967296) = ((S / 4294967296 : Nat) : Int) := by omega
  rw [e1, e2]
  refine ⟨mid ++ [((S % 4294967296 : Nat) : Int)], S / 4294967296, by simp [h1], lim_append.2 ⟨h2, lim_cons.2 ⟨by omega, lim_nil⟩⟩, by omega, ?_, ?_, ?_, ?_, ?_⟩
  · rw [nval_snoc, h1, Int.toNat_natCast]
    have t0 : nval ((old.drop i).take (k + 1)) = nval ((old.drop i).take k) + 4294967296 ^ k * o := by
      rw [take_succ_rd _ _ (by simp; omega), nval_snoc, List.length_take, Nat.min_eq_left (by simp; omega)]
      congr 3
      rw [← hO]; congr 1
      simp [List.getD, List.getElem?_drop]
    have t1 : nval (l1.take (k + 1)) = nval (l1.take k) + 4294967296 ^ k * Y := by
      by_cases hkl : k < l1.length
      · rw [take_succ_rd _ _ hkl, nval_snoc, hY, List.length_take, Nat.min_eq_left (by omega)]
      · have : Y = 0 := by rw [← hY]; simp [List.getD, List.getElem?_eq_none (Nat.le_of_not_lt hkl)]
        rw [this, List.take_of_length_le (by omega), List.take_of_length_le (by omega)]; simp
    rw [t0, t1, Nat.pow_succ]
    have hdm := Nat.div_add_mod S 4294967296
    generalize 4294967296 ^ k = Bk at *
    generalize hq : S / 4294967296 = q at *
    generalize hr : S % 4294967296 = r at *
    have a1 : Bk * S = Bk * (X * Y) + Bk * o + Bk * carry := by rw [← hS]; simp [Nat.mul_add]
    have a2 : Bk * S = q * (Bk * 4294967296) + Bk * r := by
      rw [← hdm, Nat.mul_add, Nat.mul_comm q (Bk * 4294967296), Nat.mul_assoc]
    have a3 : carry * Bk = Bk * carry := Nat.mul_comm _ _
    have a4 : X * (nval (l1.take k) + Bk * Y) = X * nval (l1.take k) + Bk * (X * Y) := by
      rw [Nat.mul_add, Nat.mul_left_comm]
    omega
  · have h := mblk_far (mblk_set (mblk_drewN h5 m) (i + k) (.int .u32 ((S % 4294967296 : Nat) : Int))) (p := ⟨H1 + 1, 0, none⟩) (by simp; omega) (.int .u64 ((S / 4294967296 : Nat) : Int))
    have e : ((nums .u32 (old.take i ++ (mid ++ old.drop (i + k)))).toArray.setIfInBounds (i + k) (.int .u32 ((S % 4294967296 : Nat) : Int))) = (nums .u32 (old.take i ++ ((mid ++ [((S % 4294967296 : Nat) : Int)]) ++ old.drop (i + (k + 1))))).toArray := by
      rw [hod, show i + (k + 1) = i + k + 1 by omega]
      have hx : (nums .u32 (old.take i ++ mid)).length = i + k := by simp [nums, h1]; omega
      have hy : nums .u32 (old.take i ++ (mid ++ (o : Int) :: old.drop (i + k + 1))) = nums .u32 (old.take i ++ mid) ++ (.int .u32 (o : Int) :: nums .u32 (old.drop (i + k + 1))) := by simp [nums]
      have hz : nums .u32 (old.take i ++ ((mid ++ [((S % 4294967296 : Nat) : Int)]) ++ old.drop (i + k + 1))) = nums .u32 (old.take i ++ mid) ++ (.int .u32 ((S % 4294967296 : Nat) : Int) :: nums .u32 (old.drop (i + k + 1))) := by simp [nums]
      rw [hy, hz, List.setIfInBounds_toArray, List.set_append_right _ _ (by omega), hx, Nat.sub_self]
      rfl
    rw [← e]; exact h
  · exact mblk_far (mblk_far (mblk_drewN h6 m) (p := ⟨b, i + k, none⟩) (by simp; omega) _) (p := ⟨H1 + 1, 0, none⟩) (by simp) _
  · have h := mblk_set (mblk_far (mblk_drewN h7 m) (p := ⟨b, i + k, none⟩) (by simp; omega) (.int .u32 ((S % 4294967296 : Nat) : Int))) 0 (.int .u64 ((S / 4294967296 : Nat) : Int))
    simpa using h
  · exact ((pw_below_drewN h8 m).setCell (by simpa using hb) _).setCell (by simp; omega) _

theorem MulIn.done {l0 l1 old : List Int} {X i H1 : Nat} {w wr : World} (h : MulIn l1 old X (l0.length + l1.length + 1) w.heap.size i H1 w (l0.length + l1.length + 1 - i) wr) (hl : old.length = l0.length + l1.length + 1) (hL : Lim old) (hv : nval old = nval (l0.take i) * nval l1)
    (hX : (l0.getD i 0).toNat = X) (hX' : X < 4294967296) (hL0 : Lim l0) (hL1 : Lim l1) (hi : i < l0.length) : MulOut l0 l1 w.heap.size w (i + 1) wr := by
  obtain ⟨mid, carry, h1, h2, h3, h4, h5, h6, h7, h8⟩ := h
  rw [show i + (l0.length + l1.length + 1 - i) = old.length by omega, List.drop_of_length_le (Nat.le_refl _), List.append_nil] at h5
  rw [List.take_of_length_le (by simp; omega), List.take_of_length_le (by omega)] at h4
  have e0 : nval old = nval (old.take i) + 4294967296 ^ i * nval (old.drop i) := by
    have := nval_append (old.take i) (old.drop i)
    rw [List.take_append_drop, List.length_take, Nat.min_eq_left (by omega)] at this
    exact this
  have e1 : nval (l0.take (i + 1)) = nval (l0.take i) + 4294967296 ^ i * X := by
    rw [take_succ_rd _ _ hi, nval_snoc, hX, List.length_take, Nat.min_eq_left (by omega)]
  have e2 : nval (old.take i ++ mid) + 4294967296 ^ i * (carry * 4294967296 ^ (l0.length + l1.length + 1 - i)) = nval (l0.take (i + 1)) * nval l1 := by
    have h4' := congrArg (4294967296 ^ i * ·) h4
    simp only [Nat.mul_add] at h4'
    rw [nval_append, List.length_take, Nat.min_eq_left (by omega), e1, Nat.add_mul, ← hv, e0, Nat.mul_assoc (4294967296 ^ i) X _]
    omega
  have hb : nval (l0.take (i + 1)) * nval l1 < 4294967296 ^ (l0.length + l1.length + 1) := by
    have b0 := nval_lt (lim_take hL0 (i + 1))
    have b1 := nval_lt hL1
    rw [List.length_take, Nat.min_eq_left (by omega)] at b0
    calc nval (l0.take (i + 1)) * nval l1 ≤ 4294967296 ^ (i + 1) * 4294967296 ^ l1.length := Nat.mul_le_mul (by omega) (by omega)
      _ = 4294967296 ^ (i + 1 + l1.length) := (Nat.pow_add _ _ _).symm
      _ < 4294967296 ^ (l0.length + l1.length + 1) := Nat.pow_lt_pow_right (by omega) (by omega)
  have hc : carry = 0 := by
    rcases Nat.eq_zero_or_pos carry with h | h
    · exact h
    · have e3 : 4294967296 ^ i * (carry * 4294967296 ^ (l0.length + l1.length + 1 - i)) = carry * 4294967296 ^ (l0.length + l1.length + 1) := by
        rw [Nat.mul_comm, Nat.mul_assoc, ← Nat.pow_add, show l0.length + l1.length + 1 - i + i = l0.length + l1.length + 1 by omega]
      have : 1 * 4294967296 ^ (l0.length + l1.length + 1) ≤ carry * 4294967296 ^ (l0.length + l1.length + 1) := Nat.mul_le_mul_right _ h
      omega
  subst hc
  refine ⟨old.take i ++ mid, by simp [h1]; omega, lim_append.2 ⟨lim_take hL _, h2⟩, by simpa using e2, h5, h8⟩

set_option maxHeartbeats 400000 in
theorem mul_any (A0 : Option Addr) (c0 : Nat) (l0 : List Int) (A1 : Option Addr) (c1 : Nat) (l1 : List Int) (w : World) (hr0 : Kd.C (Kd.int .u32) w A0 l0.length l0) (hc0 : l0.length ≤ c0) (hr1 : Kd.C (Kd.int .u32) w A1 l1.length l1) (hc1 : l1.length ≤ c1)
    (hN0 : isN l0) (hN1 : isN l1) :
    Calls Try.prog 16 #[.slice A0 l0.length c0, .slice A1 l1.length c1] w fun e w' => ∃ v0_ : Value, e = .returned (v0_) ∧ Kd.V (Kd.int .u32) 30 w' w.heap.size (fun k_ => (w.heap.size ≤ k_)) v0_ (limbs (nval l0 * nval l1)) ∧ Below w.heap.size w w' := by
  have b0 := hN0.2
  have b1 := hN1.2
  have HN0 := Aside0.mk hN0
  have HN1 := Aside0.mk hN1
  have HR0 := Aside0.mk hr0
  have HR1 := Aside0.mk hr1
  clear hN0 hN1 hr0 hr1
  have hmk : ∀ W : World, (Instr.makeSlice 22 (.int .i64 ((l0.length : Int) + (l1.length : Int) + 1)) (.int .i64 ((l0.length : Int) + (l1.length : Int) + 1))).run Try.prog W = .ok (.slice (some ⟨W.heap.size, 0, none⟩) (l0.length + l1.length + 1) (l0.length + l1.length + 1)) (W.alloc (.cells (madeCells #[.int .u32 0] (l0.length + l1.length + 1)) 30)) := print_make (P := Try.prog) 22 30 .u32 4 Try.underlying22 nat_info (by omega) (l0.length + l1.length + 1) (by omega)
  go_enter Try.func16, Try.ntmps16
  go_wp2_with fail
  clear hmk
  go_loopw [19] (fun v wr => ∃ i : Nat, i ≤ l0.length ∧ v = .int .i64 i ∧ Aside0 (MulOut l0 l1 w.heap.size w i wr)) (fun v _ => l0.length - (intOf v).toNat)
  case atStart =>
    refine ⟨0, by omega, rfl, ⟨List.replicate (l0.length + l1.length + 1) 0, by simp, lim_zeros _, by simp [nval_zeros, nval], ?_, (Below.refl _ _).alloc (Nat.le_refl _) _⟩⟩
    rw [← made_nums]
    exact mblk_new w 30 (madeCells #[.int .u32 0] (l0.length + l1.length + 1))
  case round =>
    obtain ⟨i, hi, rfl, hI⟩ := hrel
    by_cases hlt : i < l0.length
    · have hbw : Below w.heap.size w wr := by obtain ⟨_, _, _, _, _, h8⟩ := hI.out; exact h8
      obtain ⟨ad, rfl, hcell⟩ := Kd.at_int (Kd.C_below HR0.out hbw) (i : Int) (by omega) (by omega)
      have hx := lim_getD HN0.out.lim i
      have e : rd l0 (i : Int) = ((l0.getD i 0).toNat : Nat) := by simp only [rd, Int.toNat_natCast]; omega
      rw [e, Int.toNat_natCast] at hcell
      obtain ⟨X, hX⟩ : ∃ X : Nat, (l0.getD i 0).toNat = X := ⟨_, rfl⟩
      rw [hX] at hcell
      have hX' : X < 4294967296 := by omega
      have HX := Aside0.mk hX
      have HBW := Aside0.mk hbw
      clear hx e hX hbw
      go_wp2_with fail
      refine (carrier_any _ _ _ _).mono ?_
      rintro e w1 ⟨rfl, rfl⟩
      obtain ⟨wo, rfl⟩ : ∃ wo : World, wo = wr := ⟨_, rfl⟩
      obtain ⟨old, o1, o2, o3, o4, o5⟩ := hI.out
      have hstart : MulIn l1 old X (l0.length + l1.length + 1) w.heap.size i wo.heap.size w 0 ((wo.alloc (.cells #[.slice (some ⟨w.heap.size, i, none⟩) (l0.length + l1.length + 1 - i) (l0.length + l1.length + 1 - i)] 22)).alloc (.cells #[.int .u64 0] 42)) := by
        refine ⟨[], 0, rfl, lim_nil, by omega, by simp [nval], ?_, ?_, ?_, ?_⟩
        · have h := mblk_alloc (mblk_alloc o4 (.cells #[.slice (some ⟨w.heap.size, i, none⟩) (l0.length + l1.length + 1 - i) (l0.length + l1.length + 1 - i)] 22)) (.cells #[.int .u64 0] 42)
          simpa [List.take_append_drop] using h
        · exact mblk_alloc (mblk_new wo 22 _) _
        · simpa using mblk_new (wo.alloc (.cells #[.slice (some ⟨w.heap.size, i, none⟩) (l0.length + l1.length + 1 - i) (l0.length + l1.length + 1 - i)] 22)) 42 #[.int .u64 0]
        · exact (o5.alloc o5.size _).alloc (by have := o5.size; simp; omega) _
      have HST := Aside0.mk hstart
      have O2 := Aside0.mk o2
      have O3 := Aside0.mk o3
      have O1 := Aside0.mk o1
      have O5 := Aside0.mk o5
      have hbH := mblk_lt o4
      clear o1 o2 o3 o4 o5 hstart
      go_wp2_with fail
      go_loopw [32] (fun v wk => ∃ k : Nat, k ≤ l0.length + l1.length + 1 - i ∧ v = .int .i64 k ∧ Aside0 (MulIn l1 old X (l0.length + l1.length + 1) w.heap.size i wo.heap.size w k wk)) (fun v _ => l0.length + l1.length + 1 - i - (intOf v).toNat)
      case atStart =>
        exact ⟨0, by omega, rfl, HST⟩
      case round =>
        obtain ⟨k, hk, rfl, hJ⟩ := hrel
        by_cases hkt : k < l0.length + l1.length + 1 - i
        · have hbk : Below w.heap.size w wr := by obtain ⟨_, _, _, _, _, _, _, _, _, h8⟩ := hJ.out; exact h8
          have HBK := Aside0.mk hbk
          obtain ⟨carry, o, hca, ho, g1, g2, g3, g4, g5, g6⟩ := hJ.out.step hkt hX' O2.out O1.out HN1.out.lim (Nat.le_refl _) hbH (by omega)
          have x1 := at_eq l1 k HN1.out.lim
          have y1 := lim_getD HN1.out.lim k
          obtain ⟨Y, hY⟩ : ∃ X : Nat, (l1.getD k 0).toNat = X := ⟨_, rfl⟩
          rw [hY] at x1 g6
          have hY' : Y < 4294967296 := by omega
          have X1 := Aside0.mk x1
          have G1 := Aside0.mk g1
          have G2 := Aside0.mk g2
          have G4 := Aside0.mk g4
          have G5 := Aside0.mk g5
          have G6 := Aside0.mk g6
          have G3 := Aside0.mk g3
          have hXY : (X : Int) * (Y : Int) ≤ 18446744065119617025 := by
            have h1 : X * Y ≤ 4294967295 * 4294967295 := Nat.mul_le_mul (by omega) (by omega)
            have h2 : ((X * Y : Nat) : Int) ≤ ((4294967295 * 4294967295 : Nat) : Int) := Int.ofNat_le.2 h1
            simpa using h2
          have hXY0 : (0 : Int) ≤ (X : Int) * (Y : Int) := Int.mul_nonneg (by omega) (by omega)
          have ik1 : (0 : Int) ≤ (i : Int) + (k : Int) := by omega
          have ik2 : (i : Int) + (k : Int) < (l0.length : Int) + (l1.length : Int) + 1 := by omega
          clear y1 hbk x1 hY g1 g2 g4 g5 g6 hJ hI
          go_wp2_with fail
          have ikw : IntKind.i64.wrap ((i : Int) + (k : Int)) = (i : Int) + (k : Int) := IntWalk.i64_in _ (by omega)
          have ikn : ((i : Int) + (k : Int)).toNat = i + k := by omega
          have wX : IntKind.u64.wrap (X : Int) = (X : Int) := by rw [IntKind.wrap_u64]; omega
          have wo' : IntKind.u64.wrap (o : Int) = (o : Int) := by rw [IntKind.wrap_u64]; omega
          have wXY : IntKind.u64.wrap ((X : Int) * (Y : Int)) = (X : Int) * (Y : Int) := by rw [IntKind.wrap_u64]; omega
          have wS : IntKind.u64.wrap ((X : Int) * (Y : Int) + (o : Int)) = (X : Int) * (Y : Int) + (o : Int) := by rw [IntKind.wrap_u64]; omega
          have hput := fun n : Nat => put_any k w.heap.size i (l0.length + l1.length + 1 - i) (l0.length + l1.length + 1 - i) (wo.heap.size + 1) wo.heap.size carry ((X : Int) * (Y : Int) + (o : Int)) (wr.drewN n) (.int .u32 (o : Int)) (by omega) (by omega) (by omega) (by omega) G1.out G2.out G3.out G4.out G5.out (by omega)
          have HP := Aside0.mk hput
          clear hput
          go_region_with (first | (go_at_call 51; (with_reducible refine (nat_at.calls A1 c1 l1 (k : Int) _ _ (Kd.C_below HR1.out (by repeat (first | exact HBK.out | apply pw_below_drewN | apply below_drew)) ) hc1 X1.out).mono ?_); rintro e w1 ⟨rfl, hd⟩; obtain ⟨n1, rfl⟩ := hd.out; clear hd) | (go_at_call 67; (with_reducible refine (HP.out _).mono ?_); rintro e w1 ⟨rfl, rfl⟩))
          all_goals
            clear ikw ikn wX wo' wXY wS
            go_wp2_with fail
            go_roundw
            case rel => exact ⟨k + 1, by omega, by go_num, ⟨G6.out _⟩⟩
            case measure => simp [intOf]; omega
        · obtain rfl : k = l0.length + l1.length + 1 - i := by omega
          have hout : MulOut l0 l1 w.heap.size w (i + 1) wr := MulIn.done hJ.out O1.out O2.out O3.out HX.out hX' HN0.out.lim HN1.out.lim hlt
          have HO := Aside0.mk hout
          clear hout
          go_wp2_with fail
          go_roundw
          case rel => exact ⟨i + 1, by omega, by go_num, HO⟩
          case measure => simp [intOf]; omega
    · obtain rfl : i = l0.length := by omega
      obtain ⟨out, h1, h2, h3, h4, h5⟩ := hI.out
      rw [List.take_of_length_le (Nat.le_refl _)] at h3
      have ht : trim out = limbs (nval l0 * nval l1) := by rw [trim_eq h2, h3]
      have hRd : ReadsInt wr .u32 (some ⟨w.heap.size, 0, none⟩) (l0.length + l1.length + 1) out := by have := mblk_reads h4 (by omega); rwa [h1] at this
      have H4 := Aside0.mk h4
      have HT := Aside0.mk ht
      have H5 := Aside0.mk h5
      have H1 := Aside0.mk h1
      have HRd := Aside0.mk hRd
      clear h1 h2 h3 h4 h5 hI ht hRd
      go_wp2_with fail
      refine (cut_any _ _ _ out wr HRd.out (by omega)).mono ?_
      rintro e w1 ⟨m, rfl, hm, hml, rfl⟩
      have HM := Aside0.mk hm
      clear hm
      go_wp2_with fail
      go_ret
      exact ⟨_, rfl, by rw [← HT.out, HM.out]; exact mblk_V H4.out (by have := H1.out; omega) (Nat.le_refl _) (by have := H1.out; omega), H5.out⟩
theorem nat_Mul.calls (A0 : Option Addr) (c0 : Nat) (l0 : List Int) (A1 : Option Addr) (c1 : Nat) (l1 : List Int) (r : List Int) (w : World) (hr0 : Kd.C (Kd.int .u32) w A0 l0.length l0) (hc0 : l0.length ≤ c0) (hr1 : Kd.C (Kd.int .u32) w A1 l1.length l1) (hc1 : l1.length ≤ c1) (h : nat_Mul.f l0 l1 = some r) :
    Calls Try.prog 16 #[.slice A0 l0.length c0, .slice A1 l1.length c1] w fun e w' => ∃ v0_ : Value, e = .returned (v0_) ∧ Kd.V (Kd.int .u32) 30 w' w.heap.size (fun k_ => (w.heap.size ≤ k_)) v0_ r ∧ Below w.heap.size w w' := by
  unfold nat_Mul.f at h
  split at h
  · rename_i hh
    obtain rfl := Option.some.inj h
    exact mul_any A0 c0 l0 A1 c1 l1 w hr0 hc0 hr1 hc1 hh.1 hh.2
  · cases h
end

end Go.Proofs.Ytcfliceeablckaa.PNr

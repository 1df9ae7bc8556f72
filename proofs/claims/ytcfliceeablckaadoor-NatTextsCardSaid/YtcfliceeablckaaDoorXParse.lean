/- The walk of nat's Parse (seat Door). -/
import Derived.Test.YtcfliceeablckaaDoorQText
import Derived.Test.YtcfliceeablckaaDoorQEv
import Derived.Test.YtcfliceeablckaaDoorQBits
import Derived.Test.YtcfliceeablckaaDoorXTrim
import Derived.Deep.RegionHeld3
import Derived.Deep.CutBlock
import Derived.Test.YtcfliceeablckaaDoorPNdx4
namespace Go.Proofs.YtcfliceeablckaaDoor.XParse
open Go.RowKit Go.Proofs.YtcfliceeablckaaDoor.PNd Go.Proofs.YtcfliceeablckaaDoorW.PrintWords Go.Proofs.YtcfliceeablckaaDoorW.PrintLast Go.Proofs.YtcfliceeablckaaDoorW.PrintMore Go.Proofs.YtcfliceeablckaaDoor.MWords
open Go.Proofs.YtcfliceeablckaaDoor.MNat Go.Proofs.YtcfliceeablckaaDoor.QNat Go.Proofs.YtcfliceeablckaaDoor.QText Go.Proofs.YtcfliceeablckaaDoor.QEv
set_option linter.unusedVariables false
set_option linter.unusedSimpArgs false
-- nat_Of.calls nat_Mul.calls nat_Add.calls

/-- A number, readable at a world. -/
def NV (W : World) (v : Value) (a : List Int) : Prop := ∃ A c, v = .slice A a.length c ∧ a.length ≤ c ∧ Kd.C (Kd.int .u32) W A a.length a
theorem NV.below {W W' : World} {v : Value} {a : List Int} (h : NV W v a) (hb : Below W.heap.size W W') : NV W' v a := by
  obtain ⟨A, c, e, h1, h2⟩ := h
  exact ⟨A, c, e, h1, Kd.C_below h2 hb⟩
theorem NV.ofV {W : World} {v : Value} {a : List Int} {e base : Nat} {ok : Nat → Prop} (h : Kd.V (Kd.int .u32) e W base ok v a) : NV W v a := by
  obtain ⟨A, c, rfl⟩ := Kd.V_slice h
  exact ⟨A, c, rfl, (Kd.V_reads' h).2.1, (Kd.V_reads' h).2.2⟩
def digs (s : ByteArray) : Prop := ∀ i : Nat, i < s.size → 48 ≤ bt s i ∧ bt s i ≤ 57
/-- May these bytes be a number? -/
def goodS (s : ByteArray) : Prop := 0 < s.size ∧ ¬ (1 < s.size ∧ bt s 0 = 48) ∧ digs s
/-- The number of the first digits. -/
def valT (s : ByteArray) : Nat → Nat
  | 0 => 0
  | i + 1 => valT s i * 10 + (bt s i - 48).toNat
theorem valT_lt (s : ByteArray) (h : digs s) : ∀ i : Nat, i ≤ s.size → valT s i < 10 ^ i
  | 0, _ => by simp [valT]
  | i + 1, hi => by
    have := valT_lt s h i (by omega)
    have := h i (by omega)
    rw [valT, Nat.pow_succ]
    omega
theorem of_rv (n : Nat) (hn : n < 18446744073709551616) (W : World) : Calls Tryd.prog 10 #[.int .u64 (n : Int)] W fun e w' => ∃ v : Value, e = .returned v ∧ NV w' v (limbs n) ∧ Below W.heap.size W w' := by
  have h := of_f (n : Int) (by omega) (by omega)
  rw [Int.toNat_natCast] at h
  exact (nat_Of.calls (n : Int) _ W h).mono fun e w' ⟨v, he, h1, hb⟩ => ⟨v, he, NV.ofV h1, hb⟩
theorem of_rvX (x : Int) (n : Nat) (hn : n < 18446744073709551616) (W : World) (hx : x = (n : Int)) : Calls Tryd.prog 10 #[.int .u64 x] W fun e w' => ∃ v : Value, e = .returned v ∧ NV w' v (limbs n) ∧ Below W.heap.size W w' := by
  subst hx
  exact of_rv n hn W
theorem mul_rv (j a b : Nat) (hj : j ≤ 1000000) (x y : Value) (W : World) (ha : a < 4294967296 ^ j) (hb : b < 4294967296 ^ j) (h : NV W x (limbs a)) (g : NV W y (limbs b)) : Calls Tryd.prog 17 #[x, y] W fun e w' => ∃ v : Value, e = .returned v ∧ NV w' v (limbs (a * b)) ∧ Below W.heap.size W w' := by
  have hf := mul_f (limbs a) (limbs b) (isN_limbs ha hj) (isN_limbs hb hj)
  rw [nval_limbs, nval_limbs] at hf
  obtain ⟨A, c, rfl, h1, h2⟩ := h
  obtain ⟨A', c', rfl, h3, h4⟩ := g
  exact (nat_Mul.calls A c _ A' c' _ _ W h2 h1 h4 h3 hf).mono fun e w' ⟨v, he, h1, hb⟩ => ⟨v, he, NV.ofV h1, hb⟩
theorem add_rv (j a b : Nat) (hj : j ≤ 1000000) (x y : Value) (W : World) (ha : a < 4294967296 ^ j) (hb : b < 4294967296 ^ j) (h : NV W x (limbs a)) (g : NV W y (limbs b)) : Calls Tryd.prog 19 #[x, y] W fun e w' => ∃ v : Value, e = .returned v ∧ NV w' v (limbs (a + b)) ∧ Below W.heap.size W w' := by
  have hf := add_f (limbs a) (limbs b) (isN_limbs ha hj) (isN_limbs hb hj)
  rw [nval_limbs, nval_limbs] at hf
  obtain ⟨A, c, rfl, h1, h2⟩ := h
  obtain ⟨A', c', rfl, h3, h4⟩ := g
  exact (nat_Add.calls A c _ A' c' _ _ W h2 h1 h4 h3 hf).mono fun e w' ⟨v, he, h1, hb⟩ => ⟨v, he, NV.ofV h1, hb⟩
def ds : List UInt8 := [48, 49, 50, 51, 52, 53, 54, 55, 56, 57]
theorem drop_nil {l : List UInt8} {p : UInt8 → Bool} : l.dropWhile p = [] ↔ ∀ b ∈ l, p b = true := by
  induction l with
  | nil => simp
  | cons x l ih =>
    rw [List.dropWhile_cons]
    by_cases h : p x = true
    · rw [if_pos h, ih]; simp [h]
    · rw [if_neg h]
      constructor
      · intro c; cases c
      · intro c; exact absurd (c x (by simp)) h
theorem trim_nil' (l cs : List UInt8) : Go.Lib.trimS l cs = [] ↔ ∀ b ∈ l, cs.contains b = true := by
  unfold Go.Lib.trimS Go.Lib.trimLeftS Go.Lib.trimRightS
  rw [drop_nil]
  constructor
  · intro h b hb
    by_cases hc : cs.contains b = true
    · exact hc
    · refine absurd (h b ?_) hc
      rw [List.mem_reverse]
      have : b ∈ l.reverse := by simpa using hb
      rw [← List.takeWhile_append_dropWhile (p := fun x => cs.contains x) (l := l.reverse)] at this
      rcases List.mem_append.1 this with h1 | h1
      · exact absurd (List.all_eq_true.1 (List.all_takeWhile (p := fun x => cs.contains x) (l := l.reverse)) b h1) hc
      · exact h1
  · intro h b hb
    rw [List.mem_reverse] at hb
    exact h b (by simpa using (List.dropWhile_sublist _).mem hb)
set_option maxRecDepth 100000 in
theorem ds_nat : ∀ n : Fin 256, ds.contains (UInt8.ofNat n.val) = decide (48 ≤ n.val ∧ n.val ≤ 57) := by decide
theorem ds_has (b : UInt8) : ds.contains b = true ↔ 48 ≤ b.toNat ∧ b.toNat ≤ 57 := by
  have h := ds_nat ⟨b.toNat, b.toNat_lt⟩
  simp only [UInt8.ofNat_toNat] at h
  rw [h, decide_eq_true_eq]
theorem trim_digs (s : ByteArray) : Go.Lib.trimS s.data.toList ds = [] ↔ digs s := by
  rw [trim_nil']
  constructor
  · intro h i hi
    have hb := bt_at s (i : Int) (by simpa using hi)
    have hm : s[i] ∈ s.data.toList := by
      show s.data[i] ∈ s.data.toList
      simp
    have := (ds_has _).1 (h _ hm)
    have e : bt s (i : Int) = ((s[i]).toNat : Int) := hb.symm
    omega
  · intro h b hb
    obtain ⟨i, hi, rfl⟩ := List.getElem_of_mem hb
    have hi' : i < s.size := by simpa using hi
    have hb2 := bt_at s (i : Int) (by simpa using hi')
    have e : bt s (i : Int) = ((s[i]).toNat : Int) := hb2.symm
    have := h i hi'
    refine (ds_has _).2 ?_
    have e2 : s.data.toList[i] = s[i] := by
      show s.data.toList[i] = s.data[i]
      simp
    rw [e2]
    omega
theorem big {n i j : Nat} (h : n < 10 ^ i) (hi : i ≤ j) : n < 4294967296 ^ j :=
  Nat.lt_of_lt_of_le h (Nat.le_trans (Nat.pow_le_pow_right (by omega) hi) (Nat.pow_le_pow_left (by omega) j))
theorem bytes_nil (s : ByteArray) : s.toList = ([] : List UInt8) ↔ s.size = 0 := by
  rw [ByteArray.toList_eq]
  constructor
  · intro h
    have := congrArg List.length h
    simpa using this
  · intro h
    exact List.eq_nil_of_length_eq_zero (by simpa using h)
theorem val_next (s : ByteArray) (i dg : Nat) (h : dg = (bt s i - 48).toNat) : valT s (i + 1) = valT s i * 10 + dg := by rw [valT, h]
theorem nv_next {W : World} {v : Value} (s : ByteArray) (i dg : Nat) (h : dg = (bt s i - 48).toNat) (g : NV W v (limbs (valT s i * 10 + dg))) : NV W v (limbs (valT s (i + 1))) := by rw [val_next s i dg h]; exact g
theorem meas_next (s : ByteArray) (i : Nat) (h : i < s.size) (hw : wrap64 ((i : Int) + 1) = ((i + 1 : Nat) : Int)) : s.size - (intOf (.int .i64 (wrap64 ((i : Int) + 1)))).toNat < s.size - (intOf (.int .i64 (i : Int))).toNat := by
  rw [hw]
  show s.size - (i + 1) < s.size - i
  omega
def BadIs (b : Bool) (s : ByteArray) : Prop := match b with | true => ¬ goodS s | false => goodS s
set_option maxRecDepth 100000 in
set_option maxHeartbeats 4000000 in
theorem parse_calls (s : ByteArray) (w : World) (hs : s.size ≤ 1000) :
    Calls Tryd.prog 7 #[.string s] w fun e w' => Below w.heap.size w w' ∧ ((goodS s ∧ ∃ v, e = .returned (.tuple #[v, .int .i64 0]) ∧ NV w' v (limbs (valT s s.size))) ∨ (¬ goodS s ∧ e = .returned (.tuple #[.slice none 0 0, .int .i64 10]))) := by
  have mixed : Tryd.prog.follows Departure.mixedOrders = true := by kernel_rfl
  have HS := Aside0.mk hs
  obtain ⟨J, hJ⟩ : ∃ J, J = 1001 := ⟨_, rfl⟩
  have HJ := Aside0.mk hJ
  clear hs hJ
  go_enter Tryd.func7, Tryd.ntmps7
  go_upto_region 1 with fail
  go_cut [22] (fun v22 wc => ∃ Bv, v22 = .bool Bv ∧ Aside0 (BadIs Bv s) ∧ Aside0 (Below w.heap.size w wc))
  case first =>
    by_cases c1 : s.toList = ([] : List UInt8)
    · have c1b0 : (s.toList == ([] : List UInt8)) = true := beq_iff_eq.mpr c1
      have h0 := (bytes_nil s).1 c1
      have HB := Aside0.mk (show BadIs true s from fun h => by have := h.1; omega)
      clear c1 h0
      go_wp2_with fail
      go_meet
      case rel => exact ⟨true, by first | rfl | (simp; done), HB, ⟨Below.refl _ _⟩⟩
    · have c1b0 : (s.toList == ([] : List UInt8)) = false := beq_eq_false_iff_ne.mpr c1
      have h0 : 0 < s.size := Nat.pos_of_ne_zero (fun h => c1 ((bytes_nil s).2 h))
      have q5 : (0 < s.size) = True := eq_true h0
      have qi5 : (0 < (s.size : Int)) = True := eq_true (by omega)
      have hx5 : ∀ h : 0 < s.size, ((s[0]'h).toNat : Int) = bt s 0 := bt_at s 0
      have H0 := Aside0.mk h0
      clear c1 h0
      by_cases c2 : 1 < s.size
      · have c2b0 : decide (1 < (s.size : Int)) = true := decide_eq_true (by omega)
        have C2 := Aside0.mk c2
        clear c2
        by_cases c3 : bt s 0 = 48
        · have c3b0 : (bt s 0 == 48) = true := beq_iff_eq.mpr c3
          have HB := Aside0.mk (show BadIs true s from fun h => h.2.1 ⟨C2.out, c3⟩)
          clear c3
          go_wp2_with fail
          go_meet
          case rel => exact ⟨true, by first | rfl | (simp; done), HB, ⟨Below.refl _ _⟩⟩
        · have c3b0 : (bt s 0 == 48) = false := beq_eq_false_iff_ne.mpr c3
          have CN := Aside0.mk c3
          clear c3
          obtain ⟨r, hr⟩ : ∃ r : ByteArray, r = ⟨(Go.Lib.trimS s.data.toList ds).toArray⟩ := ⟨_, rfl⟩
          have hrl : r.toList = Go.Lib.trimS s.data.toList ds := by rw [hr, ByteArray.toList_eq]
          have HRR := Aside0.mk hr
          clear hr
          by_cases c4 : digs s
          · have e0 : (r.toList == ([] : List UInt8)) = true := beq_iff_eq.mpr (by rw [hrl]; exact (trim_digs s).2 c4)
            have e1 : (r.toList != ([] : List UInt8)) = false := bne_eq_false_iff_eq.mpr (by rw [hrl]; exact (trim_digs s).2 c4)
            have HB := Aside0.mk (show BadIs false s from ⟨H0.out, (fun h_ => CN.out h_.2), c4⟩)
            clear c4 hrl
            go_wp2_with (go_at_call 18; refine (XTrim.trim_calls s _ (by have := HS.out; omega)).mono ?_; rintro e w1 ⟨rfl, hb⟩; rw [show (⟨(Go.Lib.trimS s.data.toList [48, 49, 50, 51, 52, 53, 54, 55, 56, 57]).toArray⟩ : ByteArray) = r from HRR.out.symm]; have HB1 := Aside0.mk hb; clear hb)
            go_meet
            case rel => exact ⟨false, by first | rfl | (simp; done), HB, HB1⟩
          · have e0 : (r.toList == ([] : List UInt8)) = false := beq_eq_false_iff_ne.mpr (by rw [hrl]; exact fun h => c4 ((trim_digs s).1 h))
            have e1 : (r.toList != ([] : List UInt8)) = true := bne_iff_ne.mpr (by rw [hrl]; exact fun h => c4 ((trim_digs s).1 h))
            have HB := Aside0.mk (show BadIs true s from fun h => c4 h.2.2)
            clear c4 hrl
            go_wp2_with (go_at_call 18; refine (XTrim.trim_calls s _ (by have := HS.out; omega)).mono ?_; rintro e w1 ⟨rfl, hb⟩; rw [show (⟨(Go.Lib.trimS s.data.toList [48, 49, 50, 51, 52, 53, 54, 55, 56, 57]).toArray⟩ : ByteArray) = r from HRR.out.symm]; have HB1 := Aside0.mk hb; clear hb)
            go_meet
            case rel => exact ⟨true, by first | rfl | (simp; done), HB, HB1⟩
      · have c2b0 : decide (1 < (s.size : Int)) = false := decide_eq_false (by omega)
        have CN := Aside0.mk c2
        clear c2
        obtain ⟨r, hr⟩ : ∃ r : ByteArray, r = ⟨(Go.Lib.trimS s.data.toList ds).toArray⟩ := ⟨_, rfl⟩
        have hrl : r.toList = Go.Lib.trimS s.data.toList ds := by rw [hr, ByteArray.toList_eq]
        have HRR := Aside0.mk hr
        clear hr
        by_cases c4 : digs s
        · have e0 : (r.toList == ([] : List UInt8)) = true := beq_iff_eq.mpr (by rw [hrl]; exact (trim_digs s).2 c4)
          have e1 : (r.toList != ([] : List UInt8)) = false := bne_eq_false_iff_eq.mpr (by rw [hrl]; exact (trim_digs s).2 c4)
          have HB := Aside0.mk (show BadIs false s from ⟨H0.out, (fun h_ => CN.out h_.1), c4⟩)
          clear c4 hrl
          go_wp2_with (go_at_call 18; refine (XTrim.trim_calls s _ (by have := HS.out; omega)).mono ?_; rintro e w1 ⟨rfl, hb⟩; rw [show (⟨(Go.Lib.trimS s.data.toList [48, 49, 50, 51, 52, 53, 54, 55, 56, 57]).toArray⟩ : ByteArray) = r from HRR.out.symm]; have HB1 := Aside0.mk hb; clear hb)
          go_meet
          case rel => exact ⟨false, by first | rfl | (simp; done), HB, HB1⟩
        · have e0 : (r.toList == ([] : List UInt8)) = false := beq_eq_false_iff_ne.mpr (by rw [hrl]; exact fun h => c4 ((trim_digs s).1 h))
          have e1 : (r.toList != ([] : List UInt8)) = true := bne_iff_ne.mpr (by rw [hrl]; exact fun h => c4 ((trim_digs s).1 h))
          have HB := Aside0.mk (show BadIs true s from fun h => c4 h.2.2)
          clear c4 hrl
          go_wp2_with (go_at_call 18; refine (XTrim.trim_calls s _ (by have := HS.out; omega)).mono ?_; rintro e w1 ⟨rfl, hb⟩; rw [show (⟨(Go.Lib.trimS s.data.toList [48, 49, 50, 51, 52, 53, 54, 55, 56, 57]).toArray⟩ : ByteArray) = r from HRR.out.symm]; have HB1 := Aside0.mk hb; clear hb)
          go_meet
          case rel => exact ⟨true, by first | rfl | (simp; done), HB, HB1⟩
  case rest =>
    obtain ⟨Bv, rfl, HBI, HW⟩ := hcut
    cases Bv with
    | true =>
      go_wp2_with fail
      exact bodyPost_ret (results_tmp2 rfl _ _ _) rfl ⟨HW.out, .inr ⟨HBI.out, rfl⟩⟩
    | false =>
      have HG := Aside0.mk (show goodS s from HBI.out)
      clear HBI
      go_wp2_with fail
      go_loopw [4, 5, 25] (fun v4 _ v25 wr => ∃ i : Nat, v25 = .int .i64 i ∧ i ≤ s.size ∧ Aside0 (NV wr v4 (limbs (valT s i))) ∧ Aside0 (Below w.heap.size w wr)) (fun _ _ v25 _ => s.size - (intOf v25).toNat)
      case atStart => exact ⟨0, rfl, by omega, ⟨none, 0, by rw [show valT s 0 = 0 from rfl, limbs_zero]; rfl, by rw [show valT s 0 = 0 from rfl, limbs_zero]; exact Nat.le_refl _, by rw [show valT s 0 = 0 from rfl, limbs_zero]; exact ⟨rfl, by decide, fun h => by cases h⟩⟩, HW⟩
      case round =>
        obtain ⟨i, rfl, hi, HV, HB⟩ := hrel
        by_cases hlt : i < s.size
        · have d1 : decide ((i : Int) < (s.size : Int)) = true := decide_eq_true (by omega)
          obtain ⟨dg, hdg⟩ : ∃ dg : Nat, dg = (bt s i - 48).toNat := ⟨_, rfl⟩
          obtain ⟨b1, b2⟩ := HG.out.2.2 i hlt
          have u1 : (bt s i - 48) % 256 = (dg : Int) := by omega
          have HD := Aside0.mk hdg
          have hd9 : dg ≤ 9 := by omega
          have p5 : 0 ≤ (i : Int) := by omega
          have q5 : ((i : Int).toNat < s.size) = True := eq_true (by simpa using hlt)
          have q6 : (i < s.size) = True := eq_true hlt
          have hx5 : ∀ h : (i : Int).toNat < s.size, ((s[(i : Int).toNat]'h).toNat : Int) = bt s i := bt_at s (i : Int)
          have hx6 : ∀ h : i < s.size, ((s[i]'h).toNat : Int) = bt s i := bt_at s (i : Int)
          have qi5 : ((i : Int) < (s.size : Int)) = True := eq_true (by omega)
          have HLT := Aside0.mk hlt
          have HW1 := Aside0.mk (show wrap64 ((i : Int) + 1) = ((i + 1 : Nat) : Int) by have := HS.out; rw [QBits.w64 (by omega) (by omega)]; omega)
          clear hlt hdg b1 b2
          obtain ⟨A, c, rfl, hc, hC⟩ := HV.out
          have HNV := Aside0.mk (show NV wr (.slice A (limbs (valT s i)).length c) (limbs (valT s i)) from ⟨A, c, rfl, hc, hC⟩)
          have HVL := Aside0.mk (big (valT_lt s HG.out.2.2 i hi) (show i ≤ J by have := HS.out; have := HJ.out; omega))
          have HVM := Aside0.mk (show valT s i * 10 < 4294967296 ^ J from big (i := i + 1) (by have := valT_lt s HG.out.2.2 i hi; rw [Nat.pow_succ]; omega) (by have := HS.out; have := HJ.out; omega))
          obtain ⟨li, hli⟩ : ∃ li, li = limbs (valT s i) := ⟨_, rfl⟩
          rw [← hli] at HNV ⊢
          have HLI := Aside0.mk hli
          clear hc hC HV hli
          go_upto_region 7 with fail
          have u3 : IntKind.u8.wrap (bt s i - 48) = (dg : Int) := by rw [IntKind.wrap_u8]; exact u1
          have U3 := Aside0.mk u3
          clear u3
          have u2 : IntKind.u64.wrap (dg : Int) = (dg : Int) := by rw [IntKind.wrap_u64]; omega
          have HDJ := Aside0.mk (show dg < 4294967296 ^ J ∧ 10 < 4294967296 ^ J from ⟨big (i := 1) (by omega) (by have := HJ.out; omega), big (i := 2) (by omega) (by have := HJ.out; omega)⟩)
          have M1 := Aside0.mk (True.intro)
          go_region_held3 (fun w' => True)
            (trivial)
            (first
              | (go_at_call 10; have m_ := M1.out; clear m_ M1; refine (of_rv 10 (by omega) _).mono ?_; rintro e w1 ⟨v, rfl, h1, hb⟩; have H1 := Aside0.mk h1; have HB1 := Aside0.mk (below_step (below_drew (Below.refl wr.heap.size wr)) hb); clear h1 hb)
              | (go_at_call 17; refine (mul_rv J (valT s i) 10 (by have := HJ.out; omega) _ _ _ HVL.out HDJ.out.2 (by rw [← HLI.out]; exact HNV.out.below HB1.out) H1.out).mono ?_; rintro e w2 ⟨v2, rfl, h2, hb⟩; have H2 := Aside0.mk h2; have HB2 := Aside0.mk (below_step HB1.out hb); clear h2 hb H1 HB1)
              | (go_at_call 10; refine (of_rvX _ dg (by omega) _ (by have := HD.out; have := (HG.out.2.2 i HLT.out).1; have := (HG.out.2.2 i HLT.out).2; first | omega | (rw [IntKind.wrap_u64]; omega) | (rw [U3.out]; exact u2))).mono ?_; rintro e w3 ⟨v3, rfl, h3, hb⟩; have H3 := Aside0.mk h3; have H23 := Aside0.mk (H2.out.below hb); have HB3 := Aside0.mk (below_step HB2.out hb); clear h3 hb H2 HB2)
              | (go_at_call 19; refine (add_rv J (valT s i * 10) dg (by have := HJ.out; omega) _ _ _ HVM.out HDJ.out.1 H23.out H3.out).mono ?_; rintro e w4 ⟨v4, rfl, h4, hb⟩; have H4 := Aside0.mk h4; have HB4 := Aside0.mk (below_step HB3.out hb); clear h4 hb H23 H3 HB3))
          all_goals
            go_wp2_with fail
            go_roundw
            case rel => exact ⟨i + 1, by first | exact congrArg (Value.int .i64) HW1.out | rfl, by have := HLT.out; omega, ⟨nv_next s i dg HD.out H4.out⟩, ⟨below_step HB.out HB4.out⟩⟩
            case measure => exact meas_next s i HLT.out HW1.out
        · have h2 : i = s.size := by omega
          subst h2
          clear hlt
          go_wp2_with fail
          exact bodyPost_ret (results_tmp2 rfl _ _ _) rfl ⟨HB.out, .inl ⟨HG.out, _, rfl, HV.out⟩⟩
end Go.Proofs.YtcfliceeablckaaDoor.XParse

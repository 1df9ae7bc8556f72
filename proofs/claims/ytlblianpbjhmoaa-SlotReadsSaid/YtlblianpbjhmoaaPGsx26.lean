-- Written by wip/rprint.py of this session's repo (the kit's printer with patches), out of the translation. Not trusted: Lean checks it.
import Derived.Test.YtlblianpbjhmoaaPGsx0
import Derived.Test.YtlblianpbjhmoaaPGsx4
namespace Go.Proofs.Ytlblianpbjhmoaa.PGs
open Go.RowKit Go.Proofs.YtlblianpbjhmoaaW.PrintWords Go.Proofs.YtlblianpbjhmoaaW.PrintLast Go.Proofs.YtlblianpbjhmoaaW.PrintMore Go.Proofs.Ytlblianpbjhmoaa.MWords
attribute [local go_sem] max2_int min2_int max_two min_two max_three min_three max_four min_four   -- for this text's walks alone
set_option linter.unusedVariables false
set_option linter.unusedSimpArgs false

/-! ### slot_Bytes: function 35 -/
section
open Go.Proofs.Ytlblianpbjhmoaa.MWords Go.Proofs.Ytlblianpbjhmoaa.MBuild Go.Proofs.Ytlblianpbjhmoaa.MPut
/-- The numbers of a slot's runs, of a slot, of a row. -/
def runNums : Int → List S59 → List Int
  | _, [] => []
  | last, r :: rs => (r.f1 - last) :: r.f0 :: r.f2 :: runNums r.f1 rs
def slotNums (s : S57) : List Int := (s.f1.length : Int) :: runNums 0 s.f1
def slotsNums (l : List S57) : List Int := (l.map slotNums).flatten
def rowNums (l : List S57) : List Int := (l.length : Int) :: (match l with | [] => [0] | s :: r => s.f0 :: slotsNums (s :: r))
def numsOk (l : List S57) : Prop := l.length ≤ 5000 ∧ (∀ s ∈ l, s.f1.length ≤ 1100) ∧ (∀ n ∈ rowNums l, 0 ≤ n ∧ n < 4611686018427387904) ∧ (rowNums l).length ≤ 10000000
instance (l : List S57) : Decidable (numsOk l) := by unfold numsOk; infer_instance
def slot_Bytes.f (k : Nat) (l0 : List S57) : Option ByteArray := (slot_Row.f k l0 1024).bind fun b => if b = true then (if numsOk l0 then some (strOfNums (vnums (rowNums l0))) else none) else some ⟨#[]⟩
theorem slot_Bytes.mono : ∀ a0 k, LeO (slot_Bytes.f k a0) (slot_Bytes.f (k + 1) a0) := fun _ _ => LeO.bind (slot_Row.mono _ _ _) (fun _ => LeO.refl _)
theorem rowNums_size (l : List Int) (h : ∀ n ∈ l, 0 ≤ n ∧ n < 4611686018427387904) (hl : l.length ≤ 10000000) : (strOfNums (vnums l)).size ≤ 90000000 := by
  rw [strOfNums_size]
  have := vnums_len l (fun n hn => by have := h n hn; omega)
  omega
theorem strV_app (a b : List Int) : strOfNums (vnums a) ++ strOfNums (vnums b) = strOfNums (vnums (a ++ b)) := by rw [vnums_append, strOf_append]
/-- The builder b holds all numbers of R but those of suf, that come last. -/
def Wrote (B b : Nat) (R suf : List Int) (w : World) : Prop := ∃ pre, pre ++ suf = R ∧ Bld B b (strOfNums (vnums pre)) w
theorem Wrote.alloc {B b : Nat} {R suf : List Int} {w : World} (h : Wrote B b R suf w) (o : Obj) : Wrote B b R suf (w.alloc o) := let ⟨p, h1, h2⟩ := h; ⟨p, h1, h2.alloc o⟩
theorem Wrote.lt {B b : Nat} {R suf : List Int} {w : World} (h : Wrote B b R suf w) : b < w.heap.size := let ⟨_, _, h2⟩ := h; h2.lt
theorem put_next (B b g : Nat) (R ns suf : List Int) (hR : ∀ n ∈ R, 0 ≤ n ∧ n < 4611686018427387904) (hRl : R.length ≤ 10000000) (w : World) (h : Wrote B b R (ns ++ suf) w) (hm : MBlk w g 2 (nums .i64 ns).toArray) (hgb : b < g) (hl : ns.length ≤ 1000) (hB : B ≤ w.heap.size) (m : Nat) (hm2 : m = ns.length) :
    Calls Try.prog 59 #[.pointer (some ⟨b, 0, none⟩), .slice (some ⟨g, 0, none⟩) m m] w fun e w' => e = .returned (.tuple #[]) ∧ Wrote B b R suf w' ∧ Below B w w' ∧ Beside b w w' := by
  subst hm2
  obtain ⟨pre, hE, h⟩ := h
  subst hE
  have hp : pre.length ≤ 10000000 := by rw [List.length_append] at hRl; omega
  have hs := rowNums_size pre (fun n h' => hR n (List.mem_append_left _ h')) hp
  refine (put_any B b g _ ns w h hm (by omega) (fun n h' => by have := hR n (List.mem_append_right _ (List.mem_append_left _ h')); omega) hl (by omega) hB).mono ?_
  rintro e w' ⟨rfl, h1, h2, h3⟩
  rw [strV_app] at h1
  exact ⟨rfl, ⟨pre ++ ns, by rw [List.append_assoc], h1⟩, h2, h3⟩
theorem wrote_range {B b : Nat} {R ns suf : List Int} {w : World} (hR : ∀ n ∈ R, 0 ≤ n ∧ n < 4611686018427387904) (h : Wrote B b R (ns ++ suf) w) : ∀ n, n ∈ ns → 0 ≤ n ∧ n < 4611686018427387904 := by
  obtain ⟨pre, hE, _⟩ := h
  intro n hn
  exact hR n (by rw [← hE]; exact List.mem_append_right _ (List.mem_append_left _ hn))
theorem belowUp {B : Nat} {w w' w'' : World} (h : Below B w w') (h2 : Below B w w'') (hs : w'.heap.size ≤ w''.heap.size) : Below B w' w'' := ⟨h2.os.trans h.os.symm, h2.tape.trans h.tape.symm, h2.output.trans h.output.symm, hs, fun k hk => (h2.block k hk).trans (h.block k hk).symm⟩
def headNum (l : List S57) (i : Nat) : List Int := if i = 0 then [(rd_T57 l 0).f0] else []
theorem rowNums_cons (l : List S57) (h : l ≠ []) : rowNums l = (l.length : Int) :: (headNum l 0 ++ slotsNums (l.drop 0)) := by
  cases l with
  | nil => exact absurd rfl h
  | cons s r => rfl
theorem slotsNums_drop (l : List S57) (i : Nat) (h : i < l.length) : slotsNums (l.drop i) = ((rd_T57 l i).f1.length : Int) :: (runNums 0 (rd_T57 l i).f1 ++ slotsNums (l.drop (i + 1))) := by
  have e : rd_T57 l (i : Int) = l[i] := by simp [rd_T57, List.getD, List.getElem?_eq_getElem h]
  rw [List.drop_eq_getElem_cons h, e]
  unfold slotsNums
  rw [List.map_cons, List.flatten_cons]
  rfl
theorem runNums_drop (last : Int) (l : List S59) (i : Nat) (h : i < l.length) : runNums last (l.drop i) = [(rd_T59 l i).f1 - last, (rd_T59 l i).f0, (rd_T59 l i).f2] ++ runNums (rd_T59 l i).f1 (l.drop (i + 1)) := by
  have e : rd_T59 l (i : Int) = l[i] := by simp [rd_T59, List.getD, List.getElem?_eq_getElem h]
  rw [List.drop_eq_getElem_cons h, e]
  rfl
set_option maxHeartbeats 1000000 in
set_option maxRecDepth 100000 in
theorem slot_Bytes.calls (k : Nat) (A0 : Option Addr) (c0 : Nat) (l0 : List S57) (r : ByteArray) (w : World) (hr0 : Kd.C k57 w A0 l0.length l0) (hc0 : l0.length ≤ c0) (h : slot_Bytes.f k l0 = some r) :
    Calls Try.prog 35 #[.slice A0 l0.length c0] w fun e w' => e = .returned (.string r) ∧ Below w.heap.size w w' := by
  have HR := Aside0.mk hr0
  clear hr0
  unfold slot_Bytes.f at h
  obtain ⟨b, hb, h⟩ := Option.bind_eq_some_iff.1 h
  have HC := Aside0.mk hb
  clear hb
  cases b with
  | false =>
    rw [if_neg (by simp)] at h
    obtain rfl := Option.some.inj h
    clear h
    go_enter Try.func35, Try.ntmps35
    go_wp2_with fail
    refine (slot_Row.calls k A0 c0 l0 1024 false _ HR.out hc0 HC.out).mono ?_
    rintro e w1 ⟨rfl, hb⟩
    have HB := Aside0.mk hb
    clear hb
    go_wp2_with fail
    go_ret
    exact ⟨rfl, HB.out⟩
  | true =>
    rw [if_pos rfl] at h
    split at h
    case isFalse => cases h
    rename_i hok
    obtain ⟨hlen, hruns, hnums, hcount⟩ := hok
    have H := Aside0.mk (Option.some.inj h)
    have HRuns := Aside0.mk hruns
    have HN := Aside0.mk hnums
    clear h hruns hnums
    go_enter Try.func35, Try.ntmps35
    go_wp2_with fail
    refine (slot_Row.calls k A0 c0 l0 1024 true _ HR.out hc0 HC.out).mono ?_
    rintro e w1 ⟨rfl, hb⟩
    have HB1 := Aside0.mk hb
    clear hb
    go_wp2_with fail
    generalize hRR : rowNums l0 = R at HN hcount H
    have HRR := Aside0.mk hRR
    clear hRR
    by_cases h0 : l0 = []
    · subst h0
      have HE := Aside0.mk (show ([] : List Int) ++ ([0] ++ ([0] ++ [])) = R by rw [← HRR.out]; rfl)
      refine (put_next w1.heap.size w1.heap.size (w1.heap.size + 1) R [0] ([0] ++ []) HN.out hcount _ ⟨[], HE.out, (Bld.new w1).alloc _⟩ (by have := mblk_new (w1.alloc (.cells #[.pointer none, .slice none 0 0] 65)) 2 #[.int .i64 0]; simpa [nums] using this) (by omega) (by simp) (by simp; omega) 1 rfl).mono ?_
      rintro e w2 ⟨rfl, h1, h2, _⟩
      have H1 := Aside0.mk h1
      have H2 := Aside0.mk ((((Below.refl w1.heap.size w1).alloc (Nat.le_refl _) _).alloc (by simp) _).trans h2)
      have h2s := h1.lt
      clear h1 h2
      go_wp2_with fail
      refine (put_next w1.heap.size w1.heap.size w2.heap.size R [0] [] HN.out hcount _ (H1.out.alloc _) (by have := mblk_new w2 2 #[.int .i64 0]; simpa [nums] using this) (by omega) (by simp) (by simp; omega) 1 rfl).mono ?_
      rintro e w3 ⟨rfl, h1, h2, _⟩
      obtain ⟨pre, hE, hBl⟩ := h1
      rw [List.append_nil] at hE
      subst hE
      have HBl := Aside0.mk hBl
      have H3 := Aside0.mk ((H2.out.alloc (by omega) _).trans h2)
      obtain rfl := H.out
      clear hBl h2 H
      go_wp2_with fail
      go_loopw [23] (fun v wr => v = .int .i64 0 ∧ Aside0 (Bld w1.heap.size w1.heap.size (strOfNums (vnums pre)) wr) ∧ Aside0 (Below w1.heap.size w1 wr)) (fun v _ => 0)
      case atStart => exact ⟨rfl, HBl, H3⟩
      case round =>
        obtain ⟨rfl, HBl2, HB2⟩ := hrel
        go_wp2_with fail
        refine (text_any w1.heap.size w1.heap.size _ _ HBl2.out HB2.out.size).mono ?_
        rintro e w4 ⟨rfl, hb⟩
        have HB4 := Aside0.mk (below_step HB1.out (HB2.out.trans hb))
        clear hb
        go_wp2_with fail
        go_ret
        exact ⟨rfl, HB4.out⟩
    · have hpos : 0 < l0.length := List.length_pos_iff.2 h0
      have HE := Aside0.mk ((rowNums_cons l0 h0).symm.trans HRR.out)
      have hne : ((l0.length : Int) == 0) = false := by simp; exact h0
      refine (put_next w1.heap.size w1.heap.size (w1.heap.size + 1) R [(l0.length : Int)] (headNum l0 0 ++ slotsNums (l0.drop 0)) HN.out hcount _ ⟨[], HE.out, (Bld.new w1).alloc _⟩ (by have := mblk_new (w1.alloc (.cells #[.pointer none, .slice none 0 0] 65)) 2 #[.int .i64 l0.length]; simpa [nums] using this) (by omega) (by simp) (by simp; omega) 1 rfl).mono ?_
      rintro e w2 ⟨rfl, h1, h2, _⟩
      have H1 := Aside0.mk h1
      have H2 := Aside0.mk ((((Below.refl w1.heap.size w1).alloc (Nat.le_refl _) _).alloc (by simp) _).trans h2)
      clear h1 h2
      go_wp2_with fail
      go_loopw [23] (fun v wr => ∃ (i : Nat), v = .int .i64 i ∧ i ≤ l0.length ∧ Aside0 (Wrote w1.heap.size w1.heap.size R (headNum l0 i ++ slotsNums (l0.drop i)) wr) ∧ Aside0 (Below w1.heap.size w1 wr)) (fun v _ => l0.length - (intOf v).toNat)
      case atStart => exact ⟨0, rfl, Nat.zero_le _, H1, H2⟩
      case round =>
        obtain ⟨i, rfl, hi, HW, HBr⟩ := hrel
        clear H1 H2
        obtain ⟨wa, hwa⟩ : ∃ wa, wa = wr := ⟨_, rfl⟩
        subst hwa
        by_cases hlt : i < l0.length
        · have hBa : w1.heap.size ≤ wa.heap.size := HBr.out.size
          have hblt := HW.out.lt
          obtain ⟨ad, A1, c1, e, hz0, hz1, hl1, hr1⟩ := at_T57 HR.out (i : Int) (by omega) (by omega)
          subst e
          have hx0 := pw_cell_below (below_step HB1.out HBr.out) hz0
          have hx1 := pw_cell_below (below_step HB1.out HBr.out) hz1
          clear hz0 hz1
          simp only [Int.toNat_natCast] at hx0 hx1
          have HD := Aside0.mk (slotsNums_drop l0 i hlt)
          have hrl : (rd_T57 l0 (i : Int)).f1.length ≤ 1100 := by
            have e1 : rd_T57 l0 (i : Int) = l0[i] := by simp [rd_T57, List.getD, List.getElem?_eq_getElem hlt]
            rw [e1]; exact HRuns.out _ (List.getElem_mem hlt)
          have HH0 := Aside0.mk (show i = 0 → headNum l0 i = [(rd_T57 l0 (i : Int)).f0] by rintro rfl; rfl)
          have HH1 := Aside0.mk (show i ≠ 0 → headNum l0 i = [] by intro h; unfold headNum; rw [if_neg h])
          generalize (rd_T57 l0 (i : Int)).f0 = at0 at hx0 HH0
          generalize (rd_T57 l0 (i : Int)).f1 = runs at hx1 hl1 hr1 HD hrl
          have HR1 := Aside0.mk hr1
          clear hr1
          by_cases hz : i = 0
          · have hbz : ((i : Int) == 0) = true := by simp [hz]
            have HX := HW.out
            rw [HH0.out hz, HD.out] at HX
            have HX := Aside0.mk HX
            clear hz
            go_wp2_with fail
            refine (put_next w1.heap.size w1.heap.size (wa.heap.size + 1) R [at0] ((runs.length : Int) :: (runNums 0 runs ++ slotsNums (l0.drop (i + 1)))) HN.out hcount _ ((HX.out.alloc _).alloc _) (by have := mblk_new (wa.alloc (.cells #[.int .i64 at0, .slice A1 runs.length c1] 57)) 2 #[.int .i64 at0]; simpa [nums] using this) (by omega) (by simp) (by simp; omega) 1 rfl).mono ?_
            rintro e w3 ⟨rfl, h1, h2, h3⟩
            have H3 := Aside0.mk h1
            have HM3 := Aside0.mk (Beside.mblk h3 (mblk_alloc (mblk_new wa 57 #[.int .i64 at0, .slice A1 runs.length c1]) _) (by decide) (by omega))
            have HB3 := Aside0.mk ((((HBr.out.alloc hBa _).alloc (by simp; omega) _).trans h2))
            have h3s : wa.heap.size < w3.heap.size := mblk_lt HM3.out
            clear h1 h2 h3 hbz
            have hc1 : w3.cell? ⟨wa.heap.size, 1, none⟩ = some (.slice A1 runs.length c1) := (mblk_cell HM3.out 1).trans rfl
            go_wp2_with fail
            refine (put_next w1.heap.size w1.heap.size w3.heap.size R [(runs.length : Int)] (runNums 0 runs ++ slotsNums (l0.drop (i + 1))) HN.out hcount _ (H3.out.alloc _) (by have := mblk_new w3 2 #[.int .i64 runs.length]; simpa [nums] using this) (by omega) (by simp) (by simp; omega) 1 rfl).mono ?_
            rintro e w4 ⟨rfl, h1, h2, h3⟩
            have H4 := Aside0.mk h1
            have HM4 := Aside0.mk (Beside.mblk h3 (mblk_alloc HM3.out _) (by decide) (by omega))
            have HB4 := Aside0.mk ((HB3.out.alloc (by omega) _).trans h2)
            clear h1 h2 h3 hc1
            have hc1 : w4.cell? ⟨wa.heap.size, 1, none⟩ = some (.slice A1 runs.length c1) := (mblk_cell HM4.out 1).trans rfl
            go_wp2_with fail
            clear hc1
            go_loopw [6, 42] (fun v6 v42 wr => ∃ (j : Nat) (last : Int), v6 = .int .i64 last ∧ v42 = .int .i64 j ∧ j ≤ runs.length ∧ Aside0 (Wrote w1.heap.size w1.heap.size R (runNums last (runs.drop j) ++ slotsNums (l0.drop (i + 1))) wr) ∧ Aside0 (Below w1.heap.size w1 wr)) (fun _ v _ => runs.length - (intOf v).toNat)
            case atStart => exact ⟨0, 0, rfl, rfl, Nat.zero_le _, H4, HB4⟩
            case round =>
              obtain ⟨j, last, rfl, rfl, hj, HWj, HBj⟩ := hrel
              clear H4 HB4
              obtain ⟨wb, hwb⟩ : ∃ wb, wb = wr := ⟨_, rfl⟩
              subst hwb
              by_cases hjl : j < runs.length
              · have hBb : w1.heap.size ≤ wb.heap.size := HBj.out.size
                have hblt := HWj.out.lt
                obtain ⟨ad2, e2, hy0, hy1, hy2⟩ := at_T59 (Kd.C_below HR1.out (below_step HB1.out HBj.out)) (j : Int) (by omega) (by omega)
                subst e2
                simp only [Int.toNat_natCast] at hy0 hy1 hy2
                have HDr := Aside0.mk (runNums_drop last runs j hjl)
                generalize (rd_T59 runs (j : Int)).f0 = X0 at hy0 HDr
                generalize (rd_T59 runs (j : Int)).f1 = X1 at hy1 HDr
                generalize (rd_T59 runs (j : Int)).f2 = X2 at hy2 HDr
                have hcell : ∀ W : World, MBlk W wb.heap.size 59 #[.int .i64 X0, .int .i64 X1, .int .i64 X2] → W.cell? ⟨wb.heap.size, 1, none⟩ = some (.int .i64 X1) := fun W h => (mblk_cell h 1).trans rfl
                have HXj := HWj.out
                rw [HDr.out, List.append_assoc] at HXj
                have hw := wrote_range HN.out HXj (X1 - last) (by simp)
                have HXj := Aside0.mk HXj
                have hwr : wrap64 (X1 - last) = X1 - last := by unfold wrap64; omega
                go_wp2_with fail
                try rw [hwr]
                refine (put_next w1.heap.size w1.heap.size (wb.heap.size + 1) R [X1 - last, X0, X2] (runNums X1 (runs.drop (j + 1)) ++ slotsNums (l0.drop (i + 1))) HN.out hcount _ ((HXj.out.alloc _).alloc _) (by have := mblk_new (wb.alloc (.cells #[.int .i64 X0, .int .i64 X1, .int .i64 X2] 59)) 2 #[.int .i64 (X1 - last), .int .i64 X0, .int .i64 X2]; simpa [nums] using this) (by omega) (by simp) (by simp; omega) 3 rfl).mono ?_
                rintro e w5 ⟨rfl, h1, h2, h3⟩
                have H5 := Aside0.mk h1
                have hc5 := hcell w5 (Beside.mblk h3 (mblk_alloc (mblk_new wb 59 #[.int .i64 X0, .int .i64 X1, .int .i64 X2]) _) (by decide) (by omega))
                have HB5 := Aside0.mk ((((HBj.out.alloc hBb _).alloc (by simp; omega) _).trans h2))
                clear h1 h2 h3 hcell hwr hw
                go_wp2_with fail
                go_round
                case rel => exact ⟨j + 1, X1, rfl, by go_num, by omega, H5, HB5⟩
                case measure => simp [intOf]; omega
              · have hje : j = runs.length := by omega
                subst hje
                have HW5 := HWj.out
                rw [List.drop_length] at HW5
                have HW5 := Aside0.mk (show Wrote w1.heap.size w1.heap.size R (headNum l0 (i + 1) ++ slotsNums (l0.drop (i + 1))) wb from HW5)
                go_wp2_with fail
                go_round
                case rel => exact ⟨i + 1, by go_num, by omega, HW5, HBj⟩
                case measure => simp [intOf]; omega
          · have hbz : ((i : Int) == 0) = false := by simp [hz]
            have HX := HW.out
            rw [HH1.out hz, HD.out] at HX
            have HX := Aside0.mk HX
            clear hz
            go_wp2_with fail
            refine (put_next w1.heap.size w1.heap.size (wa.heap.size + 1) R [(runs.length : Int)] (runNums 0 runs ++ slotsNums (l0.drop (i + 1))) HN.out hcount _ ((HX.out.alloc _).alloc _) (by have := mblk_new (wa.alloc (.cells #[.int .i64 at0, .slice A1 runs.length c1] 57)) 2 #[.int .i64 runs.length]; simpa [nums] using this) (by omega) (by simp) (by simp; omega) 1 rfl).mono ?_
            rintro e w4 ⟨rfl, h1, h2, h3⟩
            have H4 := Aside0.mk h1
            have HM4 := Aside0.mk (Beside.mblk h3 (mblk_alloc (mblk_new wa 57 #[.int .i64 at0, .slice A1 runs.length c1]) _) (by decide) (by omega))
            have HB4 := Aside0.mk ((((HBr.out.alloc hBa _).alloc (by simp; omega) _).trans h2))
            clear h1 h2 h3 hbz
            have hc1 : w4.cell? ⟨wa.heap.size, 1, none⟩ = some (.slice A1 runs.length c1) := (mblk_cell HM4.out 1).trans rfl
            go_wp2_with fail
            clear hc1
            go_loopw [6, 42] (fun v6 v42 wr => ∃ (j : Nat) (last : Int), v6 = .int .i64 last ∧ v42 = .int .i64 j ∧ j ≤ runs.length ∧ Aside0 (Wrote w1.heap.size w1.heap.size R (runNums last (runs.drop j) ++ slotsNums (l0.drop (i + 1))) wr) ∧ Aside0 (Below w1.heap.size w1 wr)) (fun _ v _ => runs.length - (intOf v).toNat)
            case atStart => exact ⟨0, 0, rfl, rfl, Nat.zero_le _, H4, HB4⟩
            case round =>
              obtain ⟨j, last, rfl, rfl, hj, HWj, HBj⟩ := hrel
              clear H4 HB4
              obtain ⟨wb, hwb⟩ : ∃ wb, wb = wr := ⟨_, rfl⟩
              subst hwb
              by_cases hjl : j < runs.length
              · have hBb : w1.heap.size ≤ wb.heap.size := HBj.out.size
                have hblt := HWj.out.lt
                obtain ⟨ad2, e2, hy0, hy1, hy2⟩ := at_T59 (Kd.C_below HR1.out (below_step HB1.out HBj.out)) (j : Int) (by omega) (by omega)
                subst e2
                simp only [Int.toNat_natCast] at hy0 hy1 hy2
                have HDr := Aside0.mk (runNums_drop last runs j hjl)
                generalize (rd_T59 runs (j : Int)).f0 = X0 at hy0 HDr
                generalize (rd_T59 runs (j : Int)).f1 = X1 at hy1 HDr
                generalize (rd_T59 runs (j : Int)).f2 = X2 at hy2 HDr
                have hcell : ∀ W : World, MBlk W wb.heap.size 59 #[.int .i64 X0, .int .i64 X1, .int .i64 X2] → W.cell? ⟨wb.heap.size, 1, none⟩ = some (.int .i64 X1) := fun W h => (mblk_cell h 1).trans rfl
                have HXj := HWj.out
                rw [HDr.out, List.append_assoc] at HXj
                have hw := wrote_range HN.out HXj (X1 - last) (by simp)
                have HXj := Aside0.mk HXj
                have hwr : wrap64 (X1 - last) = X1 - last := by unfold wrap64; omega
                go_wp2_with fail
                try rw [hwr]
                refine (put_next w1.heap.size w1.heap.size (wb.heap.size + 1) R [X1 - last, X0, X2] (runNums X1 (runs.drop (j + 1)) ++ slotsNums (l0.drop (i + 1))) HN.out hcount _ ((HXj.out.alloc _).alloc _) (by have := mblk_new (wb.alloc (.cells #[.int .i64 X0, .int .i64 X1, .int .i64 X2] 59)) 2 #[.int .i64 (X1 - last), .int .i64 X0, .int .i64 X2]; simpa [nums] using this) (by omega) (by simp) (by simp; omega) 3 rfl).mono ?_
                rintro e w5 ⟨rfl, h1, h2, h3⟩
                have H5 := Aside0.mk h1
                have hc5 := hcell w5 (Beside.mblk h3 (mblk_alloc (mblk_new wb 59 #[.int .i64 X0, .int .i64 X1, .int .i64 X2]) _) (by decide) (by omega))
                have HB5 := Aside0.mk ((((HBj.out.alloc hBb _).alloc (by simp; omega) _).trans h2))
                clear h1 h2 h3 hcell hwr hw
                go_wp2_with fail
                go_round
                case rel => exact ⟨j + 1, X1, rfl, by go_num, by omega, H5, HB5⟩
                case measure => simp [intOf]; omega
              · have hje : j = runs.length := by omega
                subst hje
                have HW5 := HWj.out
                rw [List.drop_length] at HW5
                have HW5 := Aside0.mk (show Wrote w1.heap.size w1.heap.size R (headNum l0 (i + 1) ++ slotsNums (l0.drop (i + 1))) wb from HW5)
                go_wp2_with fail
                go_round
                case rel => exact ⟨i + 1, by go_num, by omega, HW5, HBj⟩
                case measure => simp [intOf]; omega
        · have hie : i = l0.length := by omega
          subst hie
          obtain ⟨pre, hE, hBl⟩ := HW.out
          have hnil : headNum l0 l0.length ++ slotsNums (l0.drop l0.length) = [] := by
            unfold headNum; rw [if_neg (by omega), List.drop_length]; rfl
          rw [hnil, List.append_nil] at hE
          subst hE
          have HBl := Aside0.mk hBl
          obtain rfl := H.out
          clear hBl hnil H
          go_wp2_with fail
          refine (text_any w1.heap.size w1.heap.size _ _ HBl.out HBr.out.size).mono ?_
          rintro e w3 ⟨rfl, hb⟩
          have HB3 := Aside0.mk (below_step HB1.out (HBr.out.trans hb))
          clear hb
          go_wp2_with fail
          go_ret
          exact ⟨rfl, HB3.out⟩
end

end Go.Proofs.Ytlblianpbjhmoaa.PGs

-- Written by wip/rprint.py of this session's repo (the kit's printer with patches), out of the translation. Not trusted: Lean checks it.
import Derived.Test.YtlblianpbjhmoaaPGsx0
import Derived.Test.YtlblianpbjhmoaaPGsx32
import Derived.Test.YtlblianpbjhmoaaPGsx41
import Derived.Test.YtlblianpbjhmoaaPGsx42
namespace Go.Proofs.Ytlblianpbjhmoaa.PGs
open Go.RowKit Go.Proofs.YtlblianpbjhmoaaW.PrintWords Go.Proofs.YtlblianpbjhmoaaW.PrintLast Go.Proofs.YtlblianpbjhmoaaW.PrintMore Go.Proofs.Ytlblianpbjhmoaa.MWords
attribute [local go_sem] max2_int min2_int max_two min_two max_three min_three max_four min_four   -- for this text's walks alone
set_option linter.unusedVariables false
set_option linter.unusedSimpArgs false

/-! ### regattaref16_Read: function 33 -/
/-- What the document's reader answers: the number, its next place, whether it is bad. -/
def rnext (q : Int × Int) (at0 : Int) (bad : Bool) (most : Int) : Int × Int × Bool := if bad = true ∨ q.2 = 0 ∨ q.1 > most then (0, at0, true) else (q.1, q.2, false)
structure RNext (g : Nat) (s : ByteArray) (w : World) (r : Int × Int × Bool) (e : Ending) (w' : World) : Prop where
  e : e = .returned (.int .i64 r.1)
  k : Keep1 g w w'
  m : MBlk w' g 82 #[.string s, .int .i64 r.2.1, .bool r.2.2]
set_option maxHeartbeats 4000000 in
set_option maxRecDepth 100000 in
theorem rnext_calls (k : Nat) (g : Nat) (s : ByteArray) (at0 : Int) (bad : Bool) (most n en : Int) (w : World) (hm : MBlk w g 82 #[.string s, .int .i64 at0, .bool bad]) (hf : regattaref16_ReadNumber.f k s at0 = some (n, en)) :
    Calls Try.prog 58 #[.pointer (some ⟨g, 0, none⟩), .int .i64 most] w fun e w' => RNext g s w (rnext (n, en) at0 bad most) e w' := by
  have hu99 := Try.underlying99
  have hu82 := Try.underlying82
  have mixed : Try.prog.follows Departure.mixedOrders = true := by kernel_rfl
  have HM := Aside0.mk hm
  have HF := Aside0.mk hf
  clear hm hf
  go_enter Try.func58, Try.ntmps58
  go_wp2_with fail
  refine start_ (n := 11) (S := fun w' => w'.cell? ⟨g, 0, none⟩ = some (.string s) ∧ w'.cell? ⟨g, 1, none⟩ = some (.int .i64 at0)) (ds := [10]) #[false, false, false, false, false, false, false, false, false, false, false] mixed rfl rfl ⟨(mblk_cell HM.out 0).trans rfl, (mblk_cell HM.out 1).trans rfl⟩ (fun hHeld => ?_)
  have HM1 := Aside0.mk (show MBlk w.drew g 82 #[.string s, .int .i64 at0, .bool bad] from HM.out)
  have HK1 := Aside0.mk (Keep1.refl g w).drew
  clear HM
  generalize w.drew = w1 at HM1 HK1 hHeld ⊢
  refine pure_ (i := 0) (N := some 6) (v := ?_) (a' := ?_) #[true, false, false, false, false, false, false, false, false, false, false] rfl rfl (by kernel_rfl) (fun _ _ _ h => h) (Or.inl ⟨by rfl, ?_⟩) ?_ ?_
  rotate_left
  · intro w'
    go_simp
    with_reducible rfl
  rotate_left
  · simp only [Act.put, List.setIfInBounds_toArray, List.set_cons_zero, List.set_cons_succ, i64_w, i32_w]
    rfl
  refine pure_ (i := 1) (N := some 7) (v := ?_) (a' := ?_) #[true, true, false, false, false, false, false, false, false, false, false] rfl rfl (by kernel_rfl) (fun _ _ _ h => h) (Or.inl ⟨by rfl, ?_⟩) ?_ ?_
  rotate_left
  · intro w'
    go_simp
    with_reducible rfl
  rotate_left
  · simp only [Act.put, List.setIfInBounds_toArray, List.set_cons_zero, List.set_cons_succ, i64_w, i32_w]
    rfl
  refine pure_ (i := 2) (N := some 8) (v := ?_) (a' := ?_) #[true, true, true, false, false, false, false, false, false, false, false] rfl rfl (by kernel_rfl) (fun _ _ _ h => h) (Or.inl ⟨by rfl, ?_⟩) ?_ ?_
  rotate_left
  · intro w'
    go_simp
    with_reducible rfl
  rotate_left
  · simp only [Act.put, List.setIfInBounds_toArray, List.set_cons_zero, List.set_cons_succ, i64_w, i32_w]
    rfl
  refine take_ (i := 3) (N := some 9) (v := ?_) (a' := ?_) #[true, true, true, true, false, false, false, false, false, false, false] rfl rfl (by kernel_rfl) (fun _ _ _ h => h) (Or.inl ⟨by rfl, ?_⟩) hHeld ?_ ?_
  rotate_left
  · rintro w' ⟨s0, s1⟩
    go_simp
    with_reducible rfl
  rotate_left
  · simp only [Act.put, List.setIfInBounds_toArray, List.set_cons_zero, List.set_cons_succ, i64_w, i32_w]
    rfl
  refine pure_ (i := 4) (N := some 10) (v := ?_) (a' := ?_) #[true, true, true, true, true, false, false, false, false, false, false] rfl rfl (by kernel_rfl) (fun _ _ _ h => h) (Or.inl ⟨by rfl, ?_⟩) ?_ ?_
  rotate_left
  · intro w'
    go_simp
    with_reducible rfl
  rotate_left
  · simp only [Act.put, List.setIfInBounds_toArray, List.set_cons_zero, List.set_cons_succ, i64_w, i32_w]
    rfl
  refine pure_ (i := 5) (N := some 11) (v := ?_) (a' := ?_) #[true, true, true, true, true, true, false, false, false, false, false] rfl rfl (by kernel_rfl) (fun _ _ _ h => h) (Or.inl ⟨by rfl, ?_⟩) ?_ ?_
  rotate_left
  · intro w'
    go_simp
    with_reducible rfl
  rotate_left
  · simp only [Act.put, List.setIfInBounds_toArray, List.set_cons_zero, List.set_cons_succ, i64_w, i32_w]
    rfl
  refine pure_ (i := 6) (N := some 12) (v := ?_) (a' := ?_) #[true, true, true, true, true, true, true, false, false, false, false] rfl rfl (by kernel_rfl) (fun _ _ _ h => h) (Or.inl ⟨by rfl, ?_⟩) ?_ ?_
  rotate_left
  · intro w'
    go_simp
    with_reducible rfl
  rotate_left
  · simp only [Act.put, List.setIfInBounds_toArray, List.set_cons_zero, List.set_cons_succ, i64_w, i32_w]
    rfl
  refine take_ (i := 7) (N := some 13) (v := ?_) (a' := ?_) #[true, true, true, true, true, true, true, true, false, false, false] rfl rfl (by kernel_rfl) (fun _ _ _ h => h) (Or.inl ⟨by rfl, ?_⟩) hHeld ?_ ?_
  rotate_left
  · rintro w' ⟨s0, s1⟩
    go_simp
    with_reducible rfl
  rotate_left
  · simp only [Act.put, List.setIfInBounds_toArray, List.set_cons_zero, List.set_cons_succ, i64_w, i32_w]
    rfl
  refine two_ (i := 8) (j := 9) (Ni := some 14) (Nj := some 5) #[true, true, true, true, true, true, true, true, true, false, false] #[true, true, true, true, true, true, true, true, false, true, false] rfl rfl rfl rfl (by kernel_rfl) (by decide) (by decide) ?_ ?_
  · -- the call first
    intro K hK
    refine goes_ Try.func70 (by kernel_rfl) rfl #[.string s, .int .i64 at0] (by rfl) rfl rfl (by (try simp only [List.map_toArray, List.map_cons, List.map_nil]); first | done | rfl) ?_
    refine (regattaref16_ReadNumber.calls k s at0 n en _ HF.out).mono ?_
    rintro e w2 ⟨rfl, hb⟩
    refine ⟨_, rfl, ?_⟩
    have HM2 := Aside0.mk (show MBlk w2 g 82 #[.string s, .int .i64 at0, .bool bad] from (hb.block g (mblk_lt HM1.out)).trans HM1.out)
    have HK2 := Aside0.mk (HK1.out.trans ((Keep1.refl g _).below hb))
    clear hb HM1 HK1 hHeld
    refine hK.out _ _ ⟨(mblk_cell HM2.out 0).trans rfl, (mblk_cell HM2.out 1).trans rfl⟩ (fun hHeld => ?_)
    clear hK K
    refine norm_ (a' := ?_) ?_ ?_
    rotate_left
    · show Act.put _ (some 14) _ = _
      simp only [Act.put, List.setIfInBounds_toArray, List.set_cons_zero, List.set_cons_succ, i64_w, i32_w]
      rfl
    refine one_ (i := 9) (N := some 5) #[true, true, true, true, true, true, true, true, true, true, false] rfl rfl (by kernel_rfl) (by decide) (fun K hK => ?_)
    refine value_ (w1 := ?_) (v := ?_) (by rfl) rfl ?_ ?_
    rotate_left 2
    · go_simp
      constructor
      · rfl
      · rfl
    have HM3 := Aside0.mk (mblk_alloc HM2.out (.cells #[.int .i64 0, .int .i64 0] 99))
    have HG3 := Aside0.mk (mblk_new w2 99 #[.int .i64 0, .int .i64 0])
    have HK3 := Aside0.mk (HK2.out.alloc (.cells #[.int .i64 0, .int .i64 0] 99))
    have hle := HK2.out.size
    clear HM2 HK2 hHeld
    refine hK.out _ _ ⟨(mblk_cell HM3.out 0).trans rfl, (mblk_cell HM3.out 1).trans rfl⟩ (fun hHeld => ?_)
    clear hK K
    refine norm_ (a' := ?_) ?_ ?_
    rotate_left
    · show Act.put _ (some 5) _ = _
      simp only [Act.put, List.setIfInBounds_toArray, List.set_cons_zero, List.set_cons_succ, i64_w, i32_w]
      rfl
    generalize w2.alloc _ = w3 at HM3 HG3 HK3 hHeld ⊢
    generalize w2.heap.size = g5 at HG3 hle ⊢
    refine last_ (i := 10) (N := none) #[true, true, true, true, true, true, true, true, true, true, true] rfl rfl (by kernel_rfl) (by decide) (fun K hK => ?_)
    have q0 : w3.cell? ⟨g5, 0, none⟩ = some (.int .i64 0) := (mblk_cell HG3.out 0).trans rfl
    have q1 : w3.cell? ⟨g5, 1, none⟩ = some (.int .i64 0) := (mblk_cell HG3.out 1).trans rfl
    have z0 := mblk_frozen HG3.out 0
    have z1 := mblk_frozen HG3.out 1
    refine skip_ (w1 := ?_) (by rfl) rfl ?_ ?_
    rotate_left
    · go_simp
      rfl
    refine hK.out _ _ ?_
    clear hK K q0 q1 z0 z1 hHeld
    refine done_ (by kernel_rfl) ?_
    have hgl := mblk_lt HM3.out
    have hne : g ≠ g5 := fun h => by
      have h1 := HM3.out
      have h2 := HG3.out
      rw [← h] at h2
      exact mblk_ne h1 h2 (by decide) rfl
    have HM4 := Aside0.mk (mblk_far (p := ⟨g5, 1, none⟩) (mblk_far (p := ⟨g5, 0, none⟩) HM3.out hne (.int .i64 n)) hne (.int .i64 en))
    have HG4 := Aside0.mk (mblk_set (mblk_set HG3.out 0 (.int .i64 n)) 1 (.int .i64 en))
    have HK4 := Aside0.mk ((HK3.out.set (p := ⟨g5, 0, none⟩) (Or.inr hle) (.int .i64 n)).set (p := ⟨g5, 1, none⟩) (Or.inr hle) (.int .i64 en))
    clear HM3 HG3 HK3 hgl hne hle
    generalize (w3.setCell ⟨g5, 0, none⟩ (.int .i64 n)).setCell ⟨g5, 1, none⟩ (.int .i64 en) = w4 at HM4 HG4 HK4 ⊢
    have q0 : w4.cell? ⟨g5, 0, none⟩ = some (.int .i64 n) := (mblk_cell HG4.out 0).trans rfl
    have q1 : w4.cell? ⟨g5, 1, none⟩ = some (.int .i64 en) := (mblk_cell HG4.out 1).trans rfl
    have q2 : w4.cell? ⟨g, 2, none⟩ = some (.bool bad) := (mblk_cell HM4.out 2).trans rfl
    have q3 : w4.cell? ⟨g, 1, none⟩ = some (.int .i64 at0) := (mblk_cell HM4.out 1).trans rfl
    have z1 := mblk_frozen HM4.out 1
    have z2 := mblk_frozen HM4.out 2
    by_cases hc : bad = true ∨ en = 0 ∨ n > most
    · have er : rnext (n, en) at0 bad most = (0, at0, true) := if_pos hc
      cases bad with
      | true =>
        go_wp2_with fail
        refine bodyPost_ret (results_tmp rfl _ _ _) rfl ?_
        try rw [er]
        exact ⟨rfl, HK4.out.set (Or.inl rfl) _, mblk_set HM4.out 2 _⟩
      | false =>
        by_cases he : en = 0
        · subst he
          go_wp2_with fail
          refine bodyPost_ret (results_tmp rfl _ _ _) rfl ?_
          try rw [er]
          exact ⟨rfl, HK4.out.set (Or.inl rfl) _, mblk_set HM4.out 2 _⟩
        · have hgt : most < n := by
            rcases hc with h | h | h
            · cases h
            · exact absurd h he
            · exact h
          have d1 : decide (most < n) = true := decide_eq_true hgt
          have d2 : (en == 0) = false := by simpa using he
          go_wp2_with fail
          refine bodyPost_ret (results_tmp rfl _ _ _) rfl ?_
          try rw [er]
          exact ⟨rfl, HK4.out.set (Or.inl rfl) _, mblk_set HM4.out 2 _⟩
    · have er : rnext (n, en) at0 bad most = (n, en, bad) := (if_neg hc).trans (by
        cases bad with
        | true => exact absurd (Or.inl rfl) hc
        | false => rfl)
      cases bad with
      | true => exact absurd (Or.inl rfl) hc
      | false =>
        have he : ¬ en = 0 := fun h => hc (Or.inr (Or.inl h))
        have hgt : ¬ most < n := fun h => hc (Or.inr (Or.inr h))
        have d1 : decide (most < n) = false := decide_eq_false hgt
        have d2 : (en == 0) = false := by simpa using he
        go_wp2_with fail
        refine bodyPost_ret (results_tmp rfl _ _ _) rfl ?_
        try rw [er]
        exact ⟨rfl, HK4.out.set (Or.inl rfl) _, mblk_set HM4.out 1 _⟩
  · -- the new variable first
    intro K hK
    refine value_ (w1 := ?_) (v := ?_) (by rfl) rfl ?_ ?_
    rotate_left 2
    · go_simp
      constructor
      · rfl
      · rfl
    have HM2 := Aside0.mk (mblk_alloc HM1.out (.cells #[.int .i64 0, .int .i64 0] 99))
    have HG2 := Aside0.mk (mblk_new w1 99 #[.int .i64 0, .int .i64 0])
    have HK2 := Aside0.mk (HK1.out.alloc (.cells #[.int .i64 0, .int .i64 0] 99))
    have hle := HK1.out.size
    clear HM1 HK1 hHeld
    refine hK.out _ _ ⟨(mblk_cell HM2.out 0).trans rfl, (mblk_cell HM2.out 1).trans rfl⟩ (fun hHeld => ?_)
    clear hK K
    refine norm_ (a' := ?_) ?_ ?_
    rotate_left
    · show Act.put _ (some 5) _ = _
      simp only [Act.put, List.setIfInBounds_toArray, List.set_cons_zero, List.set_cons_succ, i64_w, i32_w]
      rfl
    generalize w1.alloc _ = w2 at HM2 HG2 HK2 hHeld ⊢
    generalize w1.heap.size = g5 at HG2 hle ⊢
    refine one_ (i := 8) (N := some 14) #[true, true, true, true, true, true, true, true, true, true, false] rfl rfl (by kernel_rfl) (by decide) (fun K hK => ?_)
    refine goes_ Try.func70 (by kernel_rfl) rfl #[.string s, .int .i64 at0] (by rfl) rfl rfl (by (try simp only [List.map_toArray, List.map_cons, List.map_nil]); first | done | rfl) ?_
    refine (regattaref16_ReadNumber.calls k s at0 n en _ HF.out).mono ?_
    rintro e w3 ⟨rfl, hb⟩
    refine ⟨_, rfl, ?_⟩
    have HM3 := Aside0.mk (show MBlk w3 g 82 #[.string s, .int .i64 at0, .bool bad] from (hb.block g (mblk_lt HM2.out)).trans HM2.out)
    have HG3 := Aside0.mk (show MBlk w3 g5 99 #[.int .i64 0, .int .i64 0] from (hb.block g5 (mblk_lt HG2.out)).trans HG2.out)
    have HK3 := Aside0.mk (HK2.out.trans ((Keep1.refl g _).below hb))
    clear hb HM2 HG2 HK2 hHeld
    refine hK.out _ _ ⟨(mblk_cell HM3.out 0).trans rfl, (mblk_cell HM3.out 1).trans rfl⟩ (fun hHeld => ?_)
    clear hK K
    refine norm_ (a' := ?_) ?_ ?_
    rotate_left
    · show Act.put _ (some 14) _ = _
      simp only [Act.put, List.setIfInBounds_toArray, List.set_cons_zero, List.set_cons_succ, i64_w, i32_w]
      rfl
    refine last_ (i := 10) (N := none) #[true, true, true, true, true, true, true, true, true, true, true] rfl rfl (by kernel_rfl) (by decide) (fun K hK => ?_)
    have q0 : w3.cell? ⟨g5, 0, none⟩ = some (.int .i64 0) := (mblk_cell HG3.out 0).trans rfl
    have q1 : w3.cell? ⟨g5, 1, none⟩ = some (.int .i64 0) := (mblk_cell HG3.out 1).trans rfl
    have z0 := mblk_frozen HG3.out 0
    have z1 := mblk_frozen HG3.out 1
    refine skip_ (w1 := ?_) (by rfl) rfl ?_ ?_
    rotate_left
    · go_simp
      rfl
    refine hK.out _ _ ?_
    clear hK K q0 q1 z0 z1 hHeld
    refine done_ (by kernel_rfl) ?_
    have hgl := mblk_lt HM3.out
    have hne : g ≠ g5 := fun h => by
      have h1 := HM3.out
      have h2 := HG3.out
      rw [← h] at h2
      exact mblk_ne h1 h2 (by decide) rfl
    have HM4 := Aside0.mk (mblk_far (p := ⟨g5, 1, none⟩) (mblk_far (p := ⟨g5, 0, none⟩) HM3.out hne (.int .i64 n)) hne (.int .i64 en))
    have HG4 := Aside0.mk (mblk_set (mblk_set HG3.out 0 (.int .i64 n)) 1 (.int .i64 en))
    have HK4 := Aside0.mk ((HK3.out.set (p := ⟨g5, 0, none⟩) (Or.inr hle) (.int .i64 n)).set (p := ⟨g5, 1, none⟩) (Or.inr hle) (.int .i64 en))
    clear HM3 HG3 HK3 hgl hne hle
    generalize (w3.setCell ⟨g5, 0, none⟩ (.int .i64 n)).setCell ⟨g5, 1, none⟩ (.int .i64 en) = w4 at HM4 HG4 HK4 ⊢
    have q0 : w4.cell? ⟨g5, 0, none⟩ = some (.int .i64 n) := (mblk_cell HG4.out 0).trans rfl
    have q1 : w4.cell? ⟨g5, 1, none⟩ = some (.int .i64 en) := (mblk_cell HG4.out 1).trans rfl
    have q2 : w4.cell? ⟨g, 2, none⟩ = some (.bool bad) := (mblk_cell HM4.out 2).trans rfl
    have q3 : w4.cell? ⟨g, 1, none⟩ = some (.int .i64 at0) := (mblk_cell HM4.out 1).trans rfl
    have z1 := mblk_frozen HM4.out 1
    have z2 := mblk_frozen HM4.out 2
    by_cases hc : bad = true ∨ en = 0 ∨ n > most
    · have er : rnext (n, en) at0 bad most = (0, at0, true) := if_pos hc
      cases bad with
      | true =>
        go_wp2_with fail
        refine bodyPost_ret (results_tmp rfl _ _ _) rfl ?_
        try rw [er]
        exact ⟨rfl, HK4.out.set (Or.inl rfl) _, mblk_set HM4.out 2 _⟩
      | false =>
        by_cases he : en = 0
        · subst he
          go_wp2_with fail
          refine bodyPost_ret (results_tmp rfl _ _ _) rfl ?_
          try rw [er]
          exact ⟨rfl, HK4.out.set (Or.inl rfl) _, mblk_set HM4.out 2 _⟩
        · have hgt : most < n := by
            rcases hc with h | h | h
            · cases h
            · exact absurd h he
            · exact h
          have d1 : decide (most < n) = true := decide_eq_true hgt
          have d2 : (en == 0) = false := by simpa using he
          go_wp2_with fail
          refine bodyPost_ret (results_tmp rfl _ _ _) rfl ?_
          try rw [er]
          exact ⟨rfl, HK4.out.set (Or.inl rfl) _, mblk_set HM4.out 2 _⟩
    · have er : rnext (n, en) at0 bad most = (n, en, bad) := (if_neg hc).trans (by
        cases bad with
        | true => exact absurd (Or.inl rfl) hc
        | false => rfl)
      cases bad with
      | true => exact absurd (Or.inl rfl) hc
      | false =>
        have he : ¬ en = 0 := fun h => hc (Or.inr (Or.inl h))
        have hgt : ¬ most < n := fun h => hc (Or.inr (Or.inr h))
        have d1 : decide (most < n) = false := decide_eq_false hgt
        have d2 : (en == 0) = false := by simpa using he
        go_wp2_with fail
        refine bodyPost_ret (results_tmp rfl _ _ _) rfl ?_
        try rw [er]
        exact ⟨rfl, HK4.out.set (Or.inl rfl) _, mblk_set HM4.out 1 _⟩
def rn (k : Nat) (s : ByteArray) (pos : Int) (bad : Bool) (most : Int) : Option (Int × Int × Bool) := (regattaref16_ReadNumber.f k s pos).bind fun q => some (rnext q pos bad most)
theorem rn_calls {k g : Nat} {s : ByteArray} {pos : Int} {bad : Bool} {most : Int} {r : Int × Int × Bool} {w : World} (hm : MBlk w g 82 #[.string s, .int .i64 pos, .bool bad]) (h : rn k s pos bad most = some r) :
    Calls Try.prog 58 #[.pointer (some ⟨g, 0, none⟩), .int .i64 most] w fun e w' => RNext g s w r e w' := by
  obtain ⟨⟨n, en⟩, h1, h2⟩ := Option.bind_eq_some_iff.1 h
  obtain rfl := Option.some.inj h2
  exact rnext_calls k g s pos bad most n en w hm h1
theorem rn_bound {k : Nat} {s : ByteArray} {pos : Int} {bad : Bool} {most : Int} {r : Int × Int × Bool} (h : rn k s pos bad most = some r) (h0 : 0 ≤ most) : r.1 ≤ most := by
  obtain ⟨q, h1, h2⟩ := Option.bind_eq_some_iff.1 h
  obtain rfl := Option.some.inj h2
  unfold rnext
  by_cases hc : bad = true ∨ q.2 = 0 ∨ q.1 > most
  · rw [if_pos hc]
    exact h0
  · rw [if_neg hc]
    show q.1 ≤ most
    have : ¬ q.1 > most := fun h => hc (Or.inr (Or.inr h))
    omega
def rrunsP (k : Nat) (s : ByteArray) : Nat → Int → Bool → Int → List S59 → Option (List S59 × Int × Bool)
  | 0, pos, bad, _, acc => some (acc, pos, bad)
  | m + 1, pos, bad, core, acc => if bad = true then some (acc, pos, bad) else
    (rn k s pos bad 1023).bind fun q1 => (rn k s q1.2.1 q1.2.2 1023).bind fun q2 => (rn k s q2.2.1 q2.2.2 1099511627776).bind fun q3 => rrunsP k s m q3.2.1 q3.2.2 (wrap64 (core + q1.1)) (acc ++ [⟨q2.1, wrap64 (core + q1.1), q3.1⟩])
def rslotsP (k : Nat) (s : ByteArray) (at0 : Int) : Nat → Int → Bool → Int → List S57 → Option (List S57 × Int × Bool)
  | 0, pos, bad, _, acc => some (acc, pos, bad)
  | m + 1, pos, bad, i, acc => if bad = true then some (acc, pos, bad) else
    (rn k s pos bad 1024).bind fun q => (rrunsP k s q.1.toNat q.2.1 q.2.2 0 []).bind fun z => rslotsP k s at0 m z.2.1 z.2.2 (i + 1) (acc ++ [⟨wrap64 (at0 + i), z.1⟩])
def rfin (k : Nat) (s : ByteArray) (z : List S57 × Int × Bool) : Option (List S57 × Bool) := if z.2.2 = true then some ([], false) else (regattaref16_Bytes.f k z.1).bind fun t => some (if t.toList = s.toList then (z.1, true) else ([], false))
def regattaref16_Read.f (k : Nat) (s : ByteArray) : Option (List S57 × Bool) :=
  (rn k s 0 false 4096).bind fun q1 => (rn k s q1.2.1 q1.2.2 1099511627776).bind fun q2 => (rslotsP k s q2.1 q1.1.toNat q2.2.1 q2.2.2 0 []).bind (rfin k s)
/-- The world while the document reads a row: the reader (at g), the row so far. -/
structure RRow (g : Nat) (w W : World) (s : ByteArray) (pos : Int) (bad : Bool) (u : Value) (acc : List S57) : Prop where
  r : MBlk W g 82 #[.string s, .int .i64 pos, .bool bad]
  a : Kd.S k57 57 W w.heap.size (fun _ => True) u acc
  k : Below w.heap.size w W
  g : w.heap.size ≤ g
theorem RRow.keep {g : Nat} {w W W2 : World} {s : ByteArray} {pos pos2 : Int} {bad bad2 : Bool} {u : Value} {acc : List S57} (h : RRow g w W s pos bad u acc) (hk : Keep1 g W W2) (hm : MBlk W2 g 82 #[.string s, .int .i64 pos2, .bool bad2]) : RRow g w W2 s pos2 bad2 u acc :=
  ⟨hm, Kd.S_mono (Kd.S_step (kdS_types h.a h.r (by decide)) (fun k hk1 hlt => hk.block k hlt hk1.2)) (fun _ _ => trivial), h.k.trans (hk.toBelow h.g h.k.size), h.g⟩
/-- .. while it reads a slot whose box is at gb, the world W0 stood when it was made. -/
structure RSlot (g gb : Nat) (W0 W : World) (s : ByteArray) (pos : Int) (bad : Bool) (at1 : Int) (u : Value) (acc : List S59) : Prop where
  r : MBlk W g 82 #[.string s, .int .i64 pos, .bool bad]
  b : MBlk W gb 57 #[.int .i64 at1, u]
  a : Kd.R k59 59 W W0.heap.size (fun _ => True) u acc
  k : Keep1 g W0 W
  lt : g < W0.heap.size
  gb : W0.heap.size ≤ gb
theorem RSlot.keep {g gb : Nat} {W0 W W2 : World} {s : ByteArray} {pos pos2 : Int} {bad bad2 : Bool} {at1 : Int} {u : Value} {acc : List S59} (h : RSlot g gb W0 W s pos bad at1 u acc) (hk : Keep1 g W W2) (hm : MBlk W2 g 82 #[.string s, .int .i64 pos2, .bool bad2]) : RSlot g gb W0 W2 s pos2 bad2 at1 u acc :=
  have h1 := h.lt
  have h2 := h.gb
  ⟨hm, (hk.block gb (mblk_lt h.b) (by omega)).trans h.b, Kd.R_mono (Kd.R_step (Kd.R_bound h.a) (fun k hk1 hlt => hk.block k hlt (by have := hk1.2.1; omega))) (fun _ _ => trivial), h.k.trans hk, h.lt, h.gb⟩
theorem RSlot.drew {g gb : Nat} {W0 W : World} {s : ByteArray} {pos : Int} {bad : Bool} {at1 : Int} {u : Value} {acc : List S59} (h : RSlot g gb W0 W s pos bad at1 u acc) : RSlot g gb W0 W.drew s pos bad at1 u acc :=
  ⟨h.r, h.b, Kd.R_drew h.a, h.k.drew, h.lt, h.gb⟩
set_option maxHeartbeats 8000000 in
set_option maxRecDepth 100000 in
theorem regattaref16_Read.calls (k : Nat) (s : ByteArray) (r1 : List S57) (r2 : Bool) (w : World) (h : regattaref16_Read.f k s = some (r1, r2)) :
    Calls Try.prog 33 #[.string s] w fun e w' => ∃ v0_ : Value, e = .returned (.tuple #[v0_, .bool r2]) ∧ Kd.S k57 57 w' w.heap.size (fun _ => True) v0_ r1 ∧ Below w.heap.size w w' := by
  refine Calls.mono (R := fun e w' => ReadRes w r1 r2 e w') ?_ (fun _ _ h => h.out)
  have hu57 := Try.underlying57
  have hu82 := Try.underlying82
  have mixed : Try.prog.follows Departure.mixedOrders = true := by kernel_rfl
  obtain ⟨q1, p1, h⟩ := Option.bind_eq_some_iff.1 h
  obtain ⟨q2, p2, h⟩ := Option.bind_eq_some_iff.1 h
  obtain ⟨n, pos1, bad1⟩ := q1
  obtain ⟨at0, pos2, bad2⟩ := q2
  dsimp only at *
  have hn := rn_bound p1 (by decide)
  have P1 := Aside0.mk p1
  have P2 := Aside0.mk p2
  have H := Aside0.mk h
  clear p1 p2 h
  go_enter Try.func33, Try.ntmps33
  go_wp2_with fail
  have HI := Aside0.mk (show RRow w.heap.size w (w.alloc (.cells #[.string s, .int .i64 0, .bool false] 82)) s 0 false (.slice none 0 0) [] from ⟨mblk_new _ _ _, Kd.S_nil _ _ _ _ _, below_alloc (Below.refl _ _) _, Nat.le_refl _⟩)
  refine (rn_calls HI.out.r P1.out).mono ?_
  rintro e w2 ⟨rfl, hk, hm⟩
  have HI2 := Aside0.mk (HI.out.keep hk hm)
  clear hk hm HI
  go_wp2_with fail
  refine (rn_calls HI2.out.r P2.out).mono ?_
  rintro e w3 ⟨rfl, hk, hm⟩
  have HI3 := Aside0.mk (HI2.out.keep hk hm)
  clear hk hm HI2 P1 P2
  dsimp only at *
  obtain ⟨g, hg⟩ : ∃ g, g = w.heap.size := ⟨_, rfl⟩
  rw [← hg] at HI3 ⊢
  clear hg
  obtain ⟨N, hN⟩ : ∃ N : Nat, N = n.toNat := ⟨_, rfl⟩
  rw [← hN] at H
  have HN := Aside0.mk (show N ≤ 4096 by omega)
  have hnN : ∀ i : Nat, decide ((i : Int) < n) = decide (i < N) := fun i => by
    by_cases h : i < N
    · rw [decide_eq_true h]; exact decide_eq_true (by omega)
    · rw [decide_eq_false h]; exact decide_eq_false (by omega)
  clear hn
  go_wp2_with fail
  go_loopw [7, 8] (fun v7 v8 wr => ∃ (i : Nat) (pos : Int) (bad : Bool) (acc : List S57), v8 = .int .i64 i ∧ i ≤ N ∧ Aside0 (acc.length ≤ i) ∧ Aside0 ((rslotsP k s at0 (N - i) pos bad i acc).bind (rfin k s) = some (r1, r2)) ∧ Aside0 (RRow g w wr s pos bad v7 acc)) (fun _ v _ => N - (intOf v).toNat)
  case atStart => exact ⟨0, pos2, bad2, [], rfl, Nat.zero_le _, ⟨Nat.le_refl _⟩, H, HI3⟩
  case round =>
    clear HI3 H
    obtain ⟨i, pos, bad, acc, rfl, hi, HL, H, HI2⟩ := hrel
    obtain ⟨A, c, rfl⟩ := Kd.S_slice HI2.out.a
    have hb2 : wr.cell? ⟨g, 2, none⟩ = some (.bool bad) := (mblk_cell HI2.out.r 2).trans rfl
    have hdn := hnN i
    cases bad with
    | true =>
      have hst : rslotsP k s at0 (N - i) pos true i acc = some (acc, pos, true) := by
        cases N - i with
        | zero => rfl
        | succ m => rw [rslotsP, if_pos rfl]
      have h := H.out
      rw [hst] at h
      have h2 : (some ([], false) : Option (List S57 × Bool)) = some (r1, r2) := h
      injection h2 with h2
      injection h2 with e1 e2
      subst e1
      subst e2
      clear h hst
      by_cases hlt : i < N
      · rw [decide_eq_true hlt] at hdn
        go_wp2_with fail
        refine bodyPost_ret (results_tmp2 rfl _ _ _) rfl ⟨_, rfl, Kd.S_nil _ _ _ _ _, HI2.out.k⟩
      · rw [decide_eq_false hlt] at hdn
        go_wp2_with fail
        refine bodyPost_ret (results_tmp2 rfl _ _ _) rfl ⟨_, rfl, Kd.S_nil _ _ _ _ _, HI2.out.k⟩
    | false =>
      by_cases hlt : i < N
      · rw [decide_eq_true hlt] at hdn
        obtain ⟨m, hm⟩ : ∃ m, N - i = m + 1 := ⟨N - i - 1, by omega⟩
        have HNM := Aside0.mk hm
        have h := H.out
        rw [hm, rslotsP, if_neg (by decide)] at h
        obtain ⟨z0, h, h2⟩ := Option.bind_eq_some_iff.1 h
        obtain ⟨q, hq, h⟩ := Option.bind_eq_some_iff.1 h
        obtain ⟨z, hz, h⟩ := Option.bind_eq_some_iff.1 h
        have HQ0 := Aside0.mk hq
        have HZ := Aside0.mk hz
        have HT := Aside0.mk h
        have HF := Aside0.mk h2
        have hq1 := rn_bound hq (by decide)
        clear hq hz h h2 H hm
        go_wp2_with fail
        refine (rn_calls (mblk_alloc HI2.out.r (.cells #[.int .i64 (wrap64 (at0 + i)), .slice none 0 0] 57)) HQ0.out).mono ?_
        rintro e w4 ⟨rfl, hk, hm⟩
        have hgl := mblk_lt HI2.out.r
        have HQ := Aside0.mk (show RSlot g wr.heap.size wr w4 s q.2.1 q.2.2 (wrap64 (at0 + i)) (.slice none 0 0) [] from ⟨hm, (hk.block _ (by simp) (by omega)).trans (mblk_new _ _ _), Kd.R_nil _ _ _ _ _, ((Keep1.refl g wr).alloc _).trans hk, hgl, Nat.le_refl _⟩)
        clear hk hm hgl
        obtain ⟨gb, hgb⟩ : ∃ gb, gb = wr.heap.size := ⟨_, rfl⟩
        rw [← hgb] at HQ ⊢
        clear hgb
        obtain ⟨wa, hwa⟩ : ∃ wa, wa = wr := ⟨_, rfl⟩
        subst hwa
        obtain ⟨M, hM⟩ : ∃ M : Nat, M = q.1.toNat := ⟨_, rfl⟩
        rw [← hM] at HZ
        have HM4 := Aside0.mk (show M ≤ 1024 by omega)
        have hmM : ∀ j : Nat, decide ((j : Int) < q.1) = decide (j < M) := fun j => by
          by_cases h : j < M
          · rw [decide_eq_true h]; exact decide_eq_true (by omega)
          · rw [decide_eq_false h]; exact decide_eq_false (by omega)
        clear hM hq1 HQ0
        go_wp2_with fail
        go_loopw [11, 12] (fun v11 v12 w5 => ∃ (j : Nat) (core : Int) (pos3 : Int) (bad3 : Bool) (acc2 : List S59) (u2 : Value), v12 = .int .i64 j ∧ v11 = .int .i64 core ∧ j ≤ M ∧ Aside0 (acc2.length ≤ j) ∧ Aside0 (rrunsP k s (M - j) pos3 bad3 core acc2 = some z) ∧ Aside0 (RSlot g gb wa w5 s pos3 bad3 (wrap64 (at0 + i)) u2 acc2)) (fun _ v _ => M - (intOf v).toNat)
        case atStart => exact ⟨0, 0, q.2.1, q.2.2, [], .slice none 0 0, rfl, rfl, Nat.zero_le _, ⟨Nat.le_refl _⟩, HZ, HQ⟩
        case round =>
          clear HQ HZ
          obtain ⟨j, core, pos3, bad3, acc2, u2, rfl, rfl, hj, HL2, HT2, HQ⟩ := hrel
          obtain ⟨Ar, cr, rfl⟩ := Kd.R_slice HQ.out.a
          have hb3 : wr.cell? ⟨g, 2, none⟩ = some (.bool bad3) := (mblk_cell HQ.out.r 2).trans rfl
          have hdm := hmM j
          cases bad3 with
          | true =>
            have hst : rrunsP k s (M - j) pos3 true core acc2 = some (acc2, pos3, true) := by
              cases M - j with
              | zero => rfl
              | succ m => rw [rrunsP, if_pos rfl]
            by_cases hjt : j < M
            · rw [decide_eq_true hjt] at hdm
              have hze : z = (acc2, pos3, true) := by
                have e := HT2.out
                rw [hst] at e
                exact (Option.some.inj e).symm
              subst hze
              clear hst HT2
              have hS5 : Kd.S k57 57 wa w.heap.size (fun k => k < wa.heap.size ∧ k ≠ g) (.slice A acc.length c) acc := Kd.S_mono (Kd.S_bound (kdS_types HI2.out.a HI2.out.r (by decide))) (fun k hk => ⟨hk.2.2.1, hk.1.2⟩)
              have HS6 := Aside0.mk (Kd.S_step hS5 (fun k hk hlt => HQ.out.k.block k hlt hk.2))
              have HW6 := Aside0.mk (HI2.out.k.trans (HQ.out.k.toBelow HI2.out.g HI2.out.k.size))
              have HG6 := Aside0.mk HI2.out.k.size
              have HGG := Aside0.mk HI2.out.g
              have hcb0 : wr.cell? ⟨gb, 0, none⟩ = some (.int .i64 (wrap64 (at0 + i))) := (mblk_cell HQ.out.b 0).trans rfl
              have hcb1 : wr.cell? ⟨gb, 1, none⟩ = some (.slice Ar acc2.length cr) := (mblk_cell HQ.out.b 1).trans rfl
              have hbase : ∀ k, (.slice Ar acc2.length cr : Value).ownBlock = some k → wa.heap.size ≤ k := Kd.R_base HQ.out.a
              have HBS := Aside0.mk hbase
              clear hS5 hbase HI2 hb2
              go_wp2_with ((with_reducible refine gate_builtin (b := .append) (xs := #[.tmp 67, .tmp 69]) rfl ?_); at_builtin; refine Kd.S_append k57 (w0 := wr) w.heap.size rfl (.tmp 67) (.tmp 69) 22 57 (.agg #[(.int .i64 0), (.slice none 0 0)]) 32 rfl Try.underlying22 info57 rfl (by decide) (by omega) (.slice A acc.length c) acc (⟨wrap64 (at0 + i), acc2⟩ : S57) [.int .i64 (wrap64 (at0 + i)), .slice Ar acc2.length cr] (fun _ => True) (fun k_ => some k_ = (.slice Ar acc2.length cr : Value).ownBlock) rfl rfl ?aP ?aQ ?aF ?aO ?aB ?aS ?aL ?_; (case aP => exact k57_mkM _ _ _ (⟨wrap64 (at0 + i), acc2⟩ : S57) (Kd.R_tight rfl (Kd.R_lower HQ.out.a HG6.out))); (case aQ => exact fun k hk => ⟨trivial, fun he => by have h1 := HBS.out k hk.symm; have h2 := ((Kd.S_R HS6.out).1 k he.symm).1; omega⟩); (case aF => exact (fun _ _ => trivial)); (case aO => exact Kd.S_mono HS6.out (fun k hk => ⟨trivial, fun he => by have h1 := HBS.out k he.symm; have h2 := hk.1; omega⟩)); (case aB => exact Below.refl _ _); (case aS => exact HW6.out.size); (case aL => have := HL.out; have := HN.out; omega); intro vv w20 ho hb hg hat; have HO9 := Aside0.mk ho; have HXr := Aside0.mk (show MBlk w20 g 82 #[.string s, .int .i64 pos3, .bool true] from blk_grown (g := g) (o := .cells #[.string s, .int .i64 pos3, .bool true] 82 (0, 0)) HQ.out.r hg (Kd.S_away (kdS_types HS6.out HQ.out.r (by decide)) (fun _ hk => hk.2))); have HXk := Aside0.mk (HW6.out.trans hb); clear ho hb hg hat)
              have hw1 : wrap64 ((i : Int) + 1) = ((i + 1 : Nat) : Int) := by have := HN.out; unfold wrap64; omega
              rw [hw1]
              go_round
              case measure => simp only [intOf]; omega
              case rel =>
                refine ⟨i + 1, pos3, true, acc ++ [(⟨wrap64 (at0 + i), acc2⟩ : S57)], rfl, by omega, ⟨by have := HL.out; simp; omega⟩, ⟨?_⟩, ⟨⟨HXr.out, HO9.out, HXk.out, HGG.out⟩⟩⟩
                rw [show N - (i + 1) = m by have := HNM.out; omega]
                have e := HT.out
                rw [show ((i + 1 : Nat) : Int) = (i : Int) + 1 from rfl]
                rw [e]
                exact HF.out
            · rw [decide_eq_false hjt] at hdm
              have hze : z = (acc2, pos3, true) := by
                have e := HT2.out
                rw [hst] at e
                exact (Option.some.inj e).symm
              subst hze
              clear hst HT2
              have hS5 : Kd.S k57 57 wa w.heap.size (fun k => k < wa.heap.size ∧ k ≠ g) (.slice A acc.length c) acc := Kd.S_mono (Kd.S_bound (kdS_types HI2.out.a HI2.out.r (by decide))) (fun k hk => ⟨hk.2.2.1, hk.1.2⟩)
              have HS6 := Aside0.mk (Kd.S_step hS5 (fun k hk hlt => HQ.out.k.block k hlt hk.2))
              have HW6 := Aside0.mk (HI2.out.k.trans (HQ.out.k.toBelow HI2.out.g HI2.out.k.size))
              have HG6 := Aside0.mk HI2.out.k.size
              have HGG := Aside0.mk HI2.out.g
              have hcb0 : wr.cell? ⟨gb, 0, none⟩ = some (.int .i64 (wrap64 (at0 + i))) := (mblk_cell HQ.out.b 0).trans rfl
              have hcb1 : wr.cell? ⟨gb, 1, none⟩ = some (.slice Ar acc2.length cr) := (mblk_cell HQ.out.b 1).trans rfl
              have hbase : ∀ k, (.slice Ar acc2.length cr : Value).ownBlock = some k → wa.heap.size ≤ k := Kd.R_base HQ.out.a
              have HBS := Aside0.mk hbase
              clear hS5 hbase HI2 hb2
              go_wp2_with ((with_reducible refine gate_builtin (b := .append) (xs := #[.tmp 67, .tmp 69]) rfl ?_); at_builtin; refine Kd.S_append k57 (w0 := wr) w.heap.size rfl (.tmp 67) (.tmp 69) 22 57 (.agg #[(.int .i64 0), (.slice none 0 0)]) 32 rfl Try.underlying22 info57 rfl (by decide) (by omega) (.slice A acc.length c) acc (⟨wrap64 (at0 + i), acc2⟩ : S57) [.int .i64 (wrap64 (at0 + i)), .slice Ar acc2.length cr] (fun _ => True) (fun k_ => some k_ = (.slice Ar acc2.length cr : Value).ownBlock) rfl rfl ?aP ?aQ ?aF ?aO ?aB ?aS ?aL ?_; (case aP => exact k57_mkM _ _ _ (⟨wrap64 (at0 + i), acc2⟩ : S57) (Kd.R_tight rfl (Kd.R_lower HQ.out.a HG6.out))); (case aQ => exact fun k hk => ⟨trivial, fun he => by have h1 := HBS.out k hk.symm; have h2 := ((Kd.S_R HS6.out).1 k he.symm).1; omega⟩); (case aF => exact (fun _ _ => trivial)); (case aO => exact Kd.S_mono HS6.out (fun k hk => ⟨trivial, fun he => by have h1 := HBS.out k he.symm; have h2 := hk.1; omega⟩)); (case aB => exact Below.refl _ _); (case aS => exact HW6.out.size); (case aL => have := HL.out; have := HN.out; omega); intro vv w20 ho hb hg hat; have HO9 := Aside0.mk ho; have HXr := Aside0.mk (show MBlk w20 g 82 #[.string s, .int .i64 pos3, .bool true] from blk_grown (g := g) (o := .cells #[.string s, .int .i64 pos3, .bool true] 82 (0, 0)) HQ.out.r hg (Kd.S_away (kdS_types HS6.out HQ.out.r (by decide)) (fun _ hk => hk.2))); have HXk := Aside0.mk (HW6.out.trans hb); clear ho hb hg hat)
              have hw1 : wrap64 ((i : Int) + 1) = ((i + 1 : Nat) : Int) := by have := HN.out; unfold wrap64; omega
              rw [hw1]
              go_round
              case measure => simp only [intOf]; omega
              case rel =>
                refine ⟨i + 1, pos3, true, acc ++ [(⟨wrap64 (at0 + i), acc2⟩ : S57)], rfl, by omega, ⟨by have := HL.out; simp; omega⟩, ⟨?_⟩, ⟨⟨HXr.out, HO9.out, HXk.out, HGG.out⟩⟩⟩
                rw [show N - (i + 1) = m by have := HNM.out; omega]
                have e := HT.out
                rw [show ((i + 1 : Nat) : Int) = (i : Int) + 1 from rfl]
                rw [e]
                exact HF.out
          | false =>
            by_cases hjt : j < M
            · rw [decide_eq_true hjt] at hdm
              obtain ⟨m2, hm2⟩ : ∃ m, M - j = m + 1 := ⟨M - j - 1, by omega⟩
              have HJ2 := Aside0.mk hm2
              have h := HT2.out
              rw [hm2, rrunsP, if_neg (by decide)] at h
              clear HT2 hm2
              obtain ⟨v1, e1, h⟩ := Option.bind_eq_some_iff.1 h
              obtain ⟨v2, e2, h⟩ := Option.bind_eq_some_iff.1 h
              obtain ⟨v3, e3, h⟩ := Option.bind_eq_some_iff.1 h
              have E1 := Aside0.mk e1
              have E2 := Aside0.mk e2
              have E3 := Aside0.mk e3
              have HT2 := Aside0.mk h
              clear e1 e2 e3 h
              go_wp2_with fail
              refine (rn_calls HQ.out.r E1.out).mono ?_
              rintro e w6 ⟨rfl, hk, hm⟩
              have HQ1 := Aside0.mk (HQ.out.keep hk hm)
              clear hk hm HQ hb3
              go_wp2_with fail
              refine (rn_calls HQ1.out.r E2.out).mono ?_
              rintro e w7 ⟨rfl, hk, hm⟩
              have HQ := Aside0.mk (HQ1.out.keep hk hm)
              clear hk hm HQ1
              go_wp2_with fail
              refine start_ (n := 11) (S := fun w' => w'.cell? ⟨gb, 1, none⟩ = some (.slice Ar acc2.length cr)) (ds := [10]) #[false, false, false, false, false, false, false, false, false, false, false] mixed rfl rfl ((mblk_cell HQ.out.b 1).trans rfl) (fun hHeld => ?_)
              have HQ5 := Aside0.mk HQ.out.drew
              clear HQ
              generalize w7.drew = w8 at HQ5 hHeld ⊢
              refine pure_ (i := 0) (N := some 57) (v := ?_) (a' := ?_) #[true, false, false, false, false, false, false, false, false, false, false] rfl rfl (by kernel_rfl) (fun _ _ _ h => h) (Or.inl ⟨by rfl, ?_⟩) ?_ ?_
              rotate_left
              · intro w'
                go_simp
                with_reducible rfl
              rotate_left
              · simp only [Act.put, List.setIfInBounds_toArray, List.set_cons_zero, List.set_cons_succ, i64_w, i32_w]
                rfl
              refine pure_ (i := 2) (N := some 59) (v := ?_) (a' := ?_) #[true, false, true, false, false, false, false, false, false, false, false] rfl rfl (by kernel_rfl) (fun _ _ _ h => h) (Or.inl ⟨by rfl, ?_⟩) ?_ ?_
              rotate_left
              · intro w'
                go_simp
                with_reducible rfl
              rotate_left
              · simp only [Act.put, List.setIfInBounds_toArray, List.set_cons_zero, List.set_cons_succ, i64_w, i32_w]
                rfl
              refine pure_ (i := 3) (N := some 60) (v := ?_) (a' := ?_) #[true, false, true, true, false, false, false, false, false, false, false] rfl rfl (by kernel_rfl) (fun _ _ _ h => h) (Or.inl ⟨by rfl, ?_⟩) ?_ ?_
              rotate_left
              · intro w'
                go_simp
                with_reducible rfl
              rotate_left
              · simp only [Act.put, List.setIfInBounds_toArray, List.set_cons_zero, List.set_cons_succ, i64_w, i32_w]
                rfl
              refine pure_ (i := 4) (N := some 61) (v := ?_) (a' := ?_) #[true, false, true, true, true, false, false, false, false, false, false] rfl rfl (by kernel_rfl) (fun _ _ _ h => h) (Or.inl ⟨by rfl, ?_⟩) ?_ ?_
              rotate_left
              · intro w'
                go_simp
                with_reducible rfl
              rotate_left
              · simp only [Act.put, List.setIfInBounds_toArray, List.set_cons_zero, List.set_cons_succ, i64_w, i32_w]
                rfl
              refine take_ (i := 1) (N := some 58) (v := ?_) (a' := ?_) #[true, true, true, true, true, false, false, false, false, false, false] rfl rfl (by kernel_rfl) (fun _ _ _ h => h) (Or.inl ⟨by rfl, ?_⟩) hHeld ?_ ?_
              rotate_left
              · intro w' s0
                go_simp
                with_reducible rfl
              rotate_left
              · simp only [Act.put, List.setIfInBounds_toArray, List.set_cons_zero, List.set_cons_succ, i64_w, i32_w]
                rfl
              refine one_ (i := 5) (N := some 62) #[true, true, true, true, true, true, false, false, false, false, false] rfl rfl (by kernel_rfl) (by decide) (fun K hK => ?_)
              refine goes_ Try.func58 (by kernel_rfl) rfl #[.pointer (some ⟨g, 0, none⟩), .int .i64 1099511627776] (by rfl) rfl rfl (by (try simp only [List.map_toArray, List.map_cons, List.map_nil]); first | done | rfl) ?_
              refine (rn_calls HQ5.out.r E3.out).mono ?_
              rintro e w9 ⟨rfl, hk, hm⟩
              refine ⟨_, rfl, ?_⟩
              have HQ6 := Aside0.mk (HQ5.out.keep hk hm)
              clear hk hm HQ5 hHeld
              refine hK.out _ _ ((mblk_cell HQ6.out.b 1).trans rfl) (fun hHeld => ?_)
              clear hK K
              refine norm_ (a' := ?_) ?_ ?_
              rotate_left
              · show Act.put _ (some 62) _ = _
                simp only [Act.put, List.setIfInBounds_toArray, List.set_cons_zero, List.set_cons_succ, i64_w, i32_w]
                rfl
              refine pure_ (i := 6) (N := some 63) (v := ?_) (a' := ?_) #[true, true, true, true, true, true, true, false, false, false, false] rfl rfl (by kernel_rfl) (fun _ _ _ h => h) (Or.inl ⟨by rfl, ?_⟩) ?_ ?_
              rotate_left
              · intro w'
                go_simp
                with_reducible rfl
              rotate_left
              · simp only [Act.put, List.setIfInBounds_toArray, List.set_cons_zero, List.set_cons_succ, i64_w, i32_w]
                rfl
              refine one_ (i := 7) (N := some 64) #[true, true, true, true, true, true, true, true, false, false, false] rfl rfl (by kernel_rfl) (by decide) (fun K hK => ?_)
              refine value_ (w1 := ?_) (v := ?_) (by rfl) rfl ?_ ?_
              rotate_left 2
              · go_simp
                constructor
                · rfl
                · rfl
              refine hK.out _ _ ((mblk_cell (mblk_alloc HQ6.out.b _) 1).trans rfl) (fun hHeld => ?_)
              clear hK K
              refine norm_ (a' := ?_) ?_ ?_
              rotate_left
              · show Act.put _ (some 64) _ = _
                simp only [Act.put, List.setIfInBounds_toArray, List.set_cons_zero, List.set_cons_succ, i64_w, i32_w]
                rfl
              refine one_ (i := 8) (N := some 65) #[true, true, true, true, true, true, true, true, true, false, false] rfl rfl (by kernel_rfl) (by decide) (fun K hK => ?_)
              refine Kd.R_append_step k59 (w0 := w9) wa.heap.size (by rfl) (.tmp 58) (.tmp 64) 55 59 (.agg #[(.int .i64 0), (.int .i64 0), (.int .i64 0)]) 24 rfl Try.underlying55 info59 rfl (by decide) (by omega) (.slice Ar acc2.length cr) acc2 (⟨v2.1, wrap64 (core + v1.1), v3.1⟩ : S59) [.int .i64 v2.1, .int .i64 (wrap64 (core + v1.1)), .int .i64 v3.1] (fun _ => True) (fun _ => False) rfl rfl ?aP (fun _ hk => hk.elim) ?aF ?aO ?aB ?aS ?aL ?_
              case aP => exact k59_mkM _ _ _ (⟨v2.1, wrap64 (core + v1.1), v3.1⟩ : S59)
              case aB => exact Below.refl _ _
              case aF => exact (fun _ _ => trivial)
              case aO => exact HQ6.out.a
              case aS => exact HQ6.out.k.size
              case aL => have := HL2.out; have := HM4.out; omega
              intro vv w10 ho hb hg hat
              obtain ⟨A7, c7, e7⟩ := Kd.R_slice ho
              subst e7
              have HXb := Aside0.mk (show MBlk w10 gb 57 #[.int .i64 (wrap64 (at0 + i)), .slice Ar acc2.length cr] from blk_grown (g := gb) (o := .cells #[.int .i64 (wrap64 (at0 + i)), .slice Ar acc2.length cr] 57 (0, 0)) HQ6.out.b hg (Kd.R_ne HQ6.out.a HQ6.out.b (by decide)))
              have HXr := Aside0.mk (show MBlk w10 g 82 #[.string s, .int .i64 v3.2.1, .bool v3.2.2] from (hb.block g HQ6.out.lt).trans HQ6.out.r)
              have HXk := Aside0.mk (HQ6.out.k.below hb)
              have HXl := Aside0.mk (And.intro HQ6.out.lt HQ6.out.gb)
              have HO := Aside0.mk ho
              clear ho hb hg hat HQ6 hHeld
              refine hK.out _ _ ((mblk_cell HXb.out 1).trans rfl) (fun hHeld => ?_)
              clear hK K
              refine norm_ (a' := ?_) ?_ ?_
              rotate_left
              · show Act.put _ (some 65) _ = _
                simp only [Act.put, List.setIfInBounds_toArray, List.set_cons_zero, List.set_cons_succ, i64_w, i32_w]
                rfl
              refine pure_ (i := 9) (N := some 66) (v := ?_) (a' := ?_) #[true, true, true, true, true, true, true, true, true, true, false] rfl rfl (by kernel_rfl) (fun _ _ _ h => h) (Or.inl ⟨by rfl, ?_⟩) ?_ ?_
              rotate_left
              · intro w'
                go_simp
                with_reducible rfl
              rotate_left
              · simp only [Act.put, List.setIfInBounds_toArray, List.set_cons_zero, List.set_cons_succ, i64_w, i32_w]
                rfl
              refine last_ (i := 10) (N := none) #[true, true, true, true, true, true, true, true, true, true, true] rfl rfl (by kernel_rfl) (by decide) (fun K hK => ?_)
              have hs16 : w10.cell? ⟨gb, 1, none⟩ = some (.slice Ar acc2.length cr) := (mblk_cell HXb.out 1).trans rfl
              have hfs16 := mblk_frozen HXb.out 1
              refine skip_ (w1 := ?_) (by rfl) rfl ?_ ?_
              rotate_left
              · go_simp
                rfl
              refine hK.out _ _ ?_
              clear hK K hs16 hfs16
              refine done_ (by kernel_rfl) ?_
              have hw1 : wrap64 ((j : Int) + 1) = ((j + 1 : Nat) : Int) := by have := HM4.out; unfold wrap64; omega
              have HO2 := Aside0.mk (show Kd.R k59 59 w10 wa.heap.size (fun _ => True) (.slice A7 (acc2.length + 1) c7) (acc2 ++ [(⟨v2.1, wrap64 (core + v1.1), v3.1⟩ : S59)]) from by
                have h := HO.out
                rw [List.length_append] at h
                exact h)
              go_wp2_with fail
              rw [hw1]
              go_round
              case measure => simp only [intOf]; omega
              case rel =>
                obtain ⟨hl1, hl2⟩ := HXl.out
                refine ⟨j + 1, wrap64 (core + v1.1), v3.2.1, v3.2.2, acc2 ++ [(⟨v2.1, wrap64 (core + v1.1), v3.1⟩ : S59)], .slice A7 (acc2.length + 1) c7, rfl, rfl, by omega, ⟨by have := HL2.out; simp; omega⟩, ⟨?_⟩, ⟨⟨mblk_far HXr.out (by show g ≠ gb; omega) _, mblk_set HXb.out 1 _, ?_, HXk.out.set (Or.inr hl2) _, hl1, hl2⟩⟩⟩
                · rw [show M - (j + 1) = m2 by have := HJ2.out; omega]
                  exact HT2.out
                · exact Kd.R_mono (Kd.R_far (p := ⟨gb, 1, none⟩) (Kd.R_types HO2.out HXb.out (by decide)) (fun _ hk => hk.2) _) (fun _ _ => trivial)
            · have hst : rrunsP k s (M - j) pos3 false core acc2 = some (acc2, pos3, false) := by
                rw [show M - j = 0 by omega]
                rfl
              rw [decide_eq_false hjt] at hdm
              have hze : z = (acc2, pos3, false) := by
                have e := HT2.out
                rw [hst] at e
                exact (Option.some.inj e).symm
              subst hze
              clear hst HT2
              have hS5 : Kd.S k57 57 wa w.heap.size (fun k => k < wa.heap.size ∧ k ≠ g) (.slice A acc.length c) acc := Kd.S_mono (Kd.S_bound (kdS_types HI2.out.a HI2.out.r (by decide))) (fun k hk => ⟨hk.2.2.1, hk.1.2⟩)
              have HS6 := Aside0.mk (Kd.S_step hS5 (fun k hk hlt => HQ.out.k.block k hlt hk.2))
              have HW6 := Aside0.mk (HI2.out.k.trans (HQ.out.k.toBelow HI2.out.g HI2.out.k.size))
              have HG6 := Aside0.mk HI2.out.k.size
              have HGG := Aside0.mk HI2.out.g
              have hcb0 : wr.cell? ⟨gb, 0, none⟩ = some (.int .i64 (wrap64 (at0 + i))) := (mblk_cell HQ.out.b 0).trans rfl
              have hcb1 : wr.cell? ⟨gb, 1, none⟩ = some (.slice Ar acc2.length cr) := (mblk_cell HQ.out.b 1).trans rfl
              have hbase : ∀ k, (.slice Ar acc2.length cr : Value).ownBlock = some k → wa.heap.size ≤ k := Kd.R_base HQ.out.a
              have HBS := Aside0.mk hbase
              clear hS5 hbase HI2 hb2
              go_wp2_with ((with_reducible refine gate_builtin (b := .append) (xs := #[.tmp 67, .tmp 69]) rfl ?_); at_builtin; refine Kd.S_append k57 (w0 := wr) w.heap.size rfl (.tmp 67) (.tmp 69) 22 57 (.agg #[(.int .i64 0), (.slice none 0 0)]) 32 rfl Try.underlying22 info57 rfl (by decide) (by omega) (.slice A acc.length c) acc (⟨wrap64 (at0 + i), acc2⟩ : S57) [.int .i64 (wrap64 (at0 + i)), .slice Ar acc2.length cr] (fun _ => True) (fun k_ => some k_ = (.slice Ar acc2.length cr : Value).ownBlock) rfl rfl ?aP ?aQ ?aF ?aO ?aB ?aS ?aL ?_; (case aP => exact k57_mkM _ _ _ (⟨wrap64 (at0 + i), acc2⟩ : S57) (Kd.R_tight rfl (Kd.R_lower HQ.out.a HG6.out))); (case aQ => exact fun k hk => ⟨trivial, fun he => by have h1 := HBS.out k hk.symm; have h2 := ((Kd.S_R HS6.out).1 k he.symm).1; omega⟩); (case aF => exact (fun _ _ => trivial)); (case aO => exact Kd.S_mono HS6.out (fun k hk => ⟨trivial, fun he => by have h1 := HBS.out k he.symm; have h2 := hk.1; omega⟩)); (case aB => exact Below.refl _ _); (case aS => exact HW6.out.size); (case aL => have := HL.out; have := HN.out; omega); intro vv w20 ho hb hg hat; have HO9 := Aside0.mk ho; have HXr := Aside0.mk (show MBlk w20 g 82 #[.string s, .int .i64 pos3, .bool false] from blk_grown (g := g) (o := .cells #[.string s, .int .i64 pos3, .bool false] 82 (0, 0)) HQ.out.r hg (Kd.S_away (kdS_types HS6.out HQ.out.r (by decide)) (fun _ hk => hk.2))); have HXk := Aside0.mk (HW6.out.trans hb); clear ho hb hg hat)
              have hw1 : wrap64 ((i : Int) + 1) = ((i + 1 : Nat) : Int) := by have := HN.out; unfold wrap64; omega
              rw [hw1]
              go_round
              case measure => simp only [intOf]; omega
              case rel =>
                refine ⟨i + 1, pos3, false, acc ++ [(⟨wrap64 (at0 + i), acc2⟩ : S57)], rfl, by omega, ⟨by have := HL.out; simp; omega⟩, ⟨?_⟩, ⟨⟨HXr.out, HO9.out, HXk.out, HGG.out⟩⟩⟩
                rw [show N - (i + 1) = m by have := HNM.out; omega]
                have e := HT.out
                rw [show ((i + 1 : Nat) : Int) = (i : Int) + 1 from rfl]
                rw [e]
                exact HF.out
      · rw [decide_eq_false hlt] at hdn
        have h := H.out
        rw [show N - i = 0 by omega] at h
        have h1 : (regattaref16_Bytes.f k acc).bind (fun t => some (if t.toList = s.toList then (acc, true) else ([], false))) = some (r1, r2) := h
        obtain ⟨t, ht, he⟩ := Option.bind_eq_some_iff.1 h1
        have HB := Aside0.mk ht
        have HE := Aside0.mk (Option.some.inj he)
        clear h h1 ht he H
        go_wp2_with fail
        have hrd := Kd.S_reads' HI2.out.a
        refine (regattaref16_Bytes.calls k A c acc t _ hrd.2.2 hrd.2.1 HB.out).mono ?_
        rintro e w5 ⟨rfl, hbel⟩
        have HS5 := Aside0.mk (And.intro (Kd.S_below HI2.out.a hbel) (below_step HI2.out.k hbel))
        clear hbel hrd
        by_cases heq : t.toList = s.toList
        · have e := HE.out
          rw [if_pos heq] at e
          injection e with e1 e2
          subst e1
          subst e2
          clear HE
          go_wp2_with fail
          all_goals exact bodyPost_ret (results_tmp2 rfl _ _ _) rfl ⟨.slice A acc.length c, rfl, HS5.out.1, HS5.out.2⟩
        · have e := HE.out
          rw [if_neg heq] at e
          injection e with e1 e2
          subst e1
          subst e2
          clear HE
          have hne2 : (t.toList == s.toList) = false := by simpa using heq
          go_wp2_with fail
          all_goals exact bodyPost_ret (results_tmp2 rfl _ _ _) rfl ⟨_, rfl, Kd.S_nil _ _ _ _ _, HS5.out.2⟩
theorem rn_mono (k : Nat) (s : ByteArray) (pos : Int) (bad : Bool) (most : Int) : LeO (rn k s pos bad most) (rn (k + 1) s pos bad most) := LeO.bind (regattaref16_ReadNumber.mono _ _ _) (fun _ => LeO.refl _)
theorem rruns_mono (k : Nat) (s : ByteArray) : ∀ (m : Nat) (pos : Int) (bad : Bool) (core : Int) (acc : List S59), LeO (rrunsP k s m pos bad core acc) (rrunsP (k + 1) s m pos bad core acc)
  | 0, _, _, _, _ => LeO.refl _
  | m + 1, pos, bad, core, acc => by
    unfold rrunsP
    exact LeO.ite (LeO.refl _) (LeO.bind (rn_mono _ _ _ _ _) (fun _ => LeO.bind (rn_mono _ _ _ _ _) (fun _ => LeO.bind (rn_mono _ _ _ _ _) (fun _ => rruns_mono k s m _ _ _ _))))
theorem rslots_mono (k : Nat) (s : ByteArray) (at0 : Int) : ∀ (m : Nat) (pos : Int) (bad : Bool) (i : Int) (acc : List S57), LeO (rslotsP k s at0 m pos bad i acc) (rslotsP (k + 1) s at0 m pos bad i acc)
  | 0, _, _, _, _ => LeO.refl _
  | m + 1, pos, bad, i, acc => by
    unfold rslotsP
    exact LeO.ite (LeO.refl _) (LeO.bind (rn_mono _ _ _ _ _) (fun _ => LeO.bind (rruns_mono _ _ _ _ _ _ _) (fun _ => rslots_mono k s at0 m _ _ _ _)))
theorem rfin_mono (k : Nat) (s : ByteArray) (z : List S57 × Int × Bool) : LeO (rfin k s z) (rfin (k + 1) s z) := by
  unfold rfin
  exact LeO.ite (LeO.refl _) (LeO.bind (regattaref16_Bytes.mono _ _) (fun _ => LeO.refl _))
theorem regattaref16_Read.mono : ∀ a0 k, LeO (regattaref16_Read.f k a0) (regattaref16_Read.f (k + 1) a0) := fun s k =>
  LeO.bind (rn_mono _ _ _ _ _) (fun _ => LeO.bind (rn_mono _ _ _ _ _) (fun _ => LeO.bind (rslots_mono _ _ _ _ _ _ _ _) (fun _ => rfin_mono _ _ _)))

end Go.Proofs.Ytlblianpbjhmoaa.PGs

/- The walk of wire.fields: a command's fields, by its kind. -/
import Derived.Test.YtfcoaneffdddkaaXVal
import Derived.BigRegion
import Derived.Deep.DeepCutAuto

namespace Go.Proofs.Ytfcoaneffdddkaa.XFields
open Go.RowKit Go.Proofs.Ytfcoaneffdddkaa.PWt Go.Proofs.YtfcoaneffdddkaaW.PrintWords Go.Proofs.YtfcoaneffdddkaaW.PrintLast Go.Proofs.YtfcoaneffdddkaaW.PrintMore Go.Proofs.Ytfcoaneffdddkaa.MWords Go.Proofs.Ytfcoaneffdddkaa.XVal
set_option linter.unusedVariables false
set_option linter.unusedSimpArgs false

/-- A command's fields, and how great each may be. -/
def flds (c : S31) : List (Int × Int) :=
  if c.f0 = 1 then [(wrap64 (c.f2 + 1), 1073741825), ((if c.f6 = true then 1 else 0), 1), (c.f5.f0, 1073741824), (c.f5.f1, 1073741824)]
  else if c.f0 = 2 ∨ c.f0 = 7 then [(c.f1, 1073741824)]
  else if c.f0 = 3 then [(c.f1, 1073741824), (c.f5.f0, 1073741824), (c.f5.f1, 1073741824)]
  else if c.f0 = 4 then [(c.f1, 1073741824), (c.f3, 1073741824)]
  else if c.f0 = 5 then [(c.f3, 1073741824)]
  else [(wrap64 (c.f2 + 1), 1073741825), (c.f4, 1073741824), ((c.f7.length : Int), 8)] ++ (c.f7.map fun p => [(p.f0, 1073741824), (p.f1, 1073741824)]).flatten
/-- A command as a value. -/
def cmdV (c : S31) (A : Option Addr) (n : Nat) : Value := .agg #[.int .i64 c.f0, .int .i64 c.f1, .int .i64 c.f2, .int .i64 c.f3, .int .i64 c.f4, .int .i64 c.f5.f0, .int .i64 c.f5.f1, .bool c.f6, .slice A c.f7.length n]
/-- What wire.fields hands back: the box, the row in it. -/
structure Fields (w w' : World) (B : Nat) (zs : List (Int × Int)) : Prop where
  box : ∃ A cap, MBlk w' B 66 #[.slice A zs.length cap] ∧ zs.length ≤ cap ∧ Kd.C kF w' A zs.length zs ∧ ∀ ad, A = some ad → w.heap.size ≤ ad.block ∧ ∃ cs, w'.heap[ad.block]? = some (.cells cs 50 (0, 0))
  ge : w.heap.size ≤ B
  k : Below w.heap.size w w'
theorem kF_mkM (w : World) (base : Nat) (ok : Nat → Prop) (x : Int × Int) : kF.M w base ok x [.int .i64 x.1, .int .i64 x.2] := ⟨[.int .i64 x.1], [.int .i64 x.2], rfl, rfl, rfl⟩
theorem infoF : (Try.prog.info? 50).map (fun i => (i.zero, i.size, i.bytes)) = some (some (.agg #[(.int .i64 0), (.int .i64 0)]), 2, 16) := by kernel_rfl

def encF (zs : List (Int × Int)) : List Value := (zs.map fun x => [Value.int .i64 x.1, Value.int .i64 x.2]).flatten
theorem encF_get (zs : List (Int × Int)) : ∀ (j : Nat) (p : Int × Int), zs[j]? = some p → (encF zs)[j * 2]? = some (.int .i64 p.1) ∧ (encF zs)[j * 2 + 1]? = some (.int .i64 p.2) := by
  induction zs with
  | nil => intro j p h; simp at h
  | cons x zs ih =>
    intro j p h
    have e : encF (x :: zs) = .int .i64 x.1 :: .int .i64 x.2 :: encF zs := rfl
    cases j with
    | zero =>
      simp at h
      subst h
      rw [e]
      exact ⟨rfl, rfl⟩
    | succ j =>
      have h2 := ih j p (by simpa using h)
      rw [e, show (j + 1) * 2 = j * 2 + 1 + 1 by omega]
      simpa using h2
theorem lit_C {W : World} {g : Nat} {zs : List (Int × Int)} (h : MBlk W g 50 (encF zs).toArray) (hl : zs.length ≤ 9223372036854775807) : Kd.C kF W (some ⟨g, 0, none⟩) zs.length zs := by
  refine ⟨rfl, hl, fun _ => ⟨_, rfl, fun j p hp => ⟨[.int .i64 p.1, .int .i64 p.2], rfl, ⟨[.int .i64 p.1], [.int .i64 p.2], rfl, rfl, rfl⟩, fun i u hi => ?_⟩⟩⟩
  have h2 := encF_get zs j p hp
  have e : (⟨g, 0, none⟩ : Addr).add (j * 2 + i) = ⟨g, j * 2 + i, none⟩ := by unfold Addr.add; split <;> simp_all
  show W.cell? ((⟨g, 0, none⟩ : Addr).add (j * 2 + i)) = some u
  rw [e, mblk_cell h]
  match i, hi with
  | 0, hi => simpa [← hi] using h2.1
  | 1, hi => simpa [← hi] using h2.2
  | i + 2, hi => simp at hi
/-- A row that has just been laid, and its box. -/
theorem fin_lit {w W : World} {zs : List (Int × Int)} (h : Below w.heap.size w W) (hl : zs.length ≤ 1000000) :
    Fields w ((W.alloc (.cells (encF zs).toArray 50)).alloc (.cells #[.slice (some ⟨W.heap.size, 0, none⟩) zs.length zs.length] 66)) (W.heap.size + 1) zs := by
  have hs : (W.alloc (.cells (encF zs).toArray 50)).heap.size = W.heap.size + 1 := by simp
  have hb := mblk_new (W.alloc (.cells (encF zs).toArray 50)) 66 #[.slice (some ⟨W.heap.size, 0, none⟩) zs.length zs.length]
  rw [hs] at hb
  refine ⟨⟨some ⟨W.heap.size, 0, none⟩, zs.length, hb, Nat.le_refl _, lit_C (mblk_alloc (mblk_new W _ _) _) (by omega), ?_⟩, by have := h.size; omega, below_alloc (below_alloc h _) _⟩
  intro ad e
  injection e with e
  subst e
  exact ⟨h.size, _, mblk_alloc (mblk_new W 50 _) _⟩

theorem R_addr {w : World} {base n c : Nat} {ok : Nat → Prop} {A : Option Addr} {xs : List (Int × Int)} (h : Kd.R kF 50 w base ok (.slice A n c) xs) : ∀ ad, A = some ad → base ≤ ad.block ∧ ∃ cs, w.heap[ad.block]? = some (.cells cs 50 (0, 0)) := by
  obtain ⟨inner, ho⟩ := Kd.R_own h
  intro ad e
  subst e
  rcases ho.2 with ⟨h1, _⟩ | ⟨g, cap, cur, h1, hb, hh, _⟩
  · cases h1
  · injection h1 with h1
    injection h1 with h1
    subst h1
    exact ⟨hb, _, hh⟩
def partF (ps : List S67) : List (Int × Int) := (ps.map fun p => [(p.f0, (1073741824 : Int)), (p.f1, (1073741824 : Int))]).flatten
theorem partF_take (ps : List S67) (i : Nat) (h : i < ps.length) : partF (ps.take (i + 1)) = partF (ps.take i) ++ [((rd_T67 ps (i : Int)).f0, 1073741824), ((rd_T67 ps (i : Int)).f1, 1073741824)] := by
  have hX : rd_T67 ps (i : Int) = ps[i] := by simp [rd_T67, List.getD, List.getElem?_eq_getElem h]
  unfold partF
  rw [hX, List.take_succ_eq_append_getElem h, List.map_append, List.flatten_append]
  rfl
theorem partF_len (ps : List S67) : (partF ps).length = 2 * ps.length := by
  induction ps with
  | nil => rfl
  | cons p ps ih =>
    have e : partF (p :: ps) = [(p.f0, 1073741824), (p.f1, 1073741824)] ++ partF ps := rfl
    rw [e, List.length_append, ih]
    simp
    omega
set_option maxHeartbeats 4000000 in
set_option maxRecDepth 100000 in
theorem fields_calls (c : S31) (A8 : Option Addr) (c8 : Nat) (w : World) (hC : Kd.C k67 w A8 c.f7.length c.f7) (hc8 : c.f7.length ≤ c8) (hk0 : 1 ≤ c.f0) (hk1 : c.f0 ≤ 7) (hl : c.f7.length ≤ 100000) :
    Calls Try.prog 17 #[cmdV c A8 c8] w fun e w' => ∃ B, e = .returned (.func (.func 33) #[] #[.pointer (some ⟨B, 0, none⟩)]) ∧ Fields w w' B (flds c) := by
  obtain ⟨kd, id, sv, n, co, ⟨E, P⟩, ea, ps⟩ := c
  dsimp only [cmdV] at *
  have mixed : Try.prog.follows Departure.mixedOrders = true := by kernel_rfl
  have HC := Aside0.mk hC
  have HC8 := Aside0.mk hc8
  have HL := Aside0.mk hl
  clear hC hc8 hl
  have HM0 := Aside0.mk (mblk_new w 31 #[.int .i64 kd, .int .i64 id, .int .i64 sv, .int .i64 n, .int .i64 co, .int .i64 E, .int .i64 P, .bool ea, .slice A8 ps.length c8])
  have HB0 := Aside0.mk (below_alloc (Below.refl w.heap.size w) (.cells #[.int .i64 kd, .int .i64 id, .int .i64 sv, .int .i64 n, .int .i64 co, .int .i64 E, .int .i64 P, .bool ea, .slice A8 ps.length c8] 31))
  go_enter Try.func17, Try.ntmps17
  go_upto_if 13 with fail
  go_cut [3] (fun v3 wc => v3 = .int .i64 (if ea = true then 1 else 0) ∧ Aside0 (Below w.heap.size w wc) ∧ Aside0 (MBlk wc w.heap.size 31 #[.int .i64 kd, .int .i64 id, .int .i64 sv, .int .i64 n, .int .i64 co, .int .i64 E, .int .i64 P, .bool ea, .slice A8 ps.length c8]))
  case first =>
    cases ea
    · go_wp2_with fail
      go_meet
      case rel => exact ⟨rfl, HB0, HM0⟩
    · go_wp2_with fail
      go_meet
      case rel => exact ⟨rfl, HB0, HM0⟩
  case rest =>
    obtain ⟨rfl, HB1, HM1⟩ := hcut
    clear HB0 HM0
    obtain ⟨ev, hev⟩ : ∃ ev : Int, ev = (if ea = true then 1 else 0) := ⟨_, rfl⟩
    rw [← hev]
    have HEV := Aside0.mk hev
    clear hev
    have hlt1 := mblk_lt HM1.out
    have c1 : wc.cell? ⟨w.heap.size, 1, none⟩ = some (.int .i64 id) := (mblk_cell HM1.out 1).trans rfl
    have c2 : wc.cell? ⟨w.heap.size, 2, none⟩ = some (.int .i64 sv) := (mblk_cell HM1.out 2).trans rfl
    go_upto_region 6 with fail
    obtain ⟨W1, hW1⟩ : ∃ W1, W1 = (wc.alloc (.cells #[.int .i64 id, .int .i64 1073741824] 50)).alloc (.cells #[.int .i64 (wrap64 (sv + 1)), .int .i64 1073741825] 50) := ⟨_, rfl⟩
    obtain ⟨b4, hb4⟩ : ∃ b4, b4 = wc.heap.size := ⟨_, rfl⟩
    have hs1 : (wc.alloc (.cells #[.int .i64 id, .int .i64 1073741824] 50)).heap.size = b4 + 1 := by rw [hb4]; simp
    have HB2 := Aside0.mk (show Below w.heap.size w W1 by rw [hW1]; exact below_alloc (below_alloc HB1.out _) _)
    have HM2 := Aside0.mk (show MBlk W1 w.heap.size 31 #[.int .i64 kd, .int .i64 id, .int .i64 sv, .int .i64 n, .int .i64 co, .int .i64 E, .int .i64 P, .bool ea, .slice A8 ps.length c8] by rw [hW1]; exact mblk_alloc (mblk_alloc HM1.out _) _)
    have HI := Aside0.mk (show MBlk W1 b4 50 #[.int .i64 id, .int .i64 1073741824] by rw [hW1, hb4]; exact mblk_alloc (mblk_new _ _ _) _)
    have HV := Aside0.mk (show MBlk W1 (b4 + 1) 50 #[.int .i64 (wrap64 (sv + 1)), .int .i64 1073741825] by rw [hW1, ← hs1]; exact mblk_new _ _ _)
    rw [← hW1, ← hb4]
    have HLT := Aside0.mk (show w.heap.size < b4 by rw [hb4]; exact hlt1)
    clear hW1 hb4 hs1 HB1 HM1 c1 c2 hlt1
    go_cut [6, 7] (fun v6 v7 wc => ∃ b6 b7 : Nat, v6 = .pointer (some ⟨b6, 0, none⟩) ∧ v7 = .pointer (some ⟨b7, 0, none⟩) ∧ Aside0 (Below W1.heap.size W1 wc) ∧ Aside0 (MBlk wc b6 50 #[.int .i64 E, .int .i64 1073741824]) ∧ Aside0 (MBlk wc b7 50 #[.int .i64 P, .int .i64 1073741824]) ∧ Aside0 (W1.heap.size ≤ b6 ∧ W1.heap.size ≤ b7))
    case first =>
      have c5 : W1.cell? ⟨w.heap.size, 5, none⟩ = some (.int .i64 E) := (mblk_cell HM2.out 5).trans rfl
      have c6 : W1.cell? ⟨w.heap.size, 6, none⟩ = some (.int .i64 P) := (mblk_cell HM2.out 6).trans rfl
      have hlt1 := mblk_lt HM2.out
      go_region
      · go_wp2_with fail
        go_meet
        case rel => exact ⟨W1.heap.size, W1.heap.size + 1, rfl, rfl, ⟨below_drew (below_alloc (below_alloc (Below.refl _ _) _) _)⟩, ⟨mblk_drewN (mblk_alloc (mblk_new _ _ _) _) 1⟩, ⟨mblk_drewN (by have := mblk_new (W1.alloc (.cells #[.int .i64 E, .int .i64 1073741824] 50)) 50 #[.int .i64 P, .int .i64 1073741824]; rwa [World.size_alloc] at this) 1⟩, ⟨by omega, by omega⟩⟩
      · go_wp2_with fail
        go_meet
        case rel => exact ⟨W1.heap.size + 1, W1.heap.size, rfl, rfl, ⟨below_drew (below_alloc (below_alloc (Below.refl _ _) _) _)⟩, ⟨mblk_drewN (by have := mblk_new (W1.alloc (.cells #[.int .i64 P, .int .i64 1073741824] 50)) 50 #[.int .i64 E, .int .i64 1073741824]; rwa [World.size_alloc] at this) 1⟩, ⟨mblk_drewN (mblk_alloc (mblk_new _ _ _) _) 1⟩, ⟨by omega, by omega⟩⟩
    case rest =>
      obtain ⟨b6, b7, rfl, rfl, HB3, HE, HP, HG⟩ := hcut
      have HM3 := Aside0.mk ((HB3.out.block _ (mblk_lt HM2.out)).trans HM2.out)
      have HI3 := Aside0.mk ((HB3.out.block _ (mblk_lt HI.out)).trans HI.out)
      have HV3 := Aside0.mk ((HB3.out.block _ (mblk_lt HV.out)).trans HV.out)
      have HB4 := Aside0.mk (below_step HB2.out HB3.out)
      clear HM2 HI HV HB2 HB3
      have hlt1 := mblk_lt HM3.out
      have c3 : wc.cell? ⟨w.heap.size, 3, none⟩ = some (.int .i64 n) := (mblk_cell HM3.out 3).trans rfl
      go_upto_region 8 with fail
      obtain ⟨W2, hW2⟩ : ∃ W2, W2 = wc.alloc (.cells #[.int .i64 n, .int .i64 1073741824] 50) := ⟨_, rfl⟩
      obtain ⟨b8, hb8⟩ : ∃ b8, b8 = wc.heap.size := ⟨_, rfl⟩
      have HN := Aside0.mk (show MBlk W2 b8 50 #[.int .i64 n, .int .i64 1073741824] by rw [hW2, hb8]; exact mblk_new _ _ _)
      have HM4 := Aside0.mk (show MBlk W2 w.heap.size 31 _ by rw [hW2]; exact mblk_alloc HM3.out _)
      have HI4 := Aside0.mk (show MBlk W2 b4 50 _ by rw [hW2]; exact mblk_alloc HI3.out _)
      have HV4 := Aside0.mk (show MBlk W2 (b4 + 1) 50 _ by rw [hW2]; exact mblk_alloc HV3.out _)
      have HE4 := Aside0.mk (show MBlk W2 b6 50 _ by rw [hW2]; exact mblk_alloc HE.out _)
      have HP4 := Aside0.mk (show MBlk W2 b7 50 _ by rw [hW2]; exact mblk_alloc HP.out _)
      have HB5 := Aside0.mk (show Below w.heap.size w W2 by rw [hW2]; exact below_alloc HB4.out _)
      rw [← hW2, ← hb8]
      clear hW2 hb8 HI3 HV3 HE HP HM3 HB4 c3 hlt1 HG
      have a0 : W2.cell? ⟨w.heap.size, 0, none⟩ = some (.int .i64 kd) := (mblk_cell HM4.out 0).trans rfl
      have i0 : W2.cell? ⟨b4, 0, none⟩ = some (.int .i64 id) := (mblk_cell HI4.out 0).trans rfl
      have i1 : W2.cell? ⟨b4, 1, none⟩ = some (.int .i64 1073741824) := (mblk_cell HI4.out 1).trans rfl
      have v0 : W2.cell? ⟨b4 + 1, 0, none⟩ = some (.int .i64 (wrap64 (sv + 1))) := (mblk_cell HV4.out 0).trans rfl
      have v1 : W2.cell? ⟨b4 + 1, 1, none⟩ = some (.int .i64 1073741825) := (mblk_cell HV4.out 1).trans rfl
      have e0 : W2.cell? ⟨b6, 0, none⟩ = some (.int .i64 E) := (mblk_cell HE4.out 0).trans rfl
      have e1 : W2.cell? ⟨b6, 1, none⟩ = some (.int .i64 1073741824) := (mblk_cell HE4.out 1).trans rfl
      have p0 : W2.cell? ⟨b7, 0, none⟩ = some (.int .i64 P) := (mblk_cell HP4.out 0).trans rfl
      have p1 : W2.cell? ⟨b7, 1, none⟩ = some (.int .i64 1073741824) := (mblk_cell HP4.out 1).trans rfl
      have n0 : W2.cell? ⟨b8, 0, none⟩ = some (.int .i64 n) := (mblk_cell HN.out 0).trans rfl
      have n1 : W2.cell? ⟨b8, 1, none⟩ = some (.int .i64 1073741824) := (mblk_cell HN.out 1).trans rfl
      by_cases hk1 : kd = 1
      · subst hk1
        go_wp2_with fail
        refine (values_calls _ _ _ _).mono ?_
        rintro e w' ⟨rfl, rfl⟩
        go_wp2_with fail
        go_ret
        refine ⟨_, rfl, ?_⟩
        have hfl : flds ⟨1, id, sv, n, co, ⟨E, P⟩, ea, ps⟩ = [(wrap64 (sv + 1), 1073741825), (ev, 1), (E, 1073741824), (P, 1073741824)] := by rw [HEV.out]; rfl
        rw [hfl]
        exact fin_lit (zs := [(wrap64 (sv + 1), 1073741825), (ev, 1), (E, 1073741824), (P, 1073741824)]) HB5.out (by simp)
      by_cases hk2 : kd = 2
      · subst hk2
        go_wp2_with fail
        refine (values_calls _ _ _ _).mono ?_
        rintro e w' ⟨rfl, rfl⟩
        go_wp2_with fail
        go_ret
        exact ⟨_, rfl, fin_lit (zs := [(id, 1073741824)]) HB5.out (by simp)⟩
      by_cases hk7 : kd = 7
      · subst hk7
        go_wp2_with fail
        refine (values_calls _ _ _ _).mono ?_
        rintro e w' ⟨rfl, rfl⟩
        go_wp2_with fail
        go_ret
        exact ⟨_, rfl, fin_lit (zs := [(id, 1073741824)]) HB5.out (by simp)⟩
      by_cases hk3 : kd = 3
      · subst hk3
        go_wp2_with fail
        refine (values_calls _ _ _ _).mono ?_
        rintro e w' ⟨rfl, rfl⟩
        go_wp2_with fail
        go_ret
        exact ⟨_, rfl, fin_lit (zs := [(id, 1073741824), (E, 1073741824), (P, 1073741824)]) HB5.out (by simp)⟩
      by_cases hk4 : kd = 4
      · subst hk4
        go_wp2_with fail
        refine (values_calls _ _ _ _).mono ?_
        rintro e w' ⟨rfl, rfl⟩
        go_wp2_with fail
        go_ret
        exact ⟨_, rfl, fin_lit (zs := [(id, 1073741824), (n, 1073741824)]) HB5.out (by simp)⟩
      by_cases hk5 : kd = 5
      · subst hk5
        go_wp2_with fail
        refine (values_calls _ _ _ _).mono ?_
        rintro e w' ⟨rfl, rfl⟩
        go_wp2_with fail
        go_ret
        exact ⟨_, rfl, fin_lit (zs := [(n, 1073741824)]) HB5.out (by simp)⟩
      have hk6 : kd = 6 := by omega
      subst hk6
      have a4 : W2.cell? ⟨w.heap.size, 4, none⟩ = some (.int .i64 co) := (mblk_cell HM4.out 4).trans rfl
      have a8 : W2.cell? ⟨w.heap.size, 8, none⟩ = some (.slice A8 ps.length c8) := (mblk_cell HM4.out 8).trans rfl
      have hsz2 := HB5.out.size
      go_upto_if 62 with fail
      go_wp2_with ((with_reducible refine gate_dst (N := 72) rfl ?_); refine Kd.R_lit kF (w0 := w) w.heap.size 50 ?hg (N := 72) ?hd (xs := ([(wrap64 (sv + 1), 1073741825), (co, 1073741824), ((ps.length : Int), 8)] : List (Int × Int))) (inner := [.int .i64 (wrap64 (sv + 1)), .int .i64 1073741825, .int .i64 co, .int .i64 1073741824, .int .i64 ps.length, .int .i64 8]) (ok := fun _ => True) (okp := fun _ => True) ?hr ?hp (fun _ hk => hk) trivial HB5.out hsz2 (by simp) ?_; (case hd => rfl); (case hg => rfl); (case hr => first | (go_simp; done) | (go_simp; rfl)); (case hp => exact Reps.c2 (kF_mkM _ _ _ (wrap64 (sv + 1), 1073741825)) (Reps.c2 (kF_mkM _ _ _ (co, 1073741824)) (Reps.c2 (kF_mkM _ _ _ ((ps.length : Int), 8)) (Reps.none _ _)))); intro v W3 ho hb hg_ hnew_; have HO := Aside0.mk ho; have HB6 := Aside0.mk hb; have HM5 := Aside0.mk ((hg_.block _ (mblk_lt HM4.out) (by simp)).trans HM4.out); clear ho hb hg_ hnew_ a0 i0 i1 v0 v1 e0 e1 p0 p1 n0 n1 a4 a8 hsz2; have b8 : W3.cell? ⟨w.heap.size, 8, none⟩ = some (.slice A8 ps.length c8) := (mblk_cell HM5.out 8).trans rfl)
      go_loopw [9, 76] (fun v9 v76 wr => ∃ i : Nat, v76 = .int .i64 i ∧ i ≤ ps.length ∧ Aside0 (Kd.R kF 50 wr w.heap.size (fun _ => True) v9 ([(wrap64 (sv + 1), 1073741825), (co, 1073741824), ((ps.length : Int), 8)] ++ partF (ps.take i))) ∧ Aside0 (Below w.heap.size w wr)) (fun _ v _ => ps.length - (intOf v).toNat)
      case atStart => exact ⟨0, rfl, Nat.zero_le _, HO, HB6⟩
      case round =>
        obtain ⟨i, rfl, hi, HR, HB⟩ := hrel
        by_cases hlt : i < ps.length
        · obtain ⟨ad, e, hx0, hx1⟩ := at_T67 (Kd.C_below HC.out HB.out) (i : Int) (by omega) (by omega)
          subst e
          simp only [Int.toNat_natCast] at hx0 hx1
          have HT := Aside0.mk (partF_take ps i hlt)
          have HPL := Aside0.mk (partF_len (ps.take i))
          obtain ⟨X, hX⟩ : ∃ X, X = rd_T67 ps (i : Int) := ⟨_, rfl⟩
          rw [← hX] at hx0 hx1 HT
          clear hX
          have hs1 : (wr.alloc (.cells #[.int .i64 X.f0, .int .i64 X.f1] 67)).heap.size = wr.heap.size + 1 := by simp
          have HN := Aside0.mk (show MBlk ((wr.alloc (.cells #[.int .i64 X.f0, .int .i64 X.f1] 67)).alloc (.cells #[.int .i64 X.f0, .int .i64 1073741824, .int .i64 X.f1, .int .i64 1073741824] 50)) (wr.heap.size + 1) 50 (encF [(X.f0, 1073741824), (X.f1, 1073741824)]).toArray by rw [← hs1]; exact mblk_new _ _ _)
          clear hs1
          go_wp2_with ((with_reducible refine gate_builtin (b := .append) (xs := #[.tmp 80, .tmp 87]) rfl ?_); at_builtin; refine Kd.R_append_rows kF (w0 := w) w.heap.size rfl (.tmp 80) (.tmp 87) 66 50 (.agg #[(.int .i64 0), (.int .i64 0)]) 16 rfl Try.underlying66 infoF rfl (by decide) (by omega) _ _ [(X.f0, 1073741824), (X.f1, 1073741824)] _ _ _ (fun _ => True) (fun _ => False) rfl rfl (Kd.R_alloc (Kd.R_alloc HR.out _) _) (lit_C HN.out (by simp)) ?aK (fun _ h => h.elim) (fun _ _ => trivial) (below_alloc (below_alloc HB.out _) _) ?aS ?aL ?_; (case aK => exact fun x cs h => by rw [kF_open h]; exact kF_mkM _ _ _ _); (case aS => have := HB.out.size; simp; omega); (case aL => have := HPL.out; have := HL.out; rw [List.length_append, HPL.out, List.length_take]; simp; omega); intro v1 w1 ho hb hg hat; have HO2 := Aside0.mk ho; have HB2 := Aside0.mk hb; clear ho hb hg hat)
          have hw1 : wrap64 ((i : Int) + 1) = ((i + 1 : Nat) : Int) := by have := HL.out; unfold wrap64; omega
          rw [hw1]
          go_round
          case measure => simp only [intOf]; omega
          case rel => exact ⟨i + 1, rfl, by omega, ⟨by rw [HT.out]; simpa using HO2.out⟩, HB2⟩
        · have hie : i = ps.length := by omega
          subst hie
          obtain ⟨A, cp, rfl⟩ := Kd.R_slice HR.out
          go_wp2_with fail
          refine (values_calls _ _ _ _).mono ?_
          rintro e w' ⟨rfl, rfl⟩
          go_wp2_with fail
          go_ret
          rw [List.take_length] at HR
          have hfl : flds ⟨6, id, sv, n, co, ⟨E, P⟩, ea, ps⟩ = [(wrap64 (sv + 1), 1073741825), (co, 1073741824), ((ps.length : Int), 8)] ++ partF ps := rfl
          rw [hfl]
          have hrd := Kd.R_reads' HR.out
          have had := R_addr HR.out
          exact ⟨_, rfl, ⟨⟨A, cp, mblk_new _ _ _, hrd.2.1, Kd.C_alloc hrd.2.2 _, fun ad e => ⟨(had ad e).1, by obtain ⟨cs, hcs⟩ := (had ad e).2; exact ⟨cs, mblk_alloc hcs _⟩⟩⟩, HB.out.size, below_alloc HB.out _⟩⟩
end Go.Proofs.Ytfcoaneffdddkaa.XFields

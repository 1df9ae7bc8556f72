/- wire.reader.command: the walk. -/
import Derived.Test.YtfcoaneffdddkaaXNum
import Derived.Deep.RegionLaw

namespace Go.Proofs.Ytfcoaneffdddkaa.XCmd
open Go.RowKit Go.Proofs.Ytfcoaneffdddkaa.PWt Go.Proofs.YtfcoaneffdddkaaW.PrintWords Go.Proofs.YtfcoaneffdddkaaW.PrintLast Go.Proofs.YtfcoaneffdddkaaW.PrintMore Go.Proofs.Ytfcoaneffdddkaa.MWords
open Go.Proofs.Ytfcoaneffdddkaa.QBits Go.Proofs.Ytfcoaneffdddkaa.MPut Go.Proofs.Ytfcoaneffdddkaa.XDig Go.Proofs.Ytfcoaneffdddkaa.QEv Go.Proofs.Ytfcoaneffdddkaa.XNext Go.Proofs.Ytfcoaneffdddkaa.XNum
set_option linter.unusedVariables false
set_option linter.unusedSimpArgs false
attribute [local go_sem] Oper.semAt_some

theorem put9 {W : World} {b : Nat} {t : TypeId} {a0 a1 a2 a3 a4 a5 a6 a7 a8 : Value} (h : MBlk W b t #[a0, a1, a2, a3, a4, a5, a6, a7, a8]) (v0 v1 v2 v3 v4 v5 v6 v7 v8 : Value) :
    MBlk (((((((((W.setCell ⟨b, 0, none⟩ v0).setCell ⟨b, 1, none⟩ v1).setCell ⟨b, 2, none⟩ v2).setCell ⟨b, 3, none⟩ v3).setCell ⟨b, 4, none⟩ v4).setCell ⟨b, 5, none⟩ v5).setCell ⟨b, 6, none⟩ v6).setCell ⟨b, 7, none⟩ v7).setCell ⟨b, 8, none⟩ v8) b t #[v0, v1, v2, v3, v4, v5, v6, v7, v8] := by
  replace h : MBlk _ b t #[v0, a1, a2, a3, a4, a5, a6, a7, a8] := mblk_set h 0 v0
  replace h : MBlk _ b t #[v0, v1, a2, a3, a4, a5, a6, a7, a8] := mblk_set h 1 v1
  replace h : MBlk _ b t #[v0, v1, v2, a3, a4, a5, a6, a7, a8] := mblk_set h 2 v2
  replace h : MBlk _ b t #[v0, v1, v2, v3, a4, a5, a6, a7, a8] := mblk_set h 3 v3
  replace h : MBlk _ b t #[v0, v1, v2, v3, v4, a5, a6, a7, a8] := mblk_set h 4 v4
  replace h : MBlk _ b t #[v0, v1, v2, v3, v4, v5, a6, a7, a8] := mblk_set h 5 v5
  replace h : MBlk _ b t #[v0, v1, v2, v3, v4, v5, v6, a7, a8] := mblk_set h 6 v6
  replace h : MBlk _ b t #[v0, v1, v2, v3, v4, v5, v6, v7, a8] := mblk_set h 7 v7
  replace h : MBlk _ b t #[v0, v1, v2, v3, v4, v5, v6, v7, v8] := mblk_set h 8 v8
  exact h
theorem set9 {B : Nat} {w W : World} {b : Nat} (h : Near B w W) (hb : w.heap.size ≤ b) (v0 v1 v2 v3 v4 v5 v6 v7 v8 : Value) :
    Near B w (((((((((W.setCell ⟨b, 0, none⟩ v0).setCell ⟨b, 1, none⟩ v1).setCell ⟨b, 2, none⟩ v2).setCell ⟨b, 3, none⟩ v3).setCell ⟨b, 4, none⟩ v4).setCell ⟨b, 5, none⟩ v5).setCell ⟨b, 6, none⟩ v6).setCell ⟨b, 7, none⟩ v7).setCell ⟨b, 8, none⟩ v8) :=
  near_set (near_set (near_set (near_set (near_set (near_set (near_set (near_set (near_set h hb _ _) hb _ _) hb _ _) hb _ _) hb _ _) hb _ _) hb _ _) hb _ _) hb _ _
theorem far9 {W : World} {b k : Nat} {t : TypeId} {cs : Array Value} (h : MBlk W k t cs) (hb : k ≠ b) (v0 v1 v2 v3 v4 v5 v6 v7 v8 : Value) :
    MBlk (((((((((W.setCell ⟨b, 0, none⟩ v0).setCell ⟨b, 1, none⟩ v1).setCell ⟨b, 2, none⟩ v2).setCell ⟨b, 3, none⟩ v3).setCell ⟨b, 4, none⟩ v4).setCell ⟨b, 5, none⟩ v5).setCell ⟨b, 6, none⟩ v6).setCell ⟨b, 7, none⟩ v7).setCell ⟨b, 8, none⟩ v8) k t cs :=
  mblk_far (mblk_far (mblk_far (mblk_far (mblk_far (mblk_far (mblk_far (mblk_far (mblk_far h hb _) hb _) hb _) hb _) hb _) hb _) hb _) hb _) hb _

theorem rd_at {most v : Int} {st st' : St} (hn : nx most st = (v, st')) (g : Nat) (w : World) (hm : Rd w g st) (hs : st.1.size ≤ 1000000000) :
    Calls Try.prog 28 #[.pointer (some ⟨g, 0, none⟩), .int .i64 most] w fun e w' => e = .returned (.int .i64 v) ∧ Rd w' g st' ∧ Near g w w' := by
  have h := rd_any g st most w hm hs
  rw [hn] at h
  exact h
theorem num_at {v : Int} {st st' : St} (hn : nx 1073741824 st = (v, st')) (g : Nat) {b : Nat} (w : World) (hb : Bx w b g) (hm : Rd w g st) (hs : st.1.size ≤ 1000000000) :
    Calls Try.prog 29 #[.pointer (some ⟨b, 0, none⟩)] w fun e w' => e = .returned (.int .i64 v) ∧ Rd w' g st' ∧ Near g w w' := by
  have h := num_any b g st w hb hm hs
  rw [hn] at h
  exact h
theorem wt_at {x y : Int} {st st' : St} (hn : wR st = (⟨x, y⟩, st')) (g : Nat) {b : Nat} (w : World) (hb : Bx w b g) (hm : Rd w g st) (hs : st.1.size ≤ 1000000000) :
    Calls Try.prog 30 #[.pointer (some ⟨b, 0, none⟩)] w fun e w' => e = .returned (.agg #[.int .i64 x, .int .i64 y]) ∧ Rd w' g st' ∧ Near g w w' := by
  have h := weight_any b g st w hb hm hs
  rw [hn] at h
  exact h
theorem nx_bd {most v : Int} {st st' : St} (h0 : 0 ≤ most) (hn : nx most st = (v, st')) : 0 ≤ v ∧ v ≤ most := by
  have h := nx_bound most h0 st
  rw [hn] at h
  exact h
theorem nx_le {most v : Int} {st st' : St} (hn : nx most st = (v, st')) {N : Nat} (hs : st.1.size ≤ N) : st'.1.size ≤ N := by
  have h := nx_size most st
  rw [hn] at h
  exact Nat.le_trans h hs
theorem wR_le {p : S28} {st st' : St} (hn : wR st = (p, st')) {N : Nat} (hs : st.1.size ≤ N) : st'.1.size ≤ N := by
  have h : (wR st).2.1.size ≤ N := Nat.le_trans (nx_size _ _) (Nat.le_trans (nx_size _ _) hs)
  rw [hn] at h
  exact h
theorem near_setg {g : Nat} {w W : World} (h : Near g w W) (i : Nat) (u : Value) : Near g w (W.setCell ⟨g, i, none⟩ u) :=
  ⟨h.os, h.tape, h.output, by simpa [World.setCell] using h.size, fun k hk hg => (Below.heap_setCell W ⟨g, i, none⟩ u k hg).trans (h.block k hk hg)⟩
theorem near_grown {g : Nat} {w W W' : World} {row : Option Nat} (h : Near g w W) (hg : W.grownBy W' row) (hr : ∀ k, row = some k → w.heap.size ≤ k) : Near g w W' :=
  ⟨hg.os.trans h.os, hg.tape.trans h.tape, hg.output.trans h.output, Nat.le_trans h.size hg.size, fun k hk hkg => (hg.block k (Nat.lt_of_lt_of_le hk h.size) (fun e => by have := hr k e.symm; omega)).trans (h.block k hk hkg)⟩
theorem rp_near {W W' : World} {B g t : Nat} {cs : Array Value} {v : Value} {xs : List S67} (h : Kd.R k67 67 W B (fun _ => True) v xs) (hb : MBlk W g t cs) (ht : t ≠ 67) (hn : Near g W W') : Kd.R k67 67 W' B (fun _ => True) v xs :=
  Kd.R_mono (Kd.R_step (Kd.R_types h hb (fun q hq => by
    have e : q = 67 := by
      have : q ∈ [67] := hq
      simpa using this
    rw [e]
    exact fun e => ht e.symm)) (fun k hk hlt => hn.block k hlt hk.2)) (fun _ _ => trivial)
theorem rp_set {W : World} {B g t : Nat} {cs : Array Value} {v : Value} {xs : List S67} (h : Kd.R k67 67 W B (fun _ => True) v xs) (hb : MBlk W g t cs) (ht : t ≠ 67) (i : Nat) (u : Value) : Kd.R k67 67 (W.setCell ⟨g, i, none⟩ u) B (fun _ => True) v xs :=
  rp_near h hb ht (near_setg (Near.refl g W) i u)
theorem mblk_grown {W W' : World} {B g t : Nat} {cs : Array Value} {v : Value} {xs : List S67} (hb : MBlk W g t cs) (hg : W.grownBy W' v.ownBlock) (hr : Kd.R k67 67 W B (fun _ => True) v xs) (ht : 67 ≠ t) : MBlk W' g t cs :=
  blk_grown hb hg (Kd.R_ne hr hb ht)
theorem rd_grown {W W' : World} {B g : Nat} {st : St} {v : Value} {xs : List S67} (hb : Rd W g st) (hg : W.grownBy W' v.ownBlock) (hr : Kd.R k67 67 W B (fun _ => True) v xs) : Rd W' g st :=
  mblk_grown hb hg hr (by decide)
theorem bx_grown {W W' : World} {B b g : Nat} {v : Value} {xs : List S67} (hb : Bx W b g) (hg : W.grownBy W' v.ownBlock) (hr : Kd.R k67 67 W B (fun _ => True) v xs) : Bx W' b g :=
  mblk_grown hb hg hr (by decide)
theorem r9 {W : World} {B b : Nat} {v : Value} {xs : List S67} {a0 a1 a2 a3 a4 a5 a6 a7 a8 : Value} (h : Kd.R k67 67 W B (fun _ => True) v xs) (hb : MBlk W b 31 #[a0, a1, a2, a3, a4, a5, a6, a7, a8]) (v0 v1 v2 v3 v4 v5 v6 v7 v8 : Value) :
    Kd.R k67 67 (((((((((W.setCell ⟨b, 0, none⟩ v0).setCell ⟨b, 1, none⟩ v1).setCell ⟨b, 2, none⟩ v2).setCell ⟨b, 3, none⟩ v3).setCell ⟨b, 4, none⟩ v4).setCell ⟨b, 5, none⟩ v5).setCell ⟨b, 6, none⟩ v6).setCell ⟨b, 7, none⟩ v7).setCell ⟨b, 8, none⟩ v8) B (fun _ => True) v xs :=
  rp_near h hb (by decide) (near_setg (near_setg (near_setg (near_setg (near_setg (near_setg (near_setg (near_setg (near_setg (Near.refl b W) 0 v0) 1 v1) 2 v2) 3 v3) 4 v4) 5 v5) 6 v6) 7 v7) 8 v8)
/-- n parts, from a state on. -/
def partsR : Nat → St → List S67 → List S67 × St
  | 0, st, acc => (acc, st)
  | n + 1, st, acc => partsR n (wR st).2 (acc ++ [⟨(wR st).1.f0, (wR st).1.f1⟩])
abbrev M30 : Int := 1073741824
/-- What command reads. -/
def cmdR (st : St) : S31 × St :=
  let r := nx 7 st
  if r.1 = 1 then
    let a := nx 1073741825 r.2
    let b := nx 1 a.2
    let c := wR b.2
    (⟨1, 0, a.1 - 1, 0, 0, c.1, b.1 == 1, []⟩, c.2)
  else if r.1 = 2 ∨ r.1 = 7 then
    let a := nx 1073741824 r.2
    (⟨r.1, a.1, 0, 0, 0, ⟨0, 0⟩, false, []⟩, a.2)
  else if r.1 = 3 then
    let a := nx 1073741824 r.2
    let c := wR a.2
    (⟨3, a.1, 0, 0, 0, c.1, false, []⟩, c.2)
  else if r.1 = 4 then
    let a := nx 1073741824 r.2
    let b := nx 1073741824 a.2
    (⟨4, a.1, 0, b.1, 0, ⟨0, 0⟩, false, []⟩, b.2)
  else if r.1 = 5 then
    let a := nx 1073741824 r.2
    (⟨5, 0, 0, a.1, 0, ⟨0, 0⟩, false, []⟩, a.2)
  else if r.1 = 6 then
    let a := nx 1073741825 r.2
    let b := nx 1073741824 a.2
    let n := nx 8 b.2
    let p := partsR n.1.toNat n.2 []
    (⟨6, 0, a.1 - 1, 0, b.1, ⟨0, 0⟩, false, p.1⟩, p.2)
  else (⟨r.1, 0, 0, 0, 0, ⟨0, 0⟩, false, []⟩, (r.2.1, true))
/-- A command's value, its parts' v. -/
def cmdVv (x : S31) (v : Value) : Value := .agg #[.int .i64 x.f0, .int .i64 x.f1, .int .i64 x.f2, .int .i64 x.f3, .int .i64 x.f4, .int .i64 x.f5.f0, .int .i64 x.f5.f1, .bool x.f6, v]
set_option maxHeartbeats 8000000 in
set_option maxRecDepth 100000 in
theorem cmd_any (g : Nat) (st : St) (w : World) (hm : Rd w g st) (hs : st.1.size ≤ 1000000000) :
    Calls Try.prog 19 #[.pointer (some ⟨g, 0, none⟩)] w fun e w' => ∃ v, e = .returned (cmdVv (cmdR st).1 v) ∧ Kd.R k67 67 w' w.heap.size (fun _ => True) v (cmdR st).1.f7 ∧ Rd w' g (cmdR st).2 ∧ Near g w w' := by
  have hlt := mblk_lt hm
  have hl1 : (w.alloc (.cells #[.pointer (some ⟨g, 0, none⟩)] 52)).heap.size = w.heap.size + 1 := by simp
  obtain ⟨W0, hW0⟩ : ∃ W0, W0 = (w.alloc (.cells #[.pointer (some ⟨g, 0, none⟩)] 52)).alloc (.cells #[.int .i64 0, .int .i64 0, .int .i64 0, .int .i64 0, .int .i64 0, .int .i64 0, .int .i64 0, .bool false, .slice none 0 0] 31) := ⟨_, rfl⟩
  have HM := Aside0.mk (show Rd W0 g st by rw [hW0]; exact mblk_alloc (mblk_alloc hm _) _)
  have HB := Aside0.mk (show Bx W0 w.heap.size g by rw [hW0]; exact mblk_alloc (mblk_new _ _ _) _)
  have HN := Aside0.mk (show MBlk W0 (w.heap.size + 1) 31 #[.int .i64 0, .int .i64 0, .int .i64 0, .int .i64 0, .int .i64 0, .int .i64 0, .int .i64 0, .bool false, .slice none 0 0] by rw [hW0, ← hl1]; exact mblk_new _ _ _)
  have HK := Aside0.mk (show Near g w W0 by rw [hW0]; exact Near.of_below (below_alloc (below_alloc (Below.refl _ _) _) _))
  have hWs : W0.heap.size = w.heap.size + 2 := by rw [hW0]; simp
  have HS := Aside0.mk hs
  have hc0 : W0.cell? ⟨w.heap.size, 0, none⟩ = some (.pointer (some ⟨g, 0, none⟩)) := (mblk_cell HB.out 0).trans rfl
  obtain ⟨kd, st1, h7⟩ : ∃ kd st1, nx 7 st = (kd, st1) := ⟨_, _, rfl⟩
  have hk7 := nx_bound 7 (by omega) st
  have hz1 := nx_size 7 st
  rw [h7] at hk7 hz1
  have hz1 : st1.1.size ≤ st.1.size := hz1
  have hk7 : 0 ≤ kd ∧ kd ≤ 7 := hk7
  have H7 := Aside0.mk h7
  have HZ1 := Aside0.mk (Nat.le_trans hz1 hs)
  clear hm hs h7 hz1 hl1
  go_enter Try.func19, Try.ntmps19
  go_upto_region 1 with fail
  rw [← hW0]
  clear hW0
  have hW0 := Aside0.mk hWs
  clear hWs
  go_upto_region 2 with (go_at_call 28; refine (rd_any g st 7 _ HM.out HS.out).mono ?_; rw [H7.out]; rintro e w1 ⟨rfl, h1, h2⟩; have HM1 := Aside0.mk h1; have HB1 := Aside0.mk (h2.blk HB.out (by omega)); have HN1 := Aside0.mk (h2.blk HN.out (by omega)); have HK1 := Aside0.mk (HK.out.trans h2); have HZ := Aside0.mk h2.size; clear h1 h2)
  have HZ1b := HZ1
  obtain ⟨b3, hb3⟩ : ∃ b3, b3 = w1.heap.size := ⟨_, rfl⟩
  have hbw : w.heap.size ≤ b3 := by have := HZ.out; have := hW0.out; omega
  have hnB : w.heap.size ≠ b3 := by have := HZ.out; have := hW0.out; omega
  have hnN : w.heap.size + 1 ≠ b3 := by have := HZ.out; have := hW0.out; omega
  have hnG : g ≠ b3 := by have := HZ.out; have := hW0.out; omega
  have hBg : w.heap.size ≠ g := by omega
  have hNg : w.heap.size + 1 ≠ g := by omega
  have hGN : g ≠ w.heap.size + 1 := by omega
  have hCg : b3 ≠ g := fun e => hnG e.symm
  obtain ⟨W2, hW2⟩ : ∃ W2, W2 = w1.alloc (.cells #[.int .i64 kd, .int .i64 0, .int .i64 0, .int .i64 0, .int .i64 0, .int .i64 0, .int .i64 0, .bool false, .slice none 0 0] 31) := ⟨_, rfl⟩
  have HMo := Aside0.mk (show Rd W2 g st1 by rw [hW2]; exact mblk_alloc HM1.out _)
  have HBo := Aside0.mk (show Bx W2 w.heap.size g by rw [hW2]; exact mblk_alloc HB1.out _)
  have HNo := Aside0.mk (show MBlk W2 (w.heap.size + 1) 31 #[.int .i64 0, .int .i64 0, .int .i64 0, .int .i64 0, .int .i64 0, .int .i64 0, .int .i64 0, .bool false, .slice none 0 0] by rw [hW2]; exact mblk_alloc HN1.out _)
  have HCo := Aside0.mk (show MBlk W2 b3 31 #[.int .i64 kd, .int .i64 0, .int .i64 0, .int .i64 0, .int .i64 0, .int .i64 0, .int .i64 0, .bool false, .slice none 0 0] by rw [hW2, hb3]; exact mblk_new _ _ _)
  have HTo := Aside0.mk (show Near g w W2 by rw [hW2]; exact HK1.out.trans (Near.of_below (below_alloc (Below.refl _ _) _)))
  rw [← hW2, ← hb3]
  clear hW2 hb3 hc0 HM HB HN HK HM1 HB1 HN1 HK1 HZ hW0 hlt W0
  have hco : W2.cell? ⟨w.heap.size, 0, none⟩ = some (.pointer (some ⟨g, 0, none⟩)) := (mblk_cell HBo.out 0).trans rfl
  have hqo_0 : W2.cell? ⟨b3, 0, none⟩ = some (.int .i64 kd) := (mblk_cell HCo.out 0).trans rfl
  go_upto_region 6 with fail
  by_cases k1 : kd = 1
  · subst k1
    obtain ⟨a, st2, e2⟩ : ∃ a st2, nx 1073741825 st1 = (a, st2) := ⟨_, _, rfl⟩
    have hbd2 := nx_bd (by omega) e2
    have HZ2 := Aside0.mk (nx_le e2 HZ1.out)
    have E2 := Aside0.mk e2
    obtain ⟨b, st3, e3⟩ : ∃ b st3, nx 1 st2 = (b, st3) := ⟨_, _, rfl⟩
    have hbd3 := nx_bd (by omega) e3
    have HZ3 := Aside0.mk (nx_le e3 HZ2.out)
    have E3 := Aside0.mk e3
    obtain ⟨x, y, st4, e4⟩ : ∃ x y st4, wR st3 = (⟨x, y⟩, st4) := ⟨_, _, _, rfl⟩
    have HZ4 := Aside0.mk (wR_le e4 HZ3.out)
    have E4 := Aside0.mk e4
    have HE := Aside0.mk (show cmdR st = (⟨1, 0, a - 1, 0, 0, ⟨x, y⟩, b == 1, []⟩, st4) by unfold cmdR; simp only [H7.out]; simp only [↓reduceIte, E2.out, E3.out, E4.out])
    clear e2
    clear e3
    clear e4
    go_wp2_with (first
        | (go_at_call 28; refine (rd_at E2.out g _ (HMo.out) HZ1.out).mono ?_; rintro e v2 ⟨rfl, h1, h2⟩; have HM2 := Aside0.mk h1; have HB2 : Aside0 (Bx v2 w.heap.size g) := Aside0.mk (h2.blk (HBo.out) hBg); have HN2 := Aside0.mk (h2.blk (HNo.out) hNg); have HC2 : Aside0 (MBlk v2 b3 31 #[.int .i64 1, .int .i64 0, .int .i64 0, .int .i64 0, .int .i64 0, .int .i64 0, .int .i64 0, .bool false, .slice none 0 0]) := Aside0.mk (h2.blk (HCo.out) hCg); have HT2 := Aside0.mk ((HTo.out).trans h2); clear h1 h2; have hc2 : v2.cell? ⟨w.heap.size, 0, none⟩ = some (.pointer (some ⟨g, 0, none⟩)) := (mblk_cell HB2.out 0).trans rfl; have hq2_0 : v2.cell? ⟨b3, 0, none⟩ = some (.int .i64 1) := (mblk_cell HC2.out 0).trans rfl; have hq2_1 : v2.cell? ⟨b3, 1, none⟩ = some (.int .i64 0) := (mblk_cell HC2.out 1).trans rfl; have hq2_2 : v2.cell? ⟨b3, 2, none⟩ = some (.int .i64 0) := (mblk_cell HC2.out 2).trans rfl; have hq2_3 : v2.cell? ⟨b3, 3, none⟩ = some (.int .i64 0) := (mblk_cell HC2.out 3).trans rfl; have hq2_4 : v2.cell? ⟨b3, 4, none⟩ = some (.int .i64 0) := (mblk_cell HC2.out 4).trans rfl; have hq2_5 : v2.cell? ⟨b3, 5, none⟩ = some (.int .i64 0) := (mblk_cell HC2.out 5).trans rfl; have hq2_6 : v2.cell? ⟨b3, 6, none⟩ = some (.int .i64 0) := (mblk_cell HC2.out 6).trans rfl; have hq2_7 : v2.cell? ⟨b3, 7, none⟩ = some (.bool false) := (mblk_cell HC2.out 7).trans rfl; have hq2_8 : v2.cell? ⟨b3, 8, none⟩ = some (.slice none 0 0) := (mblk_cell HC2.out 8).trans rfl; have hf2_2 : v2.frozen? ⟨b3, 2, none⟩ = false := mblk_frozen HC2.out 2; clear HMo HBo HNo HCo HTo hco; clear hqo_0)
        | (go_at_call 28; refine (rd_at E3.out g _ (mblk_far (HM2.out) hnG _) HZ2.out).mono ?_; rintro e v3 ⟨rfl, h1, h2⟩; have HM3 := Aside0.mk h1; have HB3 : Aside0 (Bx v3 w.heap.size g) := Aside0.mk (h2.blk (mblk_far (HB2.out) hnB _) hBg); have HN3 := Aside0.mk (h2.blk (mblk_far (HN2.out) hnN _) hNg); have HC3 : Aside0 (MBlk v3 b3 31 #[.int .i64 1, .int .i64 0, .int .i64 (a - 1), .int .i64 0, .int .i64 0, .int .i64 0, .int .i64 0, .bool false, .slice none 0 0]) := Aside0.mk (h2.blk (mblk_set (HC2.out) 2 _) hCg); have HT3 := Aside0.mk ((near_set (HT2.out) hbw 2 _).trans h2); clear h1 h2; have hc3 : v3.cell? ⟨w.heap.size, 0, none⟩ = some (.pointer (some ⟨g, 0, none⟩)) := (mblk_cell HB3.out 0).trans rfl; have hq3_0 : v3.cell? ⟨b3, 0, none⟩ = some (.int .i64 1) := (mblk_cell HC3.out 0).trans rfl; have hq3_1 : v3.cell? ⟨b3, 1, none⟩ = some (.int .i64 0) := (mblk_cell HC3.out 1).trans rfl; have hq3_2 : v3.cell? ⟨b3, 2, none⟩ = some (.int .i64 (a - 1)) := (mblk_cell HC3.out 2).trans rfl; have hq3_3 : v3.cell? ⟨b3, 3, none⟩ = some (.int .i64 0) := (mblk_cell HC3.out 3).trans rfl; have hq3_4 : v3.cell? ⟨b3, 4, none⟩ = some (.int .i64 0) := (mblk_cell HC3.out 4).trans rfl; have hq3_5 : v3.cell? ⟨b3, 5, none⟩ = some (.int .i64 0) := (mblk_cell HC3.out 5).trans rfl; have hq3_6 : v3.cell? ⟨b3, 6, none⟩ = some (.int .i64 0) := (mblk_cell HC3.out 6).trans rfl; have hq3_7 : v3.cell? ⟨b3, 7, none⟩ = some (.bool false) := (mblk_cell HC3.out 7).trans rfl; have hq3_8 : v3.cell? ⟨b3, 8, none⟩ = some (.slice none 0 0) := (mblk_cell HC3.out 8).trans rfl; have hf3_7 : v3.frozen? ⟨b3, 7, none⟩ = false := mblk_frozen HC3.out 7; clear HM2 HB2 HN2 HC2 HT2 hc2; clear hq2_0 hq2_1 hq2_2 hq2_3 hq2_4 hq2_5 hq2_6 hq2_7 hq2_8 hf2_2)
        | (go_at_call 30; refine (wt_at E4.out g _ (mblk_far (HB3.out) hnB _) (mblk_far (HM3.out) hnG _) HZ3.out).mono ?_; rintro e v4 ⟨rfl, h1, h2⟩; have HM4 := Aside0.mk h1; have HB4 : Aside0 (Bx v4 w.heap.size g) := Aside0.mk (h2.blk (mblk_far (HB3.out) hnB _) hBg); have HN4 := Aside0.mk (h2.blk (mblk_far (HN3.out) hnN _) hNg); have HC4 : Aside0 (MBlk v4 b3 31 #[.int .i64 1, .int .i64 0, .int .i64 (a - 1), .int .i64 0, .int .i64 0, .int .i64 0, .int .i64 0, .bool (b == 1), .slice none 0 0]) := Aside0.mk (h2.blk (mblk_set (HC3.out) 7 _) hCg); have HT4 := Aside0.mk ((near_set (HT3.out) hbw 7 _).trans h2); clear h1 h2; have hc4 : v4.cell? ⟨w.heap.size, 0, none⟩ = some (.pointer (some ⟨g, 0, none⟩)) := (mblk_cell HB4.out 0).trans rfl; have hq4_0 : v4.cell? ⟨b3, 0, none⟩ = some (.int .i64 1) := (mblk_cell HC4.out 0).trans rfl; have hq4_1 : v4.cell? ⟨b3, 1, none⟩ = some (.int .i64 0) := (mblk_cell HC4.out 1).trans rfl; have hq4_2 : v4.cell? ⟨b3, 2, none⟩ = some (.int .i64 (a - 1)) := (mblk_cell HC4.out 2).trans rfl; have hq4_3 : v4.cell? ⟨b3, 3, none⟩ = some (.int .i64 0) := (mblk_cell HC4.out 3).trans rfl; have hq4_4 : v4.cell? ⟨b3, 4, none⟩ = some (.int .i64 0) := (mblk_cell HC4.out 4).trans rfl; have hq4_5 : v4.cell? ⟨b3, 5, none⟩ = some (.int .i64 0) := (mblk_cell HC4.out 5).trans rfl; have hq4_6 : v4.cell? ⟨b3, 6, none⟩ = some (.int .i64 0) := (mblk_cell HC4.out 6).trans rfl; have hq4_7 : v4.cell? ⟨b3, 7, none⟩ = some (.bool (b == 1)) := (mblk_cell HC4.out 7).trans rfl; have hq4_8 : v4.cell? ⟨b3, 8, none⟩ = some (.slice none 0 0) := (mblk_cell HC4.out 8).trans rfl; have hf4_5 : v4.frozen? ⟨b3, 5, none⟩ = false := mblk_frozen HC4.out 5; have hf4_6 : v4.frozen? ⟨b3, 6, none⟩ = false := mblk_frozen HC4.out 6; have hr4_0 : v4.cell? ⟨w.heap.size + 1, 0, none⟩ = some (.int .i64 0) := (mblk_cell HN4.out 0).trans rfl; have hr4_1 : v4.cell? ⟨w.heap.size + 1, 1, none⟩ = some (.int .i64 0) := (mblk_cell HN4.out 1).trans rfl; have hr4_2 : v4.cell? ⟨w.heap.size + 1, 2, none⟩ = some (.int .i64 0) := (mblk_cell HN4.out 2).trans rfl; have hr4_3 : v4.cell? ⟨w.heap.size + 1, 3, none⟩ = some (.int .i64 0) := (mblk_cell HN4.out 3).trans rfl; have hr4_4 : v4.cell? ⟨w.heap.size + 1, 4, none⟩ = some (.int .i64 0) := (mblk_cell HN4.out 4).trans rfl; have hr4_5 : v4.cell? ⟨w.heap.size + 1, 5, none⟩ = some (.int .i64 0) := (mblk_cell HN4.out 5).trans rfl; have hr4_6 : v4.cell? ⟨w.heap.size + 1, 6, none⟩ = some (.int .i64 0) := (mblk_cell HN4.out 6).trans rfl; have hr4_7 : v4.cell? ⟨w.heap.size + 1, 7, none⟩ = some (.bool false) := (mblk_cell HN4.out 7).trans rfl; have hr4_8 : v4.cell? ⟨w.heap.size + 1, 8, none⟩ = some (.slice none 0 0) := (mblk_cell HN4.out 8).trans rfl; have hs4_0 : v4.frozen? ⟨w.heap.size + 1, 0, none⟩ = false := mblk_frozen HN4.out 0; have hs4_1 : v4.frozen? ⟨w.heap.size + 1, 1, none⟩ = false := mblk_frozen HN4.out 1; have hs4_2 : v4.frozen? ⟨w.heap.size + 1, 2, none⟩ = false := mblk_frozen HN4.out 2; have hs4_3 : v4.frozen? ⟨w.heap.size + 1, 3, none⟩ = false := mblk_frozen HN4.out 3; have hs4_4 : v4.frozen? ⟨w.heap.size + 1, 4, none⟩ = false := mblk_frozen HN4.out 4; have hs4_5 : v4.frozen? ⟨w.heap.size + 1, 5, none⟩ = false := mblk_frozen HN4.out 5; have hs4_6 : v4.frozen? ⟨w.heap.size + 1, 6, none⟩ = false := mblk_frozen HN4.out 6; have hs4_7 : v4.frozen? ⟨w.heap.size + 1, 7, none⟩ = false := mblk_frozen HN4.out 7; have hs4_8 : v4.frozen? ⟨w.heap.size + 1, 8, none⟩ = false := mblk_frozen HN4.out 8; clear HM3 HB3 HN3 HC3 HT3 hc3; clear hq3_0 hq3_1 hq3_2 hq3_3 hq3_4 hq3_5 hq3_6 hq3_7 hq3_8 hf3_7))
    refine bodyPost_ret (results_cell_row rfl _ _ (w.heap.size + 1) 31 _ (0, 0) _ rfl (put9 (mblk_far (mblk_far (HN4.out) hnN _) hnN _) _ _ _ _ _ _ _ _ _) Try.underlying31 rfl (by kernel_rfl)) rfl ⟨.slice none 0 0, ?_, ?_, ?_, set9 (near_set (near_set (HT4.out) hbw 5 _) hbw 6 _) (Nat.le_succ _) _ _ _ _ _ _ _ _ _⟩
    · rw [HE.out]; rfl
    · rw [HE.out]; exact Kd.R_nil _ _ _ _ _
    · rw [HE.out]; exact far9 (mblk_far (mblk_far (HM4.out) hnG _) hnG _) hGN _ _ _ _ _ _ _ _ _
  by_cases k2 : kd = 2
  · subst k2
    obtain ⟨a, st2, e2⟩ : ∃ a st2, nx 1073741824 st1 = (a, st2) := ⟨_, _, rfl⟩
    have hbd2 := nx_bd (by omega) e2
    have HZ2 := Aside0.mk (nx_le e2 HZ1.out)
    have E2 := Aside0.mk e2
    have HE := Aside0.mk (show cmdR st = (⟨2, a, 0, 0, 0, ⟨0, 0⟩, false, []⟩, st2) by unfold cmdR; simp only [H7.out]; simp (config := {decide := true}) only [↓reduceIte, true_or, E2.out])
    clear e2
    go_wp2_with (first
        | (go_at_call 29; refine (num_at E2.out g _ (HBo.out) (HMo.out) HZ1.out).mono ?_; rintro e v2 ⟨rfl, h1, h2⟩; have HM2 := Aside0.mk h1; have HB2 : Aside0 (Bx v2 w.heap.size g) := Aside0.mk (h2.blk (HBo.out) hBg); have HN2 := Aside0.mk (h2.blk (HNo.out) hNg); have HC2 : Aside0 (MBlk v2 b3 31 #[.int .i64 2, .int .i64 0, .int .i64 0, .int .i64 0, .int .i64 0, .int .i64 0, .int .i64 0, .bool false, .slice none 0 0]) := Aside0.mk (h2.blk (HCo.out) hCg); have HT2 := Aside0.mk ((HTo.out).trans h2); clear h1 h2; have hc2 : v2.cell? ⟨w.heap.size, 0, none⟩ = some (.pointer (some ⟨g, 0, none⟩)) := (mblk_cell HB2.out 0).trans rfl; have hq2_0 : v2.cell? ⟨b3, 0, none⟩ = some (.int .i64 2) := (mblk_cell HC2.out 0).trans rfl; have hq2_1 : v2.cell? ⟨b3, 1, none⟩ = some (.int .i64 0) := (mblk_cell HC2.out 1).trans rfl; have hq2_2 : v2.cell? ⟨b3, 2, none⟩ = some (.int .i64 0) := (mblk_cell HC2.out 2).trans rfl; have hq2_3 : v2.cell? ⟨b3, 3, none⟩ = some (.int .i64 0) := (mblk_cell HC2.out 3).trans rfl; have hq2_4 : v2.cell? ⟨b3, 4, none⟩ = some (.int .i64 0) := (mblk_cell HC2.out 4).trans rfl; have hq2_5 : v2.cell? ⟨b3, 5, none⟩ = some (.int .i64 0) := (mblk_cell HC2.out 5).trans rfl; have hq2_6 : v2.cell? ⟨b3, 6, none⟩ = some (.int .i64 0) := (mblk_cell HC2.out 6).trans rfl; have hq2_7 : v2.cell? ⟨b3, 7, none⟩ = some (.bool false) := (mblk_cell HC2.out 7).trans rfl; have hq2_8 : v2.cell? ⟨b3, 8, none⟩ = some (.slice none 0 0) := (mblk_cell HC2.out 8).trans rfl; have hf2_1 : v2.frozen? ⟨b3, 1, none⟩ = false := mblk_frozen HC2.out 1; have hr2_0 : v2.cell? ⟨w.heap.size + 1, 0, none⟩ = some (.int .i64 0) := (mblk_cell HN2.out 0).trans rfl; have hr2_1 : v2.cell? ⟨w.heap.size + 1, 1, none⟩ = some (.int .i64 0) := (mblk_cell HN2.out 1).trans rfl; have hr2_2 : v2.cell? ⟨w.heap.size + 1, 2, none⟩ = some (.int .i64 0) := (mblk_cell HN2.out 2).trans rfl; have hr2_3 : v2.cell? ⟨w.heap.size + 1, 3, none⟩ = some (.int .i64 0) := (mblk_cell HN2.out 3).trans rfl; have hr2_4 : v2.cell? ⟨w.heap.size + 1, 4, none⟩ = some (.int .i64 0) := (mblk_cell HN2.out 4).trans rfl; have hr2_5 : v2.cell? ⟨w.heap.size + 1, 5, none⟩ = some (.int .i64 0) := (mblk_cell HN2.out 5).trans rfl; have hr2_6 : v2.cell? ⟨w.heap.size + 1, 6, none⟩ = some (.int .i64 0) := (mblk_cell HN2.out 6).trans rfl; have hr2_7 : v2.cell? ⟨w.heap.size + 1, 7, none⟩ = some (.bool false) := (mblk_cell HN2.out 7).trans rfl; have hr2_8 : v2.cell? ⟨w.heap.size + 1, 8, none⟩ = some (.slice none 0 0) := (mblk_cell HN2.out 8).trans rfl; have hs2_0 : v2.frozen? ⟨w.heap.size + 1, 0, none⟩ = false := mblk_frozen HN2.out 0; have hs2_1 : v2.frozen? ⟨w.heap.size + 1, 1, none⟩ = false := mblk_frozen HN2.out 1; have hs2_2 : v2.frozen? ⟨w.heap.size + 1, 2, none⟩ = false := mblk_frozen HN2.out 2; have hs2_3 : v2.frozen? ⟨w.heap.size + 1, 3, none⟩ = false := mblk_frozen HN2.out 3; have hs2_4 : v2.frozen? ⟨w.heap.size + 1, 4, none⟩ = false := mblk_frozen HN2.out 4; have hs2_5 : v2.frozen? ⟨w.heap.size + 1, 5, none⟩ = false := mblk_frozen HN2.out 5; have hs2_6 : v2.frozen? ⟨w.heap.size + 1, 6, none⟩ = false := mblk_frozen HN2.out 6; have hs2_7 : v2.frozen? ⟨w.heap.size + 1, 7, none⟩ = false := mblk_frozen HN2.out 7; have hs2_8 : v2.frozen? ⟨w.heap.size + 1, 8, none⟩ = false := mblk_frozen HN2.out 8; clear HMo HBo HNo HCo HTo hco; clear hqo_0))
    refine bodyPost_ret (results_cell_row rfl _ _ (w.heap.size + 1) 31 _ (0, 0) _ rfl (put9 (mblk_far (HN2.out) hnN _) _ _ _ _ _ _ _ _ _) Try.underlying31 rfl (by kernel_rfl)) rfl ⟨.slice none 0 0, ?_, ?_, ?_, set9 (near_set (HT2.out) hbw 1 _) (Nat.le_succ _) _ _ _ _ _ _ _ _ _⟩
    · rw [HE.out]; rfl
    · rw [HE.out]; exact Kd.R_nil _ _ _ _ _
    · rw [HE.out]; exact far9 (mblk_far (HM2.out) hnG _) hGN _ _ _ _ _ _ _ _ _
  by_cases k7 : kd = 7
  · subst k7
    obtain ⟨a, st2, e2⟩ : ∃ a st2, nx 1073741824 st1 = (a, st2) := ⟨_, _, rfl⟩
    have hbd2 := nx_bd (by omega) e2
    have HZ2 := Aside0.mk (nx_le e2 HZ1.out)
    have E2 := Aside0.mk e2
    have HE := Aside0.mk (show cmdR st = (⟨7, a, 0, 0, 0, ⟨0, 0⟩, false, []⟩, st2) by unfold cmdR; simp only [H7.out]; simp (config := {decide := true}) only [↓reduceIte, or_true, E2.out])
    clear e2
    go_wp2_with (first
        | (go_at_call 29; refine (num_at E2.out g _ (HBo.out) (HMo.out) HZ1.out).mono ?_; rintro e v2 ⟨rfl, h1, h2⟩; have HM2 := Aside0.mk h1; have HB2 : Aside0 (Bx v2 w.heap.size g) := Aside0.mk (h2.blk (HBo.out) hBg); have HN2 := Aside0.mk (h2.blk (HNo.out) hNg); have HC2 : Aside0 (MBlk v2 b3 31 #[.int .i64 7, .int .i64 0, .int .i64 0, .int .i64 0, .int .i64 0, .int .i64 0, .int .i64 0, .bool false, .slice none 0 0]) := Aside0.mk (h2.blk (HCo.out) hCg); have HT2 := Aside0.mk ((HTo.out).trans h2); clear h1 h2; have hc2 : v2.cell? ⟨w.heap.size, 0, none⟩ = some (.pointer (some ⟨g, 0, none⟩)) := (mblk_cell HB2.out 0).trans rfl; have hq2_0 : v2.cell? ⟨b3, 0, none⟩ = some (.int .i64 7) := (mblk_cell HC2.out 0).trans rfl; have hq2_1 : v2.cell? ⟨b3, 1, none⟩ = some (.int .i64 0) := (mblk_cell HC2.out 1).trans rfl; have hq2_2 : v2.cell? ⟨b3, 2, none⟩ = some (.int .i64 0) := (mblk_cell HC2.out 2).trans rfl; have hq2_3 : v2.cell? ⟨b3, 3, none⟩ = some (.int .i64 0) := (mblk_cell HC2.out 3).trans rfl; have hq2_4 : v2.cell? ⟨b3, 4, none⟩ = some (.int .i64 0) := (mblk_cell HC2.out 4).trans rfl; have hq2_5 : v2.cell? ⟨b3, 5, none⟩ = some (.int .i64 0) := (mblk_cell HC2.out 5).trans rfl; have hq2_6 : v2.cell? ⟨b3, 6, none⟩ = some (.int .i64 0) := (mblk_cell HC2.out 6).trans rfl; have hq2_7 : v2.cell? ⟨b3, 7, none⟩ = some (.bool false) := (mblk_cell HC2.out 7).trans rfl; have hq2_8 : v2.cell? ⟨b3, 8, none⟩ = some (.slice none 0 0) := (mblk_cell HC2.out 8).trans rfl; have hf2_1 : v2.frozen? ⟨b3, 1, none⟩ = false := mblk_frozen HC2.out 1; have hr2_0 : v2.cell? ⟨w.heap.size + 1, 0, none⟩ = some (.int .i64 0) := (mblk_cell HN2.out 0).trans rfl; have hr2_1 : v2.cell? ⟨w.heap.size + 1, 1, none⟩ = some (.int .i64 0) := (mblk_cell HN2.out 1).trans rfl; have hr2_2 : v2.cell? ⟨w.heap.size + 1, 2, none⟩ = some (.int .i64 0) := (mblk_cell HN2.out 2).trans rfl; have hr2_3 : v2.cell? ⟨w.heap.size + 1, 3, none⟩ = some (.int .i64 0) := (mblk_cell HN2.out 3).trans rfl; have hr2_4 : v2.cell? ⟨w.heap.size + 1, 4, none⟩ = some (.int .i64 0) := (mblk_cell HN2.out 4).trans rfl; have hr2_5 : v2.cell? ⟨w.heap.size + 1, 5, none⟩ = some (.int .i64 0) := (mblk_cell HN2.out 5).trans rfl; have hr2_6 : v2.cell? ⟨w.heap.size + 1, 6, none⟩ = some (.int .i64 0) := (mblk_cell HN2.out 6).trans rfl; have hr2_7 : v2.cell? ⟨w.heap.size + 1, 7, none⟩ = some (.bool false) := (mblk_cell HN2.out 7).trans rfl; have hr2_8 : v2.cell? ⟨w.heap.size + 1, 8, none⟩ = some (.slice none 0 0) := (mblk_cell HN2.out 8).trans rfl; have hs2_0 : v2.frozen? ⟨w.heap.size + 1, 0, none⟩ = false := mblk_frozen HN2.out 0; have hs2_1 : v2.frozen? ⟨w.heap.size + 1, 1, none⟩ = false := mblk_frozen HN2.out 1; have hs2_2 : v2.frozen? ⟨w.heap.size + 1, 2, none⟩ = false := mblk_frozen HN2.out 2; have hs2_3 : v2.frozen? ⟨w.heap.size + 1, 3, none⟩ = false := mblk_frozen HN2.out 3; have hs2_4 : v2.frozen? ⟨w.heap.size + 1, 4, none⟩ = false := mblk_frozen HN2.out 4; have hs2_5 : v2.frozen? ⟨w.heap.size + 1, 5, none⟩ = false := mblk_frozen HN2.out 5; have hs2_6 : v2.frozen? ⟨w.heap.size + 1, 6, none⟩ = false := mblk_frozen HN2.out 6; have hs2_7 : v2.frozen? ⟨w.heap.size + 1, 7, none⟩ = false := mblk_frozen HN2.out 7; have hs2_8 : v2.frozen? ⟨w.heap.size + 1, 8, none⟩ = false := mblk_frozen HN2.out 8; clear HMo HBo HNo HCo HTo hco; clear hqo_0))
    refine bodyPost_ret (results_cell_row rfl _ _ (w.heap.size + 1) 31 _ (0, 0) _ rfl (put9 (mblk_far (HN2.out) hnN _) _ _ _ _ _ _ _ _ _) Try.underlying31 rfl (by kernel_rfl)) rfl ⟨.slice none 0 0, ?_, ?_, ?_, set9 (near_set (HT2.out) hbw 1 _) (Nat.le_succ _) _ _ _ _ _ _ _ _ _⟩
    · rw [HE.out]; rfl
    · rw [HE.out]; exact Kd.R_nil _ _ _ _ _
    · rw [HE.out]; exact far9 (mblk_far (HM2.out) hnG _) hGN _ _ _ _ _ _ _ _ _
  by_cases k3 : kd = 3
  · subst k3
    obtain ⟨a, st2, e2⟩ : ∃ a st2, nx 1073741824 st1 = (a, st2) := ⟨_, _, rfl⟩
    have hbd2 := nx_bd (by omega) e2
    have HZ2 := Aside0.mk (nx_le e2 HZ1.out)
    have E2 := Aside0.mk e2
    obtain ⟨x, y, st3, e3⟩ : ∃ x y st3, wR st2 = (⟨x, y⟩, st3) := ⟨_, _, _, rfl⟩
    have HZ3 := Aside0.mk (wR_le e3 HZ2.out)
    have E3 := Aside0.mk e3
    have HE := Aside0.mk (show cmdR st = (⟨3, a, 0, 0, 0, ⟨x, y⟩, false, []⟩, st3) by unfold cmdR; simp only [H7.out]; simp (config := {decide := true}) only [↓reduceIte, E2.out, E3.out])
    clear e2
    clear e3
    go_wp2_with (first
        | (go_at_call 29; refine (num_at E2.out g _ (HBo.out) (HMo.out) HZ1.out).mono ?_; rintro e v2 ⟨rfl, h1, h2⟩; have HM2 := Aside0.mk h1; have HB2 : Aside0 (Bx v2 w.heap.size g) := Aside0.mk (h2.blk (HBo.out) hBg); have HN2 := Aside0.mk (h2.blk (HNo.out) hNg); have HC2 : Aside0 (MBlk v2 b3 31 #[.int .i64 3, .int .i64 0, .int .i64 0, .int .i64 0, .int .i64 0, .int .i64 0, .int .i64 0, .bool false, .slice none 0 0]) := Aside0.mk (h2.blk (HCo.out) hCg); have HT2 := Aside0.mk ((HTo.out).trans h2); clear h1 h2; have hc2 : v2.cell? ⟨w.heap.size, 0, none⟩ = some (.pointer (some ⟨g, 0, none⟩)) := (mblk_cell HB2.out 0).trans rfl; have hq2_0 : v2.cell? ⟨b3, 0, none⟩ = some (.int .i64 3) := (mblk_cell HC2.out 0).trans rfl; have hq2_1 : v2.cell? ⟨b3, 1, none⟩ = some (.int .i64 0) := (mblk_cell HC2.out 1).trans rfl; have hq2_2 : v2.cell? ⟨b3, 2, none⟩ = some (.int .i64 0) := (mblk_cell HC2.out 2).trans rfl; have hq2_3 : v2.cell? ⟨b3, 3, none⟩ = some (.int .i64 0) := (mblk_cell HC2.out 3).trans rfl; have hq2_4 : v2.cell? ⟨b3, 4, none⟩ = some (.int .i64 0) := (mblk_cell HC2.out 4).trans rfl; have hq2_5 : v2.cell? ⟨b3, 5, none⟩ = some (.int .i64 0) := (mblk_cell HC2.out 5).trans rfl; have hq2_6 : v2.cell? ⟨b3, 6, none⟩ = some (.int .i64 0) := (mblk_cell HC2.out 6).trans rfl; have hq2_7 : v2.cell? ⟨b3, 7, none⟩ = some (.bool false) := (mblk_cell HC2.out 7).trans rfl; have hq2_8 : v2.cell? ⟨b3, 8, none⟩ = some (.slice none 0 0) := (mblk_cell HC2.out 8).trans rfl; have hf2_1 : v2.frozen? ⟨b3, 1, none⟩ = false := mblk_frozen HC2.out 1; clear HMo HBo HNo HCo HTo hco; clear hqo_0)
        | (go_at_call 30; refine (wt_at E3.out g _ (mblk_far (HB2.out) hnB _) (mblk_far (HM2.out) hnG _) HZ2.out).mono ?_; rintro e v3 ⟨rfl, h1, h2⟩; have HM3 := Aside0.mk h1; have HB3 : Aside0 (Bx v3 w.heap.size g) := Aside0.mk (h2.blk (mblk_far (HB2.out) hnB _) hBg); have HN3 := Aside0.mk (h2.blk (mblk_far (HN2.out) hnN _) hNg); have HC3 : Aside0 (MBlk v3 b3 31 #[.int .i64 3, .int .i64 a, .int .i64 0, .int .i64 0, .int .i64 0, .int .i64 0, .int .i64 0, .bool false, .slice none 0 0]) := Aside0.mk (h2.blk (mblk_set (HC2.out) 1 _) hCg); have HT3 := Aside0.mk ((near_set (HT2.out) hbw 1 _).trans h2); clear h1 h2; have hc3 : v3.cell? ⟨w.heap.size, 0, none⟩ = some (.pointer (some ⟨g, 0, none⟩)) := (mblk_cell HB3.out 0).trans rfl; have hq3_0 : v3.cell? ⟨b3, 0, none⟩ = some (.int .i64 3) := (mblk_cell HC3.out 0).trans rfl; have hq3_1 : v3.cell? ⟨b3, 1, none⟩ = some (.int .i64 a) := (mblk_cell HC3.out 1).trans rfl; have hq3_2 : v3.cell? ⟨b3, 2, none⟩ = some (.int .i64 0) := (mblk_cell HC3.out 2).trans rfl; have hq3_3 : v3.cell? ⟨b3, 3, none⟩ = some (.int .i64 0) := (mblk_cell HC3.out 3).trans rfl; have hq3_4 : v3.cell? ⟨b3, 4, none⟩ = some (.int .i64 0) := (mblk_cell HC3.out 4).trans rfl; have hq3_5 : v3.cell? ⟨b3, 5, none⟩ = some (.int .i64 0) := (mblk_cell HC3.out 5).trans rfl; have hq3_6 : v3.cell? ⟨b3, 6, none⟩ = some (.int .i64 0) := (mblk_cell HC3.out 6).trans rfl; have hq3_7 : v3.cell? ⟨b3, 7, none⟩ = some (.bool false) := (mblk_cell HC3.out 7).trans rfl; have hq3_8 : v3.cell? ⟨b3, 8, none⟩ = some (.slice none 0 0) := (mblk_cell HC3.out 8).trans rfl; have hf3_5 : v3.frozen? ⟨b3, 5, none⟩ = false := mblk_frozen HC3.out 5; have hf3_6 : v3.frozen? ⟨b3, 6, none⟩ = false := mblk_frozen HC3.out 6; have hr3_0 : v3.cell? ⟨w.heap.size + 1, 0, none⟩ = some (.int .i64 0) := (mblk_cell HN3.out 0).trans rfl; have hr3_1 : v3.cell? ⟨w.heap.size + 1, 1, none⟩ = some (.int .i64 0) := (mblk_cell HN3.out 1).trans rfl; have hr3_2 : v3.cell? ⟨w.heap.size + 1, 2, none⟩ = some (.int .i64 0) := (mblk_cell HN3.out 2).trans rfl; have hr3_3 : v3.cell? ⟨w.heap.size + 1, 3, none⟩ = some (.int .i64 0) := (mblk_cell HN3.out 3).trans rfl; have hr3_4 : v3.cell? ⟨w.heap.size + 1, 4, none⟩ = some (.int .i64 0) := (mblk_cell HN3.out 4).trans rfl; have hr3_5 : v3.cell? ⟨w.heap.size + 1, 5, none⟩ = some (.int .i64 0) := (mblk_cell HN3.out 5).trans rfl; have hr3_6 : v3.cell? ⟨w.heap.size + 1, 6, none⟩ = some (.int .i64 0) := (mblk_cell HN3.out 6).trans rfl; have hr3_7 : v3.cell? ⟨w.heap.size + 1, 7, none⟩ = some (.bool false) := (mblk_cell HN3.out 7).trans rfl; have hr3_8 : v3.cell? ⟨w.heap.size + 1, 8, none⟩ = some (.slice none 0 0) := (mblk_cell HN3.out 8).trans rfl; have hs3_0 : v3.frozen? ⟨w.heap.size + 1, 0, none⟩ = false := mblk_frozen HN3.out 0; have hs3_1 : v3.frozen? ⟨w.heap.size + 1, 1, none⟩ = false := mblk_frozen HN3.out 1; have hs3_2 : v3.frozen? ⟨w.heap.size + 1, 2, none⟩ = false := mblk_frozen HN3.out 2; have hs3_3 : v3.frozen? ⟨w.heap.size + 1, 3, none⟩ = false := mblk_frozen HN3.out 3; have hs3_4 : v3.frozen? ⟨w.heap.size + 1, 4, none⟩ = false := mblk_frozen HN3.out 4; have hs3_5 : v3.frozen? ⟨w.heap.size + 1, 5, none⟩ = false := mblk_frozen HN3.out 5; have hs3_6 : v3.frozen? ⟨w.heap.size + 1, 6, none⟩ = false := mblk_frozen HN3.out 6; have hs3_7 : v3.frozen? ⟨w.heap.size + 1, 7, none⟩ = false := mblk_frozen HN3.out 7; have hs3_8 : v3.frozen? ⟨w.heap.size + 1, 8, none⟩ = false := mblk_frozen HN3.out 8; clear HM2 HB2 HN2 HC2 HT2 hc2; clear hq2_0 hq2_1 hq2_2 hq2_3 hq2_4 hq2_5 hq2_6 hq2_7 hq2_8 hf2_1))
    refine bodyPost_ret (results_cell_row rfl _ _ (w.heap.size + 1) 31 _ (0, 0) _ rfl (put9 (mblk_far (mblk_far (HN3.out) hnN _) hnN _) _ _ _ _ _ _ _ _ _) Try.underlying31 rfl (by kernel_rfl)) rfl ⟨.slice none 0 0, ?_, ?_, ?_, set9 (near_set (near_set (HT3.out) hbw 5 _) hbw 6 _) (Nat.le_succ _) _ _ _ _ _ _ _ _ _⟩
    · rw [HE.out]; rfl
    · rw [HE.out]; exact Kd.R_nil _ _ _ _ _
    · rw [HE.out]; exact far9 (mblk_far (mblk_far (HM3.out) hnG _) hnG _) hGN _ _ _ _ _ _ _ _ _
  by_cases k4 : kd = 4
  · subst k4
    obtain ⟨a, st2, e2⟩ : ∃ a st2, nx 1073741824 st1 = (a, st2) := ⟨_, _, rfl⟩
    have hbd2 := nx_bd (by omega) e2
    have HZ2 := Aside0.mk (nx_le e2 HZ1.out)
    have E2 := Aside0.mk e2
    obtain ⟨b, st3, e3⟩ : ∃ b st3, nx 1073741824 st2 = (b, st3) := ⟨_, _, rfl⟩
    have hbd3 := nx_bd (by omega) e3
    have HZ3 := Aside0.mk (nx_le e3 HZ2.out)
    have E3 := Aside0.mk e3
    have HE := Aside0.mk (show cmdR st = (⟨4, a, 0, b, 0, ⟨0, 0⟩, false, []⟩, st3) by unfold cmdR; simp only [H7.out]; simp (config := {decide := true}) only [↓reduceIte, E2.out, E3.out])
    clear e2
    clear e3
    go_wp2_with (first
        | (go_at_call 29; refine (num_at E2.out g _ (HBo.out) (HMo.out) HZ1.out).mono ?_; rintro e v2 ⟨rfl, h1, h2⟩; have HM2 := Aside0.mk h1; have HB2 : Aside0 (Bx v2 w.heap.size g) := Aside0.mk (h2.blk (HBo.out) hBg); have HN2 := Aside0.mk (h2.blk (HNo.out) hNg); have HC2 : Aside0 (MBlk v2 b3 31 #[.int .i64 4, .int .i64 0, .int .i64 0, .int .i64 0, .int .i64 0, .int .i64 0, .int .i64 0, .bool false, .slice none 0 0]) := Aside0.mk (h2.blk (HCo.out) hCg); have HT2 := Aside0.mk ((HTo.out).trans h2); clear h1 h2; have hc2 : v2.cell? ⟨w.heap.size, 0, none⟩ = some (.pointer (some ⟨g, 0, none⟩)) := (mblk_cell HB2.out 0).trans rfl; have hq2_0 : v2.cell? ⟨b3, 0, none⟩ = some (.int .i64 4) := (mblk_cell HC2.out 0).trans rfl; have hq2_1 : v2.cell? ⟨b3, 1, none⟩ = some (.int .i64 0) := (mblk_cell HC2.out 1).trans rfl; have hq2_2 : v2.cell? ⟨b3, 2, none⟩ = some (.int .i64 0) := (mblk_cell HC2.out 2).trans rfl; have hq2_3 : v2.cell? ⟨b3, 3, none⟩ = some (.int .i64 0) := (mblk_cell HC2.out 3).trans rfl; have hq2_4 : v2.cell? ⟨b3, 4, none⟩ = some (.int .i64 0) := (mblk_cell HC2.out 4).trans rfl; have hq2_5 : v2.cell? ⟨b3, 5, none⟩ = some (.int .i64 0) := (mblk_cell HC2.out 5).trans rfl; have hq2_6 : v2.cell? ⟨b3, 6, none⟩ = some (.int .i64 0) := (mblk_cell HC2.out 6).trans rfl; have hq2_7 : v2.cell? ⟨b3, 7, none⟩ = some (.bool false) := (mblk_cell HC2.out 7).trans rfl; have hq2_8 : v2.cell? ⟨b3, 8, none⟩ = some (.slice none 0 0) := (mblk_cell HC2.out 8).trans rfl; have hf2_1 : v2.frozen? ⟨b3, 1, none⟩ = false := mblk_frozen HC2.out 1; clear HMo HBo HNo HCo HTo hco; clear hqo_0)
        | (go_at_call 29; refine (num_at E3.out g _ (mblk_far (HB2.out) hnB _) (mblk_far (HM2.out) hnG _) HZ2.out).mono ?_; rintro e v3 ⟨rfl, h1, h2⟩; have HM3 := Aside0.mk h1; have HB3 : Aside0 (Bx v3 w.heap.size g) := Aside0.mk (h2.blk (mblk_far (HB2.out) hnB _) hBg); have HN3 := Aside0.mk (h2.blk (mblk_far (HN2.out) hnN _) hNg); have HC3 : Aside0 (MBlk v3 b3 31 #[.int .i64 4, .int .i64 a, .int .i64 0, .int .i64 0, .int .i64 0, .int .i64 0, .int .i64 0, .bool false, .slice none 0 0]) := Aside0.mk (h2.blk (mblk_set (HC2.out) 1 _) hCg); have HT3 := Aside0.mk ((near_set (HT2.out) hbw 1 _).trans h2); clear h1 h2; have hc3 : v3.cell? ⟨w.heap.size, 0, none⟩ = some (.pointer (some ⟨g, 0, none⟩)) := (mblk_cell HB3.out 0).trans rfl; have hq3_0 : v3.cell? ⟨b3, 0, none⟩ = some (.int .i64 4) := (mblk_cell HC3.out 0).trans rfl; have hq3_1 : v3.cell? ⟨b3, 1, none⟩ = some (.int .i64 a) := (mblk_cell HC3.out 1).trans rfl; have hq3_2 : v3.cell? ⟨b3, 2, none⟩ = some (.int .i64 0) := (mblk_cell HC3.out 2).trans rfl; have hq3_3 : v3.cell? ⟨b3, 3, none⟩ = some (.int .i64 0) := (mblk_cell HC3.out 3).trans rfl; have hq3_4 : v3.cell? ⟨b3, 4, none⟩ = some (.int .i64 0) := (mblk_cell HC3.out 4).trans rfl; have hq3_5 : v3.cell? ⟨b3, 5, none⟩ = some (.int .i64 0) := (mblk_cell HC3.out 5).trans rfl; have hq3_6 : v3.cell? ⟨b3, 6, none⟩ = some (.int .i64 0) := (mblk_cell HC3.out 6).trans rfl; have hq3_7 : v3.cell? ⟨b3, 7, none⟩ = some (.bool false) := (mblk_cell HC3.out 7).trans rfl; have hq3_8 : v3.cell? ⟨b3, 8, none⟩ = some (.slice none 0 0) := (mblk_cell HC3.out 8).trans rfl; have hf3_3 : v3.frozen? ⟨b3, 3, none⟩ = false := mblk_frozen HC3.out 3; have hr3_0 : v3.cell? ⟨w.heap.size + 1, 0, none⟩ = some (.int .i64 0) := (mblk_cell HN3.out 0).trans rfl; have hr3_1 : v3.cell? ⟨w.heap.size + 1, 1, none⟩ = some (.int .i64 0) := (mblk_cell HN3.out 1).trans rfl; have hr3_2 : v3.cell? ⟨w.heap.size + 1, 2, none⟩ = some (.int .i64 0) := (mblk_cell HN3.out 2).trans rfl; have hr3_3 : v3.cell? ⟨w.heap.size + 1, 3, none⟩ = some (.int .i64 0) := (mblk_cell HN3.out 3).trans rfl; have hr3_4 : v3.cell? ⟨w.heap.size + 1, 4, none⟩ = some (.int .i64 0) := (mblk_cell HN3.out 4).trans rfl; have hr3_5 : v3.cell? ⟨w.heap.size + 1, 5, none⟩ = some (.int .i64 0) := (mblk_cell HN3.out 5).trans rfl; have hr3_6 : v3.cell? ⟨w.heap.size + 1, 6, none⟩ = some (.int .i64 0) := (mblk_cell HN3.out 6).trans rfl; have hr3_7 : v3.cell? ⟨w.heap.size + 1, 7, none⟩ = some (.bool false) := (mblk_cell HN3.out 7).trans rfl; have hr3_8 : v3.cell? ⟨w.heap.size + 1, 8, none⟩ = some (.slice none 0 0) := (mblk_cell HN3.out 8).trans rfl; have hs3_0 : v3.frozen? ⟨w.heap.size + 1, 0, none⟩ = false := mblk_frozen HN3.out 0; have hs3_1 : v3.frozen? ⟨w.heap.size + 1, 1, none⟩ = false := mblk_frozen HN3.out 1; have hs3_2 : v3.frozen? ⟨w.heap.size + 1, 2, none⟩ = false := mblk_frozen HN3.out 2; have hs3_3 : v3.frozen? ⟨w.heap.size + 1, 3, none⟩ = false := mblk_frozen HN3.out 3; have hs3_4 : v3.frozen? ⟨w.heap.size + 1, 4, none⟩ = false := mblk_frozen HN3.out 4; have hs3_5 : v3.frozen? ⟨w.heap.size + 1, 5, none⟩ = false := mblk_frozen HN3.out 5; have hs3_6 : v3.frozen? ⟨w.heap.size + 1, 6, none⟩ = false := mblk_frozen HN3.out 6; have hs3_7 : v3.frozen? ⟨w.heap.size + 1, 7, none⟩ = false := mblk_frozen HN3.out 7; have hs3_8 : v3.frozen? ⟨w.heap.size + 1, 8, none⟩ = false := mblk_frozen HN3.out 8; clear HM2 HB2 HN2 HC2 HT2 hc2; clear hq2_0 hq2_1 hq2_2 hq2_3 hq2_4 hq2_5 hq2_6 hq2_7 hq2_8 hf2_1))
    refine bodyPost_ret (results_cell_row rfl _ _ (w.heap.size + 1) 31 _ (0, 0) _ rfl (put9 (mblk_far (HN3.out) hnN _) _ _ _ _ _ _ _ _ _) Try.underlying31 rfl (by kernel_rfl)) rfl ⟨.slice none 0 0, ?_, ?_, ?_, set9 (near_set (HT3.out) hbw 3 _) (Nat.le_succ _) _ _ _ _ _ _ _ _ _⟩
    · rw [HE.out]; rfl
    · rw [HE.out]; exact Kd.R_nil _ _ _ _ _
    · rw [HE.out]; exact far9 (mblk_far (HM3.out) hnG _) hGN _ _ _ _ _ _ _ _ _
  by_cases k5 : kd = 5
  · subst k5
    obtain ⟨a, st2, e2⟩ : ∃ a st2, nx 1073741824 st1 = (a, st2) := ⟨_, _, rfl⟩
    have hbd2 := nx_bd (by omega) e2
    have HZ2 := Aside0.mk (nx_le e2 HZ1.out)
    have E2 := Aside0.mk e2
    have HE := Aside0.mk (show cmdR st = (⟨5, 0, 0, a, 0, ⟨0, 0⟩, false, []⟩, st2) by unfold cmdR; simp only [H7.out]; simp (config := {decide := true}) only [↓reduceIte, E2.out])
    clear e2
    go_wp2_with (first
        | (go_at_call 29; refine (num_at E2.out g _ (HBo.out) (HMo.out) HZ1.out).mono ?_; rintro e v2 ⟨rfl, h1, h2⟩; have HM2 := Aside0.mk h1; have HB2 : Aside0 (Bx v2 w.heap.size g) := Aside0.mk (h2.blk (HBo.out) hBg); have HN2 := Aside0.mk (h2.blk (HNo.out) hNg); have HC2 : Aside0 (MBlk v2 b3 31 #[.int .i64 5, .int .i64 0, .int .i64 0, .int .i64 0, .int .i64 0, .int .i64 0, .int .i64 0, .bool false, .slice none 0 0]) := Aside0.mk (h2.blk (HCo.out) hCg); have HT2 := Aside0.mk ((HTo.out).trans h2); clear h1 h2; have hc2 : v2.cell? ⟨w.heap.size, 0, none⟩ = some (.pointer (some ⟨g, 0, none⟩)) := (mblk_cell HB2.out 0).trans rfl; have hq2_0 : v2.cell? ⟨b3, 0, none⟩ = some (.int .i64 5) := (mblk_cell HC2.out 0).trans rfl; have hq2_1 : v2.cell? ⟨b3, 1, none⟩ = some (.int .i64 0) := (mblk_cell HC2.out 1).trans rfl; have hq2_2 : v2.cell? ⟨b3, 2, none⟩ = some (.int .i64 0) := (mblk_cell HC2.out 2).trans rfl; have hq2_3 : v2.cell? ⟨b3, 3, none⟩ = some (.int .i64 0) := (mblk_cell HC2.out 3).trans rfl; have hq2_4 : v2.cell? ⟨b3, 4, none⟩ = some (.int .i64 0) := (mblk_cell HC2.out 4).trans rfl; have hq2_5 : v2.cell? ⟨b3, 5, none⟩ = some (.int .i64 0) := (mblk_cell HC2.out 5).trans rfl; have hq2_6 : v2.cell? ⟨b3, 6, none⟩ = some (.int .i64 0) := (mblk_cell HC2.out 6).trans rfl; have hq2_7 : v2.cell? ⟨b3, 7, none⟩ = some (.bool false) := (mblk_cell HC2.out 7).trans rfl; have hq2_8 : v2.cell? ⟨b3, 8, none⟩ = some (.slice none 0 0) := (mblk_cell HC2.out 8).trans rfl; have hf2_3 : v2.frozen? ⟨b3, 3, none⟩ = false := mblk_frozen HC2.out 3; have hr2_0 : v2.cell? ⟨w.heap.size + 1, 0, none⟩ = some (.int .i64 0) := (mblk_cell HN2.out 0).trans rfl; have hr2_1 : v2.cell? ⟨w.heap.size + 1, 1, none⟩ = some (.int .i64 0) := (mblk_cell HN2.out 1).trans rfl; have hr2_2 : v2.cell? ⟨w.heap.size + 1, 2, none⟩ = some (.int .i64 0) := (mblk_cell HN2.out 2).trans rfl; have hr2_3 : v2.cell? ⟨w.heap.size + 1, 3, none⟩ = some (.int .i64 0) := (mblk_cell HN2.out 3).trans rfl; have hr2_4 : v2.cell? ⟨w.heap.size + 1, 4, none⟩ = some (.int .i64 0) := (mblk_cell HN2.out 4).trans rfl; have hr2_5 : v2.cell? ⟨w.heap.size + 1, 5, none⟩ = some (.int .i64 0) := (mblk_cell HN2.out 5).trans rfl; have hr2_6 : v2.cell? ⟨w.heap.size + 1, 6, none⟩ = some (.int .i64 0) := (mblk_cell HN2.out 6).trans rfl; have hr2_7 : v2.cell? ⟨w.heap.size + 1, 7, none⟩ = some (.bool false) := (mblk_cell HN2.out 7).trans rfl; have hr2_8 : v2.cell? ⟨w.heap.size + 1, 8, none⟩ = some (.slice none 0 0) := (mblk_cell HN2.out 8).trans rfl; have hs2_0 : v2.frozen? ⟨w.heap.size + 1, 0, none⟩ = false := mblk_frozen HN2.out 0; have hs2_1 : v2.frozen? ⟨w.heap.size + 1, 1, none⟩ = false := mblk_frozen HN2.out 1; have hs2_2 : v2.frozen? ⟨w.heap.size + 1, 2, none⟩ = false := mblk_frozen HN2.out 2; have hs2_3 : v2.frozen? ⟨w.heap.size + 1, 3, none⟩ = false := mblk_frozen HN2.out 3; have hs2_4 : v2.frozen? ⟨w.heap.size + 1, 4, none⟩ = false := mblk_frozen HN2.out 4; have hs2_5 : v2.frozen? ⟨w.heap.size + 1, 5, none⟩ = false := mblk_frozen HN2.out 5; have hs2_6 : v2.frozen? ⟨w.heap.size + 1, 6, none⟩ = false := mblk_frozen HN2.out 6; have hs2_7 : v2.frozen? ⟨w.heap.size + 1, 7, none⟩ = false := mblk_frozen HN2.out 7; have hs2_8 : v2.frozen? ⟨w.heap.size + 1, 8, none⟩ = false := mblk_frozen HN2.out 8; clear HMo HBo HNo HCo HTo hco; clear hqo_0))
    refine bodyPost_ret (results_cell_row rfl _ _ (w.heap.size + 1) 31 _ (0, 0) _ rfl (put9 (mblk_far (HN2.out) hnN _) _ _ _ _ _ _ _ _ _) Try.underlying31 rfl (by kernel_rfl)) rfl ⟨.slice none 0 0, ?_, ?_, ?_, set9 (near_set (HT2.out) hbw 3 _) (Nat.le_succ _) _ _ _ _ _ _ _ _ _⟩
    · rw [HE.out]; rfl
    · rw [HE.out]; exact Kd.R_nil _ _ _ _ _
    · rw [HE.out]; exact far9 (mblk_far (HM2.out) hnG _) hGN _ _ _ _ _ _ _ _ _
  by_cases k6 : kd = 6
  case neg =>
    have HE := Aside0.mk (show cmdR st = (⟨kd, 0, 0, 0, 0, ⟨0, 0⟩, false, []⟩, (st1.1, true)) by unfold cmdR; simp only [H7.out]; rw [if_neg k1, if_neg (by omega), if_neg k3, if_neg k4, if_neg k5, if_neg k6])
    have hqo_1 : W2.cell? ⟨b3, 1, none⟩ = some (.int .i64 0) := (mblk_cell HCo.out 1).trans rfl
    have hqo_2 : W2.cell? ⟨b3, 2, none⟩ = some (.int .i64 0) := (mblk_cell HCo.out 2).trans rfl
    have hqo_3 : W2.cell? ⟨b3, 3, none⟩ = some (.int .i64 0) := (mblk_cell HCo.out 3).trans rfl
    have hqo_4 : W2.cell? ⟨b3, 4, none⟩ = some (.int .i64 0) := (mblk_cell HCo.out 4).trans rfl
    have hqo_5 : W2.cell? ⟨b3, 5, none⟩ = some (.int .i64 0) := (mblk_cell HCo.out 5).trans rfl
    have hqo_6 : W2.cell? ⟨b3, 6, none⟩ = some (.int .i64 0) := (mblk_cell HCo.out 6).trans rfl
    have hqo_7 : W2.cell? ⟨b3, 7, none⟩ = some (.bool false) := (mblk_cell HCo.out 7).trans rfl
    have hqo_8 : W2.cell? ⟨b3, 8, none⟩ = some (.slice none 0 0) := (mblk_cell HCo.out 8).trans rfl
    have hro_0 : W2.cell? ⟨w.heap.size + 1, 0, none⟩ = some (.int .i64 0) := (mblk_cell HNo.out 0).trans rfl
    have hro_1 : W2.cell? ⟨w.heap.size + 1, 1, none⟩ = some (.int .i64 0) := (mblk_cell HNo.out 1).trans rfl
    have hro_2 : W2.cell? ⟨w.heap.size + 1, 2, none⟩ = some (.int .i64 0) := (mblk_cell HNo.out 2).trans rfl
    have hro_3 : W2.cell? ⟨w.heap.size + 1, 3, none⟩ = some (.int .i64 0) := (mblk_cell HNo.out 3).trans rfl
    have hro_4 : W2.cell? ⟨w.heap.size + 1, 4, none⟩ = some (.int .i64 0) := (mblk_cell HNo.out 4).trans rfl
    have hro_5 : W2.cell? ⟨w.heap.size + 1, 5, none⟩ = some (.int .i64 0) := (mblk_cell HNo.out 5).trans rfl
    have hro_6 : W2.cell? ⟨w.heap.size + 1, 6, none⟩ = some (.int .i64 0) := (mblk_cell HNo.out 6).trans rfl
    have hro_7 : W2.cell? ⟨w.heap.size + 1, 7, none⟩ = some (.bool false) := (mblk_cell HNo.out 7).trans rfl
    have hro_8 : W2.cell? ⟨w.heap.size + 1, 8, none⟩ = some (.slice none 0 0) := (mblk_cell HNo.out 8).trans rfl
    have hso_0 : W2.frozen? ⟨w.heap.size + 1, 0, none⟩ = false := mblk_frozen HNo.out 0
    have hso_1 : W2.frozen? ⟨w.heap.size + 1, 1, none⟩ = false := mblk_frozen HNo.out 1
    have hso_2 : W2.frozen? ⟨w.heap.size + 1, 2, none⟩ = false := mblk_frozen HNo.out 2
    have hso_3 : W2.frozen? ⟨w.heap.size + 1, 3, none⟩ = false := mblk_frozen HNo.out 3
    have hso_4 : W2.frozen? ⟨w.heap.size + 1, 4, none⟩ = false := mblk_frozen HNo.out 4
    have hso_5 : W2.frozen? ⟨w.heap.size + 1, 5, none⟩ = false := mblk_frozen HNo.out 5
    have hso_6 : W2.frozen? ⟨w.heap.size + 1, 6, none⟩ = false := mblk_frozen HNo.out 6
    have hso_7 : W2.frozen? ⟨w.heap.size + 1, 7, none⟩ = false := mblk_frozen HNo.out 7
    have hso_8 : W2.frozen? ⟨w.heap.size + 1, 8, none⟩ = false := mblk_frozen HNo.out 8
    have hg1 : W2.cell? ⟨g, 1, none⟩ = some (.bool st1.2) := (mblk_cell HMo.out 1).trans rfl
    have hgf1 : W2.frozen? ⟨g, 1, none⟩ = false := mblk_frozen HMo.out 1
    go_wp2
    refine bodyPost_ret (results_cell_row rfl _ _ (w.heap.size + 1) 31 _ (0, 0) _ rfl (put9 (mblk_far HNo.out hNg _) _ _ _ _ _ _ _ _ _) Try.underlying31 rfl (by kernel_rfl)) rfl ⟨.slice none 0 0, ?_, ?_, ?_, set9 (near_setg HTo.out 1 _) (Nat.le_succ _) _ _ _ _ _ _ _ _ _⟩
    · rw [HE.out]; rfl
    · rw [HE.out]; exact Kd.R_nil _ _ _ _ _
    · rw [HE.out]; exact far9 (mblk_set HMo.out 1 _) hGN _ _ _ _ _ _ _ _ _
  subst k6
  obtain ⟨a, st2, e2⟩ : ∃ a st2, nx 1073741825 st1 = (a, st2) := ⟨_, _, rfl⟩
  have hbd2 := nx_bd (by omega) e2
  have HZ2 := Aside0.mk (nx_le e2 HZ1.out)
  have E2 := Aside0.mk e2
  obtain ⟨b, st3, e3⟩ : ∃ b st3, nx 1073741824 st2 = (b, st3) := ⟨_, _, rfl⟩
  have hbd3 := nx_bd (by omega) e3
  have HZ3 := Aside0.mk (nx_le e3 HZ2.out)
  have E3 := Aside0.mk e3
  obtain ⟨n, st4, e4⟩ : ∃ n st4, nx 8 st3 = (n, st4) := ⟨_, _, rfl⟩
  have hbd4 := nx_bd (by omega) e4
  have HZ4 := Aside0.mk (nx_le e4 HZ3.out)
  have E4 := Aside0.mk e4
  obtain ⟨ps, st5, e5⟩ : ∃ ps st5, partsR n.toNat st4 [] = (ps, st5) := ⟨_, _, rfl⟩
  have E5 := Aside0.mk e5
  have HE := Aside0.mk (show cmdR st = (⟨6, 0, a - 1, 0, b, ⟨0, 0⟩, false, ps⟩, st5) by unfold cmdR; simp (config := {decide := true}) only [H7.out, ↓reduceIte, E2.out, E3.out, E4.out, E5.out])
  clear e2
  clear e3
  clear e4
  go_wp2_with (first
      | (go_at_call 28; refine (rd_at E2.out g _ (HMo.out) HZ1.out).mono ?_; rintro e v2 ⟨rfl, h1, h2⟩; have HM2 := Aside0.mk h1; have HB2 : Aside0 (Bx v2 w.heap.size g) := Aside0.mk (h2.blk (HBo.out) hBg); have HN2 := Aside0.mk (h2.blk (HNo.out) hNg); have HC2 : Aside0 (MBlk v2 b3 31 #[.int .i64 6, .int .i64 0, .int .i64 0, .int .i64 0, .int .i64 0, .int .i64 0, .int .i64 0, .bool false, .slice none 0 0]) := Aside0.mk (h2.blk (HCo.out) hCg); have HT2 := Aside0.mk ((HTo.out).trans h2); clear h1 h2; have hc2 : v2.cell? ⟨w.heap.size, 0, none⟩ = some (.pointer (some ⟨g, 0, none⟩)) := (mblk_cell HB2.out 0).trans rfl; have hq2_0 : v2.cell? ⟨b3, 0, none⟩ = some (.int .i64 6) := (mblk_cell HC2.out 0).trans rfl; have hq2_1 : v2.cell? ⟨b3, 1, none⟩ = some (.int .i64 0) := (mblk_cell HC2.out 1).trans rfl; have hq2_2 : v2.cell? ⟨b3, 2, none⟩ = some (.int .i64 0) := (mblk_cell HC2.out 2).trans rfl; have hq2_3 : v2.cell? ⟨b3, 3, none⟩ = some (.int .i64 0) := (mblk_cell HC2.out 3).trans rfl; have hq2_4 : v2.cell? ⟨b3, 4, none⟩ = some (.int .i64 0) := (mblk_cell HC2.out 4).trans rfl; have hq2_5 : v2.cell? ⟨b3, 5, none⟩ = some (.int .i64 0) := (mblk_cell HC2.out 5).trans rfl; have hq2_6 : v2.cell? ⟨b3, 6, none⟩ = some (.int .i64 0) := (mblk_cell HC2.out 6).trans rfl; have hq2_7 : v2.cell? ⟨b3, 7, none⟩ = some (.bool false) := (mblk_cell HC2.out 7).trans rfl; have hq2_8 : v2.cell? ⟨b3, 8, none⟩ = some (.slice none 0 0) := (mblk_cell HC2.out 8).trans rfl; have hf2_2 : v2.frozen? ⟨b3, 2, none⟩ = false := mblk_frozen HC2.out 2; clear HMo HBo HNo HCo HTo hco; clear hqo_0)
      | (go_at_call 29; refine (num_at E3.out g _ (mblk_far (HB2.out) hnB _) (mblk_far (HM2.out) hnG _) HZ2.out).mono ?_; rintro e v3 ⟨rfl, h1, h2⟩; have HM3 := Aside0.mk h1; have HB3 : Aside0 (Bx v3 w.heap.size g) := Aside0.mk (h2.blk (mblk_far (HB2.out) hnB _) hBg); have HN3 := Aside0.mk (h2.blk (mblk_far (HN2.out) hnN _) hNg); have HC3 : Aside0 (MBlk v3 b3 31 #[.int .i64 6, .int .i64 0, .int .i64 (a - 1), .int .i64 0, .int .i64 0, .int .i64 0, .int .i64 0, .bool false, .slice none 0 0]) := Aside0.mk (h2.blk (mblk_set (HC2.out) 2 _) hCg); have HT3 := Aside0.mk ((near_set (HT2.out) hbw 2 _).trans h2); clear h1 h2; have hc3 : v3.cell? ⟨w.heap.size, 0, none⟩ = some (.pointer (some ⟨g, 0, none⟩)) := (mblk_cell HB3.out 0).trans rfl; have hq3_0 : v3.cell? ⟨b3, 0, none⟩ = some (.int .i64 6) := (mblk_cell HC3.out 0).trans rfl; have hq3_1 : v3.cell? ⟨b3, 1, none⟩ = some (.int .i64 0) := (mblk_cell HC3.out 1).trans rfl; have hq3_2 : v3.cell? ⟨b3, 2, none⟩ = some (.int .i64 (a - 1)) := (mblk_cell HC3.out 2).trans rfl; have hq3_3 : v3.cell? ⟨b3, 3, none⟩ = some (.int .i64 0) := (mblk_cell HC3.out 3).trans rfl; have hq3_4 : v3.cell? ⟨b3, 4, none⟩ = some (.int .i64 0) := (mblk_cell HC3.out 4).trans rfl; have hq3_5 : v3.cell? ⟨b3, 5, none⟩ = some (.int .i64 0) := (mblk_cell HC3.out 5).trans rfl; have hq3_6 : v3.cell? ⟨b3, 6, none⟩ = some (.int .i64 0) := (mblk_cell HC3.out 6).trans rfl; have hq3_7 : v3.cell? ⟨b3, 7, none⟩ = some (.bool false) := (mblk_cell HC3.out 7).trans rfl; have hq3_8 : v3.cell? ⟨b3, 8, none⟩ = some (.slice none 0 0) := (mblk_cell HC3.out 8).trans rfl; have hf3_4 : v3.frozen? ⟨b3, 4, none⟩ = false := mblk_frozen HC3.out 4; clear HM2 HB2 HN2 HC2 HT2 hc2; clear hq2_0 hq2_1 hq2_2 hq2_3 hq2_4 hq2_5 hq2_6 hq2_7 hq2_8 hf2_2)
      | (go_at_call 28; refine (rd_at E4.out g _ (mblk_far (HM3.out) hnG _) HZ3.out).mono ?_; rintro e v4 ⟨rfl, h1, h2⟩; have HM4 := Aside0.mk h1; have HB4 : Aside0 (Bx v4 w.heap.size g) := Aside0.mk (h2.blk (mblk_far (HB3.out) hnB _) hBg); have HN4 := Aside0.mk (h2.blk (mblk_far (HN3.out) hnN _) hNg); have HC4 : Aside0 (MBlk v4 b3 31 #[.int .i64 6, .int .i64 0, .int .i64 (a - 1), .int .i64 0, .int .i64 b, .int .i64 0, .int .i64 0, .bool false, .slice none 0 0]) := Aside0.mk (h2.blk (mblk_set (HC3.out) 4 _) hCg); have HT4 := Aside0.mk ((near_set (HT3.out) hbw 4 _).trans h2); clear h1 h2; have hc4 : v4.cell? ⟨w.heap.size, 0, none⟩ = some (.pointer (some ⟨g, 0, none⟩)) := (mblk_cell HB4.out 0).trans rfl; have hq4_0 : v4.cell? ⟨b3, 0, none⟩ = some (.int .i64 6) := (mblk_cell HC4.out 0).trans rfl; have hq4_1 : v4.cell? ⟨b3, 1, none⟩ = some (.int .i64 0) := (mblk_cell HC4.out 1).trans rfl; have hq4_2 : v4.cell? ⟨b3, 2, none⟩ = some (.int .i64 (a - 1)) := (mblk_cell HC4.out 2).trans rfl; have hq4_3 : v4.cell? ⟨b3, 3, none⟩ = some (.int .i64 0) := (mblk_cell HC4.out 3).trans rfl; have hq4_4 : v4.cell? ⟨b3, 4, none⟩ = some (.int .i64 b) := (mblk_cell HC4.out 4).trans rfl; have hq4_5 : v4.cell? ⟨b3, 5, none⟩ = some (.int .i64 0) := (mblk_cell HC4.out 5).trans rfl; have hq4_6 : v4.cell? ⟨b3, 6, none⟩ = some (.int .i64 0) := (mblk_cell HC4.out 6).trans rfl; have hq4_7 : v4.cell? ⟨b3, 7, none⟩ = some (.bool false) := (mblk_cell HC4.out 7).trans rfl; have hq4_8 : v4.cell? ⟨b3, 8, none⟩ = some (.slice none 0 0) := (mblk_cell HC4.out 8).trans rfl; have hr4_0 : v4.cell? ⟨w.heap.size + 1, 0, none⟩ = some (.int .i64 0) := (mblk_cell HN4.out 0).trans rfl; have hr4_1 : v4.cell? ⟨w.heap.size + 1, 1, none⟩ = some (.int .i64 0) := (mblk_cell HN4.out 1).trans rfl; have hr4_2 : v4.cell? ⟨w.heap.size + 1, 2, none⟩ = some (.int .i64 0) := (mblk_cell HN4.out 2).trans rfl; have hr4_3 : v4.cell? ⟨w.heap.size + 1, 3, none⟩ = some (.int .i64 0) := (mblk_cell HN4.out 3).trans rfl; have hr4_4 : v4.cell? ⟨w.heap.size + 1, 4, none⟩ = some (.int .i64 0) := (mblk_cell HN4.out 4).trans rfl; have hr4_5 : v4.cell? ⟨w.heap.size + 1, 5, none⟩ = some (.int .i64 0) := (mblk_cell HN4.out 5).trans rfl; have hr4_6 : v4.cell? ⟨w.heap.size + 1, 6, none⟩ = some (.int .i64 0) := (mblk_cell HN4.out 6).trans rfl; have hr4_7 : v4.cell? ⟨w.heap.size + 1, 7, none⟩ = some (.bool false) := (mblk_cell HN4.out 7).trans rfl; have hr4_8 : v4.cell? ⟨w.heap.size + 1, 8, none⟩ = some (.slice none 0 0) := (mblk_cell HN4.out 8).trans rfl; have hs4_0 : v4.frozen? ⟨w.heap.size + 1, 0, none⟩ = false := mblk_frozen HN4.out 0; have hs4_1 : v4.frozen? ⟨w.heap.size + 1, 1, none⟩ = false := mblk_frozen HN4.out 1; have hs4_2 : v4.frozen? ⟨w.heap.size + 1, 2, none⟩ = false := mblk_frozen HN4.out 2; have hs4_3 : v4.frozen? ⟨w.heap.size + 1, 3, none⟩ = false := mblk_frozen HN4.out 3; have hs4_4 : v4.frozen? ⟨w.heap.size + 1, 4, none⟩ = false := mblk_frozen HN4.out 4; have hs4_5 : v4.frozen? ⟨w.heap.size + 1, 5, none⟩ = false := mblk_frozen HN4.out 5; have hs4_6 : v4.frozen? ⟨w.heap.size + 1, 6, none⟩ = false := mblk_frozen HN4.out 6; have hs4_7 : v4.frozen? ⟨w.heap.size + 1, 7, none⟩ = false := mblk_frozen HN4.out 7; have hs4_8 : v4.frozen? ⟨w.heap.size + 1, 8, none⟩ = false := mblk_frozen HN4.out 8; clear HM3 HB3 HN3 HC3 HT3 hc3; clear hq3_0 hq3_1 hq3_2 hq3_3 hq3_4 hq3_5 hq3_6 hq3_7 hq3_8 hf3_4))

  go_loopw [67] (fun v67 W2 => ∃ (i : Nat) (acc : List S67) (st' : St) (v : Value), v67 = .int .i64 i ∧ (i : Int) ≤ n ∧ acc.length = i ∧ Aside0 (partsR (n.toNat - i) st' acc = (ps, st5)) ∧ Aside0 (Rd W2 g st') ∧ Aside0 (st'.1.size ≤ 1000000000) ∧ Aside0 (Bx W2 w.heap.size g) ∧ Aside0 (MBlk W2 (w.heap.size + 1) 31 #[.int .i64 0, .int .i64 0, .int .i64 0, .int .i64 0, .int .i64 0, .int .i64 0, .int .i64 0, .bool false, .slice none 0 0]) ∧ Aside0 (MBlk W2 b3 31 #[.int .i64 6, .int .i64 0, .int .i64 (a - 1), .int .i64 0, .int .i64 b, .int .i64 0, .int .i64 0, .bool false, v]) ∧ Aside0 (Near g w W2) ∧ Aside0 (Kd.R k67 67 W2 w.heap.size (fun _ => True) v acc)) (fun v67 _ => n.toNat - (intOf v67).toNat)
  case atStart => exact ⟨0, [], st4, _, rfl, hbd4.1, rfl, ⟨e5⟩, HM4, HZ4, HB4, HN4, HC4, HT4, ⟨Kd.R_nil _ _ _ _ _⟩⟩
  case round =>
    obtain ⟨i, acc, st', v, rfl, hin, hal, HP, HMr, HZr, HBr, HNr, HCr, HTr, HRr⟩ := hrel
    by_cases hi : (i : Int) < n
    · obtain ⟨x, y, st2', ew⟩ : ∃ x y st2', wR st' = (⟨x, y⟩, st2') := ⟨_, _, _, rfl⟩
      have EW := Aside0.mk ew
      have hz6 := Aside0.mk (wR_le ew HZr.out)
      have HP6 : Aside0 (partsR (n.toNat - (i + 1)) st2' (acc ++ [⟨x, y⟩]) = (ps, st5)) := Aside0.mk (by
        have h := HP.out
        rw [show n.toNat - i = n.toNat - (i + 1) + 1 by omega] at h
        have h2 : partsR (n.toNat - (i + 1) + 1) st' acc = partsR (n.toNat - (i + 1)) (wR st').2 (acc ++ [⟨(wR st').1.f0, (wR st').1.f1⟩]) := rfl
        rw [h2, ew] at h
        exact h)
      have hmul : (acc.length + 1) * 16 ≤ 140737488355328 := by omega
      have HMU := Aside0.mk hmul
      clear ew hmul
      have hv8 : wr.cell? ⟨b3, 8, none⟩ = some v := (mblk_cell HCr.out 8).trans rfl
      have hvf : wr.frozen? ⟨b3, 8, none⟩ = false := mblk_frozen HCr.out 8
      go_upto_region 26 with fail
      go_region_law
        (first
          | (go_simp
             go_at_call 30
             refine (wt_at EW.out g wr.drew HBr.out HMr.out HZr.out).mono ?_
             rintro e u1 ⟨rfl, h1, h2⟩
             have h3 : Near g wr u1 := ⟨h2.os, h2.tape, h2.output, h2.size, h2.block⟩
             have HM5 := Aside0.mk h1
             have HB5 : Aside0 (Bx u1 w.heap.size g) := Aside0.mk (h3.blk HBr.out hBg)
             have HN5 := Aside0.mk (h3.blk HNr.out hNg)
             have HC5 := Aside0.mk (h3.blk HCr.out hCg)
             have HT5 := Aside0.mk (HTr.out.trans h3)
             have HR5 := Aside0.mk (rp_near HRr.out HMr.out (by decide) h3)
             have hv5 : u1.cell? ⟨b3, 8, none⟩ = some v := (mblk_cell HC5.out 8).trans rfl
             have hv5a : ∀ o, (u1.alloc o).cell? ⟨b3, 8, none⟩ = some v := fun o => (mblk_cell (mblk_alloc HC5.out o) 8).trans rfl
             clear h1 h2 h3)
          | (refine Kd.R_append_step k67 w.heap.size (by rfl) (.tmp 70) (.tmp 73) 29 67 (.agg #[(.int .i64 0), (.int .i64 0)]) 16 (by rfl) Try.underlying29 info67 rfl (by decide) (by omega) v acc (⟨x, y⟩ : S67) [.int .i64 x, .int .i64 y] (fun _ => True) (fun _ => False) (by rfl) (by rfl) (k67_mkM _ _ _ (⟨x, y⟩ : S67)) (fun _ hk => hk.elim) (fun _ _ => trivial) HR5.out (Below.refl _ _) HT5.out.size HMU.out ?_
             intro v1 u2 ho hb hg hat
             obtain ⟨A1, p1, rfl, hl1, _⟩ := Kd.R_reads ho
             clear hl1
             have hln : (acc ++ [(⟨x, y⟩ : S67)]).length = i + 1 := by rw [List.length_append, hal]; rfl
             rw [hln] at ho ⊢
             clear hln
             have HM6 : Aside0 (Rd u2 g st2') := Aside0.mk (rd_grown HM5.out hg HR5.out)
             have HB6 : Aside0 (Bx u2 w.heap.size g) := Aside0.mk (bx_grown HB5.out hg HR5.out)
             have HN6 : Aside0 (MBlk u2 (w.heap.size + 1) 31 #[.int .i64 0, .int .i64 0, .int .i64 0, .int .i64 0, .int .i64 0, .int .i64 0, .int .i64 0, .bool false, .slice none 0 0]) := Aside0.mk (mblk_grown HN5.out hg HR5.out (by decide))
             have HC6 : Aside0 (MBlk u2 b3 31 #[.int .i64 6, .int .i64 0, .int .i64 (a - 1), .int .i64 0, .int .i64 b, .int .i64 0, .int .i64 0, .bool false, v]) := Aside0.mk (mblk_grown HC5.out hg HR5.out (by decide))
             have HT6 : Aside0 (Near g w u2) := Aside0.mk (near_grown HT5.out hg (Kd.R_base HR5.out))
             have HR6 := Aside0.mk ho
             have hv6 : u2.cell? ⟨b3, 8, none⟩ = some v := (mblk_cell HC6.out 8).trans rfl
             have hf6 : u2.frozen? ⟨b3, 8, none⟩ = false := mblk_frozen HC6.out 8
             clear ho hb hg hat))
      all_goals go_wp2
      all_goals refine ⟨⟨i + 1, acc ++ [⟨x, y⟩], st2', _, ?_, ?_, ?_, HP6, ⟨mblk_far HM6.out hnG _⟩, hz6, ⟨mblk_far HB6.out hnB _⟩, ⟨mblk_far HN6.out hnN _⟩, ⟨mblk_set HC6.out 8 _⟩, ⟨near_set HT6.out hbw 8 _⟩, ⟨rp_set HR6.out HC6.out (by decide) 8 _⟩⟩, ?_⟩
      all_goals first
        | (simp; done)
        | omega
        | (rw [List.length_append, hal]; rfl)
        | (simp only [intOf]; omega)
    · have hP0 := HP.out
      have hz0 : n.toNat - i = 0 := by omega
      rw [hz0] at hP0
      have hP1 : (acc, st') = (ps, st5) := hP0
      injection hP1 with hP2 hP3
      subst hP2
      subst hP3
      clear hP0 HP
      obtain ⟨Av, cv, rfl, hlv, _⟩ := Kd.R_reads HRr.out
      have HRq := HRr.out
      rw [hal] at HRq
      have HRs := Aside0.mk HRq
      clear HRq hlv
      have hqr_0 : wr.cell? ⟨b3, 0, none⟩ = some (.int .i64 6) := (mblk_cell HCr.out 0).trans rfl
      have hqr_1 : wr.cell? ⟨b3, 1, none⟩ = some (.int .i64 0) := (mblk_cell HCr.out 1).trans rfl
      have hqr_2 : wr.cell? ⟨b3, 2, none⟩ = some (.int .i64 (a - 1)) := (mblk_cell HCr.out 2).trans rfl
      have hqr_3 : wr.cell? ⟨b3, 3, none⟩ = some (.int .i64 0) := (mblk_cell HCr.out 3).trans rfl
      have hqr_4 : wr.cell? ⟨b3, 4, none⟩ = some (.int .i64 b) := (mblk_cell HCr.out 4).trans rfl
      have hqr_5 : wr.cell? ⟨b3, 5, none⟩ = some (.int .i64 0) := (mblk_cell HCr.out 5).trans rfl
      have hqr_6 : wr.cell? ⟨b3, 6, none⟩ = some (.int .i64 0) := (mblk_cell HCr.out 6).trans rfl
      have hqr_7 : wr.cell? ⟨b3, 7, none⟩ = some (.bool false) := (mblk_cell HCr.out 7).trans rfl
      have hqr_8 : wr.cell? ⟨b3, 8, none⟩ = some (.slice Av acc.length cv) := (mblk_cell HCr.out 8).trans rfl
      have hrr_0 : wr.cell? ⟨w.heap.size + 1, 0, none⟩ = some (.int .i64 0) := (mblk_cell HNr.out 0).trans rfl
      have hrr_1 : wr.cell? ⟨w.heap.size + 1, 1, none⟩ = some (.int .i64 0) := (mblk_cell HNr.out 1).trans rfl
      have hrr_2 : wr.cell? ⟨w.heap.size + 1, 2, none⟩ = some (.int .i64 0) := (mblk_cell HNr.out 2).trans rfl
      have hrr_3 : wr.cell? ⟨w.heap.size + 1, 3, none⟩ = some (.int .i64 0) := (mblk_cell HNr.out 3).trans rfl
      have hrr_4 : wr.cell? ⟨w.heap.size + 1, 4, none⟩ = some (.int .i64 0) := (mblk_cell HNr.out 4).trans rfl
      have hrr_5 : wr.cell? ⟨w.heap.size + 1, 5, none⟩ = some (.int .i64 0) := (mblk_cell HNr.out 5).trans rfl
      have hrr_6 : wr.cell? ⟨w.heap.size + 1, 6, none⟩ = some (.int .i64 0) := (mblk_cell HNr.out 6).trans rfl
      have hrr_7 : wr.cell? ⟨w.heap.size + 1, 7, none⟩ = some (.bool false) := (mblk_cell HNr.out 7).trans rfl
      have hrr_8 : wr.cell? ⟨w.heap.size + 1, 8, none⟩ = some (.slice none 0 0) := (mblk_cell HNr.out 8).trans rfl
      have hsr_0 : wr.frozen? ⟨w.heap.size + 1, 0, none⟩ = false := mblk_frozen HNr.out 0
      have hsr_1 : wr.frozen? ⟨w.heap.size + 1, 1, none⟩ = false := mblk_frozen HNr.out 1
      have hsr_2 : wr.frozen? ⟨w.heap.size + 1, 2, none⟩ = false := mblk_frozen HNr.out 2
      have hsr_3 : wr.frozen? ⟨w.heap.size + 1, 3, none⟩ = false := mblk_frozen HNr.out 3
      have hsr_4 : wr.frozen? ⟨w.heap.size + 1, 4, none⟩ = false := mblk_frozen HNr.out 4
      have hsr_5 : wr.frozen? ⟨w.heap.size + 1, 5, none⟩ = false := mblk_frozen HNr.out 5
      have hsr_6 : wr.frozen? ⟨w.heap.size + 1, 6, none⟩ = false := mblk_frozen HNr.out 6
      have hsr_7 : wr.frozen? ⟨w.heap.size + 1, 7, none⟩ = false := mblk_frozen HNr.out 7
      have hsr_8 : wr.frozen? ⟨w.heap.size + 1, 8, none⟩ = false := mblk_frozen HNr.out 8
      go_wp2
      refine bodyPost_ret (results_cell_row rfl _ _ (w.heap.size + 1) 31 _ (0, 0) _ rfl (put9 HNr.out _ _ _ _ _ _ _ _ _) Try.underlying31 rfl (by kernel_rfl)) rfl ⟨.slice Av i cv, ?_, ?_, ?_, set9 HTr.out (Nat.le_succ _) _ _ _ _ _ _ _ _ _⟩
      rotate_left
      · rw [HE.out]; exact r9 HRs.out HNr.out _ _ _ _ _ _ _ _ _
      · rw [HE.out]; exact far9 HMr.out hGN _ _ _ _ _ _ _ _ _
      · rw [HE.out]; rfl
end Go.Proofs.Ytfcoaneffdddkaa.XCmd

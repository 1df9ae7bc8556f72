/- The walk of wire.Bytes and wire.Size. -/
import Derived.Test.YtfcoaneffdddkaaXCheck

namespace Go.Proofs.Ytfcoaneffdddkaa.XBytes
open Go.RowKit Go.Shelf Go.Proofs.Ytfcoaneffdddkaa.PWt Go.Proofs.YtfcoaneffdddkaaW.PrintWords Go.Proofs.YtfcoaneffdddkaaW.PrintLast Go.Proofs.YtfcoaneffdddkaaW.PrintMore Go.Proofs.Ytfcoaneffdddkaa.MWords Go.Proofs.Ytfcoaneffdddkaa.MBuild Go.Proofs.Ytfcoaneffdddkaa.MPut Go.Proofs.Ytfcoaneffdddkaa.XVal Go.Proofs.Ytfcoaneffdddkaa.XFields Go.Proofs.Ytfcoaneffdddkaa.QWire Go.Proofs.Ytfcoaneffdddkaa.QEv Go.Proofs.Ytfcoaneffdddkaa.XCheck
set_option linter.unusedVariables false
set_option linter.unusedSimpArgs false
attribute [local go_sem] Oper.semAt_some

/-- A command's bytes. -/
def cmdNums (c : S31) : List Int := vnum c.f0.toNat ++ vnums ((flds c).map (·.1))
def rowNums (l : List S31) : List Int := (l.map cmdNums).flatten
def bytesW (l : List S31) : ByteArray := if l.all chkW = true then strOfNums (rowNums l) else ⟨#[]⟩
def mk1 (D : Nat) : Deferred := { target := .collected D, args := #[] }
/-- Marks of loops over functions that are over. -/
structure Marks (B : Nat) (Ds : List Nat) (W : World) : Prop where
  nd : Ds.Nodup
  at_ : ∀ D ∈ Ds, B ≤ D ∧ W.heap[D]? = some (.deferred (some []))
theorem Marks.none (B : Nat) (W : World) : Marks B [] W := ⟨List.nodup_nil, fun D h => by simp at h⟩
theorem Marks.keep {B : Nat} {Ds : List Nat} {W W' : World} (h : Marks B Ds W) (hk : ∀ D ∈ Ds, W'.heap[D]? = W.heap[D]?) : Marks B Ds W' := ⟨h.nd, fun D hD => ⟨(h.at_ D hD).1, (hk D hD).trans (h.at_ D hD).2⟩⟩
theorem Marks.below {B : Nat} {Ds : List Nat} {W W' : World} (h : Marks B Ds W) (hb : Below W.heap.size W W') : Marks B Ds W' := h.keep fun D hD => hb.block D (Array.getElem?_eq_some_iff.1 (h.at_ D hD).2).1
theorem Marks.beside {B b : Nat} {Ds : List Nat} {W W' : World} {s : ByteArray} (h : Marks B Ds W) (hB : Bld B b s W) (hb : Beside b W W') : Marks B Ds W' := ⟨h.nd, fun D hD => by
  have h1 := h.at_ D hD
  refine ⟨h1.1, hb D _ h1.2 (fun e => ?_) (fun c fz e => by cases e)⟩
  injection e with e
  subst e
  rcases hB with ⟨_, v, hv, _⟩ | ⟨_, v, hv, _⟩ <;> · rw [h1.2] at hv; cases hv⟩
theorem Marks.push {B D : Nat} {Ds : List Nat} {W : World} (h : Marks B Ds W) (hn : D ∉ Ds) (hB : B ≤ D) (hD : W.heap[D]? = some (.deferred (some []))) : Marks B (D :: Ds) W :=
  ⟨List.nodup_cons.2 ⟨hn, h.nd⟩, fun E hE => by
    rcases List.mem_cons.1 hE with rfl | hE
    · exact ⟨hB, hD⟩
    · exact h.at_ E hE⟩
theorem leaves_marks {fn : Func} {tmps : Array Value} {R : Ending → World → Prop} {n B : Nat} {w : World} : ∀ (Ds : List Nat) (W : World), Marks B Ds W → Below B w W →
    (∀ W', Below B w W' → LeavesInM Fence.wide n Try.prog fn tmps R [] .returning W') → LeavesInM Fence.wide n Try.prog fn tmps R (Ds.map mk1) .returning W
  | [], W, _, hb, h => h W hb
  | D :: Ds, W, hm, hb, h => by
    obtain ⟨hn, hd⟩ := List.nodup_cons.1 hm.nd
    have hD := hm.at_ D (by simp)
    have hlt := (Array.getElem?_eq_some_iff.1 hD.2).1
    refine ⟨by simp, .inl ⟨D, _, rfl, run_takeDeferred hD.2, leaves_marks Ds _ ⟨hd, fun E hE => ?_⟩ (hb.trans ((Below.refl B W).grown (grownBy_putObj' W D _) (by omega) (fun k e => by cases e; exact hD.1))) h⟩⟩
    have hE2 := hm.at_ E (List.mem_cons_of_mem _ hE)
    exact ⟨hE2.1, (World.putObj_heap_other (fun e => by subst e; exact hn hE)).trans hE2.2⟩
theorem Bld.own {B b : Nat} {s : ByteArray} {W W' : World} {row : Option Nat} (h : Bld B b s W) (hg : W.grownBy W' row) (hr : ∀ r, row = some r → ∃ o : Obj, W.heap[r]? = some o ∧ o.isCells = false) : Bld B b s W' := by
  have hk : ∀ p, Lib.BuilderAtF 44 5 B b p (Lib.strCells s) W → ∀ k, k < W.heap.size → k = b ∨ (∃ c fz, W.heap[k]? = some (.cells c 5 fz)) → W'.heap[k]? = W.heap[k]? := by
    intro p hp k hk hc
    rcases hc with rfl | ⟨c, fz, hc⟩
    · obtain ⟨_, v, hv, _⟩ := hp
      exact grownBy_keeps_cells hg hr hv rfl
    · exact grownBy_keeps_cells hg hr hc rfl
  exact h.elim (fun h => .inl (at_keep h (hk _ h))) (fun h => .inr (at_keep h (hk _ h)))
theorem fields_fine {c : S31} (h : chkW c = true) : ∀ x ∈ flds c, 0 ≤ x.1 ∧ x.1 < 4611686018427387904 := by
  intro x hx
  unfold chkW at h
  simp only [Bool.and_eq_true, List.all_eq_true, decide_eq_true_eq] at h
  have h1 := h.2.2 x hx
  have h2 : x.2 ≤ 1073741825 := by
    unfold flds at hx
    split at hx
    · simp at hx; rcases hx with h | h | h | h <;> (subst h; simp)
    split at hx
    · simp at hx; subst hx; simp
    split at hx
    · simp at hx; rcases hx with h | h | h <;> (subst h; simp)
    split at hx
    · simp at hx; rcases hx with h | h <;> (subst h; simp)
    split at hx
    · simp at hx; subst hx; simp
    · rw [List.mem_append] at hx
      rcases hx with hx | hx
      · simp at hx; rcases hx with h | h | h <;> (subst h; simp)
      · obtain ⟨y, hy, hxy⟩ := List.mem_flatten.1 hx
        obtain ⟨q, hq, rfl⟩ := List.mem_map.1 hy
        simp at hxy; rcases hxy with h | h <;> (subst h; simp)
  omega
theorem chk_kind {c : S31} (h : chkW c = true) : 1 ≤ c.f0 ∧ c.f0 ≤ 7 := by
  unfold chkW at h
  simp only [Bool.and_eq_true, decide_eq_true_eq] at h
  exact h.1
theorem chk_parts {c : S31} (h : chkW c = true) : c.f7.length ≤ 8 := by
  have hk := chk_kind h
  unfold chkW at h
  simp only [Bool.and_eq_true, List.all_eq_true, decide_eq_true_eq] at h
  by_cases h6 : c.f0 = 6
  · have h1 := h.2.2 ((c.f7.length : Int), 8) (by unfold flds; rw [if_neg (by omega), if_neg (by omega), if_neg (by omega), if_neg (by omega), if_neg (by omega)]; simp)
    simp at h1
    omega
  · have h1 : (bareC c).f7 = [] := by
      unfold bareC
      split
      · rfl
      split
      · rfl
      split
      · rfl
      split
      · rfl
      split
      · rfl
      rfl
    have h2 : c.f7 = [] := by rw [h.2.1]; exact h1
    rw [h2]
    simp
theorem flds_len8 {c : S31} (h : chkW c = true) : (flds c).length ≤ 19 := by
  have hp := partF_len c.f7
  have h8 := chk_parts h
  unfold flds
  split
  · simp
  split
  · simp
  split
  · simp
  split
  · simp
  split
  · simp
  · rw [List.length_append]
    show 3 + (partF c.f7).length ≤ 19
    omega
theorem cmd_len {c : S31} (h : chkW c = true) : (cmdNums c).length ≤ 180 := by
  have hf := fields_fine h
  have hk := chk_kind h
  have h1 := vnum_len9 c.f0.toNat (by omega)
  have h2 := vnums_len ((flds c).map (·.1)) (fun n hn => by obtain ⟨x, hx, rfl⟩ := List.mem_map.1 hn; have := hf x hx; omega)
  have h3 := flds_len8 h
  rw [List.length_map] at h2
  unfold cmdNums
  rw [List.length_append]
  omega
theorem rows_len : ∀ (l : List S31), l.all chkW = true → (rowNums l).length ≤ 180 * l.length
  | [], _ => by simp [rowNums]
  | c :: l, h => by
    rw [List.all_cons, Bool.and_eq_true] at h
    have h1 := cmd_len h.1
    have h2 := rows_len l h.2
    have e : rowNums (c :: l) = cmdNums c ++ rowNums l := rfl
    rw [e, List.length_append, List.length_cons]
    omega
theorem rows_snoc (l : List S31) (c : S31) : rowNums (l ++ [c]) = rowNums l ++ cmdNums c := by simp [rowNums]
/-- What a round over a command's fields keeps. -/
structure BInv (b : Nat) (G : Nat → Prop) (s : ByteArray) (Ds : List Nat) (w w5 W : World) : Prop where
  s : Bld b b s W
  g : KpG G w5 W
  k : Below b w W
  d : Marks b Ds W
set_option maxHeartbeats 4000000 in
set_option maxRecDepth 100000 in
theorem bytes_calls (l : List S31) (A : Option Addr) (cp : Nat) (w : World) (hC : Kd.C k31 w A l.length l) (hc : l.length ≤ cp) (hl : l.length ≤ 100000) (hp : ∀ c ∈ l, c.f7.length ≤ 100000) :
    Calls Try.prog 9 #[.slice A l.length cp] w fun e w' => e = .returned (.string (bytesW l)) ∧ Below w.heap.size w w' := by
  have HC := Aside0.mk hC
  have HCP := Aside0.mk hc
  have HL := Aside0.mk (And.intro hl hp)
  clear hC hc hl hp
  refine (callsIn_wide (n := 6)).1 (callsIn_of_wp_marks Try.func9 rfl trivial (wpIn_wide.2 ?_) rfl)
  simp only [Try.ntmps9, List.size_toArray, List.length_cons, List.length_nil, Nat.reduceAdd, Nat.reduceSub, Array.replicate_succ, Array.replicate_zero, List.push_toArray, List.append_toArray, List.nil_append, List.cons_append]
  go_wp2_with fail
  have HS0 := Aside0.mk (Bld.new w)
  have HB0 := Aside0.mk (below_alloc (Below.refl w.heap.size w) (.cells #[.pointer none, .slice none 0 0] 44))
  refine wp_loop (fun a W => ∃ (i : Nat) (Ds : List Nat) (u5 u6 u10 u11 u12 u13 u14 u15 u16 u17 u18 u19 u20 u21 u22 u23 u24 u25 : Value), a = { tmps := #[.slice A l.length cp, undef, .string ⟨#[]⟩, .pointer (some ⟨w.heap.size, 0, none⟩), undef, u5, u6, .slice A l.length cp, .int .i64 l.length, .int .i64 i, u10, u11, u12, u13, u14, u15, u16, u17, u18, u19, u20, u21, u22, u23, u24, u25, undef], defers := Ds.map mk1 } ∧ i ≤ l.length ∧ Aside0 ((l.take i).all chkW = true) ∧ Aside0 (Bld w.heap.size w.heap.size (strOfNums (rowNums (l.take i))) W) ∧ Aside0 (Below w.heap.size w W) ∧ Aside0 (Marks w.heap.size Ds W)) (fun a _ => l.length - (intOf (a.tmps.getD 9 undef)).toNat) ?_ ?_
  · exact ⟨0, [], undef, undef, undef, undef, undef, undef, undef, undef, undef, undef, undef, undef, undef, undef, undef, undef, undef, undef, rfl, Nat.zero_le _, ⟨rfl⟩, HS0, HB0, ⟨Marks.none _ _⟩⟩
  intro a W hI
  obtain ⟨i, Ds, u5, u6, u10, u11, u12, u13, u14, u15, u16, u17, u18, u19, u20, u21, u22, u23, u24, u25, rfl, hi, HA, HS, HB, HD⟩ := hI
  clear HS0 HB0
  by_cases hlt : i < l.length
  case neg =>
    have hie : i = l.length := by omega
    subst hie
    have hA := HA.out
    have hS := HS.out
    rw [List.take_length] at hA hS
    have HA2 := Aside0.mk hA
    have HS2 := Aside0.mk hS
    clear hA hS HA HS
    go_wp2_with fail
    refine (text_any w.heap.size w.heap.size _ W HS2.out HB.out.size).mono ?_
    rintro e w2 ⟨rfl, hb, hbs⟩
    have HB2 := Aside0.mk (HB.out.trans hb)
    have HD2 := Aside0.mk (HD.out.beside HS2.out hbs)
    clear hb hbs
    go_wp2_with fail
    exact leaves_marks Ds w2 HD2.out HB2.out (fun W' hb' => ⟨_, results_tmp rfl _ _ _, by unfold bytesW; rw [if_pos HA2.out]; rfl, hb'⟩)
  obtain ⟨ad, A8, c8, e, x0, x1, x2, x3, x4, x5, x6, x7, x8, hl8, hC8⟩ := at_T31 HC.out (i : Int) (by omega) (by omega)
  have hrd := rdC l i hlt
  have hlp := HL.out.2 l[i] (List.getElem_mem hlt)
  have hts := take_snoc l i hlt
  rw [hrd] at x0 x1 x2 x3 x4 x5 x6 x7 x8 hl8 hC8
  obtain ⟨c, hc⟩ : ∃ c, c = l[i] := ⟨_, rfl⟩
  rw [← hc] at x0 x1 x2 x3 x4 x5 x6 x7 x8 hl8 hC8 hlp hts
  have HMEM := Aside0.mk (show c ∈ l by rw [hc]; exact List.getElem_mem hlt)
  clear hrd hc
  subst e
  simp only [Int.toNat_natCast] at x0 x1 x2 x3 x4 x5 x6 x7 x8
  replace x0 := (HB.out.cell (World.block_lt_of_cell? w _ x0)).trans x0
  replace x1 := (HB.out.cell (World.block_lt_of_cell? w _ x1)).trans x1
  replace x2 := (HB.out.cell (World.block_lt_of_cell? w _ x2)).trans x2
  replace x3 := (HB.out.cell (World.block_lt_of_cell? w _ x3)).trans x3
  replace x4 := (HB.out.cell (World.block_lt_of_cell? w _ x4)).trans x4
  replace x5 := (HB.out.cell (World.block_lt_of_cell? w _ x5)).trans x5
  replace x6 := (HB.out.cell (World.block_lt_of_cell? w _ x6)).trans x6
  replace x7 := (HB.out.cell (World.block_lt_of_cell? w _ x7)).trans x7
  replace x8 := (HB.out.cell (World.block_lt_of_cell? w _ x8)).trans x8
  have HT := Aside0.mk hts
  have HC8 := Aside0.mk (And.intro hl8 (And.intro hC8 hlp))
  have hbW : w.heap.size < W.heap.size := HS.out.lt
  have HM1 := Aside0.mk (mblk_new W 31 #[.int .i64 c.f0, .int .i64 c.f1, .int .i64 c.f2, .int .i64 c.f3, .int .i64 c.f4, .int .i64 c.f5.f0, .int .i64 c.f5.f1, .bool c.f6, .slice A8 c.f7.length c8])
  have HB1 := Aside0.mk (below_alloc HB.out (.cells #[.int .i64 c.f0, .int .i64 c.f1, .int .i64 c.f2, .int .i64 c.f3, .int .i64 c.f4, .int .i64 c.f5.f0, .int .i64 c.f5.f1, .bool c.f6, .slice A8 c.f7.length c8] 31))
  have HS1 := Aside0.mk (HS.out.alloc (.cells #[.int .i64 c.f0, .int .i64 c.f1, .int .i64 c.f2, .int .i64 c.f3, .int .i64 c.f4, .int .i64 c.f5.f0, .int .i64 c.f5.f1, .bool c.f6, .slice A8 c.f7.length c8] 31))
  have HD1 := Aside0.mk (HD.out.below (below_alloc (Below.refl W.heap.size W) (.cells #[.int .i64 c.f0, .int .i64 c.f1, .int .i64 c.f2, .int .i64 c.f3, .int .i64 c.f4, .int .i64 c.f5.f0, .int .i64 c.f5.f1, .bool c.f6, .slice A8 c.f7.length c8] 31)))
  have HRL := Aside0.mk (show (rowNums (l.take i)).length ≤ 18000000 by
    have h1 := rows_len (l.take i) HA.out
    have h2 := HL.out.1
    rw [List.length_take] at h1
    omega)
  clear hts hl8 hC8 hlp HS HD
  go_wp2_with fail
  clear x0 x1 x2 x3 x4 x5 x6 x7 x8
  refine (check_calls c A8 c8 _ (Kd.C_below HC8.out.2.1 HB1.out) HC8.out.1 HC8.out.2.2).mono ?_
  rintro e w2 ⟨rfl, hb⟩
  have HM2 := Aside0.mk ((hb.block _ (mblk_lt HM1.out)).trans HM1.out)
  have HB2 := Aside0.mk (below_step HB1.out hb)
  have HS2 := Aside0.mk (Bld.below HS1.out (Nat.le_refl _) hb)
  have HD2 := Aside0.mk (HD1.out.below hb)
  clear hb HM1 HB1 HS1 HD1
  by_cases hchk : chkW c = true
  case neg =>
    have hchk' : chkW c = false := by simpa using hchk
    have HN := Aside0.mk (show ¬ l.all chkW = true from fun h => hchk (List.all_eq_true.1 h c HMEM.out))
    rw [hchk']
    clear hchk hchk'
    go_wp2_with fail
    exact leaves_marks Ds _ HD2.out HB2.out (fun W' hb' => ⟨_, results_tmp rfl _ _ _, by unfold bytesW; rw [if_neg HN.out]; rfl, hb'⟩)
  rw [hchk]
  have HCK := Aside0.mk hchk
  clear hchk
  have hkd := chk_kind HCK.out
  have k0 : w2.cell? ⟨W.heap.size, 0, none⟩ = some (.int .i64 c.f0) := (mblk_cell HM2.out 0).trans rfl
  have hput := put_any w.heap.size w.heap.size (strOfNums (rowNums (l.take i))) c.f0.toNat w2 HS2.out (by omega) (by rw [strOfNums_size]; have := HRL.out; omega) HB2.out.size
  rw [show ((c.f0.toNat : Nat) : Int) = c.f0 by omega] at hput
  have HPUT := Aside0.mk hput
  clear hput
  go_wp2_with fail
  refine HPUT.out.mono ?_
  rintro e w3 ⟨rfl, hs, hb, hbs⟩
  have HS3 := Aside0.mk hs
  have HB3 := Aside0.mk (HB2.out.trans hb)
  have HM3 := Aside0.mk (Beside.mblk hbs HM2.out (by decide) (by omega))
  have HD3 := Aside0.mk (HD2.out.beside HS2.out hbs)
  clear hs hb hbs HS2 HB2 HM2 HD2 HPUT k0
  have k0 : w3.cell? ⟨W.heap.size, 0, none⟩ = some (.int .i64 c.f0) := (mblk_cell HM3.out 0).trans rfl
  have k1 : w3.cell? ⟨W.heap.size, 1, none⟩ = some (.int .i64 c.f1) := (mblk_cell HM3.out 1).trans rfl
  have k2 : w3.cell? ⟨W.heap.size, 2, none⟩ = some (.int .i64 c.f2) := (mblk_cell HM3.out 2).trans rfl
  have k3 : w3.cell? ⟨W.heap.size, 3, none⟩ = some (.int .i64 c.f3) := (mblk_cell HM3.out 3).trans rfl
  have k4 : w3.cell? ⟨W.heap.size, 4, none⟩ = some (.int .i64 c.f4) := (mblk_cell HM3.out 4).trans rfl
  have k5 : w3.cell? ⟨W.heap.size, 5, none⟩ = some (.int .i64 c.f5.f0) := (mblk_cell HM3.out 5).trans rfl
  have k6 : w3.cell? ⟨W.heap.size, 6, none⟩ = some (.int .i64 c.f5.f1) := (mblk_cell HM3.out 6).trans rfl
  have k7 : w3.cell? ⟨W.heap.size, 7, none⟩ = some (.bool c.f6) := (mblk_cell HM3.out 7).trans rfl
  have k8 : w3.cell? ⟨W.heap.size, 8, none⟩ = some (.slice A8 c.f7.length c8) := (mblk_cell HM3.out 8).trans rfl
  go_wp2_with fail
  refine (fields_calls c A8 c8 _ (Kd.C_below HC8.out.2.1 HB3.out) HC8.out.1 hkd.1 hkd.2 HC8.out.2.2).mono ?_
  rintro e w5 ⟨Bf, rfl, hF⟩
  clear k0 k1 k2 k3 k4 k5 k6 k7 k8
  have HS5 := Aside0.mk (Bld.below HS3.out (Nat.le_refl _) hF.k)
  have HB5 := Aside0.mk (below_step HB3.out hF.k)
  have HD5 := Aside0.mk (HD3.out.below hF.k)
  have hb3 : w.heap.size < w3.heap.size := HS3.out.lt
  have hge := hF.ge
  have hsz5 := hF.k.size
  obtain ⟨A9, cap, hbox, hcap, hCF, hAd⟩ := hF.box
  have HF8 := Aside0.mk (flds_len8 HCK.out)
  clear hF HM3 HS3 HB3 HD3
  go_wp2_with fail
  obtain ⟨ys, hym⟩ : ∃ ys : List { x : Int × Int // 0 ≤ x.1 ∧ x.1 < 4611686018427387904 }, ys.map (fun x => x.1) = flds c := ⟨(flds c).attachWith _ (fields_fine HCK.out), (List.attachWith_map_val (f := fun x => x) _).trans (List.map_id' _)⟩
  have HYM := Aside0.mk hym
  rw [← hym, List.length_map] at hbox hcap hCF
  have hyl : ys.length ≤ 19 := by have := HF8.out; rw [← hym, List.length_map] at this; exact this
  clear hym
  have hBlt := mblk_lt hbox
  have hG : ∀ k, (k = Bf ∨ ∃ ad', A9 = some ad' ∧ k = ad'.block) → w3.heap.size ≤ k ∧ k < w5.heap.size ∧ ∃ cs t, w5.heap[k]? = some (.cells cs t (0, 0)) ∧ t ≠ 5 := by
    rintro k (rfl | ⟨ad', e, rfl⟩)
    · exact ⟨hge, hBlt, _, _, hbox, by decide⟩
    · obtain ⟨h1, cs, h2⟩ := hAd ad' e
      exact ⟨h1, (Array.getElem?_eq_some_iff.1 h2).1, cs, _, h2, by decide⟩
  have HG := Aside0.mk hG
  clear hAd
  refine (wpIn_wide (n := 6)).1 ?_
  refine wpIn_rangeFunc_ownH (F := Fence.wide) (n := 6) rfl (by omega) (gf := 33) (lb := #[.pointer (some ⟨Bf, 0, none⟩)]) rfl trivial (enters_of Try.func33 (by kernel_rfl) rfl)
    (values_stops (fun x : { x : Int × Int // 0 ≤ x.1 ∧ x.1 < 4611686018427387904 } => x.1) Fence.wide 5 trivial rfl (by omega) Bf cap A9 ys (fun k => k = Bf ∨ ∃ ad', A9 = some ad' ∧ k = ad'.block) (fun ad' e => .inr ⟨ad', e, rfl⟩) w5 (fun k hk => (HG.out k hk).2.1) hBlt ((mblk_cell hbox 0).trans rfl) hCF hcap (by omega))
    (fun h k => h.trans k) (KpG.putObj (fun k hk => (HG.out k hk).2.1)) (Below.refl _ _) (fun _ => rfl)
    (fun pre W => BInv w.heap.size (fun k => k = Bf ∨ ∃ ad', A9 = some ad' ∧ k = ad'.block) (strOfNums (rowNums (l.take i)) ++ strOfNums (vnum c.f0.toNat) ++ strOfNums (vnums (pre.map fun x => x.1.1))) Ds w w5 W)
    (fun _ _ _ => False)
    (fun s X Y row hs hg hr => ⟨Bld.own hs.s hg (fun r e => (hr r e).2), ⟨Nat.le_trans hs.g.size hg.size, fun k hk => (hg.block k (Nat.lt_of_lt_of_le (HG.out k hk).2.1 hs.g.size) (fun e => by have h1 := (hr k e.symm).1; have h2 := (HG.out k hk).2.1; omega)).trans (hs.g.same k hk)⟩, hs.k.grown hg (by have := hs.g.size; omega) (fun k e => by have := (hr k e).1; omega), hs.d.keep (fun D hD => hg.block D (Array.getElem?_eq_some_iff.1 (hs.d.at_ D hD).2).1 (fun e => by have h1 := (hr D e.symm).1; have h2 := (Array.getElem?_eq_some_iff.1 (HD5.out.at_ D hD).2).1; omega))⟩)
    (fun _ _ _ _ _ hs _ _ => hs)
    ⟨by have e : strOfNums (rowNums (l.take i)) ++ strOfNums (vnum c.f0.toNat) ++ strOfNums (vnums (([] : List { x : Int × Int // 0 ≤ x.1 ∧ x.1 < 4611686018427387904 }).map fun x => x.1.1)) = strOfNums (rowNums (l.take i)) ++ strOfNums (vnum c.f0.toNat) := (by apply ByteArray.ext; simp [vnums, strOfNums]); rw [e]; exact HS5.out, KpG.refl _ _, HB5.out, HD5.out⟩
    (fun x a' W1 => ∃ Bx, w5.heap.size ≤ Bx ∧ MBlk W1 Bx 50 #[.int .i64 x.1.1, .int .i64 x.1.2] ∧ a' = { tmps := #[.slice (some ad) l.length cp, undef, .string ⟨#[]⟩, .pointer (some ⟨w.heap.size, 0, none⟩), undef, .pointer (some ⟨W.heap.size, 0, none⟩), .pointer (some ⟨Bx, 0, none⟩), .slice (some ad) l.length cp, .int .i64 l.length, .int .i64 i, .bool true, .pointer (some (ad.add (i * 9))), (.agg #[.int .i64 c.f0, .int .i64 c.f1, .int .i64 c.f2, .int .i64 c.f3, .int .i64 c.f4, .int .i64 c.f5.f0, .int .i64 c.f5.f1, .bool c.f6, .slice A8 c.f7.length c8]), (.agg #[.int .i64 c.f0, .int .i64 c.f1, .int .i64 c.f2, .int .i64 c.f3, .int .i64 c.f4, .int .i64 c.f5.f0, .int .i64 c.f5.f1, .bool c.f6, .slice A8 c.f7.length c8]), .bool true, .bool false, .pointer (some ⟨W.heap.size, 0, none⟩), .int .i64 c.f0, .tuple #[], (.agg #[.int .i64 c.f0, .int .i64 c.f1, .int .i64 c.f2, .int .i64 c.f3, .int .i64 c.f4, .int .i64 c.f5.f0, .int .i64 c.f5.f1, .bool c.f6, .slice A8 c.f7.length c8]), .func (.func 33) #[] #[.pointer (some ⟨Bf, 0, none⟩)], .agg #[.int .i64 x.1.1, .int .i64 x.1.2], u22, u23, u24, u25, undef], defers := [] })
    (fun x a' _ X Y row hs hg hr => by obtain ⟨Bx, h1, h2, h3⟩ := hs; exact ⟨Bx, h1, mblk_own h2 hg (fun r e => (hr r e).2), h3⟩)
    ?assign ?body ?done ?stop
  case assign =>
    rintro lo pre x W1 K hI hK
    have HI := Aside0.mk hI
    clear hI
    gi_wp2
    have hI := HI.out
    exact hK _ _ ((KeepsOthers.alloc _ _).from _) ⟨by simp, fun k hk => Below.heap_alloc W1 _ k (Nat.lt_of_lt_of_le (HG.out k hk).2.1 hI.g.size)⟩ ⟨hI.s.alloc _, hI.g.trans ⟨by simp, fun k hk => Below.heap_alloc W1 _ k (Nat.lt_of_lt_of_le (HG.out k hk).2.1 hI.g.size)⟩, hI.k.alloc (by have := hI.g.size; omega) _, hI.d.below (below_alloc (Below.refl _ _) _)⟩ ⟨W1.heap.size, hI.g.size, mblk_new _ _ _, rfl⟩
  case body =>
    rintro lo pre x a' W1 hll ⟨r, hrr⟩ hI ⟨Bx, hBx, bX, rfl⟩ hlen
    clear hrr
    have HI := Aside0.mk hI
    have x0 : W1.cell? ⟨Bx, 0, none⟩ = some (.int .i64 x.1.1) := (mblk_cell bX 0).trans rfl
    have hxx := x.2
    have hpl : (vnums (pre.map fun x => x.1.1)).length ≤ 9 * 19 := by
      have h1 := vnums_len (pre.map fun x => x.1.1) (fun n hn => by obtain ⟨y, _, rfl⟩ := List.mem_map.1 hn; have := y.2; omega)
      rw [List.length_map] at h1
      omega
    have hkl := vnum_len9 c.f0.toNat (by omega)
    have hput := put_any w.heap.size w.heap.size (strOfNums (rowNums (l.take i)) ++ strOfNums (vnum c.f0.toNat) ++ strOfNums (vnums (pre.map fun x => x.1.1))) x.1.1.toNat W1 hI.s (by omega) (by simp only [ByteArray.size_append, strOfNums_size]; have := HRL.out; omega) hI.k.size
    rw [show ((x.1.1.toNat : Nat) : Int) = x.1.1 by omega] at hput
    have HPUT := Aside0.mk hput
    clear hput hpl hkl hxx hI bX
    have h111 : 1 ≤ 6 - 1 - 1 := by omega
    gi_wp2_with (refine ⟨trivial, ?_⟩; gi_at_call 16; refine (CallsIn.inRound lo (callsIn_wide.2 HPUT.out)).mono ?_; rintro e W2 ⟨rfl, hs, hb, hbs⟩)
    have hI := HI.out
    have hkeep : ∀ k, (k = Bf ∨ ∃ ad', A9 = some ad' ∧ k = ad'.block) → W2.heap[k]? = W1.heap[k]? := by
      intro k hk
      obtain ⟨h1, h2, cs, t, h3, h4⟩ := HG.out k hk
      have h5 := (hI.g.same k hk).trans h3
      exact (hbs k _ h5 (fun e => by injection e with e; omega) (fun c fz e => by cases e; exact h4 rfl)).trans h5.symm
    refine ⟨⟨hb.size, fun k o hB hk ho => hbs k o hk (fun e => by injection e with e; omega) (fun c fz e => by subst e; simp [Obj.isCells] at ho)⟩, ⟨hb.size, hkeep⟩, ⟨?_, hI.g.trans ⟨hb.size, hkeep⟩, hI.k.trans hb, hI.d.beside hI.s hbs⟩⟩
    have e : strOfNums (rowNums (l.take i)) ++ strOfNums (vnum c.f0.toNat) ++ strOfNums (vnums ((pre ++ [x]).map fun x => x.1.1)) = strOfNums (rowNums (l.take i)) ++ strOfNums (vnum c.f0.toNat) ++ strOfNums (vnums (pre.map fun x => x.1.1)) ++ strOfNums (vnum x.1.1.toNat) := by
      rw [List.map_append, vnums_append, strOf_append, ByteArray.append_assoc]
      simp only [ByteArray.append_assoc]
      congr 3
      simp [vnums]
    rw [e]
    exact hs
  case done =>
    rintro D xs W1 hD rfl hI hK
    have hnot : D ∉ Ds := fun h => by
      have := (Array.getElem?_eq_some_iff.1 (HD5.out.at_ D h).2).1
      omega
    have HM := Aside0.mk (hI.d.push hnot (by omega) hK)
    have HK := Aside0.mk hI.k
    have HA2 := Aside0.mk (show (l.take (i + 1)).all chkW = true by rw [HT.out, List.all_append, HA.out]; simpa using HCK.out)
    have HS2 := Aside0.mk (show Bld w.heap.size w.heap.size (strOfNums (rowNums (l.take (i + 1)))) W1 by
      have hs := hI.s
      have e : strOfNums (rowNums (l.take (i + 1))) = strOfNums (rowNums (l.take i)) ++ strOfNums (vnum c.f0.toNat) ++ strOfNums (vnums (xs.map fun x => x.1.1)) := by
        rw [HT.out, rows_snoc, strOf_append, cmdNums, strOf_append, ← HYM.out, List.map_map, ByteArray.append_assoc]
        rfl
      rw [e]
      exact hs)
    clear hI hK hnot
    go_wp2_with fail
    have hw1 : wrap64 ((i : Int) + 1) = ((i + 1 : Nat) : Int) := by have := HL.out.1; unfold wrap64; omega
    rw [hw1]
    clear hw1
    refine ⟨⟨i + 1, D :: Ds, .pointer (some ⟨W.heap.size, 0, none⟩), u6, .bool true, .pointer (some (ad.add (i * 9))), (.agg #[.int .i64 c.f0, .int .i64 c.f1, .int .i64 c.f2, .int .i64 c.f3, .int .i64 c.f4, .int .i64 c.f5.f0, .int .i64 c.f5.f1, .bool c.f6, .slice A8 c.f7.length c8]), (.agg #[.int .i64 c.f0, .int .i64 c.f1, .int .i64 c.f2, .int .i64 c.f3, .int .i64 c.f4, .int .i64 c.f5.f0, .int .i64 c.f5.f1, .bool c.f6, .slice A8 c.f7.length c8]), .bool true, .bool false, .pointer (some ⟨W.heap.size, 0, none⟩), .int .i64 c.f0, .tuple #[], (.agg #[.int .i64 c.f0, .int .i64 c.f1, .int .i64 c.f2, .int .i64 c.f3, .int .i64 c.f4, .int .i64 c.f5.f0, .int .i64 c.f5.f1, .bool c.f6, .slice A8 c.f7.length c8]), .func (.func 33) #[] #[.pointer (some ⟨Bf, 0, none⟩)], u21, u22, u23, u24, .int .i64 ((i + 1 : Nat) : Int), rfl, hlt, HA2, HS2, HK, HM⟩, ?_⟩
    show l.length - (intOf (.int .i64 ((i + 1 : Nat) : Int))).toNat < l.length - (intOf (.int .i64 (i : Int))).toNat
    simp only [intOf]
    omega
  case stop =>
    rintro D d pre W1 _ _ h _
    exact h.elim
/-- A row of one command. -/
theorem cmd_C {W : World} {g : Nat} {c : S31} {A8 : Option Addr} {c8 : Nat} (h : MBlk W g 31 #[.int .i64 c.f0, .int .i64 c.f1, .int .i64 c.f2, .int .i64 c.f3, .int .i64 c.f4, .int .i64 c.f5.f0, .int .i64 c.f5.f1, .bool c.f6, .slice A8 c.f7.length c8]) (hC : Kd.C k67 W A8 c.f7.length c.f7) (hc : c.f7.length ≤ c8) : Kd.C k31 W (some ⟨g, 0, none⟩) [c].length [c] := by
  refine ⟨rfl, by simp, fun _ => ⟨_, rfl, fun j p hp => ?_⟩⟩
  cases j with
  | succ j => simp at hp
  | zero =>
    obtain rfl : c = p := by simpa using hp
    refine ⟨_, rfl, k31_mk W c hc hC, fun i u hi => ?_⟩
    have e : (⟨g, 0, none⟩ : Addr).add (0 * k31.sz + i) = ⟨g, i, none⟩ := by unfold Addr.add; split <;> simp_all
    rw [e, mblk_cell h]
    rw [← hi]
    simp
set_option maxHeartbeats 1000000 in
set_option maxRecDepth 100000 in
theorem size_calls (c : S31) (A8 : Option Addr) (c8 : Nat) (w : World) (hC : Kd.C k67 w A8 c.f7.length c.f7) (hc8 : c.f7.length ≤ c8) (hl : c.f7.length ≤ 100000) :
    Calls Try.prog 10 #[cmdV c A8 c8] w fun e w' => e = .returned (.int .i64 ((bytesW [c]).size : Int)) ∧ Below w.heap.size w w' := by
  have HC := Aside0.mk hC
  have HC8 := Aside0.mk (And.intro hc8 hl)
  clear hC hc8 hl
  have hs1 : (w.alloc (.cells #[.int .i64 c.f0, .int .i64 c.f1, .int .i64 c.f2, .int .i64 c.f3, .int .i64 c.f4, .int .i64 c.f5.f0, .int .i64 c.f5.f1, .bool c.f6, .slice A8 c.f7.length c8] 31)).heap.size = w.heap.size + 1 := by simp
  have HM := Aside0.mk (show MBlk ((w.alloc (.cells #[.int .i64 c.f0, .int .i64 c.f1, .int .i64 c.f2, .int .i64 c.f3, .int .i64 c.f4, .int .i64 c.f5.f0, .int .i64 c.f5.f1, .bool c.f6, .slice A8 c.f7.length c8] 31)).alloc (.cells #[.int .i64 c.f0, .int .i64 c.f1, .int .i64 c.f2, .int .i64 c.f3, .int .i64 c.f4, .int .i64 c.f5.f0, .int .i64 c.f5.f1, .bool c.f6, .slice A8 c.f7.length c8] 31)) (w.heap.size + 1) 31 #[.int .i64 c.f0, .int .i64 c.f1, .int .i64 c.f2, .int .i64 c.f3, .int .i64 c.f4, .int .i64 c.f5.f0, .int .i64 c.f5.f1, .bool c.f6, .slice A8 c.f7.length c8] by rw [← hs1]; exact mblk_new _ _ _)
  have HB := Aside0.mk (below_alloc (below_alloc (Below.refl w.heap.size w) (.cells #[.int .i64 c.f0, .int .i64 c.f1, .int .i64 c.f2, .int .i64 c.f3, .int .i64 c.f4, .int .i64 c.f5.f0, .int .i64 c.f5.f1, .bool c.f6, .slice A8 c.f7.length c8] 31)) (.cells #[.int .i64 c.f0, .int .i64 c.f1, .int .i64 c.f2, .int .i64 c.f3, .int .i64 c.f4, .int .i64 c.f5.f0, .int .i64 c.f5.f1, .bool c.f6, .slice A8 c.f7.length c8] 31))
  clear hs1
  unfold cmdV
  go_enter Try.func10, Try.ntmps10
  go_wp2_with fail
  refine (bytes_calls [c] (some ⟨w.heap.size + 1, 0, none⟩) 1 _ (cmd_C HM.out (Kd.C_below HC.out HB.out) HC8.out.1) (Nat.le_refl _) (by simp) (by intro d hd; rw [List.mem_singleton.1 hd]; exact HC8.out.2)).mono ?_
  rintro e w2 ⟨rfl, hb⟩
  have HB2 := Aside0.mk (below_step HB.out hb)
  clear hb
  go_wp2_with fail
  go_ret
  exact ⟨rfl, HB2.out⟩
end Go.Proofs.Ytfcoaneffdddkaa.XBytes

/- The words and walks that the law QuotaPath is proved by, part 5: each text in a section of its own. -/
import Derived.Test.YtfldklimlcnnnaaQP4
import Derived.Maps.OwnIn
import Derived.Deep.RegionHeld3
import Derived.Deep.RegionLaw
import Derived.WalkMore
set_option linter.unusedVariables false
set_option linter.unusedSimpArgs false
section
namespace Go.Proofs.Ytfldklimlcnnnaa.XRowP
open Go.RowKit Go.Proofs.Ytfldklimlcnnnaa.PHq Go.Proofs.YtfldklimlcnnnaaW.PrintWords Go.Proofs.YtfldklimlcnnnaaW.PrintLast Go.Proofs.YtfldklimlcnnnaaW.PrintMore Go.Proofs.Ytfldklimlcnnnaa.MWords
open Go.Proofs.Ytfldklimlcnnnaa.XRV Go.Proofs.Ytfldklimlcnnnaa.XLed Go.Proofs.Ytfldklimlcnnnaa.XTree
def NoU (u : Value) : Prop := ∀ n, u ≠ .int .u32 n
structure VRow (W : World) (base : Nat) (e : TypeId) (v : Value) (xs : List Value) : Prop where
 own : W.ownsRow base e 1 v xs.length xs
 nl : ∀ k cs, v.ownBlock = some k → W.heap[k]? = some (.cells cs e (0, 0)) → ∀ u ∈ cs.toList, NoU u
theorem VRow.nil (W : World) (base : Nat) (e : TypeId) : VRow W base e (.slice none 0 0) [] := ⟨World.ownsRow_nil W base e 1, fun k cs h => by simp [Value.ownBlock] at h⟩
theorem VRow.shape {W : World} {base : Nat} {e : TypeId} {v : Value} {xs : List Value} (h : VRow W base e v xs) : ∃ A c, v = .slice A xs.length c ∧ xs.length ≤ c := by
 rcases h.own.2 with ⟨rfl, h0⟩ | ⟨g, cap, cur, rfl, _, _, h1, _⟩
 ·exact ⟨none, 0, by rw [h0], by omega⟩
 ·exact ⟨_, _, rfl, h1⟩
theorem VRow.typed {W : World} {base : Nat} {e : TypeId} {v : Value} {xs : List Value} (h : VRow W base e v xs) : ∀ k, v.ownBlock = some k → base ≤ k ∧ ∃ cs, W.heap[k]? = some (.cells cs e (0, 0)) := by
 intro k hk
 rcases h.own.2 with ⟨rfl, h0⟩ | ⟨g, cap, cur, rfl, hb, hg, h1, _⟩
 ·simp [Value.ownBlock] at hk
 ·obtain rfl : g = k := by simpa [Value.ownBlock] using hk
  exact ⟨hb, _, hg⟩
theorem VRow.noLimb {W : World} {base : Nat} {e : TypeId} {v : Value} {xs : List Value} (h : VRow W base e v xs) {k : Nat} (hk : v.ownBlock = some k) : NoLimb W k := by
 obtain ⟨_, cs, hc⟩ := h.typed k hk
 intro p hp n hcell
 unfold World.cell? at hcell
 rw [hp, hc] at hcell
 simp only at hcell
 split at hcell
 ·cases hcell
 ·have := Array.mem_of_getElem? hcell
  exact h.nl k cs hk hc _ (by simpa using this) n rfl
theorem VRow.same {W W' : World} {base : Nat} {e : TypeId} {v : Value} {xs : List Value} (h : VRow W base e v xs) (hs : ∀ k cs, v.ownBlock = some k → W.heap[k]? = some (.cells cs e (0, 0)) → W'.heap[k]? = W.heap[k]?) : VRow W' base e v xs := by
 refine ⟨⟨h.own.1, ?_⟩, fun k cs hk hc u hu => ?_⟩
 ·rcases h.own.2 with h0 | ⟨g, cap, cur, rfl, hb, hg, r⟩
  ·exact .inl h0
  ·exact .inr ⟨g, cap, cur, rfl, hb, (hs g cur rfl hg).trans hg, r⟩
 ·obtain ⟨_, cs', hc'⟩ := h.typed k hk
  have := (hs k cs' hk hc').trans hc'
  rw [hc] at this
  cases this
  exact h.nl k cs hk hc' u hu
theorem VRow.cell {W : World} {base : Nat} {e : TypeId} {v : Value} {xs : List Value} (h : VRow W base e v xs) {A : Option Addr} {n c : Nat} (hv : v = .slice A n c) (i : Nat) (hi : i < xs.length) : ∃ ad, A = some ad ∧ W.cell? (ad.add i) = some xs[i] := by
 have hl := h.own.1
 rcases h.own.2 with ⟨e, h0⟩ | ⟨g, cap, cur, e, hb, hg, h1, h2, h3, h4⟩
 ·omega
 ·rw [hv] at e
  injection e with e1 e2 e3
  refine ⟨⟨g, 0, none⟩, e1, ?_⟩
  have hc : cur[i]? = some xs[i] := by
   have h5 : (cur.toList.take (xs.length * 1))[i]? = some xs[i] := by
    have : (cur.toList.take (xs.length * 1))[i]? = xs[i]? := by rw [h4]
    rw [this, List.getElem?_eq_getElem hi]
   rw [List.getElem?_take, if_pos (by omega)] at h5
   simpa using h5
  have e0 : (⟨g, 0, none⟩ : Addr).add i = ⟨g, i, none⟩ := by
   unfold Addr.add
   split
   ·rename_i h; simp [h]
   ·simp
  rw [e0]
  simp [World.cell?, hg, hc]
theorem mem_zero {z : Value} (hz : z.cells = #[z]) {n : Nat} {u : Value} (h : u ∈ (Builtin.zeroCells z.cells n).toList) : u = z := by
 unfold Builtin.zeroCells at h
 rw [hz] at h
 simp at h
 obtain ⟨i, _, rfl⟩ := h
 have : i % 1 = 0 := Nat.mod_one i
 simp [this]
theorem run_append_v {P : Program} (w : World) (base : Nat) (t ty e : TypeId) (i : TypeInfo) (z : Value) (bytes : Nat) (ht : P.underlying t = some (.slice e)) (hi : P.info? e = some i) (hz : i.zero = some z)
  (hsize : i.size = 1) (hby : i.bytes = bytes) (hz1 : z.cells = #[z]) (hzn : NoU z) (v : Value) (xs : List Value) (h : VRow w base e v xs) (a : Addr) (c : Nat) (x : Value) (hx : w.cell? a = some x) (hx1 : x.oneCell' = true) (hxn : NoU x)
  (hbytes : (xs.length + 1) * bytes ≤ 140737488355328) (hlen : xs.length + 1 ≤ 1000000) (hbase : base ≤ w.heap.size) :
  ∃ v' w', (Builtin.append_ #[t, t] ty #[v, .slice (some a) 1 c]).run P w = .ok v' w' ∧ VRow w' base e v' (xs ++ [x]) ∧ w.grownBy w' v.ownBlock := by
 have hnews : ∀ j u, [x][j]? = some u → w.cell? (a.add j) = some u := by
  intro j u hj
  match j, hj with
  | 0, hj =>
   have : u = x := (Option.some.inj hj).symm
   subst this
   have e0 : a.add 0 = a := by unfold Addr.add; simp
   rw [e0]; exact hx
  | j + 1, hj => simp at hj
 have h1 : ∀ u ∈ [x], u.oneCell' = true := fun u hu => by rw [List.mem_singleton.1 hu]; exact hx1
 have hmx : xs.length + 1 ≤ maxLen := by simp only [maxLen]; omega
 obtain ⟨v', w', hr, h2, h3, h4⟩ := run_append_own (P := P) w base t ty e i z 1 bytes ht hi hz hsize hby (by rw [hz1]; rfl) (by omega) v xs.length xs h.own a 1 c [x] rfl hnews h1 hmx hbytes hbase
 have h2' : w'.ownsRow base e 1 v' (xs ++ [x]).length (xs ++ [x]) := by rw [List.length_append]; exact h2
 refine ⟨v', w', hr, ⟨h2', ?_⟩, h3⟩
 rcases h.own.2 with ⟨rfl, h0⟩ | ⟨g, cap, cur, rfl, hbg, hg, hnc, hcm, hcs, htake⟩
 ·have hr2 := run_append_nil (P := P) w t ty e i z ht hi hz a 1 c [x] (by rw [hsize]; rfl) hnews (by omega) (by omega) (by rw [hby]; rw [h0] at hbytes; omega)
  rw [hr] at hr2
  injection hr2 with e1 e2
  subst e1; subst e2
  intro k cs hk hc u hu
  obtain rfl : w.heap.size = k := by simpa [Value.ownBlock] using hk
  have hn := heap_alloc_new w.drew (.cells ([x].toArray ++ Builtin.zeroCells z.cells (grownCap w 1 0 e - 1)) e)
  have : cs = [x].toArray ++ Builtin.zeroCells z.cells (grownCap w 1 0 e - 1) := by
   have := hn.symm.trans hc
   injection this with this
   injection this with this
   exact this.symm
  rw [this, Array.toList_append, List.mem_append] at hu
  rcases hu with hu | hu
  ·have : u = x := by simpa using hu
   rw [this]; exact hxn
  ·rw [mem_zero hz1 hu]; exact hzn
 ·by_cases hroom : xs.length + 1 ≤ cap
  ·have hr2 := run_append_room (P := P) w t ty e i ht hi g xs.length cap cur hg a 1 c [x] (by rw [hsize]; rfl) hnews h1 hroom (by rw [hsize, hcs]; simp; omega)
   rw [hr] at hr2
   injection hr2 with e1 e2
   subst e1; subst e2
   intro k cs hk hc u hu
   obtain rfl : g = k := by simpa [Value.ownBlock] using hk
   rw [setRow_heap w g cur _ e _ hg] at hc
   have hc' := Option.some.inj hc
   injection hc' with hc'
   rw [← hc'] at hu
   simp only [List.mem_append] at hu
   rcases hu with (hu | hu) | hu
   ·exact h.nl g cur rfl hg u (List.mem_of_mem_take hu)
   ·rw [List.mem_singleton.1 hu]; exact hxn
   ·exact h.nl g cur rfl hg u (List.mem_of_mem_drop hu)
  ·have holds : ∀ j u, xs[j]? = some u → w.cell? ((⟨g, 0, none⟩ : Addr).add j) = some u := h.own.cells (g := g) rfl
   have hr2 := run_append_grow (P := P) w t ty e i z ht hi hz ⟨g, 0, none⟩ xs.length cap xs (by rw [hsize]; omega) holds a 1 c [x] (by rw [hsize]; rfl) hnews (by omega) (by omega) (by rw [hby]; exact growslice_fits (by omega) hbytes)
   rw [hr] at hr2
   injection hr2 with e1 e2
   subst e1; subst e2
   intro k cs hk hc u hu
   obtain rfl : w.heap.size = k := by simpa [Value.ownBlock] using hk
   have hn := heap_alloc_new w.drew (.cells (xs.toArray ++ [x].toArray ++ Builtin.zeroCells z.cells (grownCap w (xs.length + 1) cap e - (xs.length + 1))) e)
   have : cs = xs.toArray ++ [x].toArray ++ Builtin.zeroCells z.cells (grownCap w (xs.length + 1) cap e - (xs.length + 1)) := by
    have := hn.symm.trans hc
    injection this with this
    injection this with this
    exact this.symm
   rw [this, Array.toList_append, Array.toList_append, List.mem_append, List.mem_append] at hu
   rcases hu with (hu | hu) | hu
   ·have hm : u ∈ cur.toList := by
     have h5 : u ∈ xs := by simpa using hu
     rw [← htake] at h5
     exact List.mem_of_mem_take h5
    exact h.nl g cur rfl hg u hm
   ·have : u = x := by simpa using hu
    rw [this]; exact hxn
   ·rw [mem_zero hz1 hu]; exact hzn
section
variable {F : Fence} {n : Nat} {P : Program} {ops : Array Oper} {rest : List Oper} {o : Oper} {a : Act} {Q : Exit → Act → World → Prop}
theorem appendV {W : World} (base : Nat) (hgd : o.guard = none) (s x : Operand) (t e : TypeId) (z : Value) (bytes : Nat)
  (ho : o.op = .call { callee := .builtin .append, args := #[s, x], argTypes := #[t, t] }) (ht : P.underlying t = some (.slice e))
  (hinfo : (P.info? e).map (fun i => (i.zero, i.size, i.bytes)) = some (some z, 1, bytes)) (hz : z.cells = #[z]) (hzn : NoU z)
  (v : Value) (xs : List Value) (p : Value) (hs : a.eval s = v) (hx : a.eval x = .slice (some ⟨W.heap.size, 0, none⟩) 1 1) (hp1 : p.oneCell' = true) (hpn : NoU p)
  (HO : VRow W base e v xs) (hbase : base ≤ W.heap.size) (hl : (xs.length + 1) * bytes ≤ 140737488355328) (hlen : xs.length + 1 ≤ 1000000)
  (h : ∀ v1 w1, VRow w1 base e v1 (xs ++ [p]) → W.grownBy w1 v.ownBlock → wpListIn F n P ops Q rest (a.put o.dst v1) w1) :
  wpListIn F n P ops Q (o :: rest) a (W.alloc (.cells #[p] e)) := by
 obtain ⟨i, hi, hi'⟩ := Option.map_eq_some_iff.1 hinfo
 obtain ⟨i1, i2⟩ := Prod.mk.inj hi'
 obtain ⟨i2, i3⟩ := Prod.mk.inj i2
 have hV : VRow (W.alloc (.cells #[p] e)) base e v xs := HO.same (fun k cs _ hc => Below.heap_alloc W _ k (Array.getElem?_eq_some_iff.1 hc).1)
 have hc : (W.alloc (.cells #[p] e)).cell? ⟨W.heap.size, 0, none⟩ = some p := by
  exact (mblk_cell (mblk_new W e #[p]) 0).trans rfl
 obtain ⟨v1, w1, hr, h1, h2⟩ := run_append_v (P := P) (W.alloc (.cells #[p] e)) base t o.type e i z bytes ht hi i1 i2 i3 hz hzn v xs hV ⟨W.heap.size, 0, none⟩ 1 p hc hp1 hpn hl hlen (by simp; omega)
 refine wpListIn_plain hgd fun K hK => ?_
 unfold Oper.wpIn
 refine ⟨by simp [Oper.about, ho, resolve, Target.leads, Sem.run_pure], ?_⟩
 rw [Oper.semAt_plain F _ _ (by rw [ho]; intro c hc'; cases hc')]
 simp [execOp, ho, resolve, invoke, builtin, hs, hx, hr, Result.andThen]
 exact hK _ _ (h v1 w1 h1 (World.grownBy.trans (World.grownBy_alloc W (.cells #[p] e) v.ownBlock) h2))
end
section
variable {P : Program} {ops : Array Oper} {o : Oper} {a : Act} {Kc : Act → World → Prop} {Q : Exit → Act → World → Prop}
theorem V_append_step {W : World} (base : Nat) (hw : Region.wanted o (yielded ops a.tmps) = true) (s x : Operand) (t e : TypeId) (z : Value) (bytes : Nat)
  (ho : o.op = .call { callee := .builtin .append, args := #[s, x], argTypes := #[t, t] }) (ht : P.underlying t = some (.slice e))
  (hinfo : (P.info? e).map (fun i => (i.zero, i.size, i.bytes)) = some (some z, 1, bytes)) (hz : z.cells = #[z]) (hzn : NoU z)
  (v : Value) (xs : List Value) (p : Value) (hs : a.eval s = v) (hx : a.eval x = .slice (some ⟨W.heap.size, 0, none⟩) 1 1) (hp1 : p.oneCell' = true) (hpn : NoU p)
  (HO : VRow W base e v xs) (hbase : base ≤ W.heap.size) (hl : (xs.length + 1) * bytes ≤ 140737488355328) (hlen : xs.length + 1 ≤ 1000000)
  (h : ∀ v1 w1, VRow w1 base e v1 (xs ++ [p]) → W.grownBy w1 v.ownBlock → Kc (a.put o.dst v1) w1) :
  if Region.wanted o (yielded ops a.tmps) = true then Oper.wp P o a (W.alloc (.cells #[p] e)) Kc Q else Kc (a.put o.dst undef) (W.alloc (.cells #[p] e)) := by
 rw [if_pos hw]
 obtain ⟨i, hi, hi'⟩ := Option.map_eq_some_iff.1 hinfo
 obtain ⟨i1, i2⟩ := Prod.mk.inj hi'
 obtain ⟨i2, i3⟩ := Prod.mk.inj i2
 have hV : VRow (W.alloc (.cells #[p] e)) base e v xs := HO.same (fun k cs _ hc => Below.heap_alloc W _ k (Array.getElem?_eq_some_iff.1 hc).1)
 have hc : (W.alloc (.cells #[p] e)).cell? ⟨W.heap.size, 0, none⟩ = some p := (mblk_cell (mblk_new W e #[p]) 0).trans rfl
 obtain ⟨v1, w1, hr, h1, h2⟩ := run_append_v (P := P) (W.alloc (.cells #[p] e)) base t o.type e i z bytes ht hi i1 i2 i3 hz hzn v xs hV ⟨W.heap.size, 0, none⟩ 1 p hc hp1 hpn hl hlen (by simp; omega)
 unfold Oper.wp execOp
 simp only [ho, resolve, invoke, builtin, Sem.run_bind, Sem.run_pure, Result.andThen_ok, List.map_toArray, List.map_cons, List.map_nil, hs, hx, hr]
 exact h v1 w1 h1 (World.grownBy.trans (World.grownBy_alloc W (.cells #[p] e) v.ownBlock) h2)
end
end Go.Proofs.Ytfldklimlcnnnaa.XRowP
end

section
namespace Go.Proofs.Ytfldklimlcnnnaa.XAllW
open Go.RowKit Go.Proofs.Ytfldklimlcnnnaa.PHq Go.Proofs.YtfldklimlcnnnaaW.PrintWords Go.Proofs.YtfldklimlcnnnaaW.PrintLast Go.Proofs.YtfldklimlcnnnaaW.PrintMore Go.Proofs.Ytfldklimlcnnnaa.MWords
open Go.Proofs.Ytfldklimlcnnnaa.MNat Go.Proofs.Ytfldklimlcnnnaa.XRV Go.Proofs.Ytfldklimlcnnnaa.XHold Go.Proofs.Ytfldklimlcnnnaa.XLed Go.Proofs.Ytfldklimlcnnnaa.XTree Go.Proofs.Ytfldklimlcnnnaa.QTree Go.Proofs.Ytfldklimlcnnnaa.XPath Go.Proofs.Ytfldklimlcnnnaa.XOf Go.Proofs.Ytfldklimlcnnnaa.XCollect Go.Proofs.Ytfldklimlcnnnaa.XRowP
def ptrs (g : Int → Nat) (l : List Int) : List Value := l.map fun s => .pointer (some ⟨g s, 0, none⟩)
theorem ptrs_len (g : Int → Nat) (l : List Int) : (ptrs g l).length = l.length := by simp [ptrs]
def stp (A : Rat → List (Int × Hd) → List (Int × Hd)) (al : Int → Rat) (ls : Int → List (Int × Hd)) (pre : List Int) : Int → List (Int × Hd) := fun x => if x ∈ pre then A (al x) (ls x) else ls x
theorem stp_nil (A : Rat → List (Int × Hd) → List (Int × Hd)) (al : Int → Rat) (ls : Int → List (Int × Hd)) : stp A al ls [] = ls := by
 funext x; unfold stp; simp
theorem stp_other {A : Rat → List (Int × Hd) → List (Int × Hd)} {al : Int → Rat} {ls : Int → List (Int × Hd)} {pre : List Int} {x : Int} (h : x ∉ pre) : stp A al ls pre x = ls x := if_neg h
theorem stp_snoc {A : Rat → List (Int × Hd) → List (Int × Hd)} {al : Int → Rat} {ls : Int → List (Int × Hd)} {pre : List Int} {x : Int} (h : x ∉ pre) : upd (stp A al ls pre) x (A (al x) (ls x)) = stp A al ls (pre ++ [x]) := by
 funext y
 unfold upd stp
 by_cases e : y = x
 ·subst e
  rw [if_pos rfl, if_pos (by simp)]
 ·rw [if_neg e]
  by_cases hy : y ∈ pre
  ·rw [if_pos hy, if_pos (by simp [hy])]
  ·rw [if_neg hy, if_neg (by simp [hy, e])]
def OkB (bx : List (Nat × TypeId × Array Value)) (W : World) : Prop := ∀ x ∈ bx, MBlk W x.1 x.2.1 x.2.2
def LedCall (f : Nat) (args : Value → Array Value) (bx : List (Nat × TypeId × Array Value)) (E : Rat → List (Int × Hd) → Int) (A : Rat → List (Int × Hd) → List (Int × Hd)) (Pre : Rat → List (Int × Hd) → Prop) : Prop :=
 ∀ (g b : Nat) (all : Rat) (l : List (Int × Hd)) (W : World), OkB bx W → Led W g b all (heldL l) l → Pre all l →
  Calls Try.prog f (args (.pointer (some ⟨g, 0, none⟩))) W fun e w' => e = .returned (.int .i64 (E all l)) ∧ Led w' g b all (heldL (A all l)) (A all l) ∧ Kp g b W w'
section
variable {w W W' : World} {M : Tm} {sv : List S71} {at_ : List (Int × Int)} {al : Int → Rat} {ls ls2 : Int → List (Int × Hd)} {bx : List (Nat × TypeId × Array Value)} {ask : Value} {e : Int} {pre : List Int}
structure AInv (w : World) (M : Tm) (sv : List S71) (at_ : List (Int × Int)) (al : Int → Rat) (bx : List (Nat × TypeId × Array Value)) (ask : Value) (ls2 : Int → List (Int × Hd)) (e : Int) (pre : List Int) (W : World) : Prop where
 tre : Tre W M sv at_ al ls2
 tb : MBlk W w.heap.size 67 #[.pointer (some ⟨M.t, 0, none⟩)]
 kb : MBlk W (w.heap.size + 1) 126 #[ask]
 row : ∃ A c, MBlk W (w.heap.size + 2) 117 #[.slice A pre.length c] ∧ VRow W (w.heap.size + 6) 24 (.slice A pre.length c) (ptrs M.g pre)
 bad : MBlk W (w.heap.size + 3) 31 #[.int .i64 e]
 pb : MBlk W (w.heap.size + 4) 67 #[.pointer (some ⟨M.t, 0, none⟩)]
 ok : OkB bx W
 kt : Kt M sv.length w W
theorem mblk_stay (h : Tre W M sv at_ al ls) (hk : Kt M sv.length W W') {k : Nat} {cs : Array Value} {T : TypeId} (hb : MBlk W k T cs) (hT : T ≠ 97) : MBlk W' k T cs := h.stay hk hb hT
theorem row_stay (h : Tre W M sv at_ al ls) (hk : Kt M sv.length W W') {base : Nat} {v : Value} {xs : List Value} (hr : VRow W base 24 v xs) : VRow W' base 24 v xs :=
 hr.same fun k cs _ hc => (h.stay hk hc (by decide)).trans hc.symm
theorem row_box {base : Nat} {v u : Value} {xs : List Value} {k i : Nat} {T : TypeId} {cs : Array Value} (hb : MBlk W k T cs) (hT : T ≠ 24) (hr : VRow W base 24 v xs) : VRow (W.setCell ⟨k, i, none⟩ u) base 24 v xs :=
 hr.same fun j cs _ hc => Below.heap_setCell _ ⟨k, i, none⟩ _ j (fun e => by
  have e' : j = k := e
  subst e'
  rw [show W.heap[j]? = _ from hb] at hc
  cases hc
  exact hT rfl)
theorem noLimb_one {X : World} {k : Nat} {t : TypeId} {v : Value} (hG : MBlk X k t #[v]) (hv : ∀ n, v ≠ .int .u32 n) : NoLimb X k := by
 intro p hp n hc
 unfold World.cell? at hc
 rw [hp, show X.heap[k]? = _ from hG] at hc
 simp only at hc
 split at hc
 ·cases hc
 ·match ho : p.off, hc with
  | 0, hc => exact hv n (by simpa using hc)
  | k + 1, hc => simp at hc
theorem AInv.of_kt (h : AInv w M sv at_ al bx ask ls2 e pre W) (hbx : ∀ x ∈ bx, x.2.1 ≠ 97) (hk : Kt M sv.length W W') {ls3 : Int → List (Int × Hd)} (ht : Tre W' M sv at_ al ls3) : AInv w M sv at_ al bx ask ls3 e pre W' where
 tre := ht
 tb := mblk_stay h.tre hk h.tb (by decide)
 kb := mblk_stay h.tre hk h.kb (by decide)
 row := by
  obtain ⟨A, c, h1, h2⟩ := h.row
  exact ⟨A, c, mblk_stay h.tre hk h1 (by decide), row_stay h.tre hk h2⟩
 bad := mblk_stay h.tre hk h.bad (by decide)
 pb := mblk_stay h.tre hk h.pb (by decide)
 ok := fun x hx => mblk_stay h.tre hk (h.ok x hx) (hbx x hx)
 kt := h.kt.trans hk
theorem AInv.below (h : AInv w M sv at_ al bx ask ls2 e pre W) (hbx : ∀ x ∈ bx, x.2.1 ≠ 97) (hb : Below W.heap.size W W') : AInv w M sv at_ al bx ask ls2 e pre W' := h.of_kt hbx (Kt.of hb) (h.tre.below hb)
theorem AInv.kp (h : AInv w M sv at_ al bx ask ls2 e pre W) (hbx : ∀ x ∈ bx, x.2.1 ≠ 97) {s : Int} {l' : List (Int × Hd)} (hs : inR sv.length s) (hk : Kp (M.g s) (M.b s) W W') (hl : Led W' (M.g s) (M.b s) (al s) (heldL l') l') : AInv w M sv at_ al bx ask (upd ls2 s l') e pre W' :=
 h.of_kt hbx (Kt.kp hs hk) (h.tre.kp hs hk hl)
theorem AInv.far (h : AInv w M sv at_ al bx ask ls2 e pre W) (h0 : Tre w M sv at_ al ls) {k : Nat} (hk : w.heap.size ≤ k) : ¬ M.own sv.length k ∧ ¬ M.wr sv.length k :=
 ⟨fun c => by have := h0.own_lt c; omega, fun c => by have := h0.wr_lt c; omega⟩
theorem kt_box {n : Nat} {k i : Nat} {v : Value} (h : Kt M n w W) (hk : w.heap.size ≤ k) : Kt M n w (W.setCell ⟨k, i, none⟩ v) :=
 ⟨by simp [World.setCell]; exact h.os, by simp [World.setCell]; exact h.tape, by simp [World.setCell]; exact h.output, by have := h.size; simp [World.setCell]; exact this, fun j hj hn => (Below.heap_setCell _ ⟨k, i, none⟩ _ j (by show j ≠ k; omega)).trans (h.same j hj hn)⟩
theorem AInv.bad_ (h : AInv w M sv at_ al bx ask ls2 e pre W) (h0 : Tre w M sv at_ al ls) (hbx : ∀ x ∈ bx, x.1 < w.heap.size) (e' : Int) : AInv w M sv at_ al bx ask ls2 e' pre (W.setCell ⟨w.heap.size + 3, 0, none⟩ (.int .i64 e')) where
 tre := h.tre.box (h.far h0 (by omega)).1 (h.far h0 (by omega)).2 (noLimb_one h.bad (fun n => by simp))
 tb := mblk_far h.tb (p := ⟨w.heap.size + 3, 0, none⟩) (by show w.heap.size ≠ w.heap.size + 3; omega) _
 kb := mblk_far h.kb (p := ⟨w.heap.size + 3, 0, none⟩) (by show w.heap.size + 1 ≠ w.heap.size + 3; omega) _
 row := by
  obtain ⟨A, c, h1, h2⟩ := h.row
  exact ⟨A, c, mblk_far h1 (p := ⟨w.heap.size + 3, 0, none⟩) (by show w.heap.size + 2 ≠ w.heap.size + 3; omega) _, row_box h.bad (by decide) h2⟩
 bad := mblk_set h.bad 0 _
 pb := mblk_far h.pb (p := ⟨w.heap.size + 3, 0, none⟩) (by show w.heap.size + 4 ≠ w.heap.size + 3; omega) _
 ok := fun x hx => mblk_far (h.ok x hx) (p := ⟨w.heap.size + 3, 0, none⟩) (by have := hbx x hx; show x.1 ≠ w.heap.size + 3; omega) _
 kt := kt_box h.kt (by omega)
theorem AInv.own (h0 : Tre w M sv at_ al ls) (hbx : ∀ x ∈ bx, x.2.1 ≠ 97) {B : Nat} (hB : w.heap.size ≤ B) {X Y : World} {row : Option Nat} (h : AInv w M sv at_ al bx ask ls2 e pre X) (hg : X.grownBy Y row) (hr : ∀ r, row = some r → B ≤ r ∧ ∃ o : Obj, X.heap[r]? = some o ∧ o.isCells = false) : AInv w M sv at_ al bx ask ls2 e pre Y := by
 have hr' : ∀ r, row = some r → ∃ o : Obj, X.heap[r]? = some o ∧ o.isCells = false := fun r e => (hr r e).2
 refine ⟨h.tre.near (fun k hk hc => hg.block k hk (fun e => ?_)), mblk_walk h.tb hg hr', mblk_walk h.kb hg hr', ?_, mblk_walk h.bad hg hr', mblk_walk h.pb hg hr', fun x hx => mblk_walk (h.ok x hx) hg hr', ?_⟩
 ·obtain ⟨h1, o, ho, hn⟩ := hr k e.symm
  rcases hc with c | c | c
  ·have := h0.own_lt c; omega
  ·have := h0.wr_lt c; omega
  ·refine c fun p hp n hc => ?_
   unfold World.cell? at hc
   rw [hp, ho] at hc
   cases o <;> simp_all [Obj.isCells]
 ·obtain ⟨A, c, h1, h2⟩ := h.row
  exact ⟨A, c, mblk_walk h1 hg hr', h2.same fun k cs _ hc => hg.block k (Array.getElem?_eq_some_iff.1 hc).1 (fun e => by
   obtain ⟨o, ho, hn⟩ := hr' k e.symm
   rw [hc] at ho
   cases ho
   cases hn)⟩
 ·exact ⟨hg.os.trans h.kt.os, hg.tape.trans h.kt.tape, hg.output.trans h.kt.output, Nat.le_trans h.kt.size hg.size, fun k hk hn => (hg.block k (Nat.lt_of_lt_of_le hk h.kt.size) (fun e => by have := (hr k e.symm).1; omega)).trans (h.kt.same k hk hn)⟩
theorem AInv.app (h : AInv w M sv at_ al bx ask ls2 e pre W) (h0 : Tre w M sv at_ al ls) (hbx : ∀ x ∈ bx, x.1 < w.heap.size) {A A2 : Option Addr} {c c2 : Nat} {w2 : World} {s : Int} (hm : MBlk W (w.heap.size + 2) 117 #[.slice A pre.length c]) (hv : VRow W (w.heap.size + 6) 24 (.slice A pre.length c) (ptrs M.g pre))
  (hr : VRow w2 (w.heap.size + 6) 24 (.slice A2 (pre ++ [s]).length c2) (ptrs M.g (pre ++ [s]))) (hg : W.grownBy w2 (Value.slice A pre.length c).ownBlock) :
  AInv w M sv at_ al bx ask ls2 e (pre ++ [s]) (w2.setCell ⟨w.heap.size + 2, 0, none⟩ (.slice A2 (pre ++ [s]).length c2)) := by
 have hno : ∀ k, (Value.slice A pre.length c).ownBlock = some k → w.heap.size + 6 ≤ k := fun k hk => (hv.typed k hk).1
 have hb : ∀ {k : Nat} {cs : Array Value} {T : TypeId}, k < w.heap.size + 6 → MBlk W k T cs → MBlk w2 k T cs := fun hk hm => (hg.block _ (mblk_lt hm) (fun e => by have := hno _ e.symm; omega)).trans hm
 have hm2 := hb (by omega) hm
 have ht : Tre w2 M sv at_ al ls2 := h.tre.near fun k hk hc => hg.block k hk (fun e => by
  have h1 := hno k e.symm
  rcases hc with c | c | c
  ·have := h0.own_lt c; omega
  ·have := h0.wr_lt c; omega
  ·exact c (hv.noLimb e.symm))
 have hne : ∀ k, k ≠ w.heap.size + 2 → (w2.setCell ⟨w.heap.size + 2, 0, none⟩ (.slice A2 (pre ++ [s]).length c2)).heap[k]? = w2.heap[k]? := fun k hk => Below.heap_setCell _ ⟨w.heap.size + 2, 0, none⟩ _ k hk
 refine ⟨ht.near (fun k _ hc => hne k (fun e => ?_)), (hne _ (by omega)).trans (hb (by omega) h.tb), (hne _ (by omega)).trans (hb (by omega) h.kb), ⟨A2, c2, mblk_set hm2 0 _, row_box hm2 (by decide) hr⟩, (hne _ (by omega)).trans (hb (by omega) h.bad), (hne _ (by omega)).trans (hb (by omega) h.pb), fun x hx => (hne _ (by have := hbx x hx; omega)).trans (hb (by have := hbx x hx; omega) (h.ok x hx)), ?_⟩
 ·rcases hc with c | c | c
  ·have := h0.own_lt c; omega
  ·have := h0.wr_lt c; omega
  ·rw [e] at c
   exact c (noLimb_one hm2 (fun n => by simp))
 ·refine kt_box ⟨hg.os.trans h.kt.os, hg.tape.trans h.kt.tape, hg.output.trans h.kt.output, Nat.le_trans h.kt.size hg.size, fun k hk hn => (hg.block k (Nat.lt_of_lt_of_le hk h.kt.size) (fun e => by have := hno k e.symm; omega)).trans (h.kt.same k hk hn)⟩ (by omega)
theorem ainv_kq (h0 : Tre w M sv at_ al ls) {X Y : World} {l1 l2 : Int → List (Int × Hd)} {e1 e2 : Int} {p1 p2 : List Int} (hX : AInv w M sv at_ al bx ask l1 e1 p1 X) (hY : AInv w M sv at_ al bx ask l2 e2 p2 Y) (hs : X.heap.size ≤ Y.heap.size) : Kq M sv.length (w.heap.size + 4) X Y :=
 ⟨hs, fun k hk hlt => by
  rcases hk with rfl | hk
  ·exact (show Y.heap[w.heap.size + 4]? = _ from hY.pb).trans (show X.heap[w.heap.size + 4]? = _ from hX.pb).symm
  ·have ho : M.own sv.length k := by
    rcases hk with c | c
    ·exact .inl c
    ·exact .inr (.inl c)
   have h1 := h0.own_lt ho
   obtain ⟨cs, T, fr, hc, hT⟩ := h0.own_cells ho
   have h2 := h0.not_wr hc hT
   exact (hY.kt.same k h1 h2).trans (hX.kt.same k h1 h2).symm⟩
theorem kf_below {D : Nat} {X Y : World} (h : Below X.heap.size X Y) : KeepsFrom D X Y := ⟨h.size, fun k o _ hk _ => (h.block k (Array.getElem?_eq_some_iff.1 hk).1).trans hk⟩
theorem kf_kp (h0 : Tre w M sv at_ al ls) {D : Nat} (hD : w.heap.size ≤ D) {X Y : World} {s : Int} (hs : inR sv.length s) (h : Kp (M.g s) (M.b s) X Y) : KeepsFrom D X Y :=
 ⟨h.size, fun k o hk hb _ => (h.same k (Array.getElem?_eq_some_iff.1 hb).1 (fun e => by have := h0.wr_lt (k := M.g s) (.inr ⟨s, hs, .inl rfl⟩); omega) (fun e => by have := h0.wr_lt (k := M.b s) (.inr ⟨s, hs, .inr rfl⟩); omega)).trans hb⟩
theorem kf_set {D : Nat} (X : World) (a : Addr) (v : Value) : KeepsFrom D X (X.setCell a v) := (KeepsOthers.setCell X a v).from D
theorem kf_row {D : Nat} {X Y : World} {base : Nat} {v : Value} {xs : List Value} (hv : VRow X base 24 v xs) (hg : X.grownBy Y v.ownBlock) : KeepsFrom D X Y :=
 (KeepsOthers.of_grownBy hg fun k o e hk => by
  obtain ⟨_, cs, hc⟩ := hv.typed k e
  rw [hc] at hk
  obtain rfl := Option.some.inj hk
  rfl).from D
theorem tre_put (h : Tre W M sv at_ al ls) {D : Nat} {o' : Obj} {d : Option (List Deferred)} (hD : W.heap[D]? = some (.deferred d)) (ho : ¬ M.own sv.length D) (hw : ¬ M.wr sv.length D) : Tre (W.putObj D o') M sv at_ al ls :=
 h.near fun k _ hc => World.putObj_heap_other (fun e => by
  subst e
  rcases hc with c | c | c
  ·exact ho c
  ·exact hw c
  ·exact c (noLimb_def hD))
theorem kt_put {n D : Nat} {o' : Obj} (h : Kt M n w W) (hD : w.heap.size ≤ D) : Kt M n w (W.putObj D o') :=
 ⟨h.os, h.tape, h.output, by have := h.size; simp [World.putObj]; exact this, fun k hk hn => (World.putObj_heap_other (by omega)).trans (h.same k hk hn)⟩
def und (A U : Rat → List (Int × Hd) → List (Int × Hd)) (al : Int → Rat) (ls : Int → List (Int × Hd)) (pre : List Int) (i : Nat) : Int → List (Int × Hd) := fun y => if y ∈ pre.take i then U (al y) (A (al y) (ls y)) else stp A al ls pre y
theorem und_zero (A U : Rat → List (Int × Hd) → List (Int × Hd)) (al : Int → Rat) (ls : Int → List (Int × Hd)) (pre : List Int) : und A U al ls pre 0 = stp A al ls pre := by
 funext y; unfold und; simp
theorem und_all (A U : Rat → List (Int × Hd) → List (Int × Hd)) (al : Int → Rat) (ls : Int → List (Int × Hd)) (pre : List Int) : und A U al ls pre pre.length = stp (fun a l => U a (A a l)) al ls pre := by
 funext y; unfold und stp
 rw [List.take_length]
 split <;> rfl
theorem und_at {A U : Rat → List (Int × Hd) → List (Int × Hd)} {al : Int → Rat} {ls : Int → List (Int × Hd)} {pre : List Int} (hn : pre.Nodup) {i : Nat} (hi : i < pre.length) : und A U al ls pre i pre[i] = A (al pre[i]) (ls pre[i]) := by
 have h1 : pre[i] ∉ pre.take i := fun h => by
  have e := List.take_append_drop i pre
  rw [List.drop_eq_getElem_cons hi] at e
  rw [← e, List.nodup_append] at hn
  exact hn.2.2 _ h _ List.mem_cons_self rfl
 unfold und stp
 rw [if_neg h1, if_pos (List.getElem_mem hi)]
theorem und_step {A U : Rat → List (Int × Hd) → List (Int × Hd)} {al : Int → Rat} {ls : Int → List (Int × Hd)} {pre : List Int} {i : Nat} (hi : i < pre.length) : upd (und A U al ls pre i) pre[i] (U (al pre[i]) (A (al pre[i]) (ls pre[i]))) = und A U al ls pre (i + 1) := by
 funext y
 unfold upd und
 have ht : ∀ z, z ∈ pre.take (i + 1) ↔ z ∈ pre.take i ∨ z = pre[i] := fun z => by
  have : pre.take (i + 1) = pre.take i ++ [pre[i]] := by rw [List.take_add_one, List.getElem?_eq_getElem hi]; rfl
  rw [this, List.mem_append, List.mem_singleton]
 by_cases e : y = pre[i]
 ·rw [if_pos e, if_pos ((ht y).2 (.inr e)), e]
 ·rw [if_neg e]
  by_cases h : y ∈ pre.take i
  ·rw [if_pos h, if_pos ((ht y).2 (.inl h))]
  ·rw [if_neg h, if_neg (fun c => ((ht y).1 c).elim h e)]
theorem kp_def {X Y : World} {g b D : Nat} {o : Obj} (h : Kp g b X Y) (hD : X.heap[D]? = some o) (h1 : D ≠ g) (h2 : D ≠ b) : Y.heap[D]? = some o := (h.same D (Array.getElem?_eq_some_iff.1 hD).1 h1 h2).trans hD
end
end Go.Proofs.Ytfldklimlcnnnaa.XAllW
end

section
namespace Go.Proofs.Ytfldklimlcnnnaa.XFits
open Go.RowKit Go.Shelf Go.Proofs.Ytfldklimlcnnnaa.PHq Go.Proofs.YtfldklimlcnnnaaW.PrintWords Go.Proofs.YtfldklimlcnnnaaW.PrintLast Go.Proofs.YtfldklimlcnnnaaW.PrintMore Go.Proofs.Ytfldklimlcnnnaa.MWords
open Go.Proofs.Ytfldklimlcnnnaa.MNat Go.Proofs.Ytfldklimlcnnnaa.QNat Go.Proofs.Ytfldklimlcnnnaa.QText Go.Proofs.Ytfldklimlcnnnaa.QEv Go.Proofs.Ytfldklimlcnnnaa.QRatio Go.Proofs.Ytfldklimlcnnnaa.XRV Go.Proofs.Ytfldklimlcnnnaa.XHold Go.Proofs.Ytfldklimlcnnnaa.XWts Go.Proofs.Ytfldklimlcnnnaa.XLed Go.Proofs.Ytfldklimlcnnnaa.XPuts
theorem sz_sub (i : Nat) (p q : Rat) (hp : Sz i p) (hq : Sz i q) (h : q ≤ p) : Sz (i + i) (p - q) := by
 have e1 := self_mk p hp.1
 have e2 := self_mk q hq.1
 have hd1 := Rat.den_pos p
 have hd2 := Rat.den_pos q
 have hc : q.num.natAbs * p.den ≤ p.num.natAbs * q.den := by
  rcases Nat.lt_or_ge (p.num.natAbs * q.den) (q.num.natAbs * p.den) with h1 | h1
  ·exact absurd ((lt_cross p q hp.1 hq.1).2 h1) (fun h2 => (Rat.lt_iff_le_and_not_ge.1 h2).2 h)
  ·exact h1
 have h2 := mk_sub p.num.natAbs p.den q.num.natAbs q.den hd1 hd2 hc
 rw [e1, e2] at h2
 rw [h2]
 exact mk_sz (i + i) _ _ ((hp.2.1.mul hq.2.2).le (by omega)) (hp.2.2.mul hq.2.2) (Nat.mul_pos hd1 hd2)
theorem sz_mono {i j : Nat} {p : Rat} (h : Sz i p) (hij : i ≤ j) : Sz j p := ⟨h.1, h.2.1.mono hij, h.2.2.mono hij⟩
set_option maxRecDepth 100000 in
set_option maxHeartbeats 4000000 in
theorem new_calls (x y : Value) (n d j : Nat) (w : World) (hv : RV w x y (limbs n) (limbs d)) (hn : F j n) (hd : F j d) (hj : j + 2 ≤ 100000) (h0 : 0 < d) :
  Calls Try.prog 16 #[.agg #[x, y]] w fun e w' => ∃ g b, e = .returned (.pointer (some ⟨g, 0, none⟩)) ∧ Led w' g b (mkRat (n : Int) d) 0 [] ∧ Below w.heap.size w w' ∧ w.heap.size ≤ g ∧ w.heap.size ≤ b := by
 have HV := Aside0.mk (hv.below (below_alloc (Below.refl w.heap.size w) (.cells #[x, y] 28)))
 obtain ⟨A1, c1, A2, c2, rfl, rfl⟩ := hv.shape
 have HB0 := Aside0.mk (below_alloc (Below.refl w.heap.size w) (.cells #[.slice A1 (limbs n).length c1, .slice A2 (limbs d).length c2] 28))
 have HM0 := Aside0.mk (mblk_new w 28 #[.slice A1 (limbs n).length c1, .slice A2 (limbs d).length c2])
 have HC := Aside0.mk (check_n j n d hn hd (by omega) h0)
 obtain ⟨f, hf⟩ := (least_t j n d hn hd (by omega) h0).get
 have HL := Aside0.mk hf
 have HW := Aside0.mk (show ratio_Whole.f 0 = some (L ((0 : Nat) : Rat)) from whole_n 0 (by omega))
 have hmm := @run_makeMap Try.prog
 clear hv hf hn hd
 go_enter Try.func16, Try.ntmps16
 go_upto_region 1 with fail
 obtain ⟨W0, hW0⟩ : ∃ W0, W0 = w.alloc (.cells #[.slice A1 (limbs n).length c1, .slice A2 (limbs d).length c2] 28) := ⟨_, rfl⟩
 rw [← hW0] at HV HB0 HM0 ⊢
 clear hW0
 generalize limbs n = un at *
 generalize limbs d = ud at *
 have k0 : W0.cell? ⟨w.heap.size, 0, none⟩ = some (.slice A1 un.length c1) := (mblk_cell HM0.out 0).trans rfl
 have k1 : W0.cell? ⟨w.heap.size, 1, none⟩ = some (.slice A2 ud.length c2) := (mblk_cell HM0.out 1).trans rfl
 go_wp2_with fail
 refine (check_rv HV.out HC.out).mono ?_
 rintro e w1 ⟨rfl, hb⟩
 have HB1 := Aside0.mk (below_step HB0.out hb)
 have HV1 := Aside0.mk (HV.out.below hb)
 have HM1 := Aside0.mk ((hb.block _ (mblk_lt HM0.out)).trans HM0.out)
 clear hb HB0 HV HM0 k0 k1
 have k0 : w1.cell? ⟨w.heap.size, 0, none⟩ = some (.slice A1 un.length c1) := (mblk_cell HM1.out 0).trans rfl
 have k1 : w1.cell? ⟨w.heap.size, 1, none⟩ = some (.slice A2 ud.length c2) := (mblk_cell HM1.out 1).trans rfl
 go_wp2_with fail
 refine (least_rv HV1.out HL.out).mono ?_
 rintro e w2 ⟨p, p', rfl, hp, hb⟩
 obtain ⟨B1, d1, B2, d2, rfl, rfl⟩ := hp.shape
 have HB2 := Aside0.mk (below_step HB1.out hb)
 have HP := Aside0.mk hp
 clear hb hp k0 k1 HM1 HV1 HB1
 go_wp2_with fail
 obtain ⟨b, hbb⟩ : ∃ b, b = w2.heap.size := ⟨_, rfl⟩
 have hm2 : MapIs (w2.alloc (.map #[] 0)) b [] := ⟨_, by rw [hbb]; exact World.ownsMap_made _ _ _ _, View.nil⟩
 have ha2 : Below w2.heap.size w2 (w2.alloc (.map #[] 0)) := below_alloc (Below.refl _ _) _
 rw [← hbb]
 refine (whole_rv HW.out).mono ?_
 rintro e w3 ⟨r, r', rfl, hr, hb⟩
 obtain ⟨C1, e1, C2, e2, rfl, rfl⟩ := hr.shape
 have hb3 : Below w2.heap.size w2 w3 := below_step ha2 hb
 have HB3 := Aside0.mk (below_step HB2.out hb3)
 have HM3 := Aside0.mk (hm2.kept (hb.block b hm2.lt))
 have HP3 := Aside0.mk (HP.out.below hb3)
 have HR3 := Aside0.mk hr
 have HBB := Aside0.mk (show w.heap.size ≤ b by rw [hbb]; exact HB2.out.size)
 clear hb hr hb3 ha2 hm2 hbb hmm
 go_wp2_with fail
 have hb4 := below_alloc (Below.refl w3.heap.size w3) (.cells #[.slice B1 (L (mkRat (n : Int) d)).1.length d1, .slice B2 (L (mkRat (n : Int) d)).2.length d2, .map (some b), .slice C1 (L ((0 : Nat) : Rat)).1.length e1, .slice C2 (L ((0 : Nat) : Rat)).2.length e2] 97)
 exact bodyPost_ret (results_tmp rfl _ _ _) rfl ⟨w3.heap.size, b, rfl, ⟨⟨_, _, _, _, mblk_new _ _ _, HP3.out.below hb4, HR3.out.below hb4⟩, HM3.out.kept (hb4.block b HM3.out.lt)⟩, below_step HB3.out hb4, HB3.out.size, HBB.out⟩
theorem box_done {X w : World} {g7 g : Nat} {p p' x y : Value} {r1 r2 xa ya : List Int} {cs : Array Value} (hG : MBlk X g7 28 #[.slice none 0 0, .slice none 0 0]) (hV : RV X p p' r1 r2) (hB : Below w.heap.size w X) (hg : w.heap.size ≤ g7) (hM : MBlk X g 97 cs) (hA : RV X x y xa ya) :
  MBlk ((X.setCell ⟨g7, 0, none⟩ p).setCell ⟨g7, 1, none⟩ p') g7 28 #[p, p'] ∧ RV ((X.setCell ⟨g7, 0, none⟩ p).setCell ⟨g7, 1, none⟩ p') p p' r1 r2 ∧ Below w.heap.size w ((X.setCell ⟨g7, 0, none⟩ p).setCell ⟨g7, 1, none⟩ p') ∧ MBlk ((X.setCell ⟨g7, 0, none⟩ p).setCell ⟨g7, 1, none⟩ p') g 97 cs ∧ RV ((X.setCell ⟨g7, 0, none⟩ p).setCell ⟨g7, 1, none⟩ p') x y xa ya := by
 have hn : NoLimb X g7 := by
  intro p hp n hc
  unfold World.cell? at hc
  rw [hp, show X.heap[g7]? = _ from hG] at hc
  simp only at hc
  split at hc
  ·cases hc
  ·match ho : p.off, hc with
   | 0, hc => simp at hc
   | 1, hc => simp at hc
   | k + 2, hc => simp at hc
 have hs : ∀ k, k ≠ g7 → ((X.setCell ⟨g7, 0, none⟩ p).setCell ⟨g7, 1, none⟩ p').heap[k]? = X.heap[k]? := fun k hk => (Below.heap_setCell _ ⟨g7, 1, none⟩ _ k hk).trans (Below.heap_setCell _ ⟨g7, 0, none⟩ _ k hk)
 have hk : ∀ k, k < X.heap.size → ¬ NoLimb X k → ((X.setCell ⟨g7, 0, none⟩ p).setCell ⟨g7, 1, none⟩ p').heap[k]? = X.heap[k]? := fun k _ h => hs k (fun e => h (by rw [e]; exact hn))
 exact ⟨mblk_set (mblk_set hG 0 _) 1 _, hV.near hk, (hB.setCell (p := ⟨g7, 0, none⟩) hg _).setCell (p := ⟨g7, 1, none⟩) hg _, (hs g (mblk_ne hM hG (by decide))).trans hM, hA.near hk⟩
def fitsQ (all q more less : Rat) : Bool := decide (less ≤ q + more) && decide (q + more - less ≤ all)
set_option maxRecDepth 100000 in
set_option maxHeartbeats 4000000 in
theorem fits_calls (g b : Nat) (all q more less : Rat) (l : List (Int × Hd)) (x y u v : Value) (lm ll : List Int × List Int) (f1 f2 : Nat) (w : World) (hL : Led w g b all q l) (ha : Sz 3000 all) (hsz : Sz 6001 (q + more)) (hs : Sz 3000 less) (hx : RV w x y lm.1 lm.2) (hu : RV w u v ll.1 ll.2)
    (hf1 : ratio_Add.f f1 (L q).1 (L q).2 lm.1 lm.2 = some ((L (q + more)).1, (L (q + more)).2)) (hf2 : ratio_Sub.f f2 (L (q + more)).1 (L (q + more)).2 ll.1 ll.2 = some (if q + more < less then ([], [], 16) else ((L (q + more - less)).1, (L (q + more - less)).2, 0))) :
    Calls Try.prog 72 #[.pointer (some ⟨g, 0, none⟩), .agg #[x, y], .agg #[u, v]] w fun e w' => e = .returned (.bool (fitsQ all q more less)) ∧ Below w.heap.size w w' := by
  have mixed : Try.prog.follows Departure.mixedOrders = true := by kernel_rfl
  obtain ⟨X1, a1, X2, a2, rfl, rfl⟩ := hx.shape
  obtain ⟨U1, b1, U2, b2, rfl, rfl⟩ := hu.shape
  obtain ⟨p1, p2, q1, q2, hM, hP, hQ⟩ := hL.cells
  obtain ⟨P1, c1, P2, c2, rfl, rfl⟩ := hP.shape
  obtain ⟨Q1, d1, Q2, d2, rfl, rfl⟩ := hQ.shape
  obtain ⟨W0, hW0⟩ : ∃ W0, W0 = (w.alloc (.cells #[.slice X1 lm.1.length a1, .slice X2 lm.2.length a2] 28)).alloc (.cells #[.slice U1 ll.1.length b1, .slice U2 ll.2.length b2] 28) := ⟨_, rfl⟩
  have hz : (w.alloc (.cells #[.slice X1 lm.1.length a1, .slice X2 lm.2.length a2] 28)).heap.size = w.heap.size + 1 := by simp
  have hb0 : Below w.heap.size w W0 := by rw [hW0]; exact below_alloc (below_alloc (Below.refl _ _) _) _
  have HB0 := Aside0.mk hb0
  have HX0 := Aside0.mk (show MBlk W0 w.heap.size 28 #[.slice X1 lm.1.length a1, .slice X2 lm.2.length a2] by rw [hW0]; exact mblk_alloc (mblk_new _ _ _) _)
  have HU0 := Aside0.mk (show MBlk W0 (w.heap.size + 1) 28 #[.slice U1 ll.1.length b1, .slice U2 ll.2.length b2] by rw [hW0, ← hz]; exact mblk_new _ _ _)
  have HM0 := Aside0.mk (show MBlk W0 g 97 _ from (hb0.block _ (mblk_lt hM)).trans hM)
  have VX := Aside0.mk (hx.below hb0)
  have VU := Aside0.mk (hu.below hb0)
  have VP := Aside0.mk (hP.below hb0)
  have VQ := Aside0.mk (hQ.below hb0)
  have HF1 := Aside0.mk hf1
  have HF2 := Aside0.mk hf2
  have HSZ := Aside0.mk (And.intro ha (And.intro hsz hs))
  clear hx hu hL hM hP hQ hb0 hz hsz hf1 hf2 ha hs
  go_enter Try.func72, Try.ntmps72
  go_upto_region 1 with fail
  rw [← hW0]
  clear hW0
  obtain ⟨r1, r2, r3, hr⟩ : ∃ r1 r2 r3, (if q + more < less then (([] : List Int), ([] : List Int), (16 : Int)) else ((L (q + more - less)).1, (L (q + more - less)).2, 0)) = (r1, r2, r3) := ⟨_, _, _, rfl⟩
  have HR := Aside0.mk hr
  rw [hr] at HF2
  clear hr
  generalize L q = lq at *
  generalize L (q + more) = ls at *
  go_cut [7, 8] from 7 to 19 (fun v7 v8 wc => ∃ (g7 : Nat) (p p' : Value), v7 = .pointer (some ⟨g7, 0, none⟩) ∧ v8 = .int .i64 r3 ∧ Aside0 (MBlk wc g7 28 #[p, p']) ∧ Aside0 (RV wc p p' r1 r2) ∧ Aside0 (Below w.heap.size w wc) ∧ Aside0 (MBlk wc g 97 #[.slice P1 (L all).1.length c1, .slice P2 (L all).2.length c2, .map (some b), .slice Q1 lq.1.length d1, .slice Q2 lq.2.length d2]) ∧ Aside0 (RV wc (.slice P1 (L all).1.length c1) (.slice P2 (L all).2.length c2) (L all).1 (L all).2))
  case first =>
    have k3 : W0.cell? ⟨g, 3, none⟩ = some (.slice Q1 lq.1.length d1) := (mblk_cell HM0.out 3).trans rfl
    have k4 : W0.cell? ⟨g, 4, none⟩ = some (.slice Q2 lq.2.length d2) := (mblk_cell HM0.out 4).trans rfl
    have x0 : W0.cell? ⟨w.heap.size, 0, none⟩ = some (.slice X1 lm.1.length a1) := (mblk_cell HX0.out 0).trans rfl
    have x1 : W0.cell? ⟨w.heap.size, 1, none⟩ = some (.slice X2 lm.2.length a2) := (mblk_cell HX0.out 1).trans rfl
    have u0 : W0.cell? ⟨w.heap.size + 1, 0, none⟩ = some (.slice U1 ll.1.length b1) := (mblk_cell HU0.out 0).trans rfl
    have u1 : W0.cell? ⟨w.heap.size + 1, 1, none⟩ = some (.slice U2 ll.2.length b2) := (mblk_cell HU0.out 1).trans rfl
    have l0 : w.heap.size + 1 < W0.heap.size := mblk_lt HU0.out
    have l1 : w.heap.size < W0.heap.size := mblk_lt HX0.out
    have lg : g < W0.heap.size := mblk_lt HM0.out
    go_region_law
      (first
        | (go_simp; go_at_call 105
           refine (add_rv (VQ.out.below (by first | exact below_drew (Below.refl _ _) | exact below_alloc (below_drew (Below.refl _ _)) _)) (VX.out.below (by first | exact below_drew (Below.refl _ _) | exact below_alloc (below_drew (Below.refl _ _)) _)) HF1.out).mono ?_
           rintro e w1 ⟨s1, s2, rfl, h1, hb⟩
           have hb1 : Below W0.heap.size W0 w1 := by first | exact below_step (below_drew (Below.refl _ _)) hb | exact below_step (below_alloc (below_drew (Below.refl _ _)) _) hb
           obtain ⟨S1, e1, S2, e2, rfl, rfl⟩ := h1.shape
           have HB1 := Aside0.mk hb1
           have HS1 := Aside0.mk h1
           have u0 : w1.cell? ⟨w.heap.size + 1, 0, none⟩ = some (.slice U1 ll.1.length b1) := (mblk_cell ((hb1.block _ (mblk_lt HU0.out)).trans HU0.out) 0).trans rfl
           have u1 : w1.cell? ⟨w.heap.size + 1, 1, none⟩ = some (.slice U2 ll.2.length b2) := (mblk_cell ((hb1.block _ (mblk_lt HU0.out)).trans HU0.out) 1).trans rfl
           have l2 : w.heap.size + 1 < w1.heap.size := Nat.lt_of_lt_of_le l0 hb1.size
           try have HGA := Aside0.mk (show MBlk w1 W0.heap.size 28 #[.slice none 0 0, .slice none 0 0] from (hb.block _ (mblk_lt (mblk_new W0.drew 28 #[.slice none 0 0, .slice none 0 0]))).trans (mblk_new W0.drew 28 #[.slice none 0 0, .slice none 0 0]))
           clear h1 hb hb1)
        | (go_simp; go_at_call 73
           refine (sub_rv (HS1.out.below (by first | exact Below.refl _ _ | exact below_alloc (Below.refl _ _) _)) ((VU.out.below HB1.out).below (by first | exact Below.refl _ _ | exact below_alloc (Below.refl _ _) _)) HF2.out).mono ?_
           rintro e w2 ⟨t1, t2, rfl, h2, hb⟩
           have hb2 : Below W0.heap.size W0 w2 := by first | exact below_step HB1.out hb | exact below_step (below_alloc HB1.out _) hb
           obtain ⟨T1, e3, T2, e4, rfl, rfl⟩ := h2.shape
           have HB2 := Aside0.mk hb2
           have HT2 := Aside0.mk h2
           try have HGB := Aside0.mk (show MBlk w2 w1.heap.size 28 #[.slice none 0 0, .slice none 0 0] from (hb.block _ (mblk_lt (mblk_new w1 28 #[.slice none 0 0, .slice none 0 0]))).trans (mblk_new w1 28 #[.slice none 0 0, .slice none 0 0]))
           try have HGB := Aside0.mk (show MBlk w2 W0.heap.size 28 #[.slice none 0 0, .slice none 0 0] from (hb.block _ (mblk_lt HGA.out)).trans HGA.out)
           try have z0 := (mblk_cell HGB.out 0).trans rfl
           try have z1 := (mblk_cell HGB.out 1).trans rfl
           try have rf0 := mblk_frozen HGB.out 0
           try have rf1 := mblk_frozen HGB.out 1
           clear h2 hb hb2))
    all_goals
      have HBX := Aside0.mk (below_step HB0.out HB2.out)
      have HMX := Aside0.mk ((HB2.out.block _ (mblk_lt HM0.out)).trans HM0.out)
      have HPX := Aside0.mk (VP.out.below HB2.out)
      have HL0 := Aside0.mk l0
      have HL2 := Aside0.mk (Nat.le_trans l0 HB1.out.size)
      go_wp2_with fail
      go_meet
      case rel =>
        first
          | (obtain ⟨q1, q2, q3, q4, q5⟩ := box_done HGB.out HT2.out HBX.out (by have := HL0.out; have := HL2.out; omega) HMX.out HPX.out
             exact ⟨_, _, _, rfl, rfl, ⟨q1⟩, ⟨q2⟩, ⟨q3⟩, ⟨q4⟩, ⟨q5⟩⟩)
          | exact ⟨w2.heap.size, _, _, rfl, rfl, ⟨mblk_new w2 28 #[.slice T1 r1.length e3, .slice T2 r2.length e4]⟩, ⟨HT2.out.below (below_alloc (Below.refl _ _) _)⟩, ⟨below_alloc HBX.out _⟩, ⟨mblk_alloc HMX.out _⟩, ⟨HPX.out.below (below_alloc (Below.refl _ _) _)⟩⟩
  case rest =>
    obtain ⟨g7, p, p', rfl, rfl, HG7, HV7, HB7, HM7, HA7⟩ := hcut
    clear HB0 HX0 HU0 HM0 VX VU VP VQ HF1 HF2
    obtain ⟨T1, e3, T2, e4, rfl, rfl⟩ := HV7.out.shape
    have t0 : wc.cell? ⟨g7, 0, none⟩ = some (.slice T1 r1.length e3) := (mblk_cell HG7.out 0).trans rfl
    have t1 : wc.cell? ⟨g7, 1, none⟩ = some (.slice T2 r2.length e4) := (mblk_cell HG7.out 1).trans rfl
    have p0 : wc.cell? ⟨g, 0, none⟩ = some (.slice P1 (L all).1.length c1) := (mblk_cell HM7.out 0).trans rfl
    have p1 : wc.cell? ⟨g, 1, none⟩ = some (.slice P2 (L all).2.length c2) := (mblk_cell HM7.out 1).trans rfl
    by_cases hlt : q + more < less
    · have hR := HR.out
      rw [if_pos hlt] at hR
      obtain ⟨rfl, hR2⟩ := Prod.mk.inj hR
      obtain ⟨rfl, rfl⟩ := Prod.mk.inj hR2
      have HX := Aside0.mk (show fitsQ all q more less = false by
        unfold fitsQ
        rw [decide_eq_false (fun h => (Rat.lt_iff_le_and_not_ge.1 hlt).2 h)]
        rfl)
      clear hR hR2 HR hlt
      go_wp2_with fail
      go_region
      go_wp2_with fail
      exact bodyPost_ret (results_tmp rfl _ _ _) rfl ⟨by rw [HX.out]; rfl, below_drew HB7.out⟩
    · have hR := HR.out
      rw [if_neg hlt] at hR
      obtain ⟨e1', hR2⟩ := Prod.mk.inj hR
      obtain ⟨e2', rfl⟩ := Prod.mk.inj hR2
      obtain ⟨f3, hf3⟩ := (cmpL 12002 3000 (q + more - less) all (sz_sub 6001 _ _ HSZ.out.2.1 (sz_mono HSZ.out.2.2 (by omega)) (Rat.not_lt.1 hlt)) HSZ.out.1 (by omega)).get
      rw [e1', e2'] at hf3
      have HF3 := Aside0.mk hf3
      have HX := Aside0.mk (show fitsQ all q more less = decide (cmpR (q + more - less) all ≤ 0) by
        unfold fitsQ
        rw [decide_eq_true (Rat.not_lt.1 hlt), Bool.true_and]
        congr 1
        unfold cmpR
        by_cases h1 : q + more - less < all
        · rw [if_pos h1]
          simp [(Rat.lt_iff_le_and_not_ge.1 h1).1]
        · rw [if_neg h1]
          by_cases h2 : q + more - less = all
          · rw [if_pos h2, h2]
            simp [Rat.le_refl]
          · rw [if_neg h2]
            have : ¬ q + more - less ≤ all := fun h => h1 (Rat.lt_of_le_of_ne h h2)
            simp [this])
      generalize cmpR (q + more - less) all = cc at *
      clear hR hR2 HR hlt e1' e2' hf3
      generalize L all = la at *
      go_wp2_with fail
      go_region_law
        (first
          | (go_simp; go_at_call 106
             refine (cmp_rv (HV7.out.below (below_drew (Below.refl _ _))) (HA7.out.below (below_drew (Below.refl _ _))) HF3.out).mono ?_
             rintro e w5 ⟨rfl, hb⟩
             have HB8 := Aside0.mk (below_step (below_drew HB7.out) hb)
             clear hb))
      all_goals
        go_wp2_with fail
        exact bodyPost_ret (results_tmp rfl _ _ _) rfl ⟨by rw [HX.out]; rfl, HB8.out⟩
end Go.Proofs.Ytfldklimlcnnnaa.XFits
end

section
namespace Go.Proofs.Ytfldklimlcnnnaa.XJoin
open Go.RowKit Go.Shelf Go.Proofs.Ytfldklimlcnnnaa.PHq Go.Proofs.YtfldklimlcnnnaaW.PrintWords Go.Proofs.YtfldklimlcnnnaaW.PrintLast Go.Proofs.YtfldklimlcnnnaaW.PrintMore Go.Proofs.Ytfldklimlcnnnaa.MWords
open Go.Proofs.Ytfldklimlcnnnaa.MNat Go.Proofs.Ytfldklimlcnnnaa.QNat Go.Proofs.Ytfldklimlcnnnaa.QText Go.Proofs.Ytfldklimlcnnnaa.QEv Go.Proofs.Ytfldklimlcnnnaa.QRatio Go.Proofs.Ytfldklimlcnnnaa.XRV Go.Proofs.Ytfldklimlcnnnaa.XHold Go.Proofs.Ytfldklimlcnnnaa.XWts Go.Proofs.Ytfldklimlcnnnaa.XLed Go.Proofs.Ytfldklimlcnnnaa.XPuts Go.Proofs.Ytfldklimlcnnnaa.XFits
def mayW (x : S34) : Bool := decide (1 ≤ x.f0) && decide (x.f0 ≤ x.f1) && decide (x.f1 ≤ 1048576)
theorem wcheck_f (x : S34) : window_Check.f x.f0 x.f1 = some (mayW x) := by
 unfold window_Check.f mayW
 by_cases h1 : 1 ≤ x.f0
 ·rw [if_pos h1, decide_eq_true h1]
  by_cases h2 : x.f0 ≤ x.f1
  ·rw [if_pos h2, decide_eq_true h2]; rfl
  ·rw [if_neg h2, decide_eq_false h2]; rfl
 ·rw [if_neg h1, decide_eq_false h1]; rfl
theorem may_ok {x : S34} (h : mayW x = true) : okW x := by
 unfold mayW at h
 simp only [Bool.and_eq_true, decide_eq_true_eq] at h
 unfold okW
 omega
def fitsW (all q : Rat) (x i : S34) : Bool := mayW x && fitsQ all q (wt x) (if mayW i = true then wt i else 0)
theorem box_put {X w : World} {g7 g b k0 : Nat} {all q : Rat} {l : List (Int × Hd)} {p p' : Value} {r1 r2 : List Int} {cs : Array Value} {o1 o2 : Option Addr} {n1 n2 m1 m2 : Nat} (hG : MBlk X g7 28 #[.slice o1 n1 m1, .slice o2 n2 m2]) (hV : RV X p p' r1 r2) (hB : Below w.heap.size w X) (hg : w.heap.size ≤ g7) (hL : Led X g b all q l) (hM : MBlk X k0 34 cs) :
  MBlk ((X.setCell ⟨g7, 0, none⟩ p).setCell ⟨g7, 1, none⟩ p') g7 28 #[p, p'] ∧ RV ((X.setCell ⟨g7, 0, none⟩ p).setCell ⟨g7, 1, none⟩ p') p p' r1 r2 ∧ Below w.heap.size w ((X.setCell ⟨g7, 0, none⟩ p).setCell ⟨g7, 1, none⟩ p') ∧ MBlk ((X.setCell ⟨g7, 0, none⟩ p).setCell ⟨g7, 1, none⟩ p') k0 34 cs ∧ Led ((X.setCell ⟨g7, 0, none⟩ p).setCell ⟨g7, 1, none⟩ p') g b all q l := by
 have hn : NoLimb X g7 := by
  intro p hp n hc
  unfold World.cell? at hc
  rw [hp, show X.heap[g7]? = _ from hG] at hc
  simp only at hc
  split at hc
  ·cases hc
  ·match ho : p.off, hc with
   | 0, hc => simp at hc
   | 1, hc => simp at hc
   | k + 2, hc => simp at hc
 have hs : ∀ k, k ≠ g7 → ((X.setCell ⟨g7, 0, none⟩ p).setCell ⟨g7, 1, none⟩ p').heap[k]? = X.heap[k]? := fun k hk => (Below.heap_setCell _ ⟨g7, 1, none⟩ _ k hk).trans (Below.heap_setCell _ ⟨g7, 0, none⟩ _ k hk)
 have hk : ∀ k, k < X.heap.size → ¬ NoLimb X k → ((X.setCell ⟨g7, 0, none⟩ p).setCell ⟨g7, 1, none⟩ p').heap[k]? = X.heap[k]? := fun k _ h => hs k (fun e => h (by rw [e]; exact hn))
 obtain ⟨_, _, _, _, h1, _⟩ := hL.cells
 obtain ⟨es, c, h4⟩ := hL.map.obj
 exact ⟨mblk_set (mblk_set hG 0 _) 1 _, hV.near hk, (hB.setCell (p := ⟨g7, 0, none⟩) hg _).setCell (p := ⟨g7, 1, none⟩) hg _, (hs k0 (mblk_ne hM hG (by decide))).trans hM, hL.near (hs g (mblk_ne h1 hG (by decide))) (hs b (fun e => by rw [e, show X.heap[g7]? = _ from hG] at h4; cases h4)) hk⟩
set_option maxRecDepth 100000 in
set_option maxHeartbeats 4000000 in

theorem fitsW_calls (g b : Nat) (all q : Rat) (l : List (Int × Hd)) (x y u v : Value) (m1 m2 s1 s2 : Nat) (w : World) (hL : Led w g b all q l) (ha : Sz 3000 all) (hq : Sz 2999 q) (h1 : F 1 m1) (h2 : F 1 m2) (h20 : 0 < m2) (h3 : F 1 s1) (h4 : F 1 s2) (h40 : 0 < s2)
  (hx : RV w x y (limbs m1) (limbs m2)) (hu : RV w u v (limbs s1) (limbs s2)) :
  Calls Try.prog 72 #[.pointer (some ⟨g, 0, none⟩), .agg #[x, y], .agg #[u, v]] w fun e w' => e = .returned (.bool (fitsQ all q (mkRat (m1 : Int) m2) (mkRat (s1 : Int) s2))) ∧ Below w.heap.size w w' := by
 have a1 := radd_t 2999 1 q.num.natAbs q.den m1 m2 hq.2.1 hq.2.2 h1 h2 (by omega) (Rat.den_pos q) h20
 rw [self_mk q hq.1] at a1
 have z1 := sz_add 2999 1 q.num.natAbs q.den m1 m2 hq.2.1 hq.2.2 h1 h2 (Rat.den_pos q) h20
 rw [self_mk q hq.1] at z1
 have a2 := rsub_t 3001 1 (q + mkRat (m1 : Int) m2).num.natAbs (q + mkRat (m1 : Int) m2).den s1 s2 z1.2.1 z1.2.2 h3 h4 (by omega) (Rat.den_pos _) h40
 rw [self_mk _ z1.1] at a2
 obtain ⟨f1, hf1⟩ := a1.get
 obtain ⟨f2, hf2⟩ := a2.get
 exact fits_calls g b all q (mkRat (m1 : Int) m2) (mkRat (s1 : Int) s2) l x y u v (limbs m1, limbs m2) (limbs s1, limbs s2) f1 f2 w hL ha (sz_mono z1 (by omega)) (sz_mono (mk_sz 1 _ _ h3 h4 h40) (by omega)) hx hu hf1 hf2
set_option maxRecDepth 100000 in
set_option maxHeartbeats 4000000 in
theorem Fits_calls (g b : Nat) (all q : Rat) (l : List (Int × Hd)) (x i : S34) (w : World) (hL : Led w g b all q l) (ha : Sz 3000 all) (hq : Sz 2999 q) :
    Calls Try.prog 22 #[.pointer (some ⟨g, 0, none⟩), .agg #[.int .i64 x.f0, .int .i64 x.f1], .agg #[.int .i64 i.f0, .int .i64 i.f1]] w fun e w' => e = .returned (.bool (fitsW all q x i)) ∧ Below w.heap.size w w' := by
  have mixed : Try.prog.follows Departure.mixedOrders = true := by kernel_rfl
  obtain ⟨W0, hW0⟩ : ∃ W0, W0 = (w.alloc (.cells #[.int .i64 x.f0, .int .i64 x.f1] 34)).alloc (.cells #[.int .i64 i.f0, .int .i64 i.f1] 34) := ⟨_, rfl⟩
  have hz : (w.alloc (.cells #[.int .i64 x.f0, .int .i64 x.f1] 34)).heap.size = w.heap.size + 1 := by simp
  have hb0 : Below w.heap.size w W0 := by rw [hW0]; exact below_alloc (below_alloc (Below.refl _ _) _) _
  have HX0 := Aside0.mk (show MBlk W0 w.heap.size 34 #[.int .i64 x.f0, .int .i64 x.f1] by rw [hW0]; exact mblk_alloc (mblk_new _ _ _) _)
  have HI0 := Aside0.mk (show MBlk W0 (w.heap.size + 1) 34 #[.int .i64 i.f0, .int .i64 i.f1] by rw [hW0, ← hz]; exact mblk_new _ _ _)
  have HB0 := Aside0.mk hb0
  have HL := Aside0.mk (hL.below hb0)
  have HA := Aside0.mk (And.intro ha hq)
  have HC1 := Aside0.mk (wcheck_f x)
  have HC2 := Aside0.mk (wcheck_f i)
  clear hL hz hb0 ha hq
  go_enter Try.func22, Try.ntmps22
  go_upto_region 1 with fail
  rw [← hW0]
  clear hW0
  have x0 : W0.cell? ⟨w.heap.size, 0, none⟩ = some (.int .i64 x.f0) := (mblk_cell HX0.out 0).trans rfl
  have x1 : W0.cell? ⟨w.heap.size, 1, none⟩ = some (.int .i64 x.f1) := (mblk_cell HX0.out 1).trans rfl
  by_cases hmx : mayW x = true
  case neg =>
    have HX := Aside0.mk (show fitsW all q x i = false by unfold fitsW; rw [show mayW x = false by simpa using hmx]; rfl)
    have hmx' : mayW x = false := by simpa using hmx
    go_wp2_with (go_at_call 66; refine (window_Check.calls x.f0 x.f1 _ _ HC1.out).mono ?_; rw [hmx']; rintro e w1 ⟨rfl, hb⟩; have HB1 := Aside0.mk (below_step HB0.out hb); clear hb)
    exact bodyPost_ret (results_tmp rfl _ _ _) rfl ⟨by rw [HX.out]; rfl, HB1.out⟩
  have HMX := Aside0.mk hmx
  go_upto_region 3 with (go_at_call 66; refine (window_Check.calls x.f0 x.f1 _ _ HC1.out).mono ?_; rw [hmx]; rintro e w1 ⟨rfl, hb⟩; have HB1 := Aside0.mk (below_step HB0.out hb); have HX1 := Aside0.mk ((hb.block _ (mblk_lt HX0.out)).trans HX0.out); have HI1 := Aside0.mk ((hb.block _ (mblk_lt HI0.out)).trans HI0.out); have HL1 := Aside0.mk (HL.out.below hb); clear hb)
  clear x0 x1 HX0 HI0 HL HB0 HC1 hmx
  have HW := Aside0.mk (show ratio_Whole.f 0 = some (limbs 0, limbs 1) from whole_n 0 (by omega))
  have hlt1 : w.heap.size + 1 < w1.heap.size := mblk_lt HI1.out
  have i0 : w1.cell? ⟨w.heap.size + 1, 0, none⟩ = some (.int .i64 i.f0) := (mblk_cell HI1.out 0).trans rfl
  have i1 : w1.cell? ⟨w.heap.size + 1, 1, none⟩ = some (.int .i64 i.f1) := (mblk_cell HI1.out 1).trans rfl
  go_upto_region 4 with (go_at_call 64; refine (whole_rv HW.out).mono ?_; rintro e w2 ⟨r1, r2, rfl, hr, hb⟩; obtain ⟨R1, c1, R2, c2, rfl, rfl⟩ := hr.shape; have HR2 := Aside0.mk hr; have HB2 := Aside0.mk hb; clear hr hb)
  obtain ⟨g7, hg7⟩ : ∃ g7, g7 = w2.heap.size := ⟨_, rfl⟩
  obtain ⟨w3, hw3⟩ : ∃ w3, w3 = w2.alloc (.cells #[.slice R1 (limbs 0).length c1, .slice R2 (limbs 1).length c2] 28) := ⟨_, rfl⟩
  have hb3 : Below w1.heap.size w1 w3 := by rw [hw3]; exact below_alloc HB2.out _
  have HG3 := Aside0.mk (show MBlk w3 g7 28 #[.slice R1 (limbs 0).length c1, .slice R2 (limbs 1).length c2] by rw [hw3, hg7]; exact mblk_new _ _ _)
  have HR3 := Aside0.mk (show RV w3 (.slice R1 (limbs 0).length c1) (.slice R2 (limbs 1).length c2) (limbs 0) (limbs 1) by rw [hw3]; exact HR2.out.below (below_alloc (Below.refl _ _) _))
  have HB3 := Aside0.mk (below_step HB1.out hb3)
  have HX3 := Aside0.mk ((hb3.block _ (mblk_lt HX1.out)).trans HX1.out)
  have HI3 := Aside0.mk ((hb3.block _ (mblk_lt HI1.out)).trans HI1.out)
  have HL3 := Aside0.mk (HL1.out.below hb3)
  have HGE := Aside0.mk (show w.heap.size ≤ g7 by rw [hg7]; exact Nat.le_trans HB1.out.size HB2.out.size)
  rw [← hw3, ← hg7]
  clear hw3 hg7 HR2 HB2 HB1 HX1 HI1 HL1 i0 i1 hlt1 hb3 HW
  have i0 : w3.cell? ⟨w.heap.size + 1, 0, none⟩ = some (.int .i64 i.f0) := (mblk_cell HI3.out 0).trans rfl
  have i1 : w3.cell? ⟨w.heap.size + 1, 1, none⟩ = some (.int .i64 i.f1) := (mblk_cell HI3.out 1).trans rfl
  obtain ⟨l0, hl0⟩ : ∃ l0, l0 = limbs 0 := ⟨_, rfl⟩
  obtain ⟨l1, hl1⟩ : ∃ l1, l1 = limbs 1 := ⟨_, rfl⟩
  rw [← hl0, ← hl1] at HG3 HR3 ⊢
  have HLL := Aside0.mk (And.intro hl0 hl1)
  clear hl0 hl1
  go_upto_if 17 with (go_at_call 66; refine (window_Check.calls i.f0 i.f1 _ _ HC2.out).mono ?_; rintro e w4 ⟨rfl, hb⟩; have HB4 := Aside0.mk (below_step HB3.out hb); have HX4 := Aside0.mk ((hb.block _ (mblk_lt HX3.out)).trans HX3.out); have HI4 := Aside0.mk ((hb.block _ (mblk_lt HI3.out)).trans HI3.out); have HL4 := Aside0.mk (HL3.out.below hb); have HG4 := Aside0.mk ((hb.block _ (mblk_lt HG3.out)).trans HG3.out); have HR4 := Aside0.mk (HR3.out.below hb); clear hb)
  have HOX := Aside0.mk (of_w x (may_ok HMX.out))
  go_cut [7] (fun v7 wc => ∃ (u v : Value) (s1 s2 : Nat), v7 = .pointer (some ⟨g7, 0, none⟩) ∧ Aside0 (MBlk wc g7 28 #[u, v]) ∧ Aside0 (RV wc u v (limbs s1) (limbs s2)) ∧ Aside0 (F 1 s1 ∧ F 1 s2 ∧ 0 < s2 ∧ mkRat (s1 : Int) s2 = if mayW i = true then wt i else 0) ∧ Aside0 (Below w.heap.size w wc) ∧ Aside0 (MBlk wc w.heap.size 34 #[.int .i64 x.f0, .int .i64 x.f1]) ∧ Aside0 (Led wc g b all q l))
  case first =>
    by_cases hmi : mayW i = true
    · have hoi := may_ok hmi
      have HOI := Aside0.mk (of_w i hoi)
      have HFI := Aside0.mk (show F 1 i.f0.toNat ∧ F 1 i.f1.toNat ∧ 0 < i.f1.toNat ∧ mkRat (i.f0.toNat : Int) i.f1.toNat = if mayW i = true then wt i else 0 from ⟨(okW_F hoi).1, (okW_F hoi).2, okW_pos hoi, by rw [if_pos hmi]; rfl⟩)
      have j0 : w4.cell? ⟨w.heap.size + 1, 0, none⟩ = some (.int .i64 i.f0) := (mblk_cell HI4.out 0).trans rfl
      have j1 : w4.cell? ⟨w.heap.size + 1, 1, none⟩ = some (.int .i64 i.f1) := (mblk_cell HI4.out 1).trans rfl
      clear hoi i0 i1
      rw [hmi]
      go_wp2_with fail
      refine (of_rv HOI.out).mono ?_
      rintro e w5 ⟨p, p', rfl, hp, hb⟩
      obtain ⟨S1, e1, S2, e2, rfl, rfl⟩ := hp.shape
      have HG5 := Aside0.mk ((hb.block _ (mblk_lt HG4.out)).trans HG4.out)
      have HP5 := Aside0.mk hp
      have HB5 := Aside0.mk (below_step HB4.out hb)
      have HX5 := Aside0.mk ((hb.block _ (mblk_lt HX4.out)).trans HX4.out)
      have HL5 := Aside0.mk (HL4.out.below hb)
      have g0 : w5.cell? ⟨g7, 0, none⟩ = some (.slice R1 l0.length c1) := (mblk_cell HG5.out 0).trans rfl
      have g1 : w5.cell? ⟨g7, 1, none⟩ = some (.slice R2 l1.length c2) := (mblk_cell HG5.out 1).trans rfl
      have h0 : w5.frozen? ⟨g7, 0, none⟩ = false := mblk_frozen HG5.out 0
      have h1 : w5.frozen? ⟨g7, 1, none⟩ = false := mblk_frozen HG5.out 1
      clear hp hb j0 j1
      generalize hl2 : limbs i.f0.toNat = l2 at *
      generalize hl3 : limbs i.f1.toNat = l3 at *
      have HL2 := Aside0.mk hl2
      have HL3' := Aside0.mk hl3
      clear hl2 hl3
      go_wp2_with fail
      go_meet
      case rel =>
        obtain ⟨q1, q2, q3, q4, q5⟩ := box_put HG5.out HP5.out HB5.out HGE.out HL5.out HX5.out
        exact ⟨_, _, i.f0.toNat, i.f1.toNat, rfl, ⟨q1⟩, ⟨by rw [HL2.out, HL3'.out]; exact q2⟩, HFI, ⟨q3⟩, ⟨q4⟩, ⟨q5⟩⟩
    · have hmi' : mayW i = false := by simpa using hmi
      clear i0 i1
      rw [hmi']
      go_wp2_with fail
      go_meet
      case rel => exact ⟨_, _, 0, 1, rfl, HG4, ⟨by rw [← HLL.out.1, ← HLL.out.2]; exact HR4.out⟩, ⟨⟨F.one (by omega), F.one (by omega), by omega, by rw [if_neg hmi]; rfl⟩⟩, HB4, HX4, HL4⟩
  case rest =>
    obtain ⟨u, v, s1, s2, rfl, HG7, HV7, HF7, HB7, HX7, HL7⟩ := hcut
    clear HB3 HX3 HI3 HL3 HG3 HR3 i0 i1 HC2
    obtain ⟨B, hBq⟩ : ∃ B, B = fitsQ all q (mkRat (x.f0.toNat : Int) x.f1.toNat) (mkRat (s1 : Int) s2) := ⟨_, rfl⟩
    have HBQ := Aside0.mk hBq
    clear hBq
    have HX := Aside0.mk (show fitsW all q x i = B by
      rw [HBQ.out]
      unfold fitsW
      rw [HMX.out, Bool.true_and, HF7.out.2.2.2]
      rfl)
    have HOK := Aside0.mk (may_ok HMX.out)
    obtain ⟨U1, d1, U2, d2, rfl, rfl⟩ := HV7.out.shape
    obtain ⟨ls1, h1⟩ : ∃ ls1, ls1 = limbs s1 := ⟨_, rfl⟩
    obtain ⟨ls2, h2⟩ : ∃ ls2, ls2 = limbs s2 := ⟨_, rfl⟩
    obtain ⟨lx1, h3⟩ : ∃ lx1, lx1 = limbs x.f0.toNat := ⟨_, rfl⟩
    obtain ⟨lx2, h4⟩ : ∃ lx2, lx2 = limbs x.f1.toNat := ⟨_, rfl⟩
    rw [← h1, ← h2] at HG7 HV7
    rw [← h3, ← h4] at HOX
    have HEQ := Aside0.mk (And.intro h1 (And.intro h2 (And.intro h3 h4)))
    clear h1 h2 h3 h4
    have x0 : wc.cell? ⟨w.heap.size, 0, none⟩ = some (.int .i64 x.f0) := (mblk_cell HX7.out 0).trans rfl
    have x1 : wc.cell? ⟨w.heap.size, 1, none⟩ = some (.int .i64 x.f1) := (mblk_cell HX7.out 1).trans rfl
    have g0 : wc.cell? ⟨g7, 0, none⟩ = some (.slice U1 ls1.length d1) := (mblk_cell HG7.out 0).trans rfl
    have g1 : wc.cell? ⟨g7, 1, none⟩ = some (.slice U2 ls2.length d2) := (mblk_cell HG7.out 1).trans rfl
    go_wp2_with fail
    go_region_law
      (first
        | (go_simp; go_at_call 71
           refine (of_rv HOX.out).mono ?_
           rintro e w5 ⟨p, p', rfl, hp, hb⟩
           obtain ⟨S1, e1, S2, e2, rfl, rfl⟩ := hp.shape
           have hb5 : Below wc.heap.size wc w5 := below_step (below_drew (Below.refl _ _)) hb
           have HP5 := Aside0.mk hp
           have HB5 := Aside0.mk hb5
           have g0 : w5.cell? ⟨g7, 0, none⟩ = some (.slice U1 ls1.length d1) := (mblk_cell ((hb5.block _ (mblk_lt HG7.out)).trans HG7.out) 0).trans rfl
           have g1 : w5.cell? ⟨g7, 1, none⟩ = some (.slice U2 ls2.length d2) := (mblk_cell ((hb5.block _ (mblk_lt HG7.out)).trans HG7.out) 1).trans rfl
           clear hp hb hb5)
        | (go_simp; go_at_call 72
           refine (fitsW_calls g b all q l (.slice S1 lx1.length e1) (.slice S2 lx2.length e2) (.slice U1 ls1.length d1) (.slice U2 ls2.length d2) x.f0.toNat x.f1.toNat s1 s2 w5 (HL7.out.below HB5.out) HA.out.1 HA.out.2 (okW_F HOK.out).1 (okW_F HOK.out).2 (okW_pos HOK.out) HF7.out.1 HF7.out.2.1 HF7.out.2.2.1 (by rw [← HEQ.out.2.2.1, ← HEQ.out.2.2.2]; exact HP5.out) (by rw [← HEQ.out.1, ← HEQ.out.2.1]; exact HV7.out.below HB5.out)).mono ?_
           rintro e w6 ⟨he, hb⟩
           rw [← HBQ.out] at he
           subst he
           have HB6 := Aside0.mk (below_step (below_step HB7.out HB5.out) hb)
           clear hb))
    all_goals
      go_wp2_with fail
      exact bodyPost_ret (results_tmp rfl _ _ _) rfl ⟨by rw [HX.out]; rfl, HB6.out⟩
end Go.Proofs.Ytfldklimlcnnnaa.XJoin
end

section
namespace Go.Proofs.Ytfldklimlcnnnaa.XMeth
open Go.RowKit Go.Shelf Go.Proofs.Ytfldklimlcnnnaa.PHq Go.Proofs.YtfldklimlcnnnaaW.PrintWords Go.Proofs.YtfldklimlcnnnaaW.PrintLast Go.Proofs.YtfldklimlcnnnaaW.PrintMore Go.Proofs.Ytfldklimlcnnnaa.MWords
open Go.Proofs.Ytfldklimlcnnnaa.MNat Go.Proofs.Ytfldklimlcnnnaa.QNat Go.Proofs.Ytfldklimlcnnnaa.QText Go.Proofs.Ytfldklimlcnnnaa.QEv Go.Proofs.Ytfldklimlcnnnaa.QRatio Go.Proofs.Ytfldklimlcnnnaa.XRV Go.Proofs.Ytfldklimlcnnnaa.XHold Go.Proofs.Ytfldklimlcnnnaa.XWts Go.Proofs.Ytfldklimlcnnnaa.XLed Go.Proofs.Ytfldklimlcnnnaa.XPuts Go.Proofs.Ytfldklimlcnnnaa.XFits Go.Proofs.Ytfldklimlcnnnaa.XJoin
def joinE (all q : Rat) (l : List (Int × Hd)) (z : Int) (x : S34) : Int :=
 if mayW x = false then 1 else if hasL l z = true then 14 else if fitsW all q x ⟨0, 0⟩ = false then 18 else 0
def joinL (all q : Rat) (l : List (Int × Hd)) (z : Int) (x : S34) : List (Int × Hd) := if joinE all q l z x = 0 then setL l z ⟨x.f0, x.f1, 0, 0, false⟩ else l
theorem set_good {l : List (Int × Hd)} {z : Int} {h : Hd} (hG : GoodL l) (hl : l.length < 500) (hh : okH h) : GoodL (setL l z h) := by
 refine ⟨?_, fun y hy => ?_⟩
 ·rw [set_len]
  split <;> omega
 ·rcases set_mem hy with rfl | ⟨hm, _⟩
  ·exact hh
  ·exact hG.ok y hm
theorem held_sz {l : List (Int × Hd)} (hG : GoodL l) : Sz 1001 (heldL l) := by
 have h := (sum_t (l.map fun z => hv z.2) (by rw [List.length_map]; have := hG.len; omega) (fun z hz => by
  obtain ⟨y, hy, rfl⟩ := List.mem_map.1 hz
  exact hv_ok (hG.ok y hy))).2
 exact sz_mono h (by rw [List.length_map]; have := hG.len; omega)
set_option maxRecDepth 100000 in
set_option maxHeartbeats 4000000 in
theorem join_calls (g b : Nat) (all : Rat) (l : List (Int × Hd)) (z : Int) (x : S34) (w : World) (hL : Led w g b all (heldL l) l) (ha : Sz 3000 all) (hG : GoodL l) (hl : l.length < 500) (hz : wfI z) :
  Calls Try.prog 18 #[.pointer (some ⟨g, 0, none⟩), .int .i64 z, .agg #[.int .i64 x.f0, .int .i64 x.f1]] w fun e w' => e = .returned (.int .i64 (joinE all (heldL l) l z x)) ∧ Led w' g b all (heldL (joinL all (heldL l) l z x)) (joinL all (heldL l) l z x) ∧ Kp g b w w' := by
 obtain ⟨W0, hW0⟩ : ∃ W0, W0 = w.alloc (.cells #[.int .i64 x.f0, .int .i64 x.f1] 34) := ⟨_, rfl⟩
 have hb0 : Below w.heap.size w W0 := by rw [hW0]; exact below_alloc (Below.refl _ _) _
 have HX0 := Aside0.mk (show MBlk W0 w.heap.size 34 #[.int .i64 x.f0, .int .i64 x.f1] by rw [hW0]; exact mblk_new _ _ _)
 have HB0 := Aside0.mk hb0
 have HL0 := Aside0.mk (hL.below hb0)
 have HA := Aside0.mk (And.intro ha (And.intro hG (And.intro hl hz)))
 have HC := Aside0.mk (wcheck_f x)
 obtain ⟨h, hh⟩ : ∃ h, h = (getL l z).getD zeroH := ⟨_, rfl⟩
 have HH := Aside0.mk hh
 clear hL hb0 ha hG hl hz hh
 go_enter Try.func18, Try.ntmps18
 go_upto_region 1 with fail
 rw [← hW0]
 clear hW0
 go_upto_region 2 with (go_at_call 27; refine (of_calls g b all (heldL l) l z h _ HL0.out HA.out.2.2.2 HH.out).mono ?_; rintro e w1 ⟨rfl, hb⟩; have HB1 := Aside0.mk hb; clear hb)
 obtain ⟨w2, hw2⟩ : ∃ w2, w2 = (w1.alloc (.cells #[.int .i64 h.e, .int .i64 h.p] 34)).alloc (.cells #[.int .i64 h.e2, .int .i64 h.p2] 34) := ⟨_, rfl⟩
 have hb2 : Below W0.heap.size W0 w2 := by rw [hw2]; exact below_alloc (below_alloc HB1.out _) _
 have HX2 := Aside0.mk ((hb2.block _ (mblk_lt HX0.out)).trans HX0.out)
 have HL2 := Aside0.mk (HL0.out.below hb2)
 have HB2 := Aside0.mk (below_step HB0.out hb2)
 rw [← hw2]
 clear hw2 hb2 HB1 HX0 HL0 HB0 HH
 have x0 : w2.cell? ⟨w.heap.size, 0, none⟩ = some (.int .i64 x.f0) := (mblk_cell HX2.out 0).trans rfl
 have x1 : w2.cell? ⟨w.heap.size, 1, none⟩ = some (.int .i64 x.f1) := (mblk_cell HX2.out 1).trans rfl
 by_cases hm : mayW x = true
 case neg =>
  have hm' : mayW x = false := by simpa using hm
  have HE := Aside0.mk (show joinE all (heldL l) l z x = 1 by unfold joinE; rw [if_pos hm'])
  clear hm
  go_wp2_with (go_at_call 66; refine (window_Check.calls x.f0 x.f1 _ _ HC.out).mono ?_; rw [hm']; rintro e w3 ⟨rfl, hb⟩; have HB3 := Aside0.mk hb; clear hb)
  refine bodyPost_ret (results_tmp rfl _ _ _) rfl ⟨by rw [HE.out]; rfl, ?_, (Kp.of HB2.out).trans (Kp.of HB3.out)⟩
  unfold joinL
  rw [HE.out, if_neg (by decide)]
  exact HL2.out.below HB3.out
 have HM := Aside0.mk hm
 by_cases hh : hasL l z = true
 ·have HE := Aside0.mk (show joinE all (heldL l) l z x = 14 by unfold joinE; rw [if_neg (by simp [HM.out]), if_pos hh])
  go_wp2_with (go_at_call 66; refine (window_Check.calls x.f0 x.f1 _ _ HC.out).mono ?_; rw [hm]; rintro e w3 ⟨rfl, hb⟩; have HB3 := Aside0.mk hb; clear hb)
  refine bodyPost_ret (results_tmp rfl _ _ _) rfl ⟨by rw [HE.out]; rfl, ?_, (Kp.of HB2.out).trans (Kp.of HB3.out)⟩
  unfold joinL
  rw [HE.out, if_neg (by decide)]
  exact HL2.out.below HB3.out
 have hh' : hasL l z = false := by simpa using hh
 have HH := Aside0.mk hh'
 clear hh
 go_upto_if 27 with (first
  | (go_at_call 66; refine (window_Check.calls x.f0 x.f1 _ _ HC.out).mono ?_; rw [hm]; rintro e w3 ⟨rfl, hb⟩; have HB3 := Aside0.mk (below_step HB2.out hb); have HX3 := Aside0.mk ((hb.block _ (mblk_lt HX2.out)).trans HX2.out); have HL3 := Aside0.mk (HL2.out.below hb); have x0 : w3.cell? ⟨w.heap.size, 0, none⟩ = some (.int .i64 x.f0) := (mblk_cell HX3.out 0).trans rfl; have x1 : w3.cell? ⟨w.heap.size, 1, none⟩ = some (.int .i64 x.f1) := (mblk_cell HX3.out 1).trans rfl; clear hb HC)
  | (go_at_call 22; refine (Fits_calls g b all (heldL l) l x ⟨0, 0⟩ _ HL3.out HA.out.1 (sz_mono (held_sz HA.out.2.1) (by omega))).mono ?_; rintro e w4 ⟨rfl, hb⟩; have HB4 := Aside0.mk (below_step HB3.out hb); have HX4 := Aside0.mk ((hb.block _ (mblk_lt HX3.out)).trans HX3.out); have HL4 := Aside0.mk (HL3.out.below hb); clear hb))
 clear HL2 HX2 HB2 HL3 HX3 HB3 x0 x1
 have x0 : w4.cell? ⟨w.heap.size, 0, none⟩ = some (.int .i64 x.f0) := (mblk_cell HX4.out 0).trans rfl
 have x1 : w4.cell? ⟨w.heap.size, 1, none⟩ = some (.int .i64 x.f1) := (mblk_cell HX4.out 1).trans rfl
 by_cases hf : fitsW all (heldL l) x ⟨0, 0⟩ = true
 case neg =>
  have hf' : fitsW all (heldL l) x ⟨0, 0⟩ = false := by simpa using hf
  have HE := Aside0.mk (show joinE all (heldL l) l z x = 18 by unfold joinE; rw [if_neg (by simp [HM.out]), if_neg (by simp [HH.out]), if_pos hf'])
  rw [hf']
  clear hf hf' hm hh'
  go_wp2_with fail
  refine bodyPost_ret (results_tmp rfl _ _ _) rfl ⟨by rw [HE.out]; rfl, ?_, Kp.of HB4.out⟩
  unfold joinL
  rw [HE.out, if_neg (by decide)]
  exact HL4.out
 have HE := Aside0.mk (show joinE all (heldL l) l z x = 0 by unfold joinE; rw [if_neg (by simp [HM.out]), if_neg (by simp [HH.out]), if_neg (by simp [hf])])
 have HGS := Aside0.mk (set_good (z := z) (h := ⟨x.f0, x.f1, 0, 0, false⟩) HA.out.2.1 HA.out.2.2.1 ⟨may_ok HM.out, fun h => by cases h⟩)
 rw [hf]
 clear hf hm hh'
 go_wp2_with (go_at_call 67; refine (puts_calls g b all (heldL l) l z ⟨x.f0, x.f1, 0, 0, false⟩ _ HL4.out HA.out.2.2.2 (by have := HA.out.2.2.1; omega) HGS.out).mono ?_; rintro e w5 ⟨⟨v5, rfl⟩, hl5, hk5⟩; have HL5 := Aside0.mk hl5; have HK5 := Aside0.mk ((Kp.of HB4.out).trans hk5); clear hl5 hk5)
 refine bodyPost_ret (results_tmp rfl _ _ _) rfl ⟨by rw [HE.out]; rfl, ?_, HK5.out⟩
 unfold joinL
 rw [HE.out, if_pos rfl]
 exact HL5.out
end Go.Proofs.Ytfldklimlcnnnaa.XMeth
end

section
namespace Go.Proofs.Ytfldklimlcnnnaa.XAsk
open Go.RowKit Go.Shelf Go.Proofs.Ytfldklimlcnnnaa.PHq Go.Proofs.YtfldklimlcnnnaaW.PrintWords Go.Proofs.YtfldklimlcnnnaaW.PrintLast Go.Proofs.YtfldklimlcnnnaaW.PrintMore Go.Proofs.Ytfldklimlcnnnaa.MWords
open Go.Proofs.Ytfldklimlcnnnaa.MNat Go.Proofs.Ytfldklimlcnnnaa.QNat Go.Proofs.Ytfldklimlcnnnaa.QText Go.Proofs.Ytfldklimlcnnnaa.QEv Go.Proofs.Ytfldklimlcnnnaa.QRatio Go.Proofs.Ytfldklimlcnnnaa.XRV Go.Proofs.Ytfldklimlcnnnaa.XHold Go.Proofs.Ytfldklimlcnnnaa.XWts Go.Proofs.Ytfldklimlcnnnaa.XLed Go.Proofs.Ytfldklimlcnnnaa.XPuts Go.Proofs.Ytfldklimlcnnnaa.XFits Go.Proofs.Ytfldklimlcnnnaa.XJoin Go.Proofs.Ytfldklimlcnnnaa.XMeth
end Go.Proofs.Ytfldklimlcnnnaa.XAsk
end

section
namespace Go.Proofs.Ytfldklimlcnnnaa.XEnd
open Go.RowKit Go.Shelf Go.Proofs.Ytfldklimlcnnnaa.PHq Go.Proofs.YtfldklimlcnnnaaW.PrintWords Go.Proofs.YtfldklimlcnnnaaW.PrintLast Go.Proofs.YtfldklimlcnnnaaW.PrintMore Go.Proofs.Ytfldklimlcnnnaa.MWords
open Go.Proofs.Ytfldklimlcnnnaa.MNat Go.Proofs.Ytfldklimlcnnnaa.QNat Go.Proofs.Ytfldklimlcnnnaa.QText Go.Proofs.Ytfldklimlcnnnaa.QEv Go.Proofs.Ytfldklimlcnnnaa.QRatio Go.Proofs.Ytfldklimlcnnnaa.XRV Go.Proofs.Ytfldklimlcnnnaa.XHold Go.Proofs.Ytfldklimlcnnnaa.XWts Go.Proofs.Ytfldklimlcnnnaa.XLed Go.Proofs.Ytfldklimlcnnnaa.XPuts Go.Proofs.Ytfldklimlcnnnaa.XFits Go.Proofs.Ytfldklimlcnnnaa.XJoin Go.Proofs.Ytfldklimlcnnnaa.XMeth Go.Proofs.Ytfldklimlcnnnaa.XAsk
theorem map_del {W : World} {b : Nat} {l : List (Int × Hd)} (h : MapIs W b l) {x : Int} (hx : wfI x) :
  ∃ w', (Builtin.delete_ #[94, 3] 0 #[.map (some b), .int .i64 x]).run Try.prog W = .ok (.tuple #[]) w' ∧ MapIs w' b (delL l x) ∧ W.mapTurned w' b := by
 obtain ⟨D, hD, hV⟩ := h
 obtain ⟨w', hrun, h1, h2⟩ := hD.drop keyed Try.underlying94 (key_of hx) 0
 have hv := hV.del (hD.tidy keyed) x
 have h3 := own_size h1
 rw [hv.size] at h3
 exact ⟨w', hrun, ⟨_, h3, hv⟩, h2⟩
def freeE (l : List (Int × Hd)) (z : Int) : Int := if hasL l z = true then 0 else 12
def freeL (l : List (Int × Hd)) (z : Int) : List (Int × Hd) := if hasL l z = true then delL l z else l
theorem del_good {l : List (Int × Hd)} {z : Int} (hG : GoodL l) : GoodL (delL l z) :=
 ⟨Nat.le_trans (List.length_filter_le _ _) hG.len, fun y hy => hG.ok y (List.mem_filter.1 hy).1⟩
set_option maxRecDepth 100000 in
set_option maxHeartbeats 4000000 in
theorem free_calls (g b : Nat) (all : Rat) (l : List (Int × Hd)) (z : Int) (w : World) (hL : Led w g b all (heldL l) l) (hG : GoodL l) (hz : wfI z) :
  Calls Try.prog 25 #[.pointer (some ⟨g, 0, none⟩), .int .i64 z] w fun e w' => e = .returned (.int .i64 (freeE l z)) ∧ Led w' g b all (heldL (freeL l z)) (freeL l z) ∧ Kp g b w w' := by
 have HL0 := Aside0.mk hL
 have HA := Aside0.mk (And.intro hG hz)
 obtain ⟨h, hh⟩ : ∃ h, h = (getL l z).getD zeroH := ⟨_, rfl⟩
 have HH := Aside0.mk hh
 clear hL hG hz hh
 go_enter Try.func25, Try.ntmps25
 go_upto_region 2 with (go_at_call 27; refine (of_calls g b all (heldL l) l z h _ HL0.out HA.out.2 HH.out).mono ?_; rintro e w1 ⟨rfl, hb⟩; have HB1 := Aside0.mk hb; clear hb)
 obtain ⟨w2, hw2⟩ : ∃ w2, w2 = (w1.alloc (.cells #[.int .i64 h.e, .int .i64 h.p] 34)).alloc (.cells #[.int .i64 h.e2, .int .i64 h.p2] 34) := ⟨_, rfl⟩
 have hb2 : Below w.heap.size w w2 := by rw [hw2]; exact below_alloc (below_alloc HB1.out _) _
 have HL2 := Aside0.mk (HL0.out.below hb2)
 have HB2 := Aside0.mk hb2
 rw [← hw2]
 clear hw2 hb2 HB1 HL0 HH
 by_cases hs : hasL l z = true
 case neg =>
  have hs' : hasL l z = false := by simpa using hs
  have HE := Aside0.mk (show freeE l z = 12 ∧ freeL l z = l by unfold freeE freeL; exact ⟨if_neg hs, if_neg hs⟩)
  rw [hs']
  clear hs hs'
  go_wp2_with fail
  refine bodyPost_ret (results_tmp rfl _ _ _) rfl ⟨by rw [HE.out.1]; rfl, ?_, Kp.of HB2.out⟩
  rw [HE.out.2]
  exact HL2.out
 have HE := Aside0.mk (show freeE l z = 0 ∧ freeL l z = delL l z by unfold freeE freeL; exact ⟨if_pos hs, if_pos hs⟩)
 rw [hs]
 clear hs
 obtain ⟨_, _, _, _, hM, _⟩ := HL2.out.cells
 have k1 : w2.cell? ⟨g, 2, none⟩ = some (.map (some b)) := (mblk_cell hM 2).trans rfl
 obtain ⟨w3, hrun, hm3, ht3⟩ := map_del HL2.out.map HA.out.2
 have HL3 := Aside0.mk (led_turn HL2.out hm3 ht3)
 have HK3 := Aside0.mk ((Kp.of HB2.out).trans (kp_turn (g := g) ht3))
 have HGD := Aside0.mk (del_good (z := z) HA.out.1)
 clear hM hm3 ht3
 go_upto_region 7 with fail
 go_wp2_with (go_at_call 74; refine (counts_calls g b all (heldL l) _ _ HL3.out HGD.out).mono ?_; rintro e w9 ⟨⟨v9, rfl⟩, hl9, hk9⟩; have HL9 := Aside0.mk hl9; have HK9 := Aside0.mk (HK3.out.trans hk9); clear hl9 hk9)
 refine bodyPost_ret (results_tmp rfl _ _ _) rfl ⟨by rw [HE.out.1]; rfl, ?_, HK9.out⟩
 rw [HE.out.2]
 exact HL9.out
end Go.Proofs.Ytfldklimlcnnnaa.XEnd
end

section
namespace Go.Proofs.Ytfldklimlcnnnaa.XTCl
open Go.RowKit Go.Proofs.Ytfldklimlcnnnaa.PHq Go.Proofs.YtfldklimlcnnnaaW.PrintWords Go.Proofs.YtfldklimlcnnnaaW.PrintLast Go.Proofs.YtfldklimlcnnnaaW.PrintMore Go.Proofs.Ytfldklimlcnnnaa.MWords
open Go.Proofs.Ytfldklimlcnnnaa.MNat Go.Proofs.Ytfldklimlcnnnaa.QRatio Go.Proofs.Ytfldklimlcnnnaa.XRV Go.Proofs.Ytfldklimlcnnnaa.XHold Go.Proofs.Ytfldklimlcnnnaa.XLed Go.Proofs.Ytfldklimlcnnnaa.XTree Go.Proofs.Ytfldklimlcnnnaa.XAllW Go.Proofs.Ytfldklimlcnnnaa.XMeth Go.Proofs.Ytfldklimlcnnnaa.XAsk Go.Proofs.Ytfldklimlcnnnaa.XEnd
def bxI (k : Nat) (z : Int) : Nat × TypeId × Array Value := (k, 3, #[.int .i64 z])
def bxW (k : Nat) (x : S34) : Nat × TypeId × Array Value := (k, 34, #[.int .i64 x.f0, .int .i64 x.f1])
theorem bxI_ty (k : Nat) (z : Int) : (bxI k z).2.1 ≠ 97 := by show 3 ≠ 97; decide
theorem bxW_ty (k : Nat) (x : S34) : (bxW k x).2.1 ≠ 97 := by show 34 ≠ 97; decide
def PaL (all : Rat) (l : List (Int × Hd)) : Prop := Sz 3000 all ∧ GoodL l ∧ l.length < 500
def PuL (all : Rat) (l : List (Int × Hd)) : Prop := GoodL l
set_option maxRecDepth 100000 in
set_option maxHeartbeats 2000000 in
theorem join1 (k1 k2 : Nat) (z : Int) (x : S34) (hz : wfI z) : LedCall 87 (fun p => #[p, .pointer (some ⟨k1, 0, none⟩), .pointer (some ⟨k2, 0, none⟩)]) [bxI k1 z, bxW k2 x] (fun all l => joinE all (heldL l) l z x) (fun all l => joinL all (heldL l) l z x) PaL := by
 intro g b all l W hok hL hP
 have m1 : MBlk W k1 3 #[.int .i64 z] := hok (bxI k1 z) (by simp)
 have m2 : MBlk W k2 34 #[.int .i64 x.f0, .int .i64 x.f1] := hok (bxW k2 x) (by simp)
 have c1 : W.cell? ⟨k1, 0, none⟩ = some (.int .i64 z) := (mblk_cell m1 0).trans rfl
 have c2 : W.cell? ⟨k2, 0, none⟩ = some (.int .i64 x.f0) := (mblk_cell m2 0).trans rfl
 have c3 : W.cell? ⟨k2, 1, none⟩ = some (.int .i64 x.f1) := (mblk_cell m2 1).trans rfl
 have HC := Aside0.mk (join_calls g b all l z x W hL hP.1 hP.2.1 hP.2.2 hz)
 clear hok hL hP m1 m2 hz
 show Calls _ _ #[_, _, _] _ _
 go_enter Try.func87, Try.ntmps87
 go_wp2_with fail
 refine HC.out.mono ?_
 rintro e w1 ⟨rfl, h⟩
 have H := Aside0.mk h
 clear h HC
 go_wp2_with fail
 go_ret
 exact ⟨rfl, H.out⟩
set_option maxRecDepth 100000 in
set_option maxHeartbeats 2000000 in
theorem join2 (k1 : Nat) (z : Int) (bx : List (Nat × TypeId × Array Value)) (hbx : bxI k1 z ∈ bx) (hz : wfI z) : LedCall 88 (fun p => #[p, .pointer (some ⟨k1, 0, none⟩)]) bx (fun _ l => freeE l z) (fun _ l => freeL l z) PuL := by
 intro g b all l W hok hL hP
 have m1 : MBlk W k1 3 #[.int .i64 z] := hok (bxI k1 z) hbx
 have c1 : W.cell? ⟨k1, 0, none⟩ = some (.int .i64 z) := (mblk_cell m1 0).trans rfl
 have HC := Aside0.mk (free_calls g b all l z W hL hP hz)
 clear hok hL hP m1 hz hbx
 show Calls _ _ #[_, _] _ _
 go_enter Try.func88, Try.ntmps88
 go_wp2_with fail
 refine HC.out.mono ?_
 rintro e w1 ⟨rfl, h⟩
 have H := Aside0.mk h
 clear h HC
 go_wp2_with fail
 go_ret
 exact ⟨rfl, H.out⟩
end Go.Proofs.Ytfldklimlcnnnaa.XTCl
end

section
namespace Go.Proofs.Ytfldklimlcnnnaa.XAwake
open Go.RowKit Go.Shelf Go.Proofs.Ytfldklimlcnnnaa.PHq Go.Proofs.YtfldklimlcnnnaaW.PrintWords Go.Proofs.YtfldklimlcnnnaaW.PrintLast Go.Proofs.YtfldklimlcnnnaaW.PrintMore Go.Proofs.Ytfldklimlcnnnaa.MWords
open Go.Proofs.Ytfldklimlcnnnaa.MNat Go.Proofs.Ytfldklimlcnnnaa.QNat Go.Proofs.Ytfldklimlcnnnaa.QText Go.Proofs.Ytfldklimlcnnnaa.QEv Go.Proofs.Ytfldklimlcnnnaa.QRatio Go.Proofs.Ytfldklimlcnnnaa.XRV Go.Proofs.Ytfldklimlcnnnaa.XHold Go.Proofs.Ytfldklimlcnnnaa.XWts Go.Proofs.Ytfldklimlcnnnaa.XLed Go.Proofs.Ytfldklimlcnnnaa.XPuts Go.Proofs.Ytfldklimlcnnnaa.XFits Go.Proofs.Ytfldklimlcnnnaa.XJoin Go.Proofs.Ytfldklimlcnnnaa.XMeth Go.Proofs.Ytfldklimlcnnnaa.XAsk Go.Proofs.Ytfldklimlcnnnaa.XEnd
end Go.Proofs.Ytfldklimlcnnnaa.XAwake
end

section
namespace Go.Proofs.Ytfldklimlcnnnaa.QHold
open Go.RowKit Go.Shelf Go.Proofs.Ytfldklimlcnnnaa.PHq Go.Proofs.YtfldklimlcnnnaaW.PrintWords Go.Proofs.YtfldklimlcnnnaaW.PrintLast Go.Proofs.YtfldklimlcnnnaaW.PrintMore Go.Proofs.Ytfldklimlcnnnaa.MWords
open Go.Proofs.Ytfldklimlcnnnaa.MNat Go.Proofs.Ytfldklimlcnnnaa.QNat Go.Proofs.Ytfldklimlcnnnaa.QText Go.Proofs.Ytfldklimlcnnnaa.QEv Go.Proofs.Ytfldklimlcnnnaa.QRatio Go.Proofs.Ytfldklimlcnnnaa.XRV Go.Proofs.Ytfldklimlcnnnaa.XHold Go.Proofs.Ytfldklimlcnnnaa.XWts Go.Proofs.Ytfldklimlcnnnaa.XLed Go.Proofs.Ytfldklimlcnnnaa.XPuts Go.Proofs.Ytfldklimlcnnnaa.XFits Go.Proofs.Ytfldklimlcnnnaa.XJoin Go.Proofs.Ytfldklimlcnnnaa.XMeth Go.Proofs.Ytfldklimlcnnnaa.XAsk Go.Proofs.Ytfldklimlcnnnaa.XEnd Go.Proofs.Ytfldklimlcnnnaa.XAwake
theorem held_app (a b : List (Int × Hd)) : heldL (a ++ b) = heldL a + heldL b := by
 unfold heldL
 rw [List.map_append, sumR_append]
theorem wt_nonneg (x : S34) : 0 ≤ wt x := mk_nonneg _ _
theorem held_nonneg : ∀ l : List (Int × Hd), 0 ≤ heldL l
 | [] => Rat.le_refl
 | y :: l => Rat.add_nonneg (wt_nonneg _) (held_nonneg l)
theorem set_new {l : List (Int × Hd)} {z : Int} (h : hasL l z = false) (k : Hd) : setL l z k = l ++ [(z, k)] := by
 unfold setL
 rw [if_neg (by simp [h])]
theorem filter_far {a : List (Int × Hd)} {z : Int} (h : ∀ y ∈ a, y.1 ≠ z) : a.filter (fun y => decide (y.1 ≠ z)) = a := by
 rw [List.filter_eq_self]
 intro y hy
 simpa using h y hy
theorem fits_new {all q : Rat} {x : S34} (hq : 0 ≤ q) (hm : mayW x = true) : fitsW all q x ⟨0, 0⟩ = decide (q + wt x ≤ all) := by
 unfold fitsW fitsQ
 rw [hm, if_neg (by decide), Bool.true_and, show q + wt x - 0 = q + wt x by grind, decide_eq_true (Rat.add_nonneg hq (wt_nonneg x)), Bool.true_and]
theorem join_new {all q : Rat} {l : List (Int × Hd)} {z : Int} {x : S34} (hq : 0 ≤ q) (hm : mayW x = true) (hz : hasL l z = false) :
  joinE all q l z x = if q + wt x ≤ all then 0 else 18 := by
 unfold joinE
 rw [if_neg (by simp [hm]), if_neg (by simp [hz]), fits_new hq hm]
 by_cases h : q + wt x ≤ all
 ·rw [decide_eq_true h, if_neg (by decide), if_pos h]
 ·rw [decide_eq_false h, if_pos rfl, if_neg h]
theorem hv_plain {h : Hd} (ha : h.a = false) : hv h = wN h := by
 unfold hv
 rw [if_neg (by simp [ha])]
theorem joinL_same {all q : Rat} {l : List (Int × Hd)} {z : Int} {x : S34} (h : joinE all q l z x ≠ 0) : joinL all q l z x = l := by unfold joinL; rw [if_neg h]
end Go.Proofs.Ytfldklimlcnnnaa.QHold
end

section
namespace Go.Proofs.Ytfldklimlcnnnaa.QTr
open Go.RowKit Go.Proofs.Ytfldklimlcnnnaa.PHq Go.Proofs.YtfldklimlcnnnaaW.PrintWords Go.Proofs.YtfldklimlcnnnaaW.PrintLast Go.Proofs.YtfldklimlcnnnaaW.PrintMore Go.Proofs.Ytfldklimlcnnnaa.MWords
open Go.Proofs.Ytfldklimlcnnnaa.MNat Go.Proofs.Ytfldklimlcnnnaa.QRatio Go.Proofs.Ytfldklimlcnnnaa.XRV Go.Proofs.Ytfldklimlcnnnaa.XHold Go.Proofs.Ytfldklimlcnnnaa.XWts Go.Proofs.Ytfldklimlcnnnaa.XLed Go.Proofs.Ytfldklimlcnnnaa.XFits Go.Proofs.Ytfldklimlcnnnaa.XJoin Go.Proofs.Ytfldklimlcnnnaa.XMeth Go.Proofs.Ytfldklimlcnnnaa.XAsk Go.Proofs.Ytfldklimlcnnnaa.XEnd Go.Proofs.Ytfldklimlcnnnaa.QHold Go.Proofs.Ytfldklimlcnnnaa.XTree Go.Proofs.Ytfldklimlcnnnaa.QTree Go.Proofs.Ytfldklimlcnnnaa.XTCl Go.Proofs.Ytfldklimlcnnnaa.XAllW Go.Proofs.Ytfldklimlcnnnaa.XOf
section
variable {l m : List (Int × Hd)}
theorem hasL_perm (h : l.Perm m) (z : Int) : hasL l z = hasL m z := by
 unfold hasL
 rw [Bool.eq_iff_iff, List.any_eq_true, List.any_eq_true]
 exact ⟨fun ⟨y, hy, e⟩ => ⟨y, h.mem_iff.1 hy, e⟩, fun ⟨y, hy, e⟩ => ⟨y, h.mem_iff.2 hy, e⟩⟩
theorem held_perm (h : l.Perm m) : heldL l = heldL m := perm_sum (h.map fun z => hv z.2)
theorem joinE_perm (h : l.Perm m) (all : Rat) (z : Int) (x : S34) : joinE all (heldL l) l z x = joinE all (heldL m) m z x := by
 unfold joinE
 rw [held_perm h, hasL_perm h]
theorem good_perm (h : l.Perm m) (hG : GoodL m) : GoodL l := ⟨by rw [h.length_eq]; exact hG.len, fun z hz => hG.ok z (h.mem_iff.1 hz)⟩
end
structure Hol where
 id : Int
 srv : Int
 hd : Hd
def onB (sv : List S71) (s : Int) (x : Hol) : Bool := decide (s ∈ pathS sv x.srv)
def sub (sv : List S71) (H : List Hol) (s : Int) : List (Int × Hd) := (H.filter (onB sv s)).map fun x => (x.id, x.hd)
def heldH (sv : List S71) (H : List Hol) (s : Int) : Rat := heldL (sub sv H s)
def hasH (H : List Hol) (z : Int) : Bool := H.any fun x => decide (x.id = z)
def getH (H : List Hol) (z : Int) : Option Hol := H.find? fun x => decide (x.id = z)
structure OkHol (x : Hol) : Prop where
 ok : okH x.hd
 cl : x.hd.a = false → x.hd.e2 = 0 ∧ x.hd.p2 = 0
 now : mayW (wN x.hd) = true
 nxt : x.hd.a = true → mayW (wX x.hd) = true
 wf : wfI x.id
structure Inv (sv : List S71) (al : Int → Rat) (at_ : List (Int × Int)) (ls : Int → List (Int × Hd)) (H : List Hol) (m : Nat) : Prop where
 at_ : at_.Perm (H.map fun x => (x.id, x.srv))
 ls : ∀ s, inR sv.length s → (ls s).Perm (sub sv H s)
 nod : (H.map (·.id)).Nodup
 srv : ∀ x ∈ H, inR sv.length x.srv
 ok : ∀ x ∈ H, OkHol x
 len : H.length ≤ m
 le : ∀ s, inR sv.length s → heldH sv H s ≤ al s
 sz : ∀ s, inR sv.length s → Sz 3000 (al s)
section
variable {sv : List S71} {al : Int → Rat} {at_ : List (Int × Int)} {ls : Int → List (Int × Hd)} {H : List Hol} {m : Nat}
theorem sub_len (s : Int) : (sub sv H s).length ≤ H.length := by
 unfold sub
 rw [List.length_map]
 exact List.length_filter_le _ _
theorem sub_mem {s : Int} {y : Int × Hd} : y ∈ sub sv H s ↔ ∃ x ∈ H, onB sv s x = true ∧ y = (x.id, x.hd) := by
 unfold sub
 rw [List.mem_map]
 constructor
 ·rintro ⟨x, hx, rfl⟩
  rw [List.mem_filter] at hx
  exact ⟨x, hx.1, hx.2, rfl⟩
 ·rintro ⟨x, hx, h, rfl⟩
  exact ⟨x, List.mem_filter.2 ⟨hx, h⟩, rfl⟩
theorem sub_has {s z : Int} : hasL (sub sv H s) z = true ↔ ∃ x ∈ H, x.id = z ∧ onB sv s x = true := by
 unfold hasL
 rw [List.any_eq_true]
 constructor
 ·rintro ⟨y, hy, e⟩
  obtain ⟨x, hx, h, rfl⟩ := sub_mem.1 hy
  exact ⟨x, hx, by simpa using e, h⟩
 ·rintro ⟨x, hx, e, h⟩
  exact ⟨_, sub_mem.2 ⟨x, hx, h, rfl⟩, by simpa using e⟩
theorem hasH_iff {z : Int} : hasH H z = true ↔ ∃ x ∈ H, x.id = z := by
 unfold hasH
 rw [List.any_eq_true]
 simp
theorem sub_no {z : Int} (h : hasH H z = false) (s : Int) : hasL (sub sv H s) z = false := by
 cases e : hasL (sub sv H s) z with
 | false => rfl
 | true =>
  obtain ⟨x, hx, e, _⟩ := sub_has.1 e
  have := hasH_iff.2 ⟨x, hx, e⟩
  rw [h] at this
  cases this
theorem hol_unique (hn : (H.map (·.id)).Nodup) {x y : Hol} (hx : x ∈ H) (hy : y ∈ H) (e : x.id = y.id) : x = y := by
 induction H with
 | nil => cases hx
 | cons a H ih =>
  rw [List.map_cons, List.nodup_cons] at hn
  rcases List.mem_cons.1 hx with rfl | hx'
  ·rcases List.mem_cons.1 hy with rfl | hy'
   ·rfl
   ·exact absurd (List.mem_map.2 ⟨y, hy', e.symm⟩ : x.id ∈ List.map (fun x => x.id) H) hn.1
  ·rcases List.mem_cons.1 hy with rfl | hy'
   ·exact absurd (List.mem_map.2 ⟨x, hx', e⟩ : y.id ∈ List.map (fun x => x.id) H) hn.1
   ·exact ih hn.2 hx' hy'
theorem sub_app (x : Hol) (s : Int) : sub sv (H ++ [x]) s = if onB sv s x = true then sub sv H s ++ [(x.id, x.hd)] else sub sv H s := by
 unfold sub
 rw [List.filter_append, List.map_append]
 by_cases h : onB sv s x = true
 ·rw [if_pos h, List.filter_cons, if_pos h]; rfl
 ·rw [if_neg h, List.filter_cons, if_neg h]; simp
theorem del_far {l : List (Int × Hd)} {z : Int} (h : hasL l z = false) : delL l z = l := by
 unfold delL
 refine filter_far fun y hy e => ?_
 unfold hasL at h
 rw [List.any_eq_false] at h
 exact h y hy (by simpa using e)
theorem free_eq_del (l : List (Int × Hd)) (z : Int) : freeL l z = delL l z := by
 unfold freeL
 cases h : hasL l z with
 | true => rw [if_pos rfl]
 | false => rw [if_neg (by decide), del_far h]
theorem Inv.good (h : Inv sv al at_ ls H m) (hm : m ≤ 500) {s : Int} (hs : inR sv.length s) : GoodL (ls s) :=
 good_perm (h.ls s hs) ⟨Nat.le_trans (sub_len s) (Nat.le_trans h.len hm), fun z hz => by
  obtain ⟨x, hx, _, rfl⟩ := sub_mem.1 hz
  exact (h.ok x hx).ok⟩
theorem Inv.pa (h : Inv sv al at_ ls H m) (hm : m < 500) {s : Int} (hs : inR sv.length s) : PaL (al s) (ls s) :=
 ⟨h.sz s hs, h.good (by omega) hs, by rw [(h.ls s hs).length_eq]; exact Nat.lt_of_le_of_lt (Nat.le_trans (sub_len s) h.len) hm⟩
theorem at_has {z : Int} (h : at_.Perm (H.map fun x => (x.id, x.srv))) : XAt.hasL at_ z = hasH H z := by
 rw [Bool.eq_iff_iff, hasH_iff]
 unfold XAt.hasL
 rw [List.any_eq_true]
 constructor
 ·rintro ⟨y, hy, e⟩
  obtain ⟨x, hx, rfl⟩ := List.mem_map.1 (h.mem_iff.1 hy)
  exact ⟨x, hx, by simpa using e⟩
 ·rintro ⟨x, hx, e⟩
  exact ⟨_, h.mem_iff.2 (List.mem_map.2 ⟨x, hx, rfl⟩), by simpa using e⟩
theorem at_get (hn : (H.map (·.id)).Nodup) (h : at_.Perm (H.map fun x => (x.id, x.srv))) {x : Hol} (hx : x ∈ H) : srvA at_ x.id = x.srv := by
 unfold srvA
 rw [at_has h, hasH_iff.2 ⟨x, hx, rfl⟩, if_pos rfl]
 have hmem : (x.id, x.srv) ∈ at_ := h.mem_iff.2 (List.mem_map.2 ⟨x, hx, rfl⟩)
 cases e : XAt.getL at_ x.id with
 | none =>
  have := XAt.getL_none e
  unfold XAt.hasL at this
  rw [List.any_eq_false] at this
  exact absurd (by simp : decide (((x.id, x.srv) : Int × Int).1 = x.id) = true) (this _ hmem)
 | some y =>
  have h1 := h.mem_iff.1 (XAt.getL_mem e)
  obtain ⟨x', hx', e'⟩ := List.mem_map.1 h1
  have e1 : x'.id = x.id := (Prod.mk.inj e').1
  have e2 := hol_unique hn hx' hx e1
  rw [← e2]
  exact (Prod.mk.inj e').2.symm
def srvH (H : List Hol) (z : Int) : Int := match getH H z with | none => -2 | some x => x.srv
theorem getH_mem {z : Int} {x : Hol} (h : getH H z = some x) : x ∈ H ∧ x.id = z := ⟨List.mem_of_find?_eq_some h, by simpa using List.find?_some h⟩
theorem getH_none {z : Int} (h : getH H z = none) : hasH H z = false := by
 unfold getH at h
 rw [List.find?_eq_none] at h
 unfold hasH
 rw [List.any_eq_false]
 exact h
theorem getH_some {z : Int} (h : hasH H z = true) : ∃ x, getH H z = some x := by
 cases e : getH H z with
 | none => rw [getH_none e] at h; cases h
 | some x => exact ⟨x, rfl⟩
theorem Inv.srvA (h : Inv sv al at_ ls H m) (z : Int) : srvA at_ z = srvH H z := by
 unfold srvH
 cases e : getH H z with
 | none =>
  show XOf.srvA at_ z = -2
  unfold XOf.srvA
  rw [at_has h.at_, getH_none e, if_neg (by decide)]
 | some x =>
  obtain ⟨hx, hz⟩ := getH_mem e
  rw [← hz]
  exact at_get h.nod h.at_ hx
end
end Go.Proofs.Ytfldklimlcnnnaa.QTr
end

section
namespace Go.Proofs.Ytfldklimlcnnnaa.QTr
open Go.RowKit Go.Proofs.Ytfldklimlcnnnaa.PHq Go.Proofs.YtfldklimlcnnnaaW.PrintWords Go.Proofs.YtfldklimlcnnnaaW.PrintLast Go.Proofs.YtfldklimlcnnnaaW.PrintMore Go.Proofs.Ytfldklimlcnnnaa.MWords
open Go.Proofs.Ytfldklimlcnnnaa.MNat Go.Proofs.Ytfldklimlcnnnaa.QRatio Go.Proofs.Ytfldklimlcnnnaa.XRV Go.Proofs.Ytfldklimlcnnnaa.XHold Go.Proofs.Ytfldklimlcnnnaa.XWts Go.Proofs.Ytfldklimlcnnnaa.XLed Go.Proofs.Ytfldklimlcnnnaa.XFits Go.Proofs.Ytfldklimlcnnnaa.XJoin Go.Proofs.Ytfldklimlcnnnaa.XMeth Go.Proofs.Ytfldklimlcnnnaa.XAsk Go.Proofs.Ytfldklimlcnnnaa.XEnd Go.Proofs.Ytfldklimlcnnnaa.QHold Go.Proofs.Ytfldklimlcnnnaa.XTree Go.Proofs.Ytfldklimlcnnnaa.QTree Go.Proofs.Ytfldklimlcnnnaa.XTCl Go.Proofs.Ytfldklimlcnnnaa.XAllW Go.Proofs.Ytfldklimlcnnnaa.XOf
theorem may_okW {x : S34} (h : mayW x = true) : okW x ∧ 1 ≤ x.f0 ∧ x.f0 ≤ x.f1 ∧ x.f1 ≤ 1048576 := by
 unfold mayW at h
 simp at h
 unfold okW
 omega
def newH (x : S34) : Hd := ⟨x.f0, x.f1, 0, 0, false⟩
section
variable {sv : List S71} {al : Int → Rat} {at_ : List (Int × Int)} {ls : Int → List (Int × Hd)} {H : List Hol} {m : Nat}
theorem onB_iff {s : Int} {x : Hol} : onB sv s x = true ↔ s ∈ pathS sv x.srv := by unfold onB; exact decide_eq_true_iff
theorem Inv.joinE (h : Inv sv al at_ ls H m) {z : Int} {x : S34} (hm : mayW x = true) (hz : hasH H z = false) {y : Int} (hy : inR sv.length y) :
  joinE (al y) (heldL (ls y)) (ls y) z x = if heldH sv H y + wt x ≤ al y then 0 else 18 := by
 rw [joinE_perm (h.ls y hy), join_new (held_nonneg _) hm (sub_no hz y)]
 rfl
theorem Inv.joinL (h : Inv sv al at_ ls H m) {z : Int} {x : S34} (hm : mayW x = true) (hz : hasH H z = false) {y : Int} (hy : inR sv.length y) (hf : heldH sv H y + wt x ≤ al y) :
  joinL (al y) (heldL (ls y)) (ls y) z x = ls y ++ [(z, newH x)] := by
 have h1 := h.joinE hm hz hy
 rw [if_pos hf] at h1
 unfold XMeth.joinL
 rw [if_pos h1, set_new (by rw [hasL_perm (h.ls y hy)]; exact sub_no hz y)]
 rfl
theorem Inv.join (h : Inv sv al at_ ls H m) (hG : GoodSv sv) {z s : Int} {x : S34} (hs : inR sv.length s) (hm : mayW x = true) (hz : hasH H z = false) (hw : wfI z) (hf : ∀ y ∈ pathS sv s, heldH sv H y + wt x ≤ al y) :
  Inv sv al (XAt.setL at_ z s) (stp (fun all l => XMeth.joinL all (heldL l) l z x) al ls (pathS sv s)) (H ++ [⟨z, s, newH x⟩]) (m + 1) where
 at_ := by
  unfold XAt.setL
  rw [at_has h.at_, hz, if_neg (by decide), List.map_append]
  exact h.at_.append_right _
 ls := fun y hy => by
  rw [sub_app]
  by_cases hp : y ∈ pathS sv s
  ·rw [if_pos (onB_iff.2 hp)]
   unfold stp
   rw [if_pos hp]
   show (XMeth.joinL (al y) (heldL (ls y)) (ls y) z x).Perm _
   rw [h.joinL hm hz hy (hf y hp)]
   exact (h.ls y hy).append_right _
  ·rw [if_neg (fun c => hp (onB_iff.1 c)), stp_other hp]
   exact h.ls y hy
 nod := by
  rw [List.map_append, List.nodup_append]
  refine ⟨h.nod, by simp, fun a ha b hb e => ?_⟩
  obtain ⟨x', hx', rfl⟩ := List.mem_map.1 ha
  have hb' : b = z := by simpa using hb
  have := hasH_iff.2 ⟨x', hx', e.trans hb'⟩
  rw [hz] at this
  cases this
 srv := fun a ha => by
  rcases List.mem_append.1 ha with ha | ha
  ·exact h.srv a ha
  ·rw [List.mem_singleton.1 ha]; exact hs
 ok := fun a ha => by
  rcases List.mem_append.1 ha with ha | ha
  ·exact h.ok a ha
  ·rw [List.mem_singleton.1 ha]
   exact ⟨⟨(may_okW hm).1, fun c => by cases c⟩, fun _ => ⟨rfl, rfl⟩, hm, fun c => (by cases c), hw⟩
 len := by rw [List.length_append]; have := h.len; simp; omega
 le := fun y hy => by
  unfold heldH
  rw [sub_app]
  by_cases hp : y ∈ pathS sv s
  ·rw [if_pos (onB_iff.2 hp), held_app]
   have : heldL [(z, newH x)] = wt x := by
    show wt (hv (newH x)) + heldL [] = wt x
    rw [hv_plain rfl]
    show wt x + 0 = wt x
    grind
   rw [this]
   exact hf y hp
  ·rw [if_neg (fun c => hp (onB_iff.1 c))]
   exact h.le y hy
 sz := h.sz
theorem Inv.unjoin (h : Inv sv al at_ ls H m) {z : Int} {x : S34} (hm : mayW x = true) (hz : hasH H z = false) {pre : List Int} (hp : ∀ y ∈ pre, inR sv.length y) (hE : ∀ y ∈ pre, XMeth.joinE (al y) (heldL (ls y)) (ls y) z x = 0) :
  stp (fun a l => freeL ((fun all l => XMeth.joinL all (heldL l) l z x) a l) z) al ls pre = ls := by
 funext y
 unfold stp
 split
 ·rename_i hy
  have h1 := hE y hy
  rw [h.joinE hm hz (hp y hy)] at h1
  have hf : heldH sv H y + wt x ≤ al y := by
   by_cases c : heldH sv H y + wt x ≤ al y
   ·exact c
   ·rw [if_neg c] at h1; cases h1
  show freeL (XMeth.joinL (al y) (heldL (ls y)) (ls y) z x) z = ls y
  rw [h.joinL hm hz (hp y hy) hf, free_eq_del]
  have h2 : hasL (ls y) z = false := by rw [hasL_perm (h.ls y (hp y hy))]; exact sub_no hz y
  have h3 : delL (ls y ++ [(z, newH x)]) z = delL (ls y) z ++ delL [(z, newH x)] z := by unfold delL; rw [List.filter_append]
  rw [h3, del_far h2]
  simp [delL]
 ·rfl
end
end Go.Proofs.Ytfldklimlcnnnaa.QTr
end

section
namespace Go.Proofs.Ytfldklimlcnnnaa.XAllJ
open Go.RowKit Go.Proofs.Ytfldklimlcnnnaa.PHq Go.Proofs.YtfldklimlcnnnaaW.PrintWords Go.Proofs.YtfldklimlcnnnaaW.PrintLast Go.Proofs.YtfldklimlcnnnaaW.PrintMore Go.Proofs.Ytfldklimlcnnnaa.MWords
open Go.Proofs.Ytfldklimlcnnnaa.MNat Go.Proofs.Ytfldklimlcnnnaa.XRV Go.Proofs.Ytfldklimlcnnnaa.XHold Go.Proofs.Ytfldklimlcnnnaa.XLed Go.Proofs.Ytfldklimlcnnnaa.XTree Go.Proofs.Ytfldklimlcnnnaa.QTree Go.Proofs.Ytfldklimlcnnnaa.XPath Go.Proofs.Ytfldklimlcnnnaa.XOf Go.Proofs.Ytfldklimlcnnnaa.XGo Go.Proofs.Ytfldklimlcnnnaa.XCollect Go.Proofs.Ytfldklimlcnnnaa.XRowP Go.Proofs.Ytfldklimlcnnnaa.XAllW
attribute [local go_sem] Oper.semAt_some
section
variable {w : World} {M : Tm} {sv : List S71} {at_ : List (Int × Int)} {al : Int → Rat} {ls : Int → List (Int × Hd)} {bx : List (Nat × TypeId × Array Value)}
set_option maxRecDepth 100000 in
set_option maxHeartbeats 8000000 in
theorem all_calls (hT : Tre w M sv at_ al ls) (hG : GoodSv sv) {s : Int} (hs : inR sv.length s) {k1 k2 : Nat} (hb1 : ∀ x ∈ bx, x.1 < w.heap.size) (hb2 : ∀ x ∈ bx, x.2.1 ≠ 97) (hok : OkB bx w)
  {E Eu : Rat → List (Int × Hd) → Int} {A U : Rat → List (Int × Hd) → List (Int × Hd)} {Pa Pu : Rat → List (Int × Hd) → Prop}
  (hca : LedCall 87 (fun p => #[p, .pointer (some ⟨k1, 0, none⟩), .pointer (some ⟨k2, 0, none⟩)]) bx E A Pa) (hcu : LedCall 88 (fun p => #[p, .pointer (some ⟨k1, 0, none⟩)]) bx Eu U Pu)
  (hPa : ∀ x ∈ pathS sv s, Pa (al x) (ls x)) (hPu : ∀ x ∈ pathS sv s, E (al x) (ls x) = 0 → Pu (al x) (A (al x) (ls x))) (hA : ∀ x ∈ pathS sv s, E (al x) (ls x) ≠ 0 → A (al x) (ls x) = ls x) :
  Calls Try.prog 86 #[.pointer (some ⟨M.t, 0, none⟩), .int .i64 s, .func (.func 87) #[] #[.pointer (some ⟨k1, 0, none⟩), .pointer (some ⟨k2, 0, none⟩)], .func (.func 88) #[] #[.pointer (some ⟨k1, 0, none⟩)]] w fun e w' =>
   ∃ ls', Kt M sv.length w w' ∧ Tre w' M sv at_ al ls' ∧
    ((e = .returned (.int .i64 0) ∧ (∀ x ∈ pathS sv s, E (al x) (ls x) = 0) ∧ ls' = stp A al ls (pathS sv s)) ∨
     ∃ pre x r, pathS sv s = pre ++ x :: r ∧ (∀ y ∈ pre, E (al y) (ls y) = 0) ∧ E (al x) (ls x) ≠ 0 ∧ e = .returned (.int .i64 (E (al x) (ls x))) ∧ ls' = stp (fun a l => U a (A a l)) al ls pre) := by
 have HPN := Aside0.mk (And.intro (path_in hG s hs) (And.intro (path_nodup hG s hs) (path_len hG s hs)))
 have HG := Aside0.mk hG
 have HT := Aside0.mk hT
 have HSM := Aside0.mk hT.small
 have HS := Aside0.mk hs
 have HBX := Aside0.mk (And.intro hb1 (And.intro hb2 hok))
 have HCA := Aside0.mk hca
 have HCU := Aside0.mk hcu
 have HPA := Aside0.mk (And.intro hPa (And.intro hPu hA))
 obtain ⟨pa, hpa⟩ : ∃ pa, pa = pathS sv s := ⟨_, rfl⟩
 rw [← hpa] at HPN HPA ⊢
 have HPE := Aside0.mk hpa
 clear hT hG hs hb1 hb2 hok hca hcu hPa hPu hA hpa
 obtain ⟨w1, hw1⟩ : ∃ w1, w1 = (((w.alloc (.cells #[.pointer (some ⟨M.t, 0, none⟩)] 67)).alloc (.cells #[.func (.func 87) #[] #[.pointer (some ⟨k1, 0, none⟩), .pointer (some ⟨k2, 0, none⟩)]] 126)).alloc (.cells #[.slice none 0 0] 117)).alloc (.cells #[.int .i64 0] 31) := ⟨_, rfl⟩
 have HW1 := Aside0.mk (show Below w.heap.size w w1 ∧ w1.heap.size = w.heap.size + 4 ∧ MBlk w1 w.heap.size 67 #[.pointer (some ⟨M.t, 0, none⟩)] ∧ MBlk w1 (w.heap.size + 1) 126 #[.func (.func 87) #[] #[.pointer (some ⟨k1, 0, none⟩), .pointer (some ⟨k2, 0, none⟩)]] ∧ MBlk w1 (w.heap.size + 2) 117 #[.slice none 0 0] ∧ MBlk w1 (w.heap.size + 3) 31 #[.int .i64 0] by
  rw [hw1]
  refine ⟨below_alloc (below_alloc (below_alloc (below_alloc (Below.refl _ _) _) _) _) _, by simp, mblk_alloc (mblk_alloc (mblk_alloc (mblk_new _ _ _) _) _) _, ?_, ?_, ?_⟩
  ·have := mblk_new (w.alloc (.cells #[.pointer (some ⟨M.t, 0, none⟩)] 67)) 126 #[.func (.func 87) #[] #[.pointer (some ⟨k1, 0, none⟩), .pointer (some ⟨k2, 0, none⟩)]]
   rw [World.size_alloc] at this
   exact mblk_alloc (mblk_alloc this _) _
  ·have := mblk_new ((w.alloc (.cells #[.pointer (some ⟨M.t, 0, none⟩)] 67)).alloc (.cells #[.func (.func 87) #[] #[.pointer (some ⟨k1, 0, none⟩), .pointer (some ⟨k2, 0, none⟩)]] 126)) 117 #[.slice none 0 0]
   rw [World.size_alloc, World.size_alloc] at this
   exact mblk_alloc this _
  ·have := mblk_new (((w.alloc (.cells #[.pointer (some ⟨M.t, 0, none⟩)] 67)).alloc (.cells #[.func (.func 87) #[] #[.pointer (some ⟨k1, 0, none⟩), .pointer (some ⟨k2, 0, none⟩)]] 126)).alloc (.cells #[.slice none 0 0] 117)) 31 #[.int .i64 0]
   rw [World.size_alloc, World.size_alloc, World.size_alloc] at this
   exact this)
 refine (callsIn_wide (n := 6)).1 (callsIn_of_wp_marks Try.func86 rfl trivial (wpIn_wide.2 ?_) rfl)
 simp only [Try.ntmps86, List.size_toArray, List.length_cons, List.length_nil, Nat.reduceAdd, Nat.reduceSub, Array.replicate_succ, Array.replicate_zero, List.push_toArray, List.append_toArray, List.nil_append, List.cons_append]
 have k0 : w1.cell? ⟨w.heap.size, 0, none⟩ = some (.pointer (some ⟨M.t, 0, none⟩)) := (mblk_cell HW1.out.2.2.1 0).trans rfl
 rw [hw1] at k0
 have HW := Aside0.mk hw1
 clear hw1
 go_wp2_with fail
 go_step3
 go_wp2_with fail
 go_step3
 go_wp2_with fail
 rw [← HW.out]
 clear HW k0
 refine (path_calls M.t s _).mono ?_
 rintro e w2 ⟨rfl, hw2⟩
 have HB := Aside0.mk (show Below w.heap.size w w2 ∧ w2.heap.size = w.heap.size + 6 by
  rw [hw2]
  exact ⟨below_alloc (below_alloc HW1.out.1 _) _, by simp; have := HW1.out.2.1; omega⟩)
 have HT2 := Aside0.mk (HT.out.below HB.out.1)
 have HBX5 := Aside0.mk (show MBlk w2 (w.heap.size + 5) 3 #[.int .i64 s] by
  have := mblk_new (w1.alloc (.cells #[.pointer (some ⟨M.t, 0, none⟩)] 67)) 3 #[.int .i64 s]
  rw [World.size_alloc, HW1.out.2.1] at this
  rw [hw2]
  exact this)
 have HI2 := Aside0.mk (show AInv w M sv at_ al bx (.func (.func 87) #[] #[.pointer (some ⟨k1, 0, none⟩), .pointer (some ⟨k2, 0, none⟩)]) ls 0 [] w2 by
  have hb : ∀ {k : Nat} {cs : Array Value} {T : TypeId}, MBlk w1 k T cs → MBlk w2 k T cs := fun h => by rw [hw2]; exact mblk_alloc (mblk_alloc h _) _
  refine ⟨HT2.out, hb HW1.out.2.2.1, hb HW1.out.2.2.2.1, ⟨none, 0, hb HW1.out.2.2.2.2.1, VRow.nil _ _ _⟩, hb HW1.out.2.2.2.2.2, ?_, fun x hx => (HB.out.1.block _ (HBX.out.1 x hx)).trans (HBX.out.2.2 x hx), Kt.of HB.out.1⟩
  have := mblk_new w1 67 #[.pointer (some ⟨M.t, 0, none⟩)]
  rw [HW1.out.2.1] at this
  rw [hw2]
  exact mblk_alloc this _)
 rw [HW1.out.2.1]
 clear hw2 HW1
 go_wp2_with fail
 have HSEQ := Aside0.mk (path_seq M sv (w.heap.size + 4) (w.heap.size + 5) s w2 HG.out HSM.out HS.out (Rd.of HT2.out HI2.out.pb) HBX5.out)
 rw [← HPE.out] at HSEQ
 refine (wpIn_wide (n := 6)).1 ?_
 refine range_g (F := Fence.wide) (n := 6) rfl (by omega) (gf := 114) (lb := #[.pointer (some ⟨w.heap.size + 5, 0, none⟩), .pointer (some ⟨w.heap.size + 4, 0, none⟩)]) rfl trivial (enters_of Try.func114 (by kernel_rfl) rfl)
  (w0 := w2) HSEQ.out (Below.refl _ _) (fun _ => rfl) (fun h k => h.trans k)
  (fun W l o o' hl ho _ _ => kq_put (N := w2.heap.size) (by rw [HB.out.2]; omega) (fun k hk => HT2.out.own_lt (by rcases hk with c | c; exact .inl c; exact .inr (.inl c))) W l o o' hl ho)
  (fun pre W => AInv w M sv at_ al bx (.func (.func 87) #[] #[.pointer (some ⟨k1, 0, none⟩), .pointer (some ⟨k2, 0, none⟩)]) (stp A al ls pre) 0 pre W ∧ ∀ x ∈ pre, E (al x) (ls x) = 0)
  (fun c pre W => c = .exit 0 ∧ ∃ pre' x, pre = pre' ++ [x] ∧ (∀ y ∈ pre', E (al y) (ls y) = 0) ∧ E (al x) (ls x) ≠ 0 ∧ AInv w M sv at_ al bx (.func (.func 87) #[] #[.pointer (some ⟨k1, 0, none⟩), .pointer (some ⟨k2, 0, none⟩)]) (stp A al ls pre') (E (al x) (ls x)) pre' W)
  (fun pre X Y row h hg hr => ⟨AInv.own HT.out HBX.out.2.1 (B := w2.heap.size) (by rw [HB.out.2]; omega) h.1 hg hr, h.2⟩)
  (fun c pre X Y row h hg hr => by
   obtain ⟨h1, pre', x, h2, h3, h4, h5⟩ := h
   exact ⟨h1, pre', x, h2, h3, h4, AInv.own HT.out HBX.out.2.1 (B := w2.heap.size) (by rw [HB.out.2]; omega) h5 hg hr⟩)
  ⟨by rw [stp_nil]; exact HI2.out, fun x hx => by cases hx⟩
  (fun x => { tmps := #[.pointer (some ⟨M.t, 0, none⟩), .int .i64 s, .func (.func 87) #[] #[.pointer (some ⟨k1, 0, none⟩), .pointer (some ⟨k2, 0, none⟩)], .func (.func 88) #[] #[.pointer (some ⟨k1, 0, none⟩)], .pointer (some ⟨w.heap.size, 0, none⟩), undef, .pointer (some ⟨w.heap.size + 1, 0, none⟩), undef, .int .i64 0, .pointer (some ⟨w.heap.size + 2, 0, none⟩), .pointer (some ⟨w.heap.size + 3, 0, none⟩), .int .i64 x, undef, undef, undef, .pointer (some ⟨M.t, 0, none⟩), .int .i64 s, .func (.func 114) #[] #[.pointer (some ⟨w.heap.size + 5, 0, none⟩), .pointer (some ⟨w.heap.size + 4, 0, none⟩)], .int .i64 x, undef, undef, undef, undef, undef, undef, undef, undef, undef, undef, undef, undef, undef, undef, undef, undef, undef, undef, undef, undef, undef, undef, undef, undef, undef], defers := [] })
  ?assign ?body ?done ?stop
 case assign =>
  intro lo x W K hK
  gi_wp2
  exact hK
 case body =>
  rintro lo pre x W ⟨hI, hz⟩ ⟨r, hr⟩ hlt
  have hxp : x ∈ pa := by rw [hr]; simp
  have hxi := (HPN.out.1 x hxp).1
  have hxn : x ∉ pre := fun hx => by
   have := HPN.out.2.1
   rw [hr, List.nodup_append] at this
   exact this.2.2 x hx x (by simp) rfl
  have HI := Aside0.mk hI
  have HZ := Aside0.mk hz
  have HX := Aside0.mk (And.intro hxp (And.intro hxi hxn))
  have HLEN := Aside0.mk (show pre.length < 1001 by
   have h1 := HPN.out.2.2
   have h2 := HSM.out
   rw [hr, List.length_append, List.length_cons] at h1
   omega)
  have k0 : W.cell? ⟨w.heap.size, 0, none⟩ = some (.pointer (some ⟨M.t, 0, none⟩)) := (mblk_cell hI.tb 0).trans rfl
  have h11 : 1 ≤ 6 - 1 - 1 := by omega
  clear hI hz hr hxp hxi hxn
  obtain ⟨q, hq⟩ : ∃ q, q = E (al x) (ls x) := ⟨_, rfl⟩
  have HQ := Aside0.mk hq
  clear hq
  gi_wp2
  refine ⟨trivial, (CallsIn.inRound lo (callsIn_wide.2 (of_calls HI.out.tre HX.out.2.1))).mono ?_⟩
  rintro e W1 ⟨rfl, hb⟩
  have HK1 := Aside0.mk (kf_below (D := w2.heap.size) hb)
  have HI1 := Aside0.mk (HI.out.below HBX.out.2.1 hb)
  have k1 : W1.cell? ⟨w.heap.size + 1, 0, none⟩ = some (.func (.func 87) #[] #[.pointer (some ⟨k1, 0, none⟩), .pointer (some ⟨k2, 0, none⟩)]) := (mblk_cell HI1.out.kb 0).trans rfl
  clear hb k0
  gi_wp2
  have hc := HCA.out (M.g x) (M.b x) (al x) (ls x) W1 HI1.out.ok (by have := HI1.out.tre.led x HX.out.2.1; rw [stp_other HX.out.2.2] at this; exact this) (HPA.out.1 x HX.out.1)
  rw [← HQ.out] at hc
  refine ⟨trivial, (CallsIn.inRound lo (callsIn_wide.2 hc)).mono ?_⟩
  clear hc
  rintro e W2 ⟨rfl, hL, hK⟩
  have hi := HI1.out.kp HBX.out.2.1 HX.out.2.1 hK hL
  rw [stp_snoc HX.out.2.2] at hi
  have HI3 := Aside0.mk hi
  have HK2 := Aside0.mk (HK1.out.trans (kf_kp HT.out (by rw [HB.out.2]; omega) HX.out.2.1 hK))
  have k3 : W2.cell? ⟨w.heap.size + 3, 0, none⟩ = some (.int .i64 0) := (mblk_cell HI3.out.bad 0).trans rfl
  have f3 : W2.frozen? ⟨w.heap.size + 3, 0, none⟩ = false := mblk_frozen HI3.out.bad 0
  clear hL hK hi HI1 HK1 k1
  by_cases hq0 : q = 0
  ·subst hq0
   have HI4 := Aside0.mk (HI3.out.bad_ HT.out HBX.out.1 0)
   have HK3 := Aside0.mk (HK2.out.trans (kf_set (D := w2.heap.size) W2 ⟨w.heap.size + 3, 0, none⟩ (.int .i64 0)))
   obtain ⟨A1, c1, hm, hv⟩ := HI4.out.row
   have HR := Aside0.mk (And.intro hm hv)
   have k4 : (W2.setCell ⟨w.heap.size + 3, 0, none⟩ (.int .i64 0)).cell? ⟨w.heap.size + 2, 0, none⟩ = some (.slice A1 pre.length c1) := (mblk_cell hm 0).trans rfl
   have HSZ := Aside0.mk (show w.heap.size + 6 ≤ (W2.setCell ⟨w.heap.size + 3, 0, none⟩ (.int .i64 0)).heap.size from by have h1 := HK3.out.size; have h2 := HB.out.2; omega)
   have HNO := Aside0.mk (show ∀ k, (Value.slice A1 pre.length c1).ownBlock = some k → w.heap.size + 6 ≤ k from fun k hk => (hv.typed k hk).1)
   clear hm hv
   gi_wp2_with (gi_at_builtin; refine appendV (W := (W2.setCell ⟨w.heap.size + 3, 0, none⟩ (.int .i64 0))) (w.heap.size + 6) rfl (.tmp 27) (.tmp 29) 117 24 (.pointer none) 8 rfl Try.underlying117 (by kernel_rfl) rfl (fun _ h => by cases h) (.slice A1 pre.length c1) (ptrs M.g pre) (.pointer (some ⟨M.g x, 0, none⟩)) rfl (by first | rfl | (simp [World.setCell, go_sem]; done)) rfl (fun _ h => by cases h) HR.out.2 HSZ.out (by rw [ptrs_len]; have := HLEN.out; omega) (by rw [ptrs_len]; have := HLEN.out; omega) ?_; intro v1 w5 hR5 hg5; rw [show ptrs M.g pre ++ [.pointer (some ⟨M.g x, 0, none⟩)] = ptrs M.g (pre ++ [x]) by simp [ptrs]] at hR5; obtain ⟨A2, c2, e2, _⟩ := hR5.shape; rw [ptrs_len] at e2; subst e2; have HR5 := Aside0.mk hR5; have HG5 := Aside0.mk hg5; have HM5 := Aside0.mk (show MBlk w5 (w.heap.size + 2) 117 #[.slice A1 pre.length c1] from (hg5.block _ (mblk_lt HR.out.1) (fun e => by have := HNO.out _ e.symm; omega)).trans HR.out.1); have k9 : w5.cell? ⟨w.heap.size + 2, 0, none⟩ = some (.slice A1 pre.length c1) := (mblk_cell HM5.out 0).trans rfl; have kf9 : w5.frozen? ⟨w.heap.size + 2, 0, none⟩ = false := mblk_frozen HM5.out 0; clear hR5 hg5)
   have hfin := HI4.out.app HT.out HBX.out.1 HR.out.1 HR.out.2 HR5.out HG5.out
   have hkf := (HK3.out.trans (kf_row HR.out.2 HG5.out)).trans (kf_set (D := w2.heap.size) w5 ⟨w.heap.size + 2, 0, none⟩ (.slice A2 (pre ++ [x]).length c2))
   have hz2 : ∀ y ∈ pre ++ [x], E (al y) (ls y) = 0 := fun y hy => by
    rcases List.mem_append.1 hy with h | h
    ·exact HZ.out y h
    ·rw [List.mem_singleton.1 h]; exact HQ.out.symm
   have hkq := ainv_kq HT.out HI.out hfin hkf.size
   simp only [List.length_append, List.length_cons, List.length_nil, Nat.zero_add] at hfin hkf hkq
   exact ⟨hkf, hkq, hfin, hz2⟩
  ·have c1 : (q == (0 : Int)) = false := beq_eq_false_iff_ne.mpr hq0
   have c2 : (q != (0 : Int)) = true := bne_iff_ne.mpr hq0
   have c3 : (q = (0 : Int)) = False := eq_false hq0
   have HI4 := Aside0.mk (HI3.out.bad_ HT.out HBX.out.1 q)
   have HK3 := Aside0.mk (HK2.out.trans (kf_set (D := w2.heap.size) W2 ⟨w.heap.size + 3, 0, none⟩ (.int .i64 q)))
   have HQ0 := Aside0.mk hq0
   clear hq0
   gi_wp2
   have hn : E (al x) (ls x) ≠ 0 := by rw [← HQ.out]; exact HQ0.out
   have hAx := HPA.out.2.2 x HX.out.1 hn
   have hst : stp A al ls (pre ++ [x]) = stp A al ls pre := by
    rw [← stp_snoc HX.out.2.2, hAx]
    funext y
    unfold upd
    split
    ·rename_i e; rw [e, stp_other HX.out.2.2]
    ·rfl
   have hfin := HI4.out
   rw [hst, HQ.out] at hfin
   have hkf := HK3.out
   rw [HQ.out] at hkf
   rw [HQ.out]
   exact ⟨hkf, rfl, pre, x, rfl, HZ.out, hn, hfin⟩
 case done =>
  rintro xs W rfl ⟨hI, hz⟩ hD
  have k3 : W.cell? ⟨w.heap.size + 3, 0, none⟩ = some (.int .i64 0) := (mblk_cell hI.bad 0).trans rfl
  have HI := Aside0.mk hI
  have HZ := Aside0.mk hz
  have HD := Aside0.mk hD
  clear hI hz hD
  go_wp2_with fail
  have hfar := HI.out.far HT.out (k := w2.heap.size) (by rw [HB.out.2]; omega)
  refine ⟨by simp, .inl ⟨_, _, rfl, run_takeDeferred HD.out, ?_⟩⟩
  exact ⟨_, results_tmp rfl _ _ _, _, kt_put HI.out.kt (by rw [HB.out.2]; omega), tre_put HI.out.tre HD.out hfar.1 hfar.2, .inl ⟨rfl, HZ.out, rfl⟩⟩
 case stop =>
  rintro c pre W ⟨r, hr⟩ ⟨rfl, pre', x, rfl, hz, hne, hI⟩ hD
  obtain ⟨q, hq⟩ : ∃ q, q = E (al x) (ls x) := ⟨_, rfl⟩
  rw [← hq] at hI hne
  have k3 : W.cell? ⟨w.heap.size + 3, 0, none⟩ = some (.int .i64 q) := (mblk_cell hI.bad 0).trans rfl
  have c1 : (q == (0 : Int)) = false := beq_eq_false_iff_ne.mpr hne
  have c2 : (q != (0 : Int)) = true := bne_iff_ne.mpr hne
  have c3 : (q = (0 : Int)) = False := eq_false hne
  obtain ⟨A1, c1', hm, hv⟩ := hI.row
  have k4 : W.cell? ⟨w.heap.size + 2, 0, none⟩ = some (.slice A1 pre'.length c1') := (mblk_cell hm 0).trans rfl
  have HV := Aside0.mk hv
  have HI := Aside0.mk (show AInv w M sv at_ al bx (.func (.func 87) #[] #[.pointer (some ⟨k1, 0, none⟩), .pointer (some ⟨k2, 0, none⟩)]) (und A U al ls pre' 0) q pre' W by rw [und_zero]; exact hI)
  have HD := Aside0.mk hD
  have HQ := Aside0.mk (And.intro hq hne)
  have HPRE := Aside0.mk (show pa = pre' ++ x :: r ∧ (∀ y ∈ pre', E (al y) (ls y) = 0) by rw [hr]; exact ⟨by simp, hz⟩)
  have HND := Aside0.mk (show pre'.Nodup ∧ pre'.length < 1001 ∧ ∀ y ∈ pre', y ∈ pa from by
   have h1 := HPN.out.2.1
   have h2 := HPN.out.2.2
   have h3 := HSM.out
   rw [HPRE.out.1] at h1 h2
   rw [List.length_append, List.length_cons] at h2
   exact ⟨(List.nodup_append.1 h1).1, by omega, fun y hy => by rw [HPRE.out.1]; simp [hy]⟩)
  clear hz hne hI hD hq hm hv hr
  refine wpIn_wide.2 ?_
  go_wp2_with fail
  go_loopw [35] (fun v wr => ∃ i : Nat, v = .int .i64 (i : Int) ∧ i ≤ pre'.length ∧ Aside0 (AInv w M sv at_ al bx (.func (.func 87) #[] #[.pointer (some ⟨k1, 0, none⟩), .pointer (some ⟨k2, 0, none⟩)]) (und A U al ls pre' i) q pre' wr) ∧ Aside0 (VRow wr (w.heap.size + 6) 24 (.slice A1 pre'.length c1') (ptrs M.g pre')) ∧ Aside0 (wr.heap[w2.heap.size]? = some (.deferred (some [])))) (fun v _ => pre'.length - (intOf v).toNat)
  case atStart => exact ⟨0, rfl, by omega, HI, HV, HD⟩
  case round =>
   clear HI HV HD k3 k4
   obtain ⟨i, rfl, hi, HI, HV, HD⟩ := hrel
   by_cases hlt : i < pre'.length
   ·have d1 : decide ((i : Int) < (pre'.length : Int)) = true := decide_eq_true (by omega)
    have d2 : decide (i < pre'.length) = true := decide_eq_true hlt
    have q1 : (i < pre'.length) = True := eq_true hlt
    have hc := HV.out.cell rfl i (by rw [ptrs_len]; exact hlt)
    obtain ⟨ad, hA1, hcell⟩ := hc
    have hcell' : wr.cell? (ad.add i) = some (.pointer (some ⟨M.g pre'[i], 0, none⟩)) := by rw [hcell]; simp [ptrs]
    obtain ⟨y, hy⟩ : ∃ y, y = pre'[i] := ⟨_, rfl⟩
    rw [← hy] at hcell'
    have hyp : y ∈ pre' := by rw [hy]; exact List.getElem_mem hlt
    have HY := Aside0.mk (show y ∈ pa ∧ inR sv.length y ∧ y ∈ pre' from ⟨HND.out.2.2 y hyp, (HPN.out.1 y (HND.out.2.2 y hyp)).1, hyp⟩)
    have hu1 := und_at (A := A) (U := U) (al := al) (ls := ls) HND.out.1 hlt
    have hu2 := und_step (A := A) (U := U) (al := al) (ls := ls) hlt
    rw [← hy] at hu1 hu2
    have HU := Aside0.mk (And.intro hu1 hu2)
    have HLT := Aside0.mk hlt
    have HLN := Aside0.mk (show i < 1001 by have := HND.out.2.1; omega)
    subst hA1
    clear hcell hu1 hu2 hy hyp hlt hi
    go_wp2_with fail
    have hc := HCU.out (M.g y) (M.b y) (al y) (A (al y) (ls y)) wr HI.out.ok (by have := HI.out.tre.led y HY.out.2.1; rw [HU.out.1] at this; exact this) (HPA.out.2.1 y HY.out.1 (HPRE.out.2 y HY.out.2.2))
    refine hc.mono ?_
    clear hc
    rintro e W2 ⟨rfl, hL, hK⟩
    have hi2 := HI.out.kp HBX.out.2.1 HY.out.2.1 hK hL
    rw [HU.out.2] at hi2
    have HI2 := Aside0.mk hi2
    have HV2 := Aside0.mk (row_stay HI.out.tre (Kt.kp HY.out.2.1 hK) HV.out)
    have HD2 := Aside0.mk (kp_def hK HD.out (fun e => by have := HT.out.wr_lt (k := M.g y) (.inr ⟨y, HY.out.2.1, .inl rfl⟩); have := HB.out.2; omega) (fun e => by have := HT.out.wr_lt (k := M.b y) (.inr ⟨y, HY.out.2.1, .inr rfl⟩); have := HB.out.2; omega))
    clear hL hK hi2 hcell'
    have hw : wrap64 ((i : Int) + 1) = ((i + 1 : Nat) : Int) := by have := HLN.out; rw [QNat.w64 (by omega) (by omega)]; omega
    go_wp2_with fail
    go_roundw
    case rel => exact ⟨i + 1, by first | rw [hw] | rfl | (simp; done), by have := HLT.out; omega, HI2, HV2, HD2⟩
    case measure =>
     rw [hw]
     show pre'.length - (i + 1) < pre'.length - i
     have := HLT.out
     omega
   ·have d1 : decide ((i : Int) < (pre'.length : Int)) = false := decide_eq_false (by omega)
    have d2 : decide (i < pre'.length) = false := decide_eq_false hlt
    obtain rfl : i = pre'.length := by omega
    have k3 : wr.cell? ⟨w.heap.size + 3, 0, none⟩ = some (.int .i64 q) := (mblk_cell HI.out.bad 0).trans rfl
    clear hlt hi
    go_wp2_with fail
    have hfar := HI.out.far HT.out (k := w2.heap.size) (by rw [HB.out.2]; omega)
    refine ⟨by simp, .inl ⟨_, _, rfl, run_takeDeferred HD.out, ?_⟩⟩
    have htr := tre_put (o' := .deferred none) HI.out.tre HD.out hfar.1 hfar.2
    rw [und_all] at htr
    exact ⟨_, results_tmp rfl _ _ _, _, kt_put HI.out.kt (by rw [HB.out.2]; omega), htr, .inr ⟨pre', x, r, HPRE.out.1, HPRE.out.2, by rw [← HQ.out.1]; exact HQ.out.2, by rw [← HQ.out.1]; rfl, rfl⟩⟩
end
end Go.Proofs.Ytfldklimlcnnnaa.XAllJ
end

section
namespace Go.Proofs.Ytfldklimlcnnnaa.XTJoin
open Go.RowKit Go.Proofs.Ytfldklimlcnnnaa.PHq Go.Proofs.YtfldklimlcnnnaaW.PrintWords Go.Proofs.YtfldklimlcnnnaaW.PrintLast Go.Proofs.YtfldklimlcnnnaaW.PrintMore Go.Proofs.Ytfldklimlcnnnaa.MWords
open Go.Proofs.Ytfldklimlcnnnaa.MNat Go.Proofs.Ytfldklimlcnnnaa.QRatio Go.Proofs.Ytfldklimlcnnnaa.XRV Go.Proofs.Ytfldklimlcnnnaa.XHold Go.Proofs.Ytfldklimlcnnnaa.XLed Go.Proofs.Ytfldklimlcnnnaa.XJoin Go.Proofs.Ytfldklimlcnnnaa.XMeth Go.Proofs.Ytfldklimlcnnnaa.QHold Go.Proofs.Ytfldklimlcnnnaa.XTree Go.Proofs.Ytfldklimlcnnnaa.QTree Go.Proofs.Ytfldklimlcnnnaa.XOf Go.Proofs.Ytfldklimlcnnnaa.XTCl Go.Proofs.Ytfldklimlcnnnaa.XAllW Go.Proofs.Ytfldklimlcnnnaa.QTr
def TH (W : World) (M : Tm) (sv : List S71) (al : Int → Rat) (H : List Hol) (m : Nat) : Prop := ∃ at_ ls, Tre W M sv at_ al ls ∧ Inv sv al at_ ls H m ∧ GoodSv sv
section
variable {w W W' : World} {M : Tm} {sv : List S71} {al : Int → Rat} {H : List Hol} {m : Nat}
theorem Inv.mono {at_ : List (Int × Int)} {ls : Int → List (Int × Hd)} {n : Nat} (h : Inv sv al at_ ls H m) (hn : m ≤ n) : Inv sv al at_ ls H n := ⟨h.at_, h.ls, h.nod, h.srv, h.ok, Nat.le_trans h.len hn, h.le, h.sz⟩
def fitsP (sv : List S71) (al : Int → Rat) (H : List Hol) (s : Int) (q : Rat) : Bool := (pathS sv s).all fun y => decide (heldH sv H y + q ≤ al y)
def joinTE (sv : List S71) (al : Int → Rat) (H : List Hol) (z s : Int) (x : S34) : Int :=
 if (thereB sv.length s && mayW x) = false then 1 else if hasH H z = true then 14 else if fitsP sv al H s (wt x) = true then 0 else 18
def joinTH (sv : List S71) (al : Int → Rat) (H : List Hol) (z s : Int) (x : S34) : List Hol := if joinTE sv al H z s x = 0 then H ++ [⟨z, s, newH x⟩] else H
theorem srvH_in (hs : ∀ x ∈ H, inR sv.length x.srv) {z : Int} (h : hasH H z = true) : inR sv.length (srvH H z) := by
 obtain ⟨x, hx⟩ := getH_some h
 unfold srvH
 rw [hx]
 exact hs x (getH_mem hx).1
theorem srvH_no {z : Int} (h : hasH H z = false) : srvH H z = -2 := by
 unfold srvH
 cases e : getH H z with
 | none => rfl
 | some x =>
  have := hasH_iff.2 ⟨x, getH_mem e⟩
  rw [h] at this
  cases this
theorem at_len {at_ : List (Int × Int)} {ls : Int → List (Int × Hd)} (h : Inv sv al at_ ls H m) : at_.length ≤ m := by
 rw [h.at_.length_eq, List.length_map]
 exact h.len
set_option maxRecDepth 100000 in
set_option maxHeartbeats 8000000 in
theorem tjoin_calls (hT : TH w M sv al H m) (hm : m < 400) (z s : Int) (x : S34) (hz : wfI z) :
  Calls Try.prog 45 #[.pointer (some ⟨M.t, 0, none⟩), .int .i64 z, .int .i64 s, .agg #[.int .i64 x.f0, .int .i64 x.f1]] w fun e w' => e = .returned (.int .i64 (joinTE sv al H z s x)) ∧ TH w' M sv al (joinTH sv al H z s x) (m + 1) ∧ Kt M sv.length w w' := by
 have mixed : Try.prog.follows Departure.mixedOrders = true := by kernel_rfl
 obtain ⟨at_, ls, hT, hI, hG⟩ := hT
 obtain ⟨W0, hW0⟩ : ∃ W0, W0 = (w.alloc (.cells #[.int .i64 z] 3)).alloc (.cells #[.int .i64 x.f0, .int .i64 x.f1] 34) := ⟨_, rfl⟩
 have hb0 : Below w.heap.size w W0 := by rw [hW0]; exact below_alloc (below_alloc (Below.refl _ _) _) _
 have HB0 := Aside0.mk hb0
 have HM0 := Aside0.mk (show MBlk W0 w.heap.size 3 #[.int .i64 z] ∧ MBlk W0 (w.heap.size + 1) 34 #[.int .i64 x.f0, .int .i64 x.f1] ∧ W0.heap.size = w.heap.size + 2 by
  rw [hW0]
  refine ⟨mblk_alloc (mblk_new _ _ _) _, ?_, by simp⟩
  have := mblk_new (w.alloc (.cells #[.int .i64 z] 3)) 34 #[.int .i64 x.f0, .int .i64 x.f1]
  rwa [World.size_alloc] at this)
 have HT0 := Aside0.mk (hT.below hb0)
 have HI := Aside0.mk hI
 have HG := Aside0.mk hG
 have HZ := Aside0.mk (And.intro hz hm)
 have HC := Aside0.mk (wcheck_f x)
 obtain ⟨r, hr⟩ : ∃ r, r = joinTE sv al H z s x := ⟨_, rfl⟩
 obtain ⟨H', hH'⟩ : ∃ H', H' = joinTH sv al H z s x := ⟨_, rfl⟩
 rw [← hr, ← hH']
 have HR := Aside0.mk (And.intro hr hH')
 clear hT hI hG hz hm hb0 hr hH'
 have c0 : W0.cell? ⟨w.heap.size, 0, none⟩ = some (.int .i64 z) := (mblk_cell HM0.out.1 0).trans rfl
 have x0 : W0.cell? ⟨w.heap.size + 1, 0, none⟩ = some (.int .i64 x.f0) := (mblk_cell HM0.out.2.1 0).trans rfl
 have x1 : W0.cell? ⟨w.heap.size + 1, 1, none⟩ = some (.int .i64 x.f1) := (mblk_cell HM0.out.2.1 1).trans rfl
 go_enter Try.func45, Try.ntmps45
 go_upto_region 1 with fail
 rw [← hW0]
 clear hW0
 cases ht : thereB sv.length s with
 | false =>
  have hr1 : r = 1 := by rw [HR.out.1]; unfold joinTE; rw [ht]; rfl
  have hH : H' = H := by rw [HR.out.2]; unfold joinTH; rw [← HR.out.1, hr1]; rfl
  subst hr1
  go_wp2_with (go_at_call 83; refine (there_calls HT0.out s).mono ?_; rw [ht]; rintro e w1 ⟨rfl, rfl⟩; clear ht)
  go_ret
  exact ⟨rfl, by rw [hH]; exact ⟨at_, ls, HT0.out, Inv.mono HI.out (by omega), HG.out⟩, Kt.of HB0.out⟩
 | true =>
  have HIN := Aside0.mk (there_in.1 ht)
  cases hmw : mayW x with
  | false =>
   have hr1 : r = 1 := by rw [HR.out.1]; unfold joinTE; rw [ht, hmw]; rfl
   have hH : H' = H := by rw [HR.out.2]; unfold joinTH; rw [← HR.out.1, hr1]; rfl
   subst hr1
   go_wp2_with (first
    | (go_at_call 83; refine (there_calls HT0.out s).mono ?_; rw [ht]; rintro e w1 ⟨rfl, rfl⟩; clear ht)
    | (go_at_call 66; refine (window_Check.calls x.f0 x.f1 _ _ HC.out).mono ?_; rw [hmw]; rintro e w3 ⟨rfl, hb⟩; have HB3 := Aside0.mk hb; clear hb))
   go_ret
   exact ⟨rfl, by rw [hH]; exact ⟨at_, ls, HT0.out.below HB3.out, Inv.mono HI.out (by omega), HG.out⟩, Kt.of (below_step HB0.out HB3.out)⟩
  | true =>
   have HMW := Aside0.mk hmw
   cases hh : hasH H z with
   | true =>
    have hr1 : r = 14 := by rw [HR.out.1]; unfold joinTE; rw [ht, hmw, hh]; rfl
    have hH : H' = H := by rw [HR.out.2]; unfold joinTH; rw [← HR.out.1, hr1]; rfl
    subst hr1
    have hin := srvH_in HI.out.srv hh
    obtain ⟨y, hy⟩ : ∃ y, y = srvH H z := ⟨_, rfl⟩
    rw [← hy] at hin
    have d1 : (y != (-2 : Int)) = true := bne_iff_ne.mpr (by have := hin.1; omega)
    have d2 : (y = (-2 : Int)) = False := eq_false (by have := hin.1; omega)
    have HY := Aside0.mk hy
    clear hin hy
    go_wp2_with (first
     | (go_at_call 83; refine (there_calls HT0.out s).mono ?_; rw [ht]; rintro e w1 ⟨rfl, rfl⟩; clear ht)
     | (go_at_call 66; refine (window_Check.calls x.f0 x.f1 _ _ HC.out).mono ?_; rw [hmw]; rintro e w3 ⟨rfl, hb⟩; have HB3 := Aside0.mk (below_step HB0.out hb); have HM3 := Aside0.mk (And.intro ((hb.block _ (mblk_lt HM0.out.1)).trans HM0.out.1) ((hb.block _ (mblk_lt HM0.out.2.1)).trans HM0.out.2.1)); have HT3 := Aside0.mk (HT0.out.below hb); have c3 : w3.cell? ⟨w.heap.size, 0, none⟩ = some (.int .i64 z) := (mblk_cell HM3.out.1 0).trans rfl; clear hb hmw)
     | (go_at_call 58; refine (server_calls HT3.out HZ.out.1).mono ?_; rw [HI.out.srvA z, ← HY.out]; rintro e w4 ⟨rfl, rfl⟩))
    go_ret
    exact ⟨rfl, by rw [hH]; exact ⟨at_, ls, HT3.out, Inv.mono HI.out (by omega), HG.out⟩, Kt.of HB3.out⟩
   | false =>
    have HH := Aside0.mk hh
    have HSV := Aside0.mk (srvH_no hh)
    go_wp2_with (first
     | (go_at_call 83; refine (there_calls HT0.out s).mono ?_; rw [ht]; rintro e w1 ⟨rfl, rfl⟩; clear ht)
     | (go_at_call 66; refine (window_Check.calls x.f0 x.f1 _ _ HC.out).mono ?_; rw [hmw]; rintro e w3 ⟨rfl, hb⟩; have HB3 := Aside0.mk (below_step HB0.out hb); have HM3 := Aside0.mk (And.intro ((hb.block _ (mblk_lt HM0.out.1)).trans HM0.out.1) ((hb.block _ (mblk_lt HM0.out.2.1)).trans HM0.out.2.1)); have HT3 := Aside0.mk (HT0.out.below hb); have c3 : w3.cell? ⟨w.heap.size, 0, none⟩ = some (.int .i64 z) := (mblk_cell HM3.out.1 0).trans rfl; clear hb hmw)
     | (go_at_call 58; refine (server_calls HT3.out HZ.out.1).mono ?_; rw [HI.out.srvA z, HSV.out]; rintro e w4 ⟨rfl, rfl⟩))
    have hz400 := HZ.out.2
    have hall := XAllJ.all_calls (bx := [bxI w.heap.size z, bxW (w.heap.size + 1) x]) HT3.out HG.out HIN.out (k1 := w.heap.size) (k2 := w.heap.size + 1)
     (fun y hy => by
      have h1 := mblk_lt HM3.out.1
      have h2 := mblk_lt HM3.out.2
      rcases List.mem_cons.1 hy with rfl | hy
      ·exact h1
      ·rw [List.mem_singleton.1 hy]; exact h2)
     (fun y hy => by
      rcases List.mem_cons.1 hy with rfl | hy
      ·exact bxI_ty _ _
      ·rw [List.mem_singleton.1 hy]; exact bxW_ty _ _)
     (fun y hy => by
      rcases List.mem_cons.1 hy with rfl | hy
      ·exact HM3.out.1
      ·rw [List.mem_singleton.1 hy]; exact HM3.out.2)
     (join1 w.heap.size (w.heap.size + 1) z x HZ.out.1) (join2 w.heap.size z _ (by simp) HZ.out.1)
     (fun y hy => HI.out.pa (by omega) (path_in HG.out s HIN.out y hy).1)
     (fun y hy h0 => by
      have hyi := (path_in HG.out s HIN.out y hy).1
      have h1 := HI.out.joinE HMW.out HH.out hyi
      rw [h0] at h1
      have hf : heldH sv H y + wt x ≤ al y := by
       by_cases c : heldH sv H y + wt x ≤ al y
       ·exact c
       ·rw [if_neg c] at h1; cases h1
      show PuL (al y) (joinL (al y) (heldL (ls y)) (ls y) z x)
      rw [HI.out.joinL HMW.out HH.out hyi hf]
      have hg := HI.out.good (by omega) hyi
      have hl := (HI.out.pa (by omega) hyi).2.2
      exact ⟨by simp; omega, fun q hq => by
       rcases List.mem_append.1 hq with hq | hq
       ·exact hg.ok q hq
       ·rw [List.mem_singleton.1 hq]; exact ⟨(may_okW HMW.out).1, fun c => by cases c⟩⟩)
     (fun y hy h0 => joinL_same h0)
    refine hall.mono ?_
    clear hall
    rintro e w5 ⟨ls', hkt, htr, ⟨rfl, hE, rfl⟩ | ⟨pre, y, rr, hp, hE, hne, rfl, rfl⟩⟩
    ·have hfits : ∀ y ∈ pathS sv s, heldH sv H y + wt x ≤ al y := fun y hy => by
      have h1 := HI.out.joinE (z := z) HMW.out HH.out (path_in HG.out s HIN.out y hy).1
      rw [hE y hy] at h1
      by_cases c : heldH sv H y + wt x ≤ al y
      ·exact c
      ·rw [if_neg c] at h1; cases h1
     have hr1 : r = 0 := by
      rw [HR.out.1]
      unfold joinTE
      have hp : fitsP sv al H s (wt x) = true := by
       unfold fitsP
       rw [List.all_eq_true]
       exact fun y hy => decide_eq_true (hfits y hy)
      rw [there_in.2 HIN.out, HMW.out, HH.out, hp]
      rfl
     have hH : H' = H ++ [⟨z, s, newH x⟩] := by rw [HR.out.2]; unfold joinTH; rw [← HR.out.1, hr1]; rfl
     have hinv := HI.out.join HG.out HIN.out HMW.out HH.out HZ.out.1 hfits
     have HF := Aside0.mk (And.intro hinv hH)
     have m5 : MBlk w5 w.heap.size 3 #[.int .i64 z] := mblk_stay HT3.out hkt HM3.out.1 (by decide)
     have c5 : w5.cell? ⟨w.heap.size, 0, none⟩ = some (.int .i64 z) := (mblk_cell m5 0).trans rfl
     have k5 := htr.cell2
     have hk5 := HT3.out
     have htd := htr.below (below_drew (Below.refl w5.heap.size w5))
     obtain ⟨w6, hrun, hm6, ht6⟩ := XAt.map_put htd.map (by have := at_len HI.out; have := HZ.out.2; omega) HZ.out.1 s
     have H6 := Aside0.mk (show Tre w6 M sv (XAt.setL at_ z s) al _ ∧ Kt M sv.length w w6 from ⟨htd.turn ht6 hm6, (Kt.of HB3.out).trans (hkt.trans ((Kt.of (below_drew (Below.refl w5.heap.size w5))).trans (Kt.turn ht6)))⟩)
     subst hr1
     clear hfits hinv hH hE m5 hkt htr hk5 htd hm6 ht6 hz400
     go_wp2_with fail
     go_region
     go_wp2_with fail
     go_ret
     exact ⟨rfl, by rw [HF.out.2]; exact ⟨_, _, H6.out.1, HF.out.1, HG.out⟩, H6.out.2⟩
    ·have hyp : y ∈ pathS sv s := by rw [hp]; simp
     have hyi := (path_in HG.out s HIN.out y hyp).1
     have hj := HI.out.joinE (z := z) HMW.out HH.out hyi
     have hnf : ¬ heldH sv H y + wt x ≤ al y := fun c => by
      rw [if_pos c] at hj
      exact hne hj
     rw [if_neg hnf] at hj
     have hr1 : r = 18 := by
      rw [HR.out.1]
      unfold joinTE
      have hp : fitsP sv al H s (wt x) = false := by
       unfold fitsP
       rw [List.all_eq_false]
       exact ⟨y, hyp, by simpa using hnf⟩
      rw [there_in.2 HIN.out, HMW.out, HH.out, hp]
      rfl
     have hH : H' = H := by rw [HR.out.2]; unfold joinTH; rw [← HR.out.1, hr1]; rfl
     have hun := HI.out.unjoin (z := z) HMW.out HH.out (fun q hq => (path_in HG.out s HIN.out q (by rw [hp]; simp [hq])).1) hE
     have HF := Aside0.mk (show TH w5 M sv al H' (m + 1) ∧ Kt M sv.length w w5 by
      rw [hH]
      refine ⟨⟨at_, ls, ?_, Inv.mono HI.out (by omega), HG.out⟩, (Kt.of HB3.out).trans hkt⟩
      have := htr
      rw [hun] at this
      exact this)
     subst hr1
     rw [hj]
     clear hH hun hE htr hkt hj hnf hne hyi hyp hp hz400
     go_wp2_with fail
     go_ret
     exact ⟨rfl, HF.out⟩
end
end Go.Proofs.Ytfldklimlcnnnaa.XTJoin
end

section
namespace Go.Proofs.Ytfldklimlcnnnaa.XTNew
open Go.RowKit Go.Proofs.Ytfldklimlcnnnaa.PHq Go.Proofs.YtfldklimlcnnnaaW.PrintWords Go.Proofs.YtfldklimlcnnnaaW.PrintLast Go.Proofs.YtfldklimlcnnnaaW.PrintMore Go.Proofs.Ytfldklimlcnnnaa.MWords
open Go.Proofs.Ytfldklimlcnnnaa.MNat Go.Proofs.Ytfldklimlcnnnaa.QNat Go.Proofs.Ytfldklimlcnnnaa.QRatio Go.Proofs.Ytfldklimlcnnnaa.XRV Go.Proofs.Ytfldklimlcnnnaa.XHold Go.Proofs.Ytfldklimlcnnnaa.XWts Go.Proofs.Ytfldklimlcnnnaa.XLed Go.Proofs.Ytfldklimlcnnnaa.XFits Go.Proofs.Ytfldklimlcnnnaa.XTree Go.Proofs.Ytfldklimlcnnnaa.QTree Go.Proofs.Ytfldklimlcnnnaa.XRowP Go.Proofs.Ytfldklimlcnnnaa.XAllW Go.Proofs.Ytfldklimlcnnnaa.QTr Go.Proofs.Ytfldklimlcnnnaa.XTJoin
theorem nil_ne (ad : Addr) (n c : Nat) (w : World) : (binOp BinOp.eql 65 (.slice (some ad) n c) (.slice none 0 0)).run Try.prog w = .ok (.bool false) w := by
 kernel_rfl
theorem nil_eq (n c : Nat) (w : World) : (binOp BinOp.eql 65 (.slice none n c) (.slice none 0 0)).run Try.prog w = .ok (.bool true) w := by
 kernel_rfl
set_option maxRecDepth 100000 in
set_option maxHeartbeats 4000000 in
theorem clone_calls (A : Option Addr) (c : Nat) (xs : List S71) (w : World) (hC : Kd.C k71 w A xs.length xs) (hc : xs.length ≤ c) (hl : xs.length ≤ 1000000) :
  Calls Try.prog 82 #[.slice A xs.length c] w fun e w' => ∃ A' c', e = .returned (.slice A' xs.length c') ∧ Kd.R k71 71 w' w.heap.size (fun _ => True) (.slice A' xs.length c') xs ∧ Below w.heap.size w w' := by
 have HC := Aside0.mk hC
 have HL := Aside0.mk hl
 clear hC
 go_enter Try.func82, Try.ntmps82
 cases A with
 | none =>
  have h0 : xs = [] := by
   cases xs with
   | nil => rfl
   | cons x xs => obtain ⟨ad, h, _⟩ := HC.out.2.2 (by simp); cases h
  subst h0
  have q0 := nil_eq 0 c
  go_wp2_with fail
  exact bodyPost_ret (results_tmp rfl _ _ _) rfl ⟨none, 0, rfl, Kd.R_nil _ _ _ _ _, Below.refl _ _⟩
 | some ad =>
  have q0 := nil_ne ad xs.length c
  go_wp2_with (first
   | ((with_reducible refine gate_dst (N := 5) rfl ?_); refine Kd.R_lit k71 (w0 := w) w.heap.size 71 rfl (N := 5) rfl (xs := ([] : List S71)) (inner := []) (ok := fun _ => True) (okp := fun _ => True) (by first | (go_simp; done) | (go_simp; rfl)) (Reps.none _ _) (fun _ hk => hk) trivial (Below.refl _ _) (Nat.le_refl _) (by simp) ?_; intro v1 w1 hR1 hb1 _ _; have HR1 := Aside0.mk hR1; have HB1 := Aside0.mk hb1; have HS1 := Aside0.mk hb1.size; clear hR1 hb1)
   | ((with_reducible refine gate_builtin (b := .append) (xs := #[.tmp 5, .tmp 6]) rfl ?_); at_builtin; refine Kd.R_append_rows k71 (w0 := w) w.heap.size rfl (.tmp 5) (.tmp 6) 65 71 (.agg #[.int .i64 0, .int .i64 0, .int .i64 0]) 24 rfl Try.underlying65 info71 rfl (by decide) (by omega) v1 [] xs (some ad) xs.length c (fun _ => True) (fun _ => False) rfl rfl HR1.out (Kd.C_below HC.out HB1.out) (fun x cs hx => by obtain rfl := k71_open hx; exact k71_mkM _ _ _ x) (fun _ hk => hk.elim) (fun _ _ => trivial) HB1.out HS1.out (by have := HL.out; simp; omega) ?_; intro v2 w2 hR2 hb2 _ _; have HR2 := Aside0.mk hR2; have HB2 := Aside0.mk hb2; clear hR2 hb2))
  obtain ⟨A2, c2, rfl⟩ := Kd.R_slice HR2.out
  exact bodyPost_ret (results_tmp rfl _ _ _) rfl ⟨A2, c2, rfl, HR2.out, HB2.out⟩
structure Con (w : World) (t : Nat) (A : Option Addr) (c m : Nat) (sv : List S71) (g b : Nat → Nat) (qs : Nat → Rat) (i : Nat) (W : World) : Prop where
 cells : ∃ A1 c1, MBlk W t 119 #[.slice A sv.length c, .slice A1 i c1, .map (some m)] ∧ VRow W w.heap.size 24 (.slice A1 i c1) ((List.range i).map fun j => .pointer (some ⟨g j, 0, none⟩))
 row : Kd.C k71 W A sv.length sv
 rowt : 0 < sv.length → ∀ ad, A = some ad → ∃ cs, W.heap[ad.block]? = some (.cells cs 71 (0, 0))
 map : XAt.MapIs W m []
 led : ∀ j, j < i → Led W (g j) (b j) (qs j) 0 []
 ne : ∀ j k, j < i → k < i → j ≠ k → g j ≠ g k ∧ b j ≠ b k
 mb : ∀ j, j < i → b j ≠ m
 base : w.heap.size ≤ t ∧ w.heap.size ≤ m ∧ ∀ j, j < i → w.heap.size ≤ g j ∧ w.heap.size ≤ b j
 keep : Below w.heap.size w W
section
variable {w W W' : World} {t : Nat} {A : Option Addr} {c m : Nat} {sv : List S71} {g b : Nat → Nat} {qs : Nat → Rat} {i : Nat}
theorem Con.below (h : Con w t A c m sv g b qs i W) (hb : Below W.heap.size W W') : Con w t A c m sv g b qs i W' := by
 obtain ⟨A1, c1, h1, h2⟩ := h.cells
 exact ⟨⟨A1, c1, (hb.block _ (mblk_lt h1)).trans h1, h2.same fun k cs _ hc => hb.block _ (Array.getElem?_eq_some_iff.1 hc).1⟩, Kd.C_below h.row hb,
  fun h0 ad e => by obtain ⟨cs, hc⟩ := h.rowt h0 ad e; exact ⟨cs, (hb.block _ (Array.getElem?_eq_some_iff.1 hc).1).trans hc⟩, h.map.kept (hb.block _ h.map.lt), fun j hj => (h.led j hj).below hb, h.ne, h.mb, h.base, below_step h.keep hb⟩
theorem noLimb_tree {X : World} {k : Nat} {o1 o2 : Option Addr} {n1 n2 m1 m2 : Nat} {mm : Option Nat} {T : TypeId} (hG : MBlk X k T #[.slice o1 n1 m1, .slice o2 n2 m2, .map mm]) : NoLimb X k := by
 intro p hp n hc
 unfold World.cell? at hc
 rw [hp, show X.heap[k]? = _ from hG] at hc
 simp only at hc
 split at hc
 ·cases hc
 ·match ho : p.off, hc with
  | 0, hc => simp at hc
  | 1, hc => simp at hc
  | 2, hc => simp at hc
  | k + 3, hc => simp at hc
def ext {β : Type} (f : Nat → β) (i : Nat) (x : β) : Nat → β := fun j => if j = i then x else f j
theorem ext_same {β : Type} (f : Nat → β) (i : Nat) (x : β) : ext f i x i = x := if_pos rfl
theorem ext_lt {β : Type} (f : Nat → β) {i j : Nat} (x : β) (h : j < i) : ext f i x j = f j := if_neg (by omega)
theorem range_ext (g : Nat → Nat) (i x : Nat) : ((List.range (i + 1)).map fun j => (Value.pointer (some ⟨ext g i x j, 0, none⟩))) = ((List.range i).map fun j => (Value.pointer (some ⟨g j, 0, none⟩))) ++ [.pointer (some ⟨x, 0, none⟩)] := by
 rw [List.range_succ, List.map_append]
 congr 1
 ·refine List.map_congr_left fun j hj => ?_
  rw [ext_lt g x (List.mem_range.1 hj)]
 ·rw [List.map_cons, ext_same]; rfl
theorem Con.step (h : Con w t A c m sv g b qs i W) {gi bi : Nat} {q : Rat} (hL : Led W gi bi q 0 []) (hn : ∀ j, j < i → gi ≠ g j ∧ bi ≠ b j) (hm : bi ≠ m) (hb : w.heap.size ≤ gi ∧ w.heap.size ≤ bi)
  {A1 A2 : Option Addr} {c1 c2 : Nat} {w5 : World} (h1 : MBlk W t 119 #[.slice A sv.length c, .slice A1 i c1, .map (some m)]) (h2 : VRow W w.heap.size 24 (.slice A1 i c1) ((List.range i).map fun j => .pointer (some ⟨g j, 0, none⟩)))
  (hv : VRow w5 w.heap.size 24 (.slice A2 (i + 1) c2) (((List.range i).map fun j => .pointer (some ⟨g j, 0, none⟩)) ++ [.pointer (some ⟨gi, 0, none⟩)])) (hg : W.grownBy w5 (Value.slice A1 i c1).ownBlock) :
  Con w t A c m sv (ext g i gi) (ext b i bi) (ext qs i q) (i + 1) (w5.setCell ⟨t, 1, none⟩ (.slice A2 (i + 1) c2)) := by
 have hty : ∀ k, (Value.slice A1 i c1).ownBlock = some k → w.heap.size ≤ k ∧ ∃ cs, W.heap[k]? = some (.cells cs 24 (0, 0)) := h2.typed
 have hs : ∀ k o, W.heap[k]? = some o → (∀ cs, o ≠ Obj.cells cs 24 (0, 0)) → w5.heap[k]? = some o := fun k o hk ho => (hg.block k (Array.getElem?_eq_some_iff.1 hk).1 (fun e => by
  obtain ⟨_, cs, hc⟩ := hty k e.symm
  rw [hk] at hc
  exact ho cs (Option.some.inj hc))).trans hk
 have ht5 : MBlk w5 t 119 #[.slice A sv.length c, .slice A1 i c1, .map (some m)] := hs t _ h1 (fun cs e => by cases e)
 have hne : ∀ k, k ≠ t → (w5.setCell ⟨t, 1, none⟩ (.slice A2 (i + 1) c2)).heap[k]? = w5.heap[k]? := fun k hk => Below.heap_setCell _ ⟨t, 1, none⟩ _ k hk
 have hs6 : ∀ k o, W.heap[k]? = some o → (∀ cs T, o = Obj.cells cs T (0, 0) → T ≠ 24 ∧ T ≠ 119) → (w5.setCell ⟨t, 1, none⟩ (.slice A2 (i + 1) c2)).heap[k]? = some o := fun k o hk ho => (hne k (fun e => by
  subst e
  rw [show W.heap[k]? = _ from h1] at hk
  cases hk
  exact (ho _ _ rfl).2 rfl)).trans (hs k o hk (fun cs e => (ho cs _ e).1 rfl))
 have hlimb : ∀ k, k < W.heap.size → ¬ NoLimb W k → (w5.setCell ⟨t, 1, none⟩ (.slice A2 (i + 1) c2)).heap[k]? = W.heap[k]? := fun k hk hnl => (hne k (fun e => hnl (by rw [e]; exact noLimb_tree h1))).trans (hg.block k hk (fun e => hnl (h2.noLimb e.symm)))
 have hled : ∀ {g' b' : Nat} {q' : Rat}, Led W g' b' q' 0 [] → Led (w5.setCell ⟨t, 1, none⟩ (.slice A2 (i + 1) c2)) g' b' q' 0 [] := fun hl => by
  obtain ⟨⟨cg, hg1⟩, es, cc, hb1⟩ := Led.blk hl
  exact hl.near ((hs6 _ _ hg1 (fun cs T e => by cases e; exact ⟨by decide, by decide⟩)).trans hg1.symm) ((hs6 _ _ hb1 (fun cs T e => by cases e)).trans hb1.symm) hlimb
 obtain ⟨em, cm, hmap⟩ := h.map.obj
 refine ⟨⟨A2, c2, mblk_set ht5 1 _, ?_⟩, C_blk h.row (fun h0 ad e => ?_), fun h0 ad e => ?_, h.map.kept ((hs6 _ _ hmap (fun cs T e => by cases e)).trans hmap.symm), fun j hj => ?_, fun j k hj hk hjk => ?_, fun j hj => ?_, ⟨h.base.1, h.base.2.1, fun j hj => ?_⟩, ?_⟩
 ·rw [range_ext]
  exact hv.same fun k cs hk hc => hne k (fun e => by
   subst e
   rw [show w5.heap[k]? = _ from ht5] at hc
   cases hc)
 ·obtain ⟨cs, hc⟩ := h.rowt h0 ad e
  exact (hs6 _ _ hc (fun cs T e => by cases e; exact ⟨by decide, by decide⟩)).trans hc.symm
 ·obtain ⟨cs, hc⟩ := h.rowt h0 ad e
  exact ⟨cs, hs6 _ _ hc (fun cs T e => by cases e; exact ⟨by decide, by decide⟩)⟩
 ·by_cases e : j = i
  ·subst e
   rw [ext_same, ext_same, ext_same]
   exact hled hL
  ·have hj' : j < i := by omega
   rw [ext_lt g gi hj', ext_lt b bi hj', ext_lt qs q hj']
   exact hled (h.led j hj')
 ·by_cases e1 : j = i
  ·subst e1
   have hk' : k < j := by omega
   rw [ext_same, ext_same, ext_lt g gi hk', ext_lt b bi hk']
   exact hn k hk'
  ·have hj' : j < i := by omega
   rw [ext_lt g gi hj', ext_lt b bi hj']
   by_cases e2 : k = i
   ·subst e2
    rw [ext_same, ext_same]
    exact ⟨fun e => (hn j hj').1 e.symm, fun e => (hn j hj').2 e.symm⟩
   ·have hk' : k < i := by omega
    rw [ext_lt g gi hk', ext_lt b bi hk']
    exact h.ne j k hj' hk' hjk
 ·by_cases e : j = i
  ·subst e; rw [ext_same]; exact hm
  ·rw [ext_lt b bi (by omega)]; exact h.mb j (by omega)
 ·by_cases e : j = i
  ·subst e; rw [ext_same, ext_same]; exact hb
  ·rw [ext_lt g gi (by omega), ext_lt b bi (by omega)]; exact h.base.2.2 j (by omega)
 ·have hk5 : Below w.heap.size w w5 := h.keep.grown hg h.keep.size (fun k e => (hty k e).1)
  exact hk5.setCell (p := ⟨t, 1, none⟩) h.base.1 _
end
end Go.Proofs.Ytfldklimlcnnnaa.XTNew
end

section
namespace Go.Proofs.Ytfldklimlcnnnaa.QTChk
open Go.RowKit Go.Proofs.Ytfldklimlcnnnaa.PHq Go.Proofs.YtfldklimlcnnnaaW.PrintWords Go.Proofs.YtfldklimlcnnnaaW.PrintLast Go.Proofs.YtfldklimlcnnnaaW.PrintMore Go.Proofs.Ytfldklimlcnnnaa.MWords
open Go.Proofs.Ytfldklimlcnnnaa.MNat Go.Proofs.Ytfldklimlcnnnaa.QNat Go.Proofs.Ytfldklimlcnnnaa.XTree Go.Proofs.Ytfldklimlcnnnaa.QTree
def OkS (x : S71) (i : Nat) : Prop := -1 ≤ x.f0 ∧ x.f0 < i ∧ 0 ≤ x.f1.f0 ∧ x.f1.f0 ≤ 1073741824 ∧ 1 ≤ x.f1.f1 ∧ x.f1.f1 ≤ 1048576
structure SvOk (sv : List S71) : Prop where
 ok : ∀ i : Nat, i < sv.length → OkS (rd_T71 sv (i : Int)) i
 len : sv.length ≤ 16
theorem SvOk.good {sv : List S71} (h : SvOk sv) : GoodSv sv := fun s h0 h1 => by
 obtain ⟨i, rfl⟩ : ∃ i : Nat, s = i := ⟨s.toNat, by omega⟩
 have := h.ok i (by omega)
 exact ⟨this.1, this.2.1⟩
theorem chk_l {sv : List S71} (h : SvOk sv) : ∀ (d k i : Nat), i + d = sv.length → d < k → quota_Check.l0 k sv sv (sv.length : Int) (i : Int) = some true := by
 intro d
 induction d with
 | zero =>
  intro k i hi hk
  obtain ⟨k, rfl⟩ : ∃ j, k = j + 1 := ⟨k - 1, by omega⟩
  simp only [quota_Check.l0]
  have := h.len
  rw [if_neg (by omega), decide_eq_true (by omega)]
 | succ d ih =>
  intro k i hi hk
  obtain ⟨k, rfl⟩ : ∃ j, k = j + 1 := ⟨k - 1, by omega⟩
  simp only [quota_Check.l0]
  have hl := h.len
  obtain ⟨h1, h2, h3, h4, h5, h6⟩ := h.ok i (by omega)
  rw [if_pos (by omega), if_pos (by omega), if_pos (by omega), if_neg (by omega), if_neg (by omega), if_neg (by omega), if_neg (by omega), if_neg (by omega), if_neg (by omega), w64 (by omega) (by omega)]
  exact ih k (i + 1) (by omega) (by omega)
theorem chk_f {sv : List S71} (h : SvOk sv) : quota_Check.f (sv.length + 1) sv = some true := by
 unfold quota_Check.f
 exact chk_l h sv.length _ 0 (by omega) (by omega)
end Go.Proofs.Ytfldklimlcnnnaa.QTChk
end

section
namespace Go.Proofs.Ytfldklimlcnnnaa.XTNew2
open Go.RowKit Go.Proofs.Ytfldklimlcnnnaa.PHq Go.Proofs.YtfldklimlcnnnaaW.PrintWords Go.Proofs.YtfldklimlcnnnaaW.PrintLast Go.Proofs.YtfldklimlcnnnaaW.PrintMore Go.Proofs.Ytfldklimlcnnnaa.MWords
open Go.Proofs.Ytfldklimlcnnnaa.MNat Go.Proofs.Ytfldklimlcnnnaa.QNat Go.Proofs.Ytfldklimlcnnnaa.QRatio Go.Proofs.Ytfldklimlcnnnaa.XRV Go.Proofs.Ytfldklimlcnnnaa.XHold Go.Proofs.Ytfldklimlcnnnaa.XWts Go.Proofs.Ytfldklimlcnnnaa.XLed Go.Proofs.Ytfldklimlcnnnaa.XFits Go.Proofs.Ytfldklimlcnnnaa.XTree Go.Proofs.Ytfldklimlcnnnaa.QTree Go.Proofs.Ytfldklimlcnnnaa.XRowP Go.Proofs.Ytfldklimlcnnnaa.XAllW Go.Proofs.Ytfldklimlcnnnaa.QTr Go.Proofs.Ytfldklimlcnnnaa.XTJoin Go.Proofs.Ytfldklimlcnnnaa.XTNew Go.Proofs.Ytfldklimlcnnnaa.QTChk
def quo (sv : List S71) (i : Nat) : Rat := wt (rd_T71 sv (i : Int)).f1
def alT (sv : List S71) (q : Rat) : Int → Rat := fun s => if s = -1 then q else quo sv s.toNat
theorem ext_self {β : Type} (f : Nat → β) (i : Nat) : ext f i (f i) = f := by
 funext j
 unfold ext
 split
 ·rename_i e; rw [e]
 ·rfl
set_option maxRecDepth 100000 in
set_option maxHeartbeats 8000000 in
theorem tnew_calls (x y : Value) (n d j : Nat) (A0 : Option Addr) (c0 : Nat) (sv : List S71) (w : World) (hv : RV w x y (limbs n) (limbs d)) (hn : F j n) (hd : F j d) (hj : j ≤ 1000) (h0 : 0 < d) (hC : Kd.C k71 w A0 sv.length sv) (hc : sv.length ≤ c0) (hS : SvOk sv) :
    Calls Try.prog 41 #[.agg #[x, y], .slice A0 sv.length c0] w fun e w' => ∃ (t : Nat) (A : Option Addr) (c m : Nat) (g b : Nat → Nat), e = .returned (.pointer (some ⟨t, 0, none⟩)) ∧ sv.length ≤ c ∧ Con w t A c m sv g b (ext (quo sv) sv.length (mkRat (n : Int) d)) (sv.length + 1) w' := by
  have mixed : Try.prog.follows Departure.mixedOrders = true := by kernel_rfl
  have hC0 := check_n j n d hn hd (by omega) h0
  obtain ⟨A1, c1, A2, c2, rfl, rfl⟩ := hv.shape
  obtain ⟨W0, hW0⟩ : ∃ W0, W0 = w.alloc (.cells #[.slice A1 (limbs n).length c1, .slice A2 (limbs d).length c2] 28) := ⟨_, rfl⟩
  have hb0 : Below w.heap.size w W0 := by rw [hW0]; exact below_alloc (Below.refl _ _) _
  have HB0 := Aside0.mk hb0
  have HM0 := Aside0.mk (show MBlk W0 w.heap.size 28 #[.slice A1 (limbs n).length c1, .slice A2 (limbs d).length c2] by rw [hW0]; exact mblk_new _ _ _)
  have HV0 := Aside0.mk (hv.below hb0)
  have HC := Aside0.mk (And.intro hC hc)
  have HS := Aside0.mk hS
  have HF := Aside0.mk (And.intro hn (And.intro hd (And.intro hj h0)))
  have HRC := Aside0.mk hC0
  have hmm := @run_makeMap Try.prog
  clear hv hn hd hj h0 hC hc hS hb0 hC0
  obtain ⟨un, hun⟩ : ∃ un, un = limbs n := ⟨_, rfl⟩
  obtain ⟨ud, hud⟩ : ∃ ud, ud = limbs d := ⟨_, rfl⟩
  rw [← hun, ← hud] at HM0 HV0 HRC hW0 ⊢
  have HU := Aside0.mk (And.intro hun hud)
  clear hun hud
  have k0 : W0.cell? ⟨w.heap.size, 0, none⟩ = some (.slice A1 un.length c1) := (mblk_cell HM0.out 0).trans rfl
  have k1 : W0.cell? ⟨w.heap.size, 1, none⟩ = some (.slice A2 ud.length c2) := (mblk_cell HM0.out 1).trans rfl
  go_enter Try.func41, Try.ntmps41
  go_upto_region 1 with fail
  rw [← hW0]
  clear hW0
  go_upto_region 3 with (first
    | (go_at_call 61; refine (quota_Check.calls _ A0 c0 sv true _ (Kd.C_below HC.out.1 HB0.out) HC.out.2 (chk_f HS.out)).mono ?_; rintro e w1 ⟨rfl, hb⟩; have HB1 := Aside0.mk (below_step HB0.out hb); have HV1 := Aside0.mk (HV0.out.below hb); have HM1 := Aside0.mk ((hb.block _ (mblk_lt HM0.out)).trans HM0.out); have k2 : w1.cell? ⟨w.heap.size, 0, none⟩ = some (.slice A1 un.length c1) := (mblk_cell HM1.out 0).trans rfl; have k3 : w1.cell? ⟨w.heap.size, 1, none⟩ = some (.slice A2 ud.length c2) := (mblk_cell HM1.out 1).trans rfl; clear hb)
    | (go_at_call 62; refine (check_rv HV1.out HRC.out).mono ?_; rintro e w2 ⟨rfl, hb⟩; have HB2 := Aside0.mk (below_step HB1.out hb); have HV2 := Aside0.mk (HV1.out.below hb); have HM2 := Aside0.mk ((hb.block _ (mblk_lt HM1.out)).trans HM1.out); clear hb))
  clear k0 k1 k2 k3 HM0 HM1 HV0 HV1 HB0 HB1
  go_wp2_with fail
  refine (clone_calls A0 c0 sv _ (Kd.C_below HC.out.1 HB2.out) HC.out.2 (by have := HS.out.len; omega)).mono ?_
  rintro e w3 ⟨A, c, rfl, hR, hb⟩
  have HB3 := Aside0.mk (below_step HB2.out hb)
  have HV3 := Aside0.mk (HV2.out.below hb)
  have HM3 := Aside0.mk ((hb.block _ (mblk_lt HM2.out)).trans HM2.out)
  have HR3 := Aside0.mk hR
  have HSB := Aside0.mk (show w.heap.size ≤ w2.heap.size from HB2.out.size)
  clear hb hR HB2 HV2 HM2
  obtain ⟨m, hmd⟩ : ∃ m, m = w3.heap.size := ⟨_, rfl⟩
  obtain ⟨t, htd⟩ : ∃ t, t = w3.heap.size + 1 := ⟨_, rfl⟩
  obtain ⟨w5, hw5⟩ : ∃ w5, w5 = (w3.alloc (.map #[] 0)).alloc (.cells #[.slice A sv.length c, .slice none 0 0, .map (some w3.heap.size)] 119) := ⟨_, rfl⟩
  have hz5 : (w3.alloc (.map #[] 0)).heap.size = t := by rw [htd]; simp
  have ha5 : Below w3.heap.size w3 w5 := by rw [hw5]; exact below_alloc (below_alloc (Below.refl _ _) _) _
  have HCON := Aside0.mk (show Con w t A c m sv (fun _ => 0) (fun _ => 0) (quo sv) 0 w5 by
    have hRR := Kd.R_reads' HR3.out
    refine ⟨⟨none, 0, ?_, VRow.nil _ _ _⟩, Kd.C_below hRR.2.2 ha5, fun h0 ad e => ?_, ?_, fun j hj => absurd hj (by omega), fun j k hj => absurd hj (by omega), fun j hj => absurd hj (by omega), ⟨by rw [htd]; have := HB3.out.size; omega, by rw [hmd]; exact HB3.out.size, fun j hj => absurd hj (by omega)⟩, below_step HB3.out ha5⟩
    · rw [hw5, hmd, ← hz5]; exact mblk_new _ _ _
    · subst e
      obtain ⟨cs, hcs⟩ := Kd.R_typed HR3.out ad.block rfl
      exact ⟨cs, (ha5.block _ (Array.getElem?_eq_some_iff.1 hcs).1).trans hcs⟩
    · have hm2 : XAt.MapIs (w3.alloc (.map #[] 0)) m [] := ⟨_, by rw [hmd]; exact World.ownsMap_made _ _ _ _, XAt.View.nil⟩
      rw [hw5]
      exact hm2.kept ((below_alloc (Below.refl _ _) _).block m hm2.lt))
  have HAL := Aside0.mk (show MBlk w5 w.heap.size 28 #[.slice A1 un.length c1, .slice A2 ud.length c2] ∧ RV w5 (.slice A1 un.length c1) (.slice A2 ud.length c2) un ud from ⟨(ha5.block _ (mblk_lt HM3.out)).trans HM3.out, HV3.out.below ha5⟩)
  have HCC := Aside0.mk (show sv.length ≤ c from (Kd.R_reads' HR3.out).2.1)
  go_upto_region 4 with fail
  rw [← hw5]
  rw [← htd]
  clear hw5 ha5 hz5 hmd htd HR3 HV3 HM3 HB3 HSB hmm
  go_wp2_with fail
  go_loopw [23] (fun v wr => ∃ (i : Nat) (g b : Nat → Nat), v = .int .i64 (i : Int) ∧ i ≤ sv.length ∧ Aside0 (Con w t A c m sv g b (quo sv) i wr) ∧ Aside0 (MBlk wr w.heap.size 28 #[.slice A1 un.length c1, .slice A2 ud.length c2] ∧ RV wr (.slice A1 un.length c1) (.slice A2 ud.length c2) un ud)) (fun v _ => sv.length - (intOf v).toNat)
  case atStart => exact ⟨0, _, _, rfl, by omega, HCON, HAL⟩
  case round =>
    clear HCON HAL
    obtain ⟨i, g, b, rfl, hi, HCON, HAL⟩ := hrel
    by_cases hlt : i < sv.length
    · have d1 : decide ((i : Int) < (sv.length : Int)) = true := decide_eq_true (by omega)
      have d2 : decide (i < sv.length) = true := decide_eq_true hlt
      have q1 : (i < sv.length) = True := eq_true hlt
      have HLT := Aside0.mk hlt
      have HLN := Aside0.mk (show i < 16 by have := HS.out.len; omega)
      obtain ⟨ad, hA0, l0, l1, l2⟩ := at_T71 (Kd.C_below HC.out.1 HCON.out.keep) (i : Int) (by omega) (by omega)
      rw [Int.toNat_natCast] at l0 l1 l2
      obtain ⟨s, hs⟩ : ∃ s, s = rd_T71 sv (i : Int) := ⟨_, rfl⟩
      rw [← hs] at l0 l1 l2
      have hok := HS.out.ok i hlt
      rw [← hs] at hok
      have hquo : quo sv i = wt s.f1 := by unfold quo; rw [hs]
      have HQ := Aside0.mk (And.intro hquo (show okW s.f1 from ⟨by have := hok.2.2.1; omega, by have := hok.2.2.2.1; omega, hok.2.2.2.2.1, by have := hok.2.2.2.2.2; omega⟩))
      subst hA0
      obtain ⟨u0, hu0⟩ : ∃ u0, u0 = wr.alloc (.cells #[.int .i64 s.f0, .int .i64 s.f1.f0, .int .i64 s.f1.f1] 71) := ⟨_, rfl⟩
      have hb0 : Below wr.heap.size wr u0 := by rw [hu0]; exact below_alloc (Below.refl _ _) _
      have hM0 : MBlk u0 wr.heap.size 71 #[.int .i64 s.f0, .int .i64 s.f1.f0, .int .i64 s.f1.f1] := by rw [hu0]; exact mblk_new _ _ _
      have x1 : u0.cell? ⟨wr.heap.size, 1, none⟩ = some (.int .i64 s.f1.f0) := (mblk_cell hM0 1).trans rfl
      have x2 : u0.cell? ⟨wr.heap.size, 2, none⟩ = some (.int .i64 s.f1.f1) := (mblk_cell hM0 2).trans rfl
      obtain ⟨B1, d1', hm, hv⟩ := HCON.out.cells
      have HCU := Aside0.mk (HCON.out.below (hb0.trans (below_drew (Below.refl u0.heap.size u0) |>.mono hb0.size)))
      have HRW := Aside0.mk (And.intro hm hv)
      have y1 : u0.cell? ⟨t, 1, none⟩ = some (.slice B1 i d1') := (mblk_cell ((hb0.block _ (mblk_lt hm)).trans hm) 1).trans rfl
      have HBU := Aside0.mk hb0
      clear hi hlt hs hok hquo hm hv hM0 hb0
      go_upto_region 7 with fail
      rw [← hu0]
      clear hu0 l0 l1 l2
      have HOF := Aside0.mk (of_w s.f1 HQ.out.2)
      have HALU := Aside0.mk (show RV u0.drew (.slice A1 un.length c1) (.slice A2 ud.length c2) un ud ∧ MBlk u0.drew w.heap.size 28 #[.slice A1 un.length c1, .slice A2 ud.length c2] from ⟨(HAL.out.2.below HBU.out).below (below_drew (Below.refl _ _)), (HBU.out.block _ (mblk_lt HAL.out.1)).trans HAL.out.1⟩)
      have HTB := Aside0.mk (show MBlk u0.drew t 119 #[.slice A sv.length c, .slice B1 i d1', .map (some m)] from (HBU.out.block _ (mblk_lt HRW.out.1)).trans HRW.out.1)
      have HVB := Aside0.mk (show VRow u0.drew w.heap.size 24 (.slice B1 i d1') ((List.range i).map fun j => .pointer (some ⟨g j, 0, none⟩)) from HRW.out.2.same fun k cs _ hc => HBU.out.block _ (Array.getElem?_eq_some_iff.1 hc).1)
      go_region_law
        (first
          | (go_simp
             go_at_call 71
             refine (of_rv HOF.out).mono ?_
             rintro e u1 ⟨p, q, rfl, hpq, hb⟩
             obtain ⟨P1, p1, P2, p2, rfl, rfl⟩ := hpq.shape
             have HPQ := Aside0.mk hpq
             have HB1 := Aside0.mk hb
             have y2 : u1.cell? ⟨t, 1, none⟩ = some (.slice B1 i d1') := (mblk_cell ((hb.block _ (mblk_lt HTB.out)).trans HTB.out) 1).trans rfl
             clear hb hpq)
          | (go_simp
             go_at_call 16
             refine (new_calls (.slice P1 (limbs s.f1.f0.toNat).length p1) (.slice P2 (limbs s.f1.f1.toNat).length p2) s.f1.f0.toNat s.f1.f1.toNat 1 u1 HPQ.out (okW_F HQ.out.2).1 (okW_F HQ.out.2).2 (by omega) (okW_pos HQ.out.2)).mono ?_
             rintro e u2 ⟨gi, bi, rfl, hL, hb, hg1, hb1⟩
             have hbb := below_step HB1.out hb
             have HB2 := Aside0.mk hbb
             have HL2 := Aside0.mk (And.intro hL (And.intro (Nat.le_trans HB1.out.size hg1) (Nat.le_trans HB1.out.size hb1)))
             have HT2 := Aside0.mk ((hbb.block _ (mblk_lt HTB.out)).trans HTB.out)
             have HV2 := Aside0.mk (show VRow u2 w.heap.size 24 (.slice B1 i d1') ((List.range i).map fun j => .pointer (some ⟨g j, 0, none⟩)) from HVB.out.same fun k cs _ hc => hbb.block _ (Array.getElem?_eq_some_iff.1 hc).1)
             have HS2 := Aside0.mk (show w.heap.size ≤ u2.heap.size from Nat.le_trans HCU.out.keep.size hbb.size)
             have y3 : u2.cell? ⟨t, 1, none⟩ = some (.slice B1 i d1') := (mblk_cell (show MBlk u2 t _ _ from HT2.out) 1).trans rfl
             have y4 : ∀ o, (u2.alloc o).cell? ⟨t, 1, none⟩ = some (.slice B1 i d1') := fun o => (mblk_cell (mblk_alloc (show MBlk u2 t _ _ from HT2.out) o) 1).trans rfl
             clear hb hL hbb hg1 hb1)
          | (refine V_append_step w.heap.size (by rfl) (.tmp 31) (.tmp 36) 117 24 (.pointer none) 8 (by rfl) Try.underlying117 (by kernel_rfl) rfl (fun _ h => by cases h) (.slice B1 i d1') ((List.range i).map fun j => .pointer (some ⟨g j, 0, none⟩)) (.pointer (some ⟨gi, 0, none⟩)) (by rfl) (by rfl) rfl (fun _ h => by cases h) HV2.out HS2.out (by rw [List.length_map, List.length_range]; have := HLN.out; omega) (by rw [List.length_map, List.length_range]; have := HLN.out; omega) ?_
             intro v1 u5 hv hg
             obtain ⟨B2, d2', e2, _⟩ := hv.shape
             rw [List.length_append, List.length_map, List.length_range] at e2
             simp only [List.length_cons, List.length_nil, Nat.zero_add] at e2
             subst e2
             have HV5 := Aside0.mk hv
             have HG5 := Aside0.mk hg
             have hT5 : MBlk u5 t 119 #[.slice A sv.length c, .slice B1 i d1', .map (some m)] := (hg.block _ (mblk_lt HT2.out) (fun e => by
               obtain ⟨_, cs, hc⟩ := HV2.out.typed t e.symm
               rw [show u2.heap[t]? = _ from HT2.out] at hc
               cases hc)).trans HT2.out
             have z1 : u5.cell? ⟨t, 1, none⟩ = some (.slice B1 i d1') := (mblk_cell hT5 1).trans rfl
             have zf : u5.frozen? ⟨t, 1, none⟩ = false := mblk_frozen hT5 1
             clear hv hg hT5))
      all_goals
        have hcon : Con w t A c m sv (ext g i gi) (ext b i bi) (quo sv) (i + 1) (u5.setCell ⟨t, 1, none⟩ (.slice B2 (i + 1) d2')) := by
          have hL : Led u2 gi bi (quo sv i) 0 [] := by rw [HQ.out.1]; exact HL2.out.1
          have hlt' : ∀ k, k < u0.drew.heap.size → k ≠ gi ∧ k ≠ bi := fun k hk => by
            have h1 := HL2.out.2.1
            have h2 := HL2.out.2.2
            omega
          have hst := (HCU.out.below HB2.out).step hL (fun j hj => by
              obtain ⟨⟨cs, h1⟩, es, cc, h2⟩ := Led.blk (HCU.out.led j hj)
              exact ⟨fun e => (hlt' _ (Array.getElem?_eq_some_iff.1 h1).1).1 e.symm, fun e => (hlt' _ (Array.getElem?_eq_some_iff.1 h2).1).2 e.symm⟩)
            (fun e => (hlt' _ HCU.out.map.lt).2 e.symm) ⟨Nat.le_trans HCU.out.keep.size HL2.out.2.1, Nat.le_trans HCU.out.keep.size HL2.out.2.2⟩ HT2.out HV2.out HV5.out HG5.out
          rw [ext_self] at hst
          exact hst
        have hal : MBlk (u5.setCell ⟨t, 1, none⟩ (.slice B2 (i + 1) d2')) w.heap.size 28 #[.slice A1 un.length c1, .slice A2 ud.length c2] ∧ RV (u5.setCell ⟨t, 1, none⟩ (.slice B2 (i + 1) d2')) (.slice A1 un.length c1) (.slice A2 ud.length c2) un ud := by
          have ha2 : MBlk u2 w.heap.size 28 #[.slice A1 un.length c1, .slice A2 ud.length c2] := (HB2.out.block _ (mblk_lt HALU.out.2)).trans HALU.out.2
          have ht5 : MBlk u5 t 119 #[.slice A sv.length c, .slice B1 i d1', .map (some m)] := (HG5.out.block _ (mblk_lt HT2.out) (fun e => by
            obtain ⟨_, cs, hc⟩ := HV2.out.typed t e.symm
            rw [show u2.heap[t]? = _ from HT2.out] at hc
            cases hc)).trans HT2.out
          have hne : ∀ k, k ≠ t → (u5.setCell ⟨t, 1, none⟩ (.slice B2 (i + 1) d2')).heap[k]? = u5.heap[k]? := fun k hk => Below.heap_setCell _ ⟨t, 1, none⟩ _ k hk
          have ha5 : MBlk u5 w.heap.size 28 #[.slice A1 un.length c1, .slice A2 ud.length c2] := (HG5.out.block _ (mblk_lt ha2) (fun e => by
            obtain ⟨_, cs, hc⟩ := HV2.out.typed _ e.symm
            rw [show u2.heap[w.heap.size]? = _ from ha2] at hc
            cases hc)).trans ha2
          refine ⟨(hne _ (fun e => ?_)).trans ha5, (HALU.out.1.below HB2.out).near fun k hk hn => (hne k (fun e => hn (by rw [e]; exact noLimb_tree HT2.out))).trans (HG5.out.block k hk (fun e => hn (HV2.out.noLimb e.symm)))⟩
          exact mblk_ne ha5 ht5 (by decide) e
        have HCN := Aside0.mk hcon
        have HAN := Aside0.mk hal
        clear hcon hal
        have hw : wrap64 ((i : Int) + 1) = ((i + 1 : Nat) : Int) := by have := HLN.out; rw [w64 (by omega) (by omega)]; omega
        go_wp2_with fail
        go_roundw
        case rel => exact ⟨i + 1, _, _, by first | rw [hw] | rfl | (simp; done), by have := HLT.out; omega, HCN, HAN⟩
        case measure =>
          rw [hw]
          show sv.length - (i + 1) < sv.length - i
          have := HLT.out
          omega
    · have d1 : decide ((i : Int) < (sv.length : Int)) = false := decide_eq_false (by omega)
      have d2 : decide (i < sv.length) = false := decide_eq_false hlt
      obtain rfl : i = sv.length := by omega
      obtain ⟨B1, d1', hm, hv⟩ := HCON.out.cells
      have HLN := Aside0.mk (show sv.length < 17 by have := HS.out.len; omega)
      have HCU := Aside0.mk (HCON.out.below (below_drew (Below.refl wr.heap.size wr)))
      have HTB := Aside0.mk (show MBlk wr.drew t 119 #[.slice A sv.length c, .slice B1 sv.length d1', .map (some m)] from hm)
      have HVB := Aside0.mk (show VRow wr.drew w.heap.size 24 (.slice B1 sv.length d1') ((List.range sv.length).map fun j => .pointer (some ⟨g j, 0, none⟩)) from hv.same fun k cs _ hc => rfl)
      have y1 : wr.cell? ⟨t, 1, none⟩ = some (.slice B1 sv.length d1') := (mblk_cell hm 1).trans rfl
      have x1 : wr.cell? ⟨w.heap.size, 0, none⟩ = some (.slice A1 un.length c1) := (mblk_cell HAL.out.1 0).trans rfl
      have x2 : wr.cell? ⟨w.heap.size, 1, none⟩ = some (.slice A2 ud.length c2) := (mblk_cell HAL.out.1 1).trans rfl
      have HRA := Aside0.mk (show RV wr.drew (.slice A1 un.length c1) (.slice A2 ud.length c2) (limbs n) (limbs d) by rw [← HU.out.1, ← HU.out.2]; exact HAL.out.2.below (below_drew (Below.refl _ _)))
      clear hlt hi hm hv
      go_upto_region 9 with fail
      go_region_law
        (first
          | (go_simp
             go_at_call 16
             refine (new_calls (.slice A1 un.length c1) (.slice A2 ud.length c2) n d j _ HRA.out HF.out.1 HF.out.2.1 (by have := HF.out.2.2.1; omega) HF.out.2.2.2).mono ?_
             rintro e u2 ⟨gi, bi, rfl, hL, hb, hg1, hb1⟩
             have HB2 := Aside0.mk hb
             have HL2 := Aside0.mk (And.intro hL (And.intro hg1 hb1))
             have HT2 := Aside0.mk ((hb.block _ (mblk_lt HTB.out)).trans HTB.out)
             have HV2 := Aside0.mk (show VRow u2 w.heap.size 24 (.slice B1 sv.length d1') ((List.range sv.length).map fun j => .pointer (some ⟨g j, 0, none⟩)) from HVB.out.same fun k cs _ hc => hb.block _ (Array.getElem?_eq_some_iff.1 hc).1)
             have HS2 := Aside0.mk (show w.heap.size ≤ u2.heap.size from Nat.le_trans HCU.out.keep.size hb.size)
             have y3 : u2.cell? ⟨t, 1, none⟩ = some (.slice B1 sv.length d1') := (mblk_cell (show MBlk u2 t _ _ from HT2.out) 1).trans rfl
             have y4 : ∀ o, (u2.alloc o).cell? ⟨t, 1, none⟩ = some (.slice B1 sv.length d1') := fun o => (mblk_cell (mblk_alloc (show MBlk u2 t _ _ from HT2.out) o) 1).trans rfl
             clear hb hL hg1 hb1)
          | (refine V_append_step w.heap.size (by rfl) (.tmp 45) (.tmp 48) 117 24 (.pointer none) 8 (by rfl) Try.underlying117 (by kernel_rfl) rfl (fun _ h => by cases h) (.slice B1 sv.length d1') ((List.range sv.length).map fun j => .pointer (some ⟨g j, 0, none⟩)) (.pointer (some ⟨gi, 0, none⟩)) (by rfl) (by rfl) rfl (fun _ h => by cases h) HV2.out HS2.out (by rw [List.length_map, List.length_range]; have := HLN.out; omega) (by rw [List.length_map, List.length_range]; have := HLN.out; omega) ?_
             intro v1 u5 hv hg
             obtain ⟨B2, d2', e2, _⟩ := hv.shape
             rw [List.length_append, List.length_map, List.length_range] at e2
             simp only [List.length_cons, List.length_nil, Nat.zero_add] at e2
             subst e2
             have HV5 := Aside0.mk hv
             have HG5 := Aside0.mk hg
             have hT5 : MBlk u5 t 119 #[.slice A sv.length c, .slice B1 sv.length d1', .map (some m)] := (hg.block _ (mblk_lt HT2.out) (fun e => by
               obtain ⟨_, cs, hc⟩ := HV2.out.typed t e.symm
               rw [show u2.heap[t]? = _ from HT2.out] at hc
               cases hc)).trans HT2.out
             have z1 : u5.cell? ⟨t, 1, none⟩ = some (.slice B1 sv.length d1') := (mblk_cell hT5 1).trans rfl
             have zf : u5.frozen? ⟨t, 1, none⟩ = false := mblk_frozen hT5 1
             clear hv hg hT5))
      all_goals
        have hlt' : ∀ k, k < wr.drew.heap.size → k ≠ gi ∧ k ≠ bi := fun k hk => by
          have h1 := HL2.out.2.1
          have h2 := HL2.out.2.2
          omega
        have hst := (HCU.out.below HB2.out).step HL2.out.1 (fun j hj => by
            obtain ⟨⟨cs, h1⟩, es, cc, h2⟩ := Led.blk (HCU.out.led j hj)
            exact ⟨fun e => (hlt' _ (Array.getElem?_eq_some_iff.1 h1).1).1 e.symm, fun e => (hlt' _ (Array.getElem?_eq_some_iff.1 h2).1).2 e.symm⟩)
          (fun e => (hlt' _ HCU.out.map.lt).2 e.symm) ⟨Nat.le_trans HCU.out.keep.size HL2.out.2.1, Nat.le_trans HCU.out.keep.size HL2.out.2.2⟩ HT2.out HV2.out HV5.out HG5.out
        have HST := Aside0.mk hst
        clear hlt' hst
        go_wp2_with fail
        go_ret
        exact ⟨t, A, c, m, _, _, rfl, HCC.out, HST.out⟩
end Go.Proofs.Ytfldklimlcnnnaa.XTNew2
end

section
namespace Go.Proofs.Ytfldklimlcnnnaa.XTMade
open Go.RowKit Go.Proofs.Ytfldklimlcnnnaa.PHq Go.Proofs.YtfldklimlcnnnaaW.PrintWords Go.Proofs.YtfldklimlcnnnaaW.PrintLast Go.Proofs.YtfldklimlcnnnaaW.PrintMore Go.Proofs.Ytfldklimlcnnnaa.MWords
open Go.Proofs.Ytfldklimlcnnnaa.MNat Go.Proofs.Ytfldklimlcnnnaa.QNat Go.Proofs.Ytfldklimlcnnnaa.QRatio Go.Proofs.Ytfldklimlcnnnaa.XRV Go.Proofs.Ytfldklimlcnnnaa.XHold Go.Proofs.Ytfldklimlcnnnaa.XWts Go.Proofs.Ytfldklimlcnnnaa.XLed Go.Proofs.Ytfldklimlcnnnaa.XFits Go.Proofs.Ytfldklimlcnnnaa.QHold Go.Proofs.Ytfldklimlcnnnaa.XTree Go.Proofs.Ytfldklimlcnnnaa.QTree Go.Proofs.Ytfldklimlcnnnaa.XRowP Go.Proofs.Ytfldklimlcnnnaa.XAllW Go.Proofs.Ytfldklimlcnnnaa.QTr Go.Proofs.Ytfldklimlcnnnaa.XTJoin Go.Proofs.Ytfldklimlcnnnaa.XTNew Go.Proofs.Ytfldklimlcnnnaa.QTChk Go.Proofs.Ytfldklimlcnnnaa.XTNew2
theorem quo_okW {sv : List S71} (h : SvOk sv) {i : Nat} (hi : i < sv.length) : okW (rd_T71 sv (i : Int)).f1 := by
 have := h.ok i hi
 unfold OkS at this
 unfold okW
 omega
theorem al_ext (sv : List S71) (q : Rat) {s : Int} (hs : inR sv.length s) : ext (quo sv) sv.length q (ix sv.length s) = alT sv q s := by
 unfold alT ix
 by_cases e : s = -1
 ·rw [if_pos e, if_pos e, ext_same]
 ·rw [if_neg e, if_neg e, ext_lt]
  have := hs.1
  have := hs.2
  omega
theorem ix_lt {n : Nat} {s : Int} (hs : inR n s) : ix n s < n + 1 := by
 unfold ix
 have := hs.1
 have := hs.2
 split <;> omega
theorem ix_inj {n : Nat} {s s' : Int} (hs : inR n s) (hs' : inR n s') (h : ix n s = ix n s') : s = s' := by
 unfold ix at h
 have := hs.1
 have := hs.2
 have := hs'.1
 have := hs'.2
 split at h <;> split at h <;> omega
theorem range_at (g : Nat → Nat) {n i : Nat} (hi : i < n) : ((List.range n).map fun j => (Value.pointer (some ⟨g j, 0, none⟩)))[i]? = some (.pointer (some ⟨g i, 0, none⟩)) := by
 rw [List.getElem?_map, List.getElem?_range hi]
 rfl
theorem con_tree {w W : World} {t : Nat} {A : Option Addr} {c m : Nat} {sv : List S71} {g b : Nat → Nat} {q : Rat} (hS : SvOk sv) (h : Con w t A c m sv g b (ext (quo sv) sv.length q) (sv.length + 1) W) (hq : Sz 3000 q) :
  ∃ M : Tm, M.t = t ∧ TH W M sv (alT sv q) [] 0 ∧ (∀ k, M.wr sv.length k → w.heap.size ≤ k) ∧ Below w.heap.size w W := by
 obtain ⟨A1, c1, h1, h2⟩ := h.cells
 rcases h2.own.2 with ⟨_, h0⟩ | ⟨Al, cap, cur, e, hb, hc, hcap, _, _, htake⟩
 ·rw [List.length_map, List.length_range] at h0
  omega
 rw [List.length_map, List.length_range] at e hcap
 injection e with e1 e2 e3
 subst e1
 have hcur : ∀ s, inR sv.length s → cur[ix sv.length s]? = some (.pointer (some ⟨g (ix sv.length s), 0, none⟩)) := fun s hs => by
  have h5 := range_at g (ix_lt hs)
  rw [← htake, List.length_map, List.length_range, List.getElem?_take, if_pos (by have := ix_lt hs; omega)] at h5
  simpa using h5
 have hin : ∀ s, inR sv.length s → ix sv.length s < sv.length + 1 := fun s hs => ix_lt hs
 refine ⟨⟨t, A, c, Al, c1, m, fun s => g (ix sv.length s), fun s => b (ix sv.length s)⟩, rfl, ⟨[], fun _ => [], ?_, ?_, hS.good⟩, ?_, h.keep⟩
 ·refine ⟨h1, by rw [e3]; exact hcap, h.row, fun h0 ad e => ?_, ⟨cur, _, hc, hcur⟩, h.map, fun s hs => ?_, fun s s' hs hs' hne => h.ne _ _ (hin s hs) (hin s' hs') (fun e => hne (ix_inj hs hs' e)), fun s hs => h.mb _ (hin s hs), by have := hS.len; omega⟩
  ·obtain ⟨cs, hcs⟩ := h.rowt h0 ad e
   exact ⟨cs, _, hcs⟩
  ·have := h.led _ (hin s hs)
   rw [al_ext sv q hs] at this
   exact this
 ·refine ⟨List.Perm.refl _, fun s hs => List.Perm.refl _, by simp, fun x hx => (by cases hx), fun x hx => (by cases hx), Nat.le_refl _, fun s hs => ?_, fun s hs => ?_⟩
  ·show (0 : Rat) ≤ alT sv q s
   unfold alT
   split
   ·exact hq.1
   ·exact wt_nonneg _
  ·unfold alT
   split
   ·exact hq
   ·rename_i hne
    have hi : s.toNat < sv.length := by have := hs.1; have := hs.2; omega
    have hw := quo_okW hS hi
    exact sz_mono (mk_sz 1 _ _ (okW_F hw).1 (okW_F hw).2 (okW_pos hw)) (by omega)
 ·rintro k (rfl | ⟨s, hs, rfl | rfl⟩)
  ·exact h.base.2.1
  ·exact (h.base.2.2 _ (hin s hs)).1
  ·exact (h.base.2.2 _ (hin s hs)).2
theorem new_tree (x y : Value) (n d j : Nat) (A0 : Option Addr) (c0 : Nat) (sv : List S71) (w : World) (hv : RV w x y (limbs n) (limbs d)) (hn : F j n) (hd : F j d) (hj : j ≤ 1000) (h0 : 0 < d) (hC : Kd.C k71 w A0 sv.length sv) (hc : sv.length ≤ c0) (hS : SvOk sv) :
  Calls Try.prog 41 #[.agg #[x, y], .slice A0 sv.length c0] w fun e w' => ∃ M : Tm, e = .returned (.pointer (some ⟨M.t, 0, none⟩)) ∧ TH w' M sv (alT sv (mkRat (n : Int) d)) [] 0 ∧ (∀ k, M.wr sv.length k → w.heap.size ≤ k) ∧ Below w.heap.size w w' := by
 refine (tnew_calls x y n d j A0 c0 sv w hv hn hd hj h0 hC hc hS).mono ?_
 rintro e w' ⟨t, A, c, m, g, b, rfl, _, hcon⟩
 obtain ⟨M, rfl, h1, h2, h3⟩ := con_tree hS hcon (sz_mono (mk_sz j n d hn hd h0) (by omega))
 exact ⟨M, rfl, h1, h2, h3⟩
end Go.Proofs.Ytfldklimlcnnnaa.XTMade
end

section
namespace Go.Proofs.Ytfldklimlcnnnaa.QServ
open Go.RowKit Go.Proofs.Ytfldklimlcnnnaa.PHq Go.Proofs.YtfldklimlcnnnaaW.PrintWords Go.Proofs.YtfldklimlcnnnaaW.PrintLast Go.Proofs.YtfldklimlcnnnaaW.PrintMore Go.Proofs.Ytfldklimlcnnnaa.MWords
open Go.Proofs.Ytfldklimlcnnnaa.MNat Go.Proofs.Ytfldklimlcnnnaa.QNat Go.Proofs.Ytfldklimlcnnnaa.QRef Go.Proofs.Ytfldklimlcnnnaa.QBits Go.Proofs.Ytfldklimlcnnnaa.XTree Go.Proofs.Ytfldklimlcnnnaa.QTree Go.Proofs.Ytfldklimlcnnnaa.QTChk
theorem one_f (k n d : Nat) (hn : n < 18446744073709551616) (hd : d < 18446744073709551616) (hk : 5 ≤ k) : regattalaw13_one.f k (n : Int) (d : Int) = some (limbs n, limbs d) := by
 unfold regattalaw13_one.f
 rw [rof_f k n hn hk, rof_f k d hd hk]
 rfl
theorem and3 (x : Int) : Go.bits .and .i64 x 3 = x % 4 := and_mask 2 (by omega) x 3 rfl
theorem all_f (ps : List Int) (qs : List S39) (a b : Int) : ∃ n d : Nat, n < 8 ∧ 1 ≤ d ∧ d ≤ 4 ∧ regattalaw13_Spec_all.f 5 ps qs a b = some (limbs n, limbs d) := by
 refine ⟨(a % 8).toNat, (1 + b % 4).toNat, by omega, by omega, by omega, ?_⟩
 unfold regattalaw13_Spec_all.f
 have h1 : IntKind.u64.wrap (Go.bits .and .i64 a 7) = ((a % 8).toNat : Int) := by rw [and7, IntKind.wrap_u64]; omega
 have h2 : IntKind.u64.wrap (wrap64 (1 + (Go.bits .and .i64 b 3))) = ((1 + b % 4).toNat : Int) := by rw [and3, QBits.w64 (by omega) (by omega), IntKind.wrap_u64]; omega
 rw [h1, h2, one_f 5 _ _ (by omega) (by omega) (Nat.le_refl _)]
 rfl
theorem tm_lo (a m : Int) (h : 0 < m) : -m < a.tmod m ∧ a.tmod m < m := by
 refine ⟨?_, Int.tmod_lt_of_pos a h⟩
 have := Int.lt_tmod_of_pos a h
 omega
theorem par_ok (p : Int) (i : Nat) (hi : i ≤ 8) : -1 ≤ wrap64 ((Int.tmod (wrap64 ((wrap64 ((Int.tmod p (wrap64 ((i : Int) + 1))) + i)) + 1)) (wrap64 ((i : Int) + 1))) - 1) ∧ wrap64 ((Int.tmod (wrap64 ((wrap64 ((Int.tmod p (wrap64 ((i : Int) + 1))) + i)) + 1)) (wrap64 ((i : Int) + 1))) - 1) < i := by
 have e : wrap64 ((i : Int) + 1) = (i : Int) + 1 := QBits.w64 (by omega) (by omega)
 rw [e]
 have h1 := tm_lo p ((i : Int) + 1) (by omega)
 generalize p.tmod ((i : Int) + 1) = r at *
 have e1 : wrap64 (r + i) = r + i := QBits.w64 (by omega) (by omega)
 rw [e1]
 have e2 : wrap64 (r + i + 1) = r + i + 1 := QBits.w64 (by omega) (by omega)
 rw [e2]
 have h2 := tm_lo (r + i + 1) ((i : Int) + 1) (by omega)
 have h3 : 0 ≤ (r + i + 1).tmod ((i : Int) + 1) := Int.tmod_nonneg _ (by omega)
 generalize (r + i + 1).tmod ((i : Int) + 1) = r2 at *
 rw [QBits.w64 (by omega) (by omega)]
 omega
theorem ok_snoc {sv : List S71} {x : S71} (h : ∀ i : Nat, i < sv.length → OkS (rd_T71 sv (i : Int)) i) (hx : OkS x sv.length) : ∀ i : Nat, i < (sv ++ [x]).length → OkS (rd_T71 (sv ++ [x]) (i : Int)) i := by
 intro i hi
 rw [List.length_append, List.length_singleton] at hi
 unfold rd_T71
 rw [Int.toNat_natCast]
 by_cases e : i = sv.length
 ·subst e
  rw [List.getD_eq_getElem?_getD, List.getElem?_append_right (Nat.le_refl _), Nat.sub_self]
  exact hx
 ·have := h i (by omega)
  unfold rd_T71 at this
  rw [Int.toNat_natCast] at this
  rw [List.getD_eq_getElem?_getD, List.getElem?_append_left (by omega), ← List.getD_eq_getElem?_getD]
  exact this
theorem serv_l (ps : List Int) (qs : List S39) (a b : Int) : ∀ (d k i : Nat) (acc : List S71), i + d = 8 → 2 * d + 3 < k → acc.length = i → (∀ j : Nat, j < acc.length → OkS (rd_T71 acc (j : Int)) j) →
  ∃ sv, regattalaw13_Spec_servers.l0 k acc (i : Int) ps qs a b = some sv ∧ sv.length ≤ 8 ∧ ∀ j : Nat, j < sv.length → OkS (rd_T71 sv (j : Int)) j := by
 intro d
 induction d with
 | zero =>
  intro k i acc hi hk hl hok
  obtain ⟨k, rfl⟩ : ∃ j, k = j + 2 := ⟨k - 2, by omega⟩
  refine ⟨acc, ?_, by omega, hok⟩
  simp only [regattalaw13_Spec_servers.l0]
  by_cases c : (i : Int) < (ps.length : Int)
  ·rw [if_pos c, decide_eq_false (by omega)]
   simp only [regattalaw13_Spec_servers.j1]
   rw [if_neg (by decide)]
  ·rw [if_neg c]
   simp only [regattalaw13_Spec_servers.j1]
   rw [if_neg (by decide)]
 | succ d ih =>
  intro k i acc hi hk hl hok
  obtain ⟨k, rfl⟩ : ∃ j, k = j + 2 := ⟨k - 2, by omega⟩
  simp only [regattalaw13_Spec_servers.l0]
  by_cases c : (i : Int) < (ps.length : Int)
  ·rw [if_pos c, decide_eq_true (by omega)]
   simp only [regattalaw13_Spec_servers.j1]
   have e : wrap64 ((i : Int) + 1) = ((i + 1 : Nat) : Int) := by rw [QBits.w64 (by omega) (by omega)]; omega
   have hp := par_ok (rd ps (i : Int)) i (by omega)
   rw [if_pos trivial, if_pos (by omega), if_pos c, if_neg (by rw [e]; omega)]
   by_cases c2 : (i : Int) < (qs.length : Int)
   ·rw [if_pos c2, if_pos (by omega)]
    generalize wrap64 ((Int.tmod (wrap64 ((wrap64 ((Int.tmod (rd ps (i : Int)) (wrap64 ((i : Int) + 1))) + i)) + 1)) (wrap64 ((i : Int) + 1))) - 1) = par at *
    rw [e]
    refine ih k (i + 1) _ (by omega) (by omega) (by rw [List.length_append, hl]; rfl) (ok_snoc hok ?_)
    rw [hl, and31, and15, QBits.w64 (by omega) (by omega)]
    exact ⟨hp.1, hp.2, by show 0 ≤ _ % 32; omega, by show _ % 32 ≤ 1073741824; omega, by show 1 ≤ 1 + _ % 16; omega, by show 1 + _ % 16 ≤ 1048576; omega⟩
   ·rw [if_neg c2, if_pos (by omega)]
    generalize wrap64 ((Int.tmod (wrap64 ((wrap64 ((Int.tmod (rd ps (i : Int)) (wrap64 ((i : Int) + 1))) + i)) + 1)) (wrap64 ((i : Int) + 1))) - 1) = par at *
    rw [e]
    refine ih k (i + 1) _ (by omega) (by omega) (by rw [List.length_append, hl]; rfl) (ok_snoc hok ?_)
    rw [hl]
    exact ⟨hp.1, hp.2, by show (0 : Int) ≤ 16; omega, by show (16 : Int) ≤ 1073741824; omega, by show (1 : Int) ≤ 16; omega, by show (16 : Int) ≤ 1048576; omega⟩
  ·rw [if_neg c]
   simp only [regattalaw13_Spec_servers.j1]
   rw [if_neg (by decide)]
   exact ⟨acc, rfl, by omega, hok⟩
theorem servers_f (ps : List Int) (qs : List S39) (a b : Int) : ∃ sv, regattalaw13_Spec_servers.f 20 ps qs a b = some sv ∧ SvOk sv ∧ sv.length ≤ 8 := by
 obtain ⟨sv, h1, h2, h3⟩ := serv_l ps qs a b 8 20 0 [] rfl (by omega) rfl (fun j hj => absurd hj (by simp))
 exact ⟨sv, h1, ⟨h3, by omega⟩, h2⟩
end Go.Proofs.Ytfldklimlcnnnaa.QServ
end

section
namespace Go.Proofs.Ytfldklimlcnnnaa.XQAwake
open Go.RowKit Go.Proofs.Ytfldklimlcnnnaa.PHq Go.Proofs.YtfldklimlcnnnaaW.PrintWords Go.Proofs.YtfldklimlcnnnaaW.PrintLast Go.Proofs.YtfldklimlcnnnaaW.PrintMore Go.Proofs.Ytfldklimlcnnnaa.MWords
open Go.Proofs.Ytfldklimlcnnnaa.MNat Go.Proofs.Ytfldklimlcnnnaa.QNat Go.Proofs.Ytfldklimlcnnnaa.QRatio Go.Proofs.Ytfldklimlcnnnaa.XRV Go.Proofs.Ytfldklimlcnnnaa.XHold Go.Proofs.Ytfldklimlcnnnaa.XJoin Go.Proofs.Ytfldklimlcnnnaa.XTree Go.Proofs.Ytfldklimlcnnnaa.QTree Go.Proofs.Ytfldklimlcnnnaa.XOf Go.Proofs.Ytfldklimlcnnnaa.XCollect Go.Proofs.Ytfldklimlcnnnaa.QTr Go.Proofs.Ytfldklimlcnnnaa.XTJoin Go.Proofs.Ytfldklimlcnnnaa.QTChk Go.Proofs.Ytfldklimlcnnnaa.XTNew2 Go.Proofs.Ytfldklimlcnnnaa.XTMade Go.Proofs.Ytfldklimlcnnnaa.QServ
def sv2 : List S71 := [⟨-1, ⟨1, 2⟩⟩, ⟨0, ⟨1, 3⟩⟩]
theorem sv2_ok : SvOk sv2 := ⟨fun i hi => by
 match i, hi with
 | 0, _ => exact ⟨by decide, by decide, by decide, by decide, by decide, by decide⟩
 | 1, _ => exact ⟨by decide, by decide, by decide, by decide, by decide, by decide⟩
 | i + 2, hi => exact absurd hi (by simp [sv2]), by decide⟩
theorem path2 : pathS sv2 1 = [1, 0, -1] := by decide
theorem join_a : joinTE sv2 (alT sv2 (mkRat 1 1)) [] 1 1 ⟨1, 2⟩ = 18 := by
 have h : fitsP sv2 (alT sv2 (mkRat 1 1)) [] 1 (QRatio.wt ⟨1, 2⟩) = false := by
  unfold fitsP
  rw [path2, List.all_eq_false]
  refine ⟨1, by simp, ?_⟩
  show ¬ decide ((0 : Rat) + mkRat 1 2 ≤ mkRat 1 3) = true
  rw [Rat.zero_add]
  decide +kernel
 unfold joinTE
 rw [h]
 decide
theorem join_b : joinTE sv2 (alT sv2 (mkRat 1 1)) [] 1 1 ⟨1, 3⟩ = 0 := by
 have h : fitsP sv2 (alT sv2 (mkRat 1 1)) [] 1 (QRatio.wt ⟨1, 3⟩) = true := by
  unfold fitsP
  rw [path2, List.all_eq_true]
  intro y hy
  rcases List.mem_cons.1 hy with rfl | hy
  ·show decide ((0 : Rat) + mkRat 1 3 ≤ mkRat 1 3) = true
   rw [Rat.zero_add]
   decide +kernel
  rcases List.mem_cons.1 hy with rfl | hy
  ·show decide ((0 : Rat) + mkRat 1 3 ≤ mkRat 1 2) = true
   rw [Rat.zero_add]
   decide +kernel
  rw [List.mem_singleton.1 hy]
  show decide ((0 : Rat) + mkRat 1 3 ≤ mkRat 1 1) = true
  rw [Rat.zero_add]
  decide +kernel
 unfold joinTE
 rw [h]
 decide
theorem same_l (l : List Int) (hl : l.length ≤ 1000) : ∀ (d k i : Nat), i + d = l.length → d < k → regattaref07_Same.l0 k l l (i : Int) = some true := by
 intro d
 induction d with
 | zero =>
  intro k i hi hk
  obtain ⟨k, rfl⟩ : ∃ j, k = j + 1 := ⟨k - 1, by omega⟩
  simp only [regattaref07_Same.l0]
  rw [if_neg (by omega)]
 | succ d ih =>
  intro k i hi hk
  obtain ⟨k, rfl⟩ : ∃ j, k = j + 1 := ⟨k - 1, by omega⟩
  simp only [regattaref07_Same.l0]
  rw [if_pos (by omega), if_pos (by omega), if_pos (by omega), if_pos trivial, w64 (by omega) (by omega)]
  exact ih k (i + 1) (by omega) (by omega)
theorem same_f (l : List Int) (hl : l.length ≤ 1000) : regattaref07_Same.f (l.length + 1) l l = some true := by
 unfold regattaref07_Same.f
 rw [if_pos rfl]
 exact same_l l hl l.length _ 0 (by omega) (by omega)
theorem C_sv2 {W : World} {k : Nat} (h : MBlk W k 71 #[.int .i64 (-1), .int .i64 1, .int .i64 2, .int .i64 0, .int .i64 1, .int .i64 3]) : Kd.C k71 W (some ⟨k, 0, none⟩) sv2.length sv2 := by
 have ea : ∀ i : Nat, (⟨k, 0, none⟩ : Addr).add i = ⟨k, i, none⟩ := fun i => by
  unfold Addr.add
  split
  ·rename_i h; simp [h]
  ·simp
 refine ⟨rfl, by decide, fun _ => ⟨⟨k, 0, none⟩, rfl, fun j p hj => ?_⟩⟩
 match j, hj with
 | 0, hj =>
  obtain rfl : (⟨-1, ⟨1, 2⟩⟩ : S71) = p := Option.some.inj hj
  refine ⟨_, rfl, k71_mk W _, fun i u hu => ?_⟩
  rw [ea]
  match i, hu with
  | 0, hu => exact (mblk_cell h 0).trans hu
  | 1, hu => exact (mblk_cell h 1).trans hu
  | 2, hu => exact (mblk_cell h 2).trans hu
  | i + 3, hu => simp at hu
 | 1, hj =>
  obtain rfl : (⟨0, ⟨1, 3⟩⟩ : S71) = p := Option.some.inj hj
  refine ⟨_, rfl, k71_mk W _, fun i u hu => ?_⟩
  rw [ea]
  match i, hu with
  | 0, hu => exact (mblk_cell h 3).trans hu
  | 1, hu => exact (mblk_cell h 4).trans hu
  | 2, hu => exact (mblk_cell h 5).trans hu
  | i + 3, hu => simp at hu
 | j + 2, hj => simp [sv2] at hj
theorem C_p3 {W : World} {k : Nat} (h : MBlk W k 3 #[.int .i64 1, .int .i64 0, .int .i64 (-1)]) : Kd.C (Kd.int .i64) W (some ⟨k, 0, none⟩) ([1, 0, -1] : List Int).length [1, 0, -1] := by
 have ea : ∀ i : Nat, (⟨k, 0, none⟩ : Addr).add i = ⟨k, i, none⟩ := fun i => by
  unfold Addr.add
  split
  ·rename_i h; simp [h]
  ·simp
 refine ⟨rfl, by decide, fun _ => ⟨⟨k, 0, none⟩, rfl, fun j p hj => ?_⟩⟩
 refine ⟨[.int .i64 p], rfl, rfl, fun i u hu => ?_⟩
 match i, hu with
 | 0, hu =>
  obtain rfl : Value.int .i64 p = u := Option.some.inj hu
  rw [ea]
  match j, hj with
  | 0, hj => obtain rfl : (1 : Int) = p := Option.some.inj hj; exact (mblk_cell h 0).trans rfl
  | 1, hj => obtain rfl : (0 : Int) = p := Option.some.inj hj; exact (mblk_cell h 1).trans rfl
  | 2, hj => obtain rfl : (-1 : Int) = p := Option.some.inj hj; exact (mblk_cell h 2).trans rfl
  | j + 3, hj => simp at hj
 | i + 1, hu => simp at hu
set_option maxRecDepth 100000 in
set_option maxHeartbeats 4000000 in
theorem awake_calls (w : World) : Calls Try.prog 39 #[] w fun e w' => e = .returned (.bool true) ∧ Below w.heap.size w w' := by
 obtain ⟨w1, hw1⟩ : ∃ w1, w1 = w.alloc (.cells #[.int .i64 (-1), .int .i64 1, .int .i64 2, .int .i64 0, .int .i64 1, .int .i64 3] 71) := ⟨_, rfl⟩
 have HB1 := Aside0.mk (show Below w.heap.size w w1 by rw [hw1]; exact below_alloc (Below.refl _ _) _)
 have HM1 := Aside0.mk (show MBlk w1 w.heap.size 71 #[.int .i64 (-1), .int .i64 1, .int .i64 2, .int .i64 0, .int .i64 1, .int .i64 3] by rw [hw1]; exact mblk_new _ _ _)
 have HJ := Aside0.mk (And.intro join_a join_b)
 go_enter Try.func39, Try.ntmps39
 go_upto_region 2 with fail
 rw [← hw1]
 clear hw1
 go_wp2_with fail
 refine (regattalaw13_one.calls 5 ((1 : Nat) : Int) ((1 : Nat) : Int) _ _ _ (one_f 5 1 1 (by decide) (by decide) (Nat.le_refl _))).mono ?_
 rintro e w2 ⟨v0, v1, rfl, h1, h2, hb⟩
 have HV2 := Aside0.mk (RV.ofR h1 h2)
 obtain ⟨P1, p1, P2, p2, rfl, rfl⟩ := HV2.out.shape
 have HB2 := Aside0.mk (below_step HB1.out hb)
 have HM2 := Aside0.mk ((hb.block _ (mblk_lt HM1.out)).trans HM1.out)
 clear h1 h2 hb HM1 HB1
 go_wp2_with fail
 have hnew := new_tree (.slice P1 (limbs 1).length p1) (.slice P2 (limbs 1).length p2) 1 1 2 (some ⟨w.heap.size, 0, none⟩) 2 sv2 w2 HV2.out (show (1 : Nat) < 4294967296 ^ 2 by decide) (show (1 : Nat) < 4294967296 ^ 2 by decide) (by decide) (by decide) (C_sv2 HM2.out) (by decide) sv2_ok
 refine hnew.mono ?_
 clear hnew
 rintro e w3 ⟨M, rfl, hT, hwr, hb⟩
 have HT3 := Aside0.mk hT
 have HWR := Aside0.mk hwr
 have HB3 := Aside0.mk (below_step HB2.out hb)
 have HSZ := Aside0.mk HB2.out.size
 have HS3 := Aside0.mk hb.size
 clear hT hwr hb
 go_wp2_with fail
 refine (tjoin_calls HT3.out (by decide) 1 1 ⟨1, 2⟩ (wfI_of (by decide) (by decide))).mono ?_
 rintro e w4 ⟨rfl, hT, hk⟩
 have hja : joinTH sv2 (alT sv2 (mkRat ((1 : Nat) : Int) 1)) [] 1 1 ⟨1, 2⟩ = [] := by
  unfold joinTH
  rw [if_neg (by rw [show joinTE sv2 (alT sv2 (mkRat ((1 : Nat) : Int) 1)) [] 1 1 ⟨1, 2⟩ = 18 from HJ.out.1]; decide)]
 rw [hja] at hT
 rw [show joinTE sv2 (alT sv2 (mkRat ((1 : Nat) : Int) 1)) [] 1 1 ⟨1, 2⟩ = 18 from HJ.out.1]
 have HT4 := Aside0.mk hT
 have HK4 := Aside0.mk hk
 clear hT hk hja
 go_wp2_with fail
 refine (tjoin_calls HT4.out (by decide) 1 1 ⟨1, 3⟩ (wfI_of (by decide) (by decide))).mono ?_
 rintro e w5 ⟨rfl, hT, hk⟩
 rw [show joinTE sv2 (alT sv2 (mkRat ((1 : Nat) : Int) 1)) [] 1 1 ⟨1, 3⟩ = 0 from HJ.out.2]
 have HB5 := Aside0.mk (show Below w.heap.size w w5 from by
  have hkk := HK4.out.trans hk
  have h1 : Below w.heap.size w3 w5 := hkk.below (fun k hk => Nat.le_trans HSZ.out (HWR.out k hk)) HB3.out.size
  exact ⟨h1.os.trans HB3.out.os, h1.tape.trans HB3.out.tape, h1.output.trans HB3.out.output, Nat.le_trans HB3.out.size h1.size, fun k hk => (h1.block k hk).trans (HB3.out.block k hk)⟩)
 obtain ⟨at_, ls, ht, hi, hg⟩ := hT
 have HT5 := Aside0.mk (And.intro ht hg)
 clear ht hi hg hk
 go_wp2_with (first
  | (go_at_call 43; have hp := Path_calls HT5.out.1 HT5.out.2 1; rw [show pathT sv2 1 = [1, 0, -1] from path2] at hp; refine hp.mono ?_; clear hp; rintro e w6 ⟨A6, c6, rfl, hl, hC, hb⟩; have HC6 := Aside0.mk (And.intro hl hC); have HB6 := Aside0.mk (below_step HB5.out hb); clear hl hC hb)
  | (go_at_call 54; refine (regattaref07_Same.calls 4 A6 c6 [1, 0, -1] (some ⟨w6.heap.size, 0, none⟩) 3 [1, 0, -1] true _ (Kd.C_below HC6.out.2 (below_alloc (Below.refl _ _) _)) HC6.out.1 (C_p3 (mblk_new _ _ _)) (by decide) (same_f _ (by decide))).mono ?_; rintro e w7 ⟨rfl, hd⟩; have HB7 := Aside0.mk (below_step (below_alloc HB6.out _) hd.below); clear hd))
 go_ret
 exact ⟨by simp, HB7.out⟩
end Go.Proofs.Ytfldklimlcnnnaa.XQAwake
end

section
namespace Go.Proofs.Ytfldklimlcnnnaa.PureQuotaPath
open Go.RowKit Go.Proofs.Ytfldklimlcnnnaa.PHq Go.Proofs.YtfldklimlcnnnaaW.PrintWords Go.Proofs.YtfldklimlcnnnaaW.PrintLast Go.Proofs.YtfldklimlcnnnaaW.PrintMore Go.Proofs.Ytfldklimlcnnnaa.MWords
open Go.Proofs.Ytfldklimlcnnnaa.MNat Go.Proofs.Ytfldklimlcnnnaa.QNat Go.Proofs.Ytfldklimlcnnnaa.QRatio Go.Proofs.Ytfldklimlcnnnaa.XRV Go.Proofs.Ytfldklimlcnnnaa.XHold Go.Proofs.Ytfldklimlcnnnaa.XJoin Go.Proofs.Ytfldklimlcnnnaa.XTree Go.Proofs.Ytfldklimlcnnnaa.QTree Go.Proofs.Ytfldklimlcnnnaa.XOf Go.Proofs.Ytfldklimlcnnnaa.XCollect Go.Proofs.Ytfldklimlcnnnaa.QTr Go.Proofs.Ytfldklimlcnnnaa.XTJoin Go.Proofs.Ytfldklimlcnnnaa.QTChk Go.Proofs.Ytfldklimlcnnnaa.XTNew2 Go.Proofs.Ytfldklimlcnnnaa.XTMade Go.Proofs.Ytfldklimlcnnnaa.QServ Go.Proofs.Ytfldklimlcnnnaa.XQAwake
theorem path_adj {sv : List S71} (hG : GoodSv sv) (s : Int) (hs : inR sv.length s) : ∀ i : Nat, i + 1 < (pathS sv s).length → 0 ≤ (pathS sv s).getD i 0 ∧ (pathS sv s).getD i 0 < sv.length ∧ par sv ((pathS sv s).getD i 0) = (pathS sv s).getD (i + 1) 0 ∧ (pathS sv s).getD (i + 1) 0 < (pathS sv s).getD i 0 := by
 refine path_ind hG (P := fun s => ∀ i : Nat, i + 1 < (pathS sv s).length → 0 ≤ (pathS sv s).getD i 0 ∧ (pathS sv s).getD i 0 < sv.length ∧ par sv ((pathS sv s).getD i 0) = (pathS sv s).getD (i + 1) 0 ∧ (pathS sv s).getD (i + 1) 0 < (pathS sv s).getD i 0) ?_ ?_ s hs
 ·intro i hi
  rw [path_root] at hi
  simp at hi
 ·intro s h0 h1 ih i hi
  have hp := hG s h0 h1
  rw [path_step hG h0 h1] at hi ⊢
  cases i with
  | zero =>
   obtain ⟨r, hr⟩ := path_head hG (par sv s) ⟨hp.1, by omega⟩
   rw [hr]
   exact ⟨h0, h1, rfl, hp.2⟩
  | succ i => exact ih i (by simpa using hi)
theorem int_at {W : World} {A : Option Addr} {n : Nat} {xs : List Int} (h : Kd.C (Kd.int .i64) W A n xs) (i : Nat) (hi : i < n) : ∃ ad, A = some ad ∧ W.cell? (ad.add i) = some (.int .i64 (xs.getD i 0)) := by
 obtain ⟨ad, c, e, _, hK, hc⟩ := Kd.C_get h 0 (i : Int) (by omega) (by omega)
 have hK' : c = [.int .i64 (xs.getD (i : Int).toNat 0)] := hK
 subst hK'
 have h1 := hc 0 _ rfl
 refine ⟨ad, e, ?_⟩
 have e1 : (i : Int).toNat * (Kd.int .i64).sz + 0 = i := by show (i : Int).toNat * 1 + 0 = i; omega
 rw [e1, Int.toNat_natCast] at h1
 exact h1
set_option maxRecDepth 100000 in
set_option maxHeartbeats 8000000 in
theorem path_law (A0 A1 : Option Addr) (c0 c1 : Nat) (ps : List Int) (qs : List S39) (a b s : Int) (w : World) (h0 : Kd.C (Kd.int .i64) w A0 ps.length ps) (l0 : ps.length ≤ c0) (h1 : Kd.C k39 w A1 qs.length qs) (l1 : qs.length ≤ c1) :
  Calls Try.prog 9 #[.agg #[.slice A0 ps.length c0, .slice A1 qs.length c1, .int .i64 a, .int .i64 b], .int .i64 s] w fun e w' => e = .returned (.bool true) ∧ Below w.heap.size w w' := by
 obtain ⟨sv, hsv, hS, hl8⟩ := servers_f ps qs a b
 obtain ⟨n, d, hn, hd1, hd2, hall⟩ := all_f ps qs a b
 obtain ⟨w0, hw0⟩ : ∃ w0, w0 = w.alloc (.cells #[.slice A0 ps.length c0, .slice A1 qs.length c1, .int .i64 a, .int .i64 b] 64) := ⟨_, rfl⟩
 have hb0 : Below w.heap.size w w0 := by rw [hw0]; exact below_alloc (Below.refl _ _) _
 have HB0 := Aside0.mk hb0
 have HM0 := Aside0.mk (show MBlk w0 w.heap.size 64 #[.slice A0 ps.length c0, .slice A1 qs.length c1, .int .i64 a, .int .i64 b] by rw [hw0]; exact mblk_new _ _ _)
 have HQ := Aside0.mk (And.intro (And.intro h0 l0) (And.intro h1 l1))
 have HSV := Aside0.mk (And.intro hsv (And.intro hS hl8))
 have HAL := Aside0.mk (And.intro hall (And.intro hn (And.intro hd1 hd2)))
 clear hsv hS hl8 hall hn hd1 hd2 h0 l0 h1 l1 hb0
 go_enter Try.func9, Try.ntmps9
 go_upto_region 1 with fail
 rw [← hw0]
 clear hw0
 go_upto_region 2 with (go_at_call 39; refine (awake_calls _).mono ?_; rintro e w1 ⟨rfl, hb⟩; have HB1 := Aside0.mk (below_step HB0.out hb); have HM1 := Aside0.mk ((hb.block _ (mblk_lt HM0.out)).trans HM0.out); clear hb)
 have a0 : w1.cell? ⟨w.heap.size, 0, none⟩ = some (.slice A0 ps.length c0) := (mblk_cell HM1.out 0).trans rfl
 have a1 : w1.cell? ⟨w.heap.size, 1, none⟩ = some (.slice A1 qs.length c1) := (mblk_cell HM1.out 1).trans rfl
 have a2 : w1.cell? ⟨w.heap.size, 2, none⟩ = some (.int .i64 a) := (mblk_cell HM1.out 2).trans rfl
 have a3 : w1.cell? ⟨w.heap.size, 3, none⟩ = some (.int .i64 b) := (mblk_cell HM1.out 3).trans rfl
 clear HM0 HB0
 go_wp2_with fail
 refine (regattalaw13_Spec_servers.calls 20 A0 c0 ps A1 c1 qs a b sv _ (Kd.C_below HQ.out.1.1 HB1.out) HQ.out.1.2 (Kd.C_below HQ.out.2.1 HB1.out) HQ.out.2.2 HSV.out.1).mono ?_
 rintro e w2 ⟨v, rfl, hR, hb⟩
 obtain ⟨A, c, rfl⟩ := Kd.R_slice hR
 have HL2 := Aside0.mk (Kd.R_reads' hR)
 have HB2 := Aside0.mk (below_step HB1.out hb)
 have HM2 := Aside0.mk ((hb.block _ (mblk_lt HM1.out)).trans HM1.out)
 clear hR hb a0 a1 a2 a3 HB1 HM1
 have a0 : w2.cell? ⟨w.heap.size, 0, none⟩ = some (.slice A0 ps.length c0) := (mblk_cell HM2.out 0).trans rfl
 have a1 : w2.cell? ⟨w.heap.size, 1, none⟩ = some (.slice A1 qs.length c1) := (mblk_cell HM2.out 1).trans rfl
 have a2 : w2.cell? ⟨w.heap.size, 2, none⟩ = some (.int .i64 a) := (mblk_cell HM2.out 2).trans rfl
 have a3 : w2.cell? ⟨w.heap.size, 3, none⟩ = some (.int .i64 b) := (mblk_cell HM2.out 3).trans rfl
 go_wp2_with fail
 refine (regattalaw13_Spec_all.calls 5 A0 c0 ps A1 c1 qs a b _ _ _ (Kd.C_below HQ.out.1.1 HB2.out) HQ.out.1.2 (Kd.C_below HQ.out.2.1 HB2.out) HQ.out.2.2 HAL.out.1).mono ?_
 rintro e w3 ⟨v0, v1, rfl, h1, h2, hb⟩
 have HV3 := Aside0.mk (RV.ofR h1 h2)
 obtain ⟨P1, p1, P2, p2, rfl, rfl⟩ := HV3.out.shape
 have HB3 := Aside0.mk (below_step HB2.out hb)
 have HL3 := Aside0.mk (And.intro HL2.out.2.1 (Kd.C_below HL2.out.2.2 hb))
 clear h1 h2 hb a0 a1 a2 a3 HB2 HM2 HL2
 go_wp2_with fail
 have hnew := new_tree (.slice P1 (limbs n).length p1) (.slice P2 (limbs d).length p2) n d 2 A c sv w3 HV3.out (show n < 4294967296 ^ 2 by have := HAL.out; omega) (show d < 4294967296 ^ 2 by have := HAL.out; omega) (by decide) (by have := HAL.out; omega) HL3.out.2 HL3.out.1 HSV.out.2.1
 refine hnew.mono ?_
 clear hnew
 rintro e w4 ⟨M, rfl, hT, hwr, hb⟩
 obtain ⟨at_, ls, ht, _, hg⟩ := hT
 have HT4 := Aside0.mk (And.intro ht hg)
 have HB4 := Aside0.mk (below_step HB3.out hb)
 have HL4 := Aside0.mk (And.intro HL3.out.1 (Kd.C_below HL3.out.2 hb))
 clear ht hg hwr hb HB3 HL3
 go_wp2_with fail
 refine (Path_calls HT4.out.1 HT4.out.2 s).mono ?_
 rintro e w5 ⟨Ap, cp, rfl, hl, hC, hb⟩
 have HP5 := Aside0.mk (And.intro hl hC)
 have HB5 := Aside0.mk (below_step HB4.out hb)
 have HL5 := Aside0.mk (And.intro HL4.out.1 (Kd.C_below HL4.out.2 hb))
 clear hl hC hb HB4 HL4
 obtain ⟨p, hp⟩ : ∃ p, p = pathT sv s := ⟨_, rfl⟩
 rw [← hp] at HP5 ⊢
 have HPE := Aside0.mk hp
 clear hp
 cases ht : thereB sv.length s with
 | false =>
  have hp0 : p = [] := by rw [HPE.out]; unfold pathT; rw [ht, if_neg (by decide)]
  subst hp0
  by_cases hs1 : s < -1
  ·have e1 : decide (s < -1) = true := decide_eq_true hs1
   clear hs1 ht
   go_wp2_with fail
   go_ret
   exact ⟨by simp, HB5.out⟩
  ·have e1 : decide (s < -1) = false := decide_eq_false hs1
   have hs2 : (sv.length : Int) ≤ s := by
    unfold thereB at ht
    simp at ht
    omega
   have e2 : decide ((sv.length : Int) ≤ s) = true := decide_eq_true hs2
   clear hs1 hs2 ht
   go_wp2_with fail
   go_ret
   exact ⟨by simp, HB5.out⟩
 | true =>
  have hin := there_in.1 ht
  have hpp : p = pathS sv s := by rw [HPE.out]; unfold pathT; rw [ht, if_pos rfl]
  obtain ⟨r1, hr1⟩ := path_head HT4.out.2 s hin
  obtain ⟨r2, hr2⟩ := path_last HT4.out.2 s hin
  have hlen := path_len HT4.out.2 s hin
  have hadj := path_adj HT4.out.2 s hin
  have hpz : p.getD 0 0 = s := by rw [hpp, hr1]; rfl
  have hpl : 0 < p.length := by rw [hpp, hr1]; simp
  have hpe : p.getD (p.length - 1) 0 = -1 := by
   rw [hpp, hr2]
   simp
  rw [← hpp] at hlen hadj
  have hpm : p.length ≤ 9 := by have := HSV.out.2.2; omega
  obtain ⟨ad, hA, q0⟩ := int_at HP5.out.2 0 hpl
  obtain ⟨ad', hA', q1⟩ := int_at HP5.out.2 (p.length - 1) (by omega)
  obtain rfl : ad = ad' := by rw [hA] at hA'; exact Option.some.inj hA'
  rw [hpz] at q0
  rw [hpe] at q1
  have q0' : w5.cell? ad = some (.int .i64 s) := by
   have : ad.add 0 = ad := by unfold Addr.add; simp
   rw [this] at q0; exact q0
  subst hA
  have e1 : decide (s < -1) = false := decide_eq_false (by have := hin.1; omega)
  have e2 : decide ((sv.length : Int) ≤ s) = false := decide_eq_false (by have := hin.2; omega)
  have e3 : ((p.length : Int) == 0) = false := beq_eq_false_iff_ne.mpr (by omega)
  have e4 : (p.length == 0) = false := beq_eq_false_iff_ne.mpr (by omega)
  have e5 : (p.length = 0) = False := eq_false (by omega)
  have e6 : (0 < p.length) = True := eq_true hpl
  have e7 : wrap64 ((p.length : Int) - 1) = ((p.length - 1 : Nat) : Int) := by rw [w64 (by omega) (by omega)]; omega
  have e8 : (p.length - 1 < p.length) = True := eq_true (by omega)
  have e9 : ((0 : Int) ≤ ((p.length - 1 : Nat) : Int)) = True := eq_true (by omega)
  have e10 : (((p.length - 1 : Nat) : Int) < (p.length : Int)) = True := eq_true (by omega)
  have HADJ := Aside0.mk (And.intro hadj (And.intro hpl hpm))
  clear hin hpp hr1 hr2 hlen hadj hpz hpl hpe hpm ht hA' q0
  go_upto_region 11 with fail
  clear e1 e2 e3 e4 e5 e6 e7 e8 e9 e10 q0' q1
  go_wp2_with fail
  go_loopw [9] (fun v wr => ∃ i : Nat, v = .int .i64 (i : Int) ∧ 1 ≤ i ∧ i ≤ p.length ∧ Aside0 (Below w.heap.size w wr) ∧ Aside0 (p.length ≤ cp ∧ Kd.C (Kd.int .i64) wr (some ad) p.length p) ∧ Aside0 (sv.length ≤ c ∧ Kd.C k71 wr A sv.length sv)) (fun v _ => p.length - (intOf v).toNat)
  case atStart => exact ⟨1, rfl, by omega, HADJ.out.2.1, HB5, HP5, HL5⟩
  case round =>
   clear HB5 HP5 HL5
   obtain ⟨i, rfl, hi1, hi2, HB5, HP5, HL5⟩ := hrel
   by_cases hlt : i < p.length
   ·have d1 : decide ((i : Int) < (p.length : Int)) = true := decide_eq_true (by omega)
    have d2 : decide (i < p.length) = true := decide_eq_true hlt
    obtain ⟨j, rfl⟩ : ∃ j, i = j + 1 := ⟨i - 1, by omega⟩
    obtain ⟨k1, k2, k3, k4⟩ := HADJ.out.1 j hlt
    have hpm := HADJ.out.2.2
    obtain ⟨ad1, hA1, z1⟩ := int_at HP5.out.2 j (by omega)
    obtain ⟨ad2, hA2, z2⟩ := int_at HP5.out.2 (j + 1) hlt
    obtain rfl : ad = ad1 := Option.some.inj hA1
    obtain rfl : ad = ad2 := Option.some.inj hA2
    obtain ⟨u, hu⟩ : ∃ u, u = p.getD j 0 := ⟨_, rfl⟩
    obtain ⟨v, hv⟩ : ∃ v, v = p.getD (j + 1) 0 := ⟨_, rfl⟩
    rw [← hu] at z1 k1 k2 k3 k4
    rw [← hv] at z2 k3 k4
    obtain ⟨ad3, hA3, z3, _⟩ := at_T71 HL5.out.2 u k1 k2
    have z3' : wr.cell? (ad3.add (u.toNat * 3)) = some (.int .i64 v) := by rw [z3]; show some (Value.int .i64 (par sv u)) = _; rw [k3]
    subst hA3
    have f12 : ((0 : Int) ≤ (j : Int) + 1) = True := eq_true (by omega)
    have z2' : wr.cell? ⟨ad.block, ad.off + (j + 1), none⟩ = some (.int .i64 v) := by
     have e : ad.add (j + 1) = ⟨ad.block, ad.off + (j + 1), none⟩ := by
      unfold Addr.add
      rw [if_neg (by omega)]
     rw [← e]
     exact z2
    have f2 : (j < p.length) = True := eq_true (by omega)
    have f3 : (j + 1 < p.length) = True := eq_true hlt
    have f4 : ((j : Int) < (p.length : Int)) = True := eq_true (by omega)
    have f5 : ((j : Int) + 1 < (p.length : Int)) = True := eq_true (by omega)
    have f6 : decide (u < 0) = false := decide_eq_false (by omega)
    have f7 : decide ((sv.length : Int) ≤ u) = false := decide_eq_false (by omega)
    have f8 : (0 ≤ u) = True := eq_true k1
    have f9 : (u < (sv.length : Int)) = True := eq_true k2
    have f10 : decide (u ≤ v) = false := decide_eq_false (by omega)
    have f11 : (u.toNat < sv.length) = True := eq_true (by omega)
    have HF := Aside0.mk (show wrap64 (((j + 1 : Nat) : Int) + 1) = ((j + 1 + 1 : Nat) : Int) ∧ j + 1 < p.length by exact ⟨by rw [w64 (by omega) (by omega)]; omega, hlt⟩)
    have g1 : -9223372036854775808 ≤ (j : Int) ∧ (j : Int) ≤ 9223372036854775807 := by omega
    have g2 : (((j + 1 : Nat) : Int) - 1) = (j : Int) := by omega
    have g3 : (j : Int) + 1 - 1 = (j : Int) := by omega
    have f1a : wrap64 (j : Int) = (j : Int) := w64 g1.1 (by have := g1.2; omega)
    have f1 : wrap64 (((j + 1 : Nat) : Int) - 1) = (j : Int) := by rw [g2]; exact f1a
    have f1' : wrap64 ((j : Int) + 1 - 1) = (j : Int) := by rw [g3]; exact f1a
    clear g1 g2 g3
    clear hlt hi1 hi2 hA1 hA2 hu hv z3 k1 k2 k3 k4 hpm
    go_upto_region 14 with fail
    refine start_ (n := 44) (S := fun w' => w'.cell? (ad.add j) = some (.int .i64 u) ∧ w'.cell? (ad.add (j + 1)) = some (.int .i64 v) ∧ w'.cell? ⟨ad.block, ad.off + (j + 1), none⟩ = some (.int .i64 v) ∧ w'.cell? (ad3.add (u.toNat * 3)) = some (.int .i64 v)) (ds := []) #[false, false, false, false, false, false, false, false, false, false, false, false, false, false, false, false, false, false, false, false, false, false, false, false, false, false, false, false, false, false, false, false, false, false, false, false, false, false, false, false, false, false, false, false] (by kernel_rfl) rfl rfl ⟨z1, z2, z2', z3'⟩ (fun hHeld => ?_)
    refine pure_ (i := 0) (N := some 61) (v := ?_) (a' := ?_) #[true, false, false, false, false, false, false, false, false, false, false, false, false, false, false, false, false, false, false, false, false, false, false, false, false, false, false, false, false, false, false, false, false, false, false, false, false, false, false, false, false, false, false, false] rfl rfl (by kernel_rfl) (fun _ _ _ h => h) (Or.inl ⟨by rfl, ?_⟩) ?_ ?_
    rotate_left
    ·intro w'
     go_simp
     with_reducible rfl
    rotate_left
    ·simp only [Act.put, List.setIfInBounds_toArray, List.set_cons_zero, List.set_cons_succ, i64_w, i32_w]
     rfl
    refine pure_ (i := 1) (N := some 62) (v := ?_) (a' := ?_) #[true, true, false, false, false, false, false, false, false, false, false, false, false, false, false, false, false, false, false, false, false, false, false, false, false, false, false, false, false, false, false, false, false, false, false, false, false, false, false, false, false, false, false, false] rfl rfl (by kernel_rfl) (fun _ _ _ h => h) (Or.inl ⟨by rfl, ?_⟩) ?_ ?_
    rotate_left
    ·intro w'
     go_simp
     with_reducible rfl
    rotate_left
    ·simp only [Act.put, List.setIfInBounds_toArray, List.set_cons_zero, List.set_cons_succ, i64_w, i32_w]
     rfl
    refine pure_ (i := 2) (N := some 63) (v := ?_) (a' := ?_) #[true, true, true, false, false, false, false, false, false, false, false, false, false, false, false, false, false, false, false, false, false, false, false, false, false, false, false, false, false, false, false, false, false, false, false, false, false, false, false, false, false, false, false, false] rfl rfl (by kernel_rfl) (fun _ _ _ h => h) (Or.inl ⟨by rfl, ?_⟩) ?_ ?_
    rotate_left
    ·intro w'
     go_simp
     with_reducible rfl
    rotate_left
    ·simp only [Act.put, List.setIfInBounds_toArray, List.set_cons_zero, List.set_cons_succ, i64_w, i32_w]
     rfl
    refine pure_ (i := 3) (N := some 64) (v := ?_) (a' := ?_) #[true, true, true, true, false, false, false, false, false, false, false, false, false, false, false, false, false, false, false, false, false, false, false, false, false, false, false, false, false, false, false, false, false, false, false, false, false, false, false, false, false, false, false, false] rfl rfl (by kernel_rfl) (fun _ _ _ h => h) (Or.inl ⟨by rfl, ?_⟩) ?_ ?_
    rotate_left
    ·intro w'
     go_simp
     with_reducible rfl
    rotate_left
    ·simp only [Act.put, List.setIfInBounds_toArray, List.set_cons_zero, List.set_cons_succ, i64_w, i32_w]
     rfl
    refine take_ (i := 4) (N := some 65) (v := ?_) (a' := ?_) #[true, true, true, true, true, false, false, false, false, false, false, false, false, false, false, false, false, false, false, false, false, false, false, false, false, false, false, false, false, false, false, false, false, false, false, false, false, false, false, false, false, false, false, false] rfl rfl (by kernel_rfl) (fun _ _ _ h => h) (Or.inl ⟨by rfl, ?_⟩) hHeld ?_ ?_
    rotate_left
    ·rintro w' ⟨s0, s1, s2, s3⟩
     go_simp
     with_reducible rfl
    rotate_left
    ·simp only [Act.put, List.setIfInBounds_toArray, List.set_cons_zero, List.set_cons_succ, i64_w, i32_w]
     rfl
    refine pure_ (i := 5) (N := some 66) (v := ?_) (a' := ?_) #[true, true, true, true, true, true, false, false, false, false, false, false, false, false, false, false, false, false, false, false, false, false, false, false, false, false, false, false, false, false, false, false, false, false, false, false, false, false, false, false, false, false, false, false] rfl rfl (by kernel_rfl) (fun _ _ _ h => h) (Or.inl ⟨by rfl, ?_⟩) ?_ ?_
    rotate_left
    ·intro w'
     go_simp
     with_reducible rfl
    rotate_left
    ·simp only [Act.put, List.setIfInBounds_toArray, List.set_cons_zero, List.set_cons_succ, i64_w, i32_w]
     rfl
    refine pure_ (i := 6) (N := some 67) (v := ?_) (a' := ?_) #[true, true, true, true, true, true, true, false, false, false, false, false, false, false, false, false, false, false, false, false, false, false, false, false, false, false, false, false, false, false, false, false, false, false, false, false, false, false, false, false, false, false, false, false] rfl rfl (by kernel_rfl) (fun _ _ _ h => h) (Or.inl ⟨by rfl, ?_⟩) ?_ ?_
    rotate_left
    ·intro w'
     go_simp
     with_reducible rfl
    rotate_left
    ·simp only [Act.put, List.setIfInBounds_toArray, List.set_cons_zero, List.set_cons_succ, i64_w, i32_w]
     rfl
    refine pure_ (i := 7) (N := some 68) (v := ?_) (a' := ?_) #[true, true, true, true, true, true, true, true, false, false, false, false, false, false, false, false, false, false, false, false, false, false, false, false, false, false, false, false, false, false, false, false, false, false, false, false, false, false, false, false, false, false, false, false] rfl rfl (by kernel_rfl) (fun _ _ _ h => h) (Or.inl ⟨by rfl, ?_⟩) ?_ ?_
    rotate_left
    ·intro w'
     go_simp
     with_reducible rfl
    rotate_left
    ·simp only [Act.put, List.setIfInBounds_toArray, List.set_cons_zero, List.set_cons_succ, i64_w, i32_w]
     rfl
    refine pure_ (i := 8) (N := some 69) (v := ?_) (a' := ?_) #[true, true, true, true, true, true, true, true, true, false, false, false, false, false, false, false, false, false, false, false, false, false, false, false, false, false, false, false, false, false, false, false, false, false, false, false, false, false, false, false, false, false, false, false] rfl rfl (by kernel_rfl) (fun _ _ _ h => h) (Or.inl ⟨by rfl, ?_⟩) ?_ ?_
    rotate_left
    ·intro w'
     go_simp
     with_reducible rfl
    rotate_left
    ·simp only [Act.put, List.setIfInBounds_toArray, List.set_cons_zero, List.set_cons_succ, i64_w, i32_w]
     rfl
    refine pure_ (i := 9) (N := some 70) (v := ?_) (a' := ?_) #[true, true, true, true, true, true, true, true, true, true, false, false, false, false, false, false, false, false, false, false, false, false, false, false, false, false, false, false, false, false, false, false, false, false, false, false, false, false, false, false, false, false, false, false] rfl rfl (by kernel_rfl) (fun _ _ _ h => h) (Or.inl ⟨by rfl, ?_⟩) ?_ ?_
    rotate_left
    ·intro w'
     go_simp
     with_reducible rfl
    rotate_left
    ·simp only [Act.put, List.setIfInBounds_toArray, List.set_cons_zero, List.set_cons_succ, i64_w, i32_w]
     rfl
    refine pure_ (i := 10) (N := some 71) (v := ?_) (a' := ?_) #[true, true, true, true, true, true, true, true, true, true, true, false, false, false, false, false, false, false, false, false, false, false, false, false, false, false, false, false, false, false, false, false, false, false, false, false, false, false, false, false, false, false, false, false] rfl rfl (by kernel_rfl) (fun _ _ _ h => h) (Or.inl ⟨by rfl, ?_⟩) ?_ ?_
    rotate_left
    ·intro w'
     go_simp
     with_reducible rfl
    rotate_left
    ·simp only [Act.put, List.setIfInBounds_toArray, List.set_cons_zero, List.set_cons_succ, i64_w, i32_w]
     rfl
    refine pure_ (i := 12) (N := some 73) (v := ?_) (a' := ?_) #[true, true, true, true, true, true, true, true, true, true, true, false, true, false, false, false, false, false, false, false, false, false, false, false, false, false, false, false, false, false, false, false, false, false, false, false, false, false, false, false, false, false, false, false] rfl rfl (by kernel_rfl) (fun _ _ _ h => h) (Or.inl ⟨by rfl, ?_⟩) ?_ ?_
    rotate_left
    ·intro w'
     go_simp
     with_reducible rfl
    rotate_left
    ·simp only [Act.put, List.setIfInBounds_toArray, List.set_cons_zero, List.set_cons_succ, i64_w, i32_w]
     rfl
    refine pure_ (i := 13) (N := some 74) (v := ?_) (a' := ?_) #[true, true, true, true, true, true, true, true, true, true, true, false, true, true, false, false, false, false, false, false, false, false, false, false, false, false, false, false, false, false, false, false, false, false, false, false, false, false, false, false, false, false, false, false] rfl rfl (by kernel_rfl) (fun _ _ _ h => h) (Or.inl ⟨by rfl, ?_⟩) ?_ ?_
    rotate_left
    ·intro w'
     go_simp
     with_reducible rfl
    rotate_left
    ·simp only [Act.put, List.setIfInBounds_toArray, List.set_cons_zero, List.set_cons_succ, i64_w, i32_w]
     rfl
    refine take_ (i := 11) (N := some 72) (v := ?_) (a' := ?_) #[true, true, true, true, true, true, true, true, true, true, true, true, true, true, false, false, false, false, false, false, false, false, false, false, false, false, false, false, false, false, false, false, false, false, false, false, false, false, false, false, false, false, false, false] rfl rfl (by kernel_rfl) (fun _ _ _ h => h) (Or.inl ⟨by rfl, ?_⟩) hHeld ?_ ?_
    rotate_left
    ·rintro w' ⟨s0, s1, s2, s3⟩
     go_simp
     with_reducible rfl
    rotate_left
    ·simp only [Act.put, List.setIfInBounds_toArray, List.set_cons_zero, List.set_cons_succ, i64_w, i32_w]
     rfl
    refine pure_ (i := 14) (N := some 75) (v := ?_) (a' := ?_) #[true, true, true, true, true, true, true, true, true, true, true, true, true, true, true, false, false, false, false, false, false, false, false, false, false, false, false, false, false, false, false, false, false, false, false, false, false, false, false, false, false, false, false, false] rfl rfl (by kernel_rfl) (fun _ _ _ h => h) (Or.inl ⟨by rfl, ?_⟩) ?_ ?_
    rotate_left
    ·intro w'
     go_simp
     with_reducible rfl
    rotate_left
    ·simp only [Act.put, List.setIfInBounds_toArray, List.set_cons_zero, List.set_cons_succ, i64_w, i32_w]
     rfl
    refine pure_ (i := 15) (N := some 76) (v := ?_) (a' := ?_) #[true, true, true, true, true, true, true, true, true, true, true, true, true, true, true, true, false, false, false, false, false, false, false, false, false, false, false, false, false, false, false, false, false, false, false, false, false, false, false, false, false, false, false, false] rfl rfl (by kernel_rfl) (fun _ _ _ h => h) (Or.inl ⟨by rfl, ?_⟩) ?_ ?_
    rotate_left
    ·intro w'
     go_simp
     with_reducible rfl
    rotate_left
    ·simp only [Act.put, List.setIfInBounds_toArray, List.set_cons_zero, List.set_cons_succ, i64_w, i32_w]
     rfl
    refine pure_ (i := 16) (N := some 77) (v := ?_) (a' := ?_) #[true, true, true, true, true, true, true, true, true, true, true, true, true, true, true, true, true, false, false, false, false, false, false, false, false, false, false, false, false, false, false, false, false, false, false, false, false, false, false, false, false, false, false, false] rfl rfl (by kernel_rfl) (fun _ _ _ h => h) (Or.inl ⟨by rfl, ?_⟩) ?_ ?_
    rotate_left
    ·intro w'
     go_simp
     with_reducible rfl
    rotate_left
    ·simp only [Act.put, List.setIfInBounds_toArray, List.set_cons_zero, List.set_cons_succ, i64_w, i32_w]
     rfl
    refine pure_ (i := 17) (N := some 78) (v := ?_) (a' := ?_) #[true, true, true, true, true, true, true, true, true, true, true, true, true, true, true, true, true, true, false, false, false, false, false, false, false, false, false, false, false, false, false, false, false, false, false, false, false, false, false, false, false, false, false, false] rfl rfl (by kernel_rfl) (fun _ _ _ h => h) (Or.inl ⟨by rfl, ?_⟩) ?_ ?_
    rotate_left
    ·intro w'
     go_simp
     with_reducible rfl
    rotate_left
    ·simp only [Act.put, List.setIfInBounds_toArray, List.set_cons_zero, List.set_cons_succ, i64_w, i32_w]
     rfl
    refine pure_ (i := 18) (N := some 79) (v := ?_) (a' := ?_) #[true, true, true, true, true, true, true, true, true, true, true, true, true, true, true, true, true, true, true, false, false, false, false, false, false, false, false, false, false, false, false, false, false, false, false, false, false, false, false, false, false, false, false, false] rfl rfl (by kernel_rfl) (fun _ _ _ h => h) (Or.inl ⟨by rfl, ?_⟩) ?_ ?_
    rotate_left
    ·intro w'
     go_simp
     with_reducible rfl
    rotate_left
    ·simp only [Act.put, List.setIfInBounds_toArray, List.set_cons_zero, List.set_cons_succ, i64_w, i32_w]
     rfl
    refine pure_ (i := 19) (N := some 80) (v := ?_) (a' := ?_) #[true, true, true, true, true, true, true, true, true, true, true, true, true, true, true, true, true, true, true, true, false, false, false, false, false, false, false, false, false, false, false, false, false, false, false, false, false, false, false, false, false, false, false, false] rfl rfl (by kernel_rfl) (fun _ _ _ h => h) (Or.inl ⟨by rfl, ?_⟩) ?_ ?_
    rotate_left
    ·intro w'
     go_simp
     with_reducible rfl
    rotate_left
    ·simp only [Act.put, List.setIfInBounds_toArray, List.set_cons_zero, List.set_cons_succ, i64_w, i32_w]
     rfl
    refine pure_ (i := 20) (N := some 81) (v := ?_) (a' := ?_) #[true, true, true, true, true, true, true, true, true, true, true, true, true, true, true, true, true, true, true, true, true, false, false, false, false, false, false, false, false, false, false, false, false, false, false, false, false, false, false, false, false, false, false, false] rfl rfl (by kernel_rfl) (fun _ _ _ h => h) (Or.inl ⟨by rfl, ?_⟩) ?_ ?_
    rotate_left
    ·intro w'
     go_simp
     with_reducible rfl
    rotate_left
    ·simp only [Act.put, List.setIfInBounds_toArray, List.set_cons_zero, List.set_cons_succ, i64_w, i32_w]
     rfl
    refine pure_ (i := 21) (N := some 82) (v := ?_) (a' := ?_) #[true, true, true, true, true, true, true, true, true, true, true, true, true, true, true, true, true, true, true, true, true, true, false, false, false, false, false, false, false, false, false, false, false, false, false, false, false, false, false, false, false, false, false, false] rfl rfl (by kernel_rfl) (fun _ _ _ h => h) (Or.inl ⟨by rfl, ?_⟩) ?_ ?_
    rotate_left
    ·intro w'
     go_simp
     with_reducible rfl
    rotate_left
    ·simp only [Act.put, List.setIfInBounds_toArray, List.set_cons_zero, List.set_cons_succ, i64_w, i32_w]
     rfl
    refine pure_ (i := 26) (N := some 87) (v := ?_) (a' := ?_) #[true, true, true, true, true, true, true, true, true, true, true, true, true, true, true, true, true, true, true, true, true, true, false, false, false, false, true, false, false, false, false, false, false, false, false, false, false, false, false, false, false, false, false, false] rfl rfl (by kernel_rfl) (fun _ _ _ h => h) (Or.inl ⟨by rfl, ?_⟩) ?_ ?_
    rotate_left
    ·intro w'
     go_simp
     with_reducible rfl
    rotate_left
    ·simp only [Act.put, List.setIfInBounds_toArray, List.set_cons_zero, List.set_cons_succ, i64_w, i32_w]
     rfl
    refine pure_ (i := 27) (N := some 88) (v := ?_) (a' := ?_) #[true, true, true, true, true, true, true, true, true, true, true, true, true, true, true, true, true, true, true, true, true, true, false, false, false, false, true, true, false, false, false, false, false, false, false, false, false, false, false, false, false, false, false, false] rfl rfl (by kernel_rfl) (fun _ _ _ h => h) (Or.inl ⟨by rfl, ?_⟩) ?_ ?_
    rotate_left
    ·intro w'
     go_simp
     with_reducible rfl
    rotate_left
    ·simp only [Act.put, List.setIfInBounds_toArray, List.set_cons_zero, List.set_cons_succ, i64_w, i32_w]
     rfl
    refine pure_ (i := 28) (N := some 89) (v := ?_) (a' := ?_) #[true, true, true, true, true, true, true, true, true, true, true, true, true, true, true, true, true, true, true, true, true, true, false, false, false, false, true, true, true, false, false, false, false, false, false, false, false, false, false, false, false, false, false, false] rfl rfl (by kernel_rfl) (fun _ _ _ h => h) (Or.inl ⟨by rfl, ?_⟩) ?_ ?_
    rotate_left
    ·intro w'
     go_simp
     with_reducible rfl
    rotate_left
    ·simp only [Act.put, List.setIfInBounds_toArray, List.set_cons_zero, List.set_cons_succ, i64_w, i32_w]
     rfl
    refine take_ (i := 22) (N := some 83) (v := ?_) (a' := ?_) #[true, true, true, true, true, true, true, true, true, true, true, true, true, true, true, true, true, true, true, true, true, true, true, false, false, false, true, true, true, false, false, false, false, false, false, false, false, false, false, false, false, false, false, false] rfl rfl (by kernel_rfl) (fun _ _ _ h => h) (Or.inl ⟨by rfl, ?_⟩) hHeld ?_ ?_
    rotate_left
    ·rintro w' ⟨s0, s1, s2, s3⟩
     go_simp
     with_reducible rfl
    rotate_left
    ·simp only [Act.put, List.setIfInBounds_toArray, List.set_cons_zero, List.set_cons_succ, i64_w, i32_w]
     rfl
    refine pure_ (i := 23) (N := some 84) (v := ?_) (a' := ?_) #[true, true, true, true, true, true, true, true, true, true, true, true, true, true, true, true, true, true, true, true, true, true, true, true, false, false, true, true, true, false, false, false, false, false, false, false, false, false, false, false, false, false, false, false] rfl rfl (by kernel_rfl) (fun _ _ _ h => h) (Or.inl ⟨by rfl, ?_⟩) ?_ ?_
    rotate_left
    ·intro w'
     go_simp
     with_reducible rfl
    rotate_left
    ·simp only [Act.put, List.setIfInBounds_toArray, List.set_cons_zero, List.set_cons_succ, i64_w, i32_w]
     rfl
    refine pure_ (i := 24) (N := some 85) (v := ?_) (a' := ?_) #[true, true, true, true, true, true, true, true, true, true, true, true, true, true, true, true, true, true, true, true, true, true, true, true, true, false, true, true, true, false, false, false, false, false, false, false, false, false, false, false, false, false, false, false] rfl rfl (by kernel_rfl) (fun _ _ _ h => h) (Or.inl ⟨by rfl, ?_⟩) ?_ ?_
    rotate_left
    ·intro w'
     go_simp
     with_reducible rfl
    rotate_left
    ·simp only [Act.put, List.setIfInBounds_toArray, List.set_cons_zero, List.set_cons_succ, i64_w, i32_w]
     rfl
    refine take_ (i := 25) (N := some 86) (v := ?_) (a' := ?_) #[true, true, true, true, true, true, true, true, true, true, true, true, true, true, true, true, true, true, true, true, true, true, true, true, true, true, true, true, true, false, false, false, false, false, false, false, false, false, false, false, false, false, false, false] rfl rfl (by kernel_rfl) (fun _ _ _ h => h) (Or.inl ⟨by rfl, ?_⟩) hHeld ?_ ?_
    rotate_left
    ·rintro w' ⟨s0, s1, s2, s3⟩
     go_simp
     with_reducible rfl
    rotate_left
    ·simp only [Act.put, List.setIfInBounds_toArray, List.set_cons_zero, List.set_cons_succ, i64_w, i32_w]
     rfl
    refine take_ (i := 29) (N := some 90) (v := ?_) (a' := ?_) #[true, true, true, true, true, true, true, true, true, true, true, true, true, true, true, true, true, true, true, true, true, true, true, true, true, true, true, true, true, true, false, false, false, false, false, false, false, false, false, false, false, false, false, false] rfl rfl (by kernel_rfl) (fun _ _ _ h => h) (Or.inl ⟨by rfl, ?_⟩) hHeld ?_ ?_
    rotate_left
    ·rintro w' ⟨s0, s1, s2, s3⟩
     go_simp
     with_reducible rfl
    rotate_left
    ·simp only [Act.put, List.setIfInBounds_toArray, List.set_cons_zero, List.set_cons_succ, i64_w, i32_w]
     rfl
    refine pure_ (i := 30) (N := some 91) (v := ?_) (a' := ?_) #[true, true, true, true, true, true, true, true, true, true, true, true, true, true, true, true, true, true, true, true, true, true, true, true, true, true, true, true, true, true, true, false, false, false, false, false, false, false, false, false, false, false, false, false] rfl rfl (by kernel_rfl) (fun _ _ _ h => h) (Or.inl ⟨by rfl, ?_⟩) ?_ ?_
    rotate_left
    ·intro w'
     go_simp
     with_reducible rfl
    rotate_left
    ·simp only [Act.put, List.setIfInBounds_toArray, List.set_cons_zero, List.set_cons_succ, i64_w, i32_w]
     rfl
    refine pure_ (i := 31) (N := some 92) (v := ?_) (a' := ?_) #[true, true, true, true, true, true, true, true, true, true, true, true, true, true, true, true, true, true, true, true, true, true, true, true, true, true, true, true, true, true, true, true, false, false, false, false, false, false, false, false, false, false, false, false] rfl rfl (by kernel_rfl) (fun _ _ _ h => h) (Or.inl ⟨by rfl, ?_⟩) ?_ ?_
    rotate_left
    ·intro w'
     go_simp
     with_reducible rfl
    rotate_left
    ·simp only [Act.put, List.setIfInBounds_toArray, List.set_cons_zero, List.set_cons_succ, i64_w, i32_w]
     rfl
    refine pure_ (i := 32) (N := some 93) (v := ?_) (a' := ?_) #[true, true, true, true, true, true, true, true, true, true, true, true, true, true, true, true, true, true, true, true, true, true, true, true, true, true, true, true, true, true, true, true, true, false, false, false, false, false, false, false, false, false, false, false] rfl rfl (by kernel_rfl) (fun _ _ _ h => h) (Or.inl ⟨by rfl, ?_⟩) ?_ ?_
    rotate_left
    ·intro w'
     go_simp
     with_reducible rfl
    rotate_left
    ·simp only [Act.put, List.setIfInBounds_toArray, List.set_cons_zero, List.set_cons_succ, i64_w, i32_w]
     rfl
    refine pure_ (i := 33) (N := some 94) (v := ?_) (a' := ?_) #[true, true, true, true, true, true, true, true, true, true, true, true, true, true, true, true, true, true, true, true, true, true, true, true, true, true, true, true, true, true, true, true, true, true, false, false, false, false, false, false, false, false, false, false] rfl rfl (by kernel_rfl) (fun _ _ _ h => h) (Or.inl ⟨by rfl, ?_⟩) ?_ ?_
    rotate_left
    ·intro w'
     go_simp
     with_reducible rfl
    rotate_left
    ·simp only [Act.put, List.setIfInBounds_toArray, List.set_cons_zero, List.set_cons_succ, i64_w, i32_w]
     rfl
    refine pure_ (i := 34) (N := some 95) (v := ?_) (a' := ?_) #[true, true, true, true, true, true, true, true, true, true, true, true, true, true, true, true, true, true, true, true, true, true, true, true, true, true, true, true, true, true, true, true, true, true, true, false, false, false, false, false, false, false, false, false] rfl rfl (by kernel_rfl) (fun _ _ _ h => h) (Or.inl ⟨by rfl, ?_⟩) ?_ ?_
    rotate_left
    ·intro w'
     go_simp
     with_reducible rfl
    rotate_left
    ·simp only [Act.put, List.setIfInBounds_toArray, List.set_cons_zero, List.set_cons_succ, i64_w, i32_w]
     rfl
    refine pure_ (i := 35) (N := some 96) (v := ?_) (a' := ?_) #[true, true, true, true, true, true, true, true, true, true, true, true, true, true, true, true, true, true, true, true, true, true, true, true, true, true, true, true, true, true, true, true, true, true, true, true, false, false, false, false, false, false, false, false] rfl rfl (by kernel_rfl) (fun _ _ _ h => h) (Or.inl ⟨by rfl, ?_⟩) ?_ ?_
    rotate_left
    ·intro w'
     go_simp
     with_reducible rfl
    rotate_left
    ·simp only [Act.put, List.setIfInBounds_toArray, List.set_cons_zero, List.set_cons_succ, i64_w, i32_w]
     rfl
    refine pure_ (i := 37) (N := some 98) (v := ?_) (a' := ?_) #[true, true, true, true, true, true, true, true, true, true, true, true, true, true, true, true, true, true, true, true, true, true, true, true, true, true, true, true, true, true, true, true, true, true, true, true, false, true, false, false, false, false, false, false] rfl rfl (by kernel_rfl) (fun _ _ _ h => h) (Or.inl ⟨by rfl, ?_⟩) ?_ ?_
    rotate_left
    ·intro w'
     go_simp
     with_reducible rfl
    rotate_left
    ·simp only [Act.put, List.setIfInBounds_toArray, List.set_cons_zero, List.set_cons_succ, i64_w, i32_w]
     rfl
    refine pure_ (i := 38) (N := some 99) (v := ?_) (a' := ?_) #[true, true, true, true, true, true, true, true, true, true, true, true, true, true, true, true, true, true, true, true, true, true, true, true, true, true, true, true, true, true, true, true, true, true, true, true, false, true, true, false, false, false, false, false] rfl rfl (by kernel_rfl) (fun _ _ _ h => h) (Or.inl ⟨by rfl, ?_⟩) ?_ ?_
    rotate_left
    ·intro w'
     go_simp
     with_reducible rfl
    rotate_left
    ·simp only [Act.put, List.setIfInBounds_toArray, List.set_cons_zero, List.set_cons_succ, i64_w, i32_w]
     rfl
    refine pure_ (i := 39) (N := some 100) (v := ?_) (a' := ?_) #[true, true, true, true, true, true, true, true, true, true, true, true, true, true, true, true, true, true, true, true, true, true, true, true, true, true, true, true, true, true, true, true, true, true, true, true, false, true, true, true, false, false, false, false] rfl rfl (by kernel_rfl) (fun _ _ _ h => h) (Or.inl ⟨by rfl, ?_⟩) ?_ ?_
    rotate_left
    ·intro w'
     go_simp
     with_reducible rfl
    rotate_left
    ·simp only [Act.put, List.setIfInBounds_toArray, List.set_cons_zero, List.set_cons_succ, i64_w, i32_w]
     rfl
    refine pure_ (i := 40) (N := some 101) (v := ?_) (a' := ?_) #[true, true, true, true, true, true, true, true, true, true, true, true, true, true, true, true, true, true, true, true, true, true, true, true, true, true, true, true, true, true, true, true, true, true, true, true, false, true, true, true, true, false, false, false] rfl rfl (by kernel_rfl) (fun _ _ _ h => h) (Or.inl ⟨by rfl, ?_⟩) ?_ ?_
    rotate_left
    ·intro w'
     go_simp
     with_reducible rfl
    rotate_left
    ·simp only [Act.put, List.setIfInBounds_toArray, List.set_cons_zero, List.set_cons_succ, i64_w, i32_w]
     rfl
    refine take_ (i := 36) (N := some 97) (v := ?_) (a' := ?_) #[true, true, true, true, true, true, true, true, true, true, true, true, true, true, true, true, true, true, true, true, true, true, true, true, true, true, true, true, true, true, true, true, true, true, true, true, true, true, true, true, true, false, false, false] rfl rfl (by kernel_rfl) (fun _ _ _ h => h) (Or.inl ⟨by rfl, ?_⟩) hHeld ?_ ?_
    rotate_left
    ·rintro w' ⟨s0, s1, s2, s3⟩
     go_simp
     with_reducible rfl
    rotate_left
    ·simp only [Act.put, List.setIfInBounds_toArray, List.set_cons_zero, List.set_cons_succ, i64_w, i32_w]
     rfl
    refine take_ (i := 41) (N := some 102) (v := ?_) (a' := ?_) #[true, true, true, true, true, true, true, true, true, true, true, true, true, true, true, true, true, true, true, true, true, true, true, true, true, true, true, true, true, true, true, true, true, true, true, true, true, true, true, true, true, true, false, false] rfl rfl (by kernel_rfl) (fun _ _ _ h => h) (Or.inl ⟨by rfl, ?_⟩) hHeld ?_ ?_
    rotate_left
    ·rintro w' ⟨s0, s1, s2, s3⟩
     go_simp
     with_reducible rfl
    rotate_left
    ·simp only [Act.put, List.setIfInBounds_toArray, List.set_cons_zero, List.set_cons_succ, i64_w, i32_w]
     rfl
    refine pure_ (i := 42) (N := some 103) (v := ?_) (a' := ?_) #[true, true, true, true, true, true, true, true, true, true, true, true, true, true, true, true, true, true, true, true, true, true, true, true, true, true, true, true, true, true, true, true, true, true, true, true, true, true, true, true, true, true, true, false] rfl rfl (by kernel_rfl) (fun _ _ _ h => h) (Or.inl ⟨by rfl, ?_⟩) ?_ ?_
    rotate_left
    ·intro w'
     go_simp
     with_reducible rfl
    rotate_left
    ·simp only [Act.put, List.setIfInBounds_toArray, List.set_cons_zero, List.set_cons_succ, i64_w, i32_w]
     rfl
    refine pure_ (i := 43) (N := some 104) (v := ?_) (a' := ?_) #[true, true, true, true, true, true, true, true, true, true, true, true, true, true, true, true, true, true, true, true, true, true, true, true, true, true, true, true, true, true, true, true, true, true, true, true, true, true, true, true, true, true, true, true] rfl rfl (by kernel_rfl) (fun _ _ _ h => h) (Or.inl ⟨by rfl, ?_⟩) ?_ ?_
    rotate_left
    ·intro w'
     go_simp
     with_reducible rfl
    rotate_left
    ·simp only [Act.put, List.setIfInBounds_toArray, List.set_cons_zero, List.set_cons_succ, i64_w, i32_w]
     rfl
    refine done_ (by kernel_rfl) ?_
    clear f1 f1' f1a f2 f3 f4 f5 f6 f7 f8 f9 f10 f11 f12 z1 z2 z2' z3' d1 d2
    have hw : wrap64 ((j : Int) + 1 + 1) = (j : Int) + 1 + 1 := by have h1 := HADJ.out.2.2; have h2 := HF.out.2; rw [w64 (by omega) (by omega)]
    go_wp2_with fail
    go_roundw
    case rel => exact ⟨j + 1 + 1, by first | (simp [hw]; done) | (rw [show ((j + 1 : Nat) : Int) = (j : Int) + 1 from rfl, hw]; rfl), by omega, by have := HF.out.2; omega, ⟨below_drew1 HB5.out⟩, ⟨HP5.out.1, Kd.C_below HP5.out.2 (below_drew (Below.refl _ _))⟩, ⟨HL5.out.1, Kd.C_below HL5.out.2 (below_drew (Below.refl _ _))⟩⟩
    case measure =>
     rw [hw]
     show p.length - ((j : Int) + 1 + 1).toNat < p.length - ((j + 1 : Nat) : Int).toNat
     have := HF.out.2
     omega
   ·have d1 : decide ((i : Int) < (p.length : Int)) = false := decide_eq_false (by omega)
    have d2 : decide (i < p.length) = false := decide_eq_false hlt
    clear hlt hi1 hi2
    go_wp2_with fail
    go_ret
    exact ⟨rfl, HB5.out⟩
end Go.Proofs.Ytfldklimlcnnnaa.PureQuotaPath
end

section
namespace Go.Proofs.Ytfldklimlcnnnaa.XOp
open Go.RowKit Go.Shelf Go.Proofs.Ytfldklimlcnnnaa.PHq Go.Proofs.YtfldklimlcnnnaaW.PrintWords Go.Proofs.YtfldklimlcnnnaaW.PrintLast Go.Proofs.YtfldklimlcnnnaaW.PrintMore Go.Proofs.Ytfldklimlcnnnaa.MWords Go.Proofs.Ytfldklimlcnnnaa.MOpen
open Go.Proofs.Ytfldklimlcnnnaa.MNat Go.Proofs.Ytfldklimlcnnnaa.QNat Go.Proofs.Ytfldklimlcnnnaa.QText Go.Proofs.Ytfldklimlcnnnaa.QEv Go.Proofs.Ytfldklimlcnnnaa.QRatio Go.Proofs.Ytfldklimlcnnnaa.XHold Go.Proofs.Ytfldklimlcnnnaa.XLed Go.Proofs.Ytfldklimlcnnnaa.QHold
end Go.Proofs.Ytfldklimlcnnnaa.XOp
end

section
namespace Go.Proofs.Ytfldklimlcnnnaa.XOpen13
open Go.RowKit Go.Proofs.Ytfldklimlcnnnaa.PHq Go.Proofs.Ytfldklimlcnnnaa.MOpen Go.Proofs.YtfldklimlcnnnaaW.PrintWords Go.Proofs.YtfldklimlcnnnaaW.PrintLast Go.Proofs.YtfldklimlcnnnaaW.PrintMore
theorem opensP : Opens Try.prog 39 k39 (fun p => (Lit.int .i64 p.f0).wf = true ∧ (Lit.int .i64 p.f1).wf = true) :=
 Opens.array Try.underlying39 (Ts := [3, 3]) (OpensL.iso (OpensL.cons (Opens.int Try.underlying3) (OpensL.one (Opens.int Try.underlying3))) (fun x : S39 => (x.f0, x.f1)) (fun x => ⟨x.1, x.2⟩) (fun _ => rfl)) rfl (by kernel_rfl) (by kernel_rfl)
abbrev SpecV := List Int × (List S39 × S39)
def kSpec : Kd SpecV := Kd.pair (Kd.slice 3 (Kd.int .i64)) (Kd.pair (Kd.slice 39 k39) k39)
theorem kSpec_open {w : World} {x : SpecV} {cs : List Value} (h : kSpec.K w x cs) : ∃ A0 c0 A1 c1, cs = [.slice A0 x.1.length c0, .slice A1 x.2.1.length c1, .int .i64 x.2.2.f0, .int .i64 x.2.2.f1] ∧ (x.1.length ≤ c0 ∧ Kd.C (Kd.int .i64) w A0 x.1.length x.1) ∧ (x.2.1.length ≤ c1 ∧ Kd.C k39 w A1 x.2.1.length x.2.1) := by
 obtain ⟨_, _, rfl, ⟨A0, c0, rfl, h1, h2⟩, _, _, rfl, ⟨A1, c1, rfl, h3, h4⟩, h5⟩ := h
 obtain rfl := k39_open h5
 exact ⟨A0, c0, A1, c1, rfl, ⟨h1, h2⟩, h3, h4⟩
theorem opensSpec : Opens Try.prog 64 kSpec (fun p => (p.1.length ≤ 9223372036854775807 ∧ ∀ x ∈ p.1, (Lit.int .i64 x).wf = true) ∧ (p.2.1.length ≤ 9223372036854775807 ∧ ∀ x ∈ p.2.1, (Lit.int .i64 x.f0).wf = true ∧ (Lit.int .i64 x.f1).wf = true) ∧ ((Lit.int .i64 p.2.2.f0).wf = true ∧ (Lit.int .i64 p.2.2.f1).wf = true)) :=
 Opens.struct Try.underlying64 (Ts := [22, 38, 39]) (OpensL.cons (Opens.slice Try.underlying22 (by kernel_rfl) (Opens.int Try.underlying3)) (OpensL.cons (Opens.slice Try.underlying38 (by kernel_rfl) opensP) (OpensL.one opensP))) rfl (by kernel_rfl) (by kernel_rfl)
end Go.Proofs.Ytfldklimlcnnnaa.XOpen13
end

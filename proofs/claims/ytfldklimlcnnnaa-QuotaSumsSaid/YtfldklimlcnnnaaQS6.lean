/- The words and walks that the law QuotaSums is proved by, part 6: each text in a section of its own. -/
import Derived.Test.YtfldklimlcnnnaaQS5
import Derived.WalkMore
import Derived.Deep.RegionLaw
import Derived.Laws.IdiomStrings
import Derived.Deep.CutBlock
import Derived.Deep.DeepCutAuto
set_option linter.unusedVariables false
set_option linter.unusedSimpArgs false
section
namespace Go.Proofs.Ytfldklimlcnnnaa.QTr
open Go.RowKit Go.Proofs.Ytfldklimlcnnnaa.PHq Go.Proofs.YtfldklimlcnnnaaW.PrintWords Go.Proofs.YtfldklimlcnnnaaW.PrintLast Go.Proofs.YtfldklimlcnnnaaW.PrintMore Go.Proofs.Ytfldklimlcnnnaa.MWords
open Go.Proofs.Ytfldklimlcnnnaa.MNat Go.Proofs.Ytfldklimlcnnnaa.QRatio Go.Proofs.Ytfldklimlcnnnaa.XRV Go.Proofs.Ytfldklimlcnnnaa.XHold Go.Proofs.Ytfldklimlcnnnaa.XWts Go.Proofs.Ytfldklimlcnnnaa.XLed Go.Proofs.Ytfldklimlcnnnaa.XFits Go.Proofs.Ytfldklimlcnnnaa.XJoin Go.Proofs.Ytfldklimlcnnnaa.XMeth Go.Proofs.Ytfldklimlcnnnaa.XAsk Go.Proofs.Ytfldklimlcnnnaa.XEnd Go.Proofs.Ytfldklimlcnnnaa.QHold Go.Proofs.Ytfldklimlcnnnaa.XTree Go.Proofs.Ytfldklimlcnnnaa.QTree Go.Proofs.Ytfldklimlcnnnaa.XTCl Go.Proofs.Ytfldklimlcnnnaa.XAllW Go.Proofs.Ytfldklimlcnnnaa.XOf
section
variable {l m : List (Int × Hd)}
theorem hasL_perm (h : l.Perm m) (z : Int) : hasL l z = hasL m z := by
 unfold hasL
 rw [Bool.eq_iff_iff, List.any_eq_true, List.any_eq_true]
 exact ⟨fun ⟨y, hy, e⟩ => ⟨y, h.mem_iff.1 hy, e⟩, fun ⟨y, hy, e⟩ => ⟨y, h.mem_iff.2 hy, e⟩⟩
theorem held_perm (h : l.Perm m) : heldL l = heldL m := perm_sum (h.map fun z => hv z.2)
theorem joinE_perm (h : l.Perm m) (all : Rat) (z : Int) (x : S34) : joinE all (heldL l) l z x = joinE all (heldL m) m z x := by
 unfold joinE
 rw [held_perm h, hasL_perm h]
theorem good_perm (h : l.Perm m) (hG : GoodL m) : GoodL l := ⟨by rw [h.length_eq]; exact hG.len, fun z hz => hG.ok z (h.mem_iff.1 hz)⟩
end
structure Hol where
 id : Int
 srv : Int
 hd : Hd
def onB (sv : List S71) (s : Int) (x : Hol) : Bool := decide (s ∈ pathS sv x.srv)
def sub (sv : List S71) (H : List Hol) (s : Int) : List (Int × Hd) := (H.filter (onB sv s)).map fun x => (x.id, x.hd)
def heldH (sv : List S71) (H : List Hol) (s : Int) : Rat := heldL (sub sv H s)
def hasH (H : List Hol) (z : Int) : Bool := H.any fun x => decide (x.id = z)
def getH (H : List Hol) (z : Int) : Option Hol := H.find? fun x => decide (x.id = z)
structure OkHol (x : Hol) : Prop where
 ok : okH x.hd
 cl : x.hd.a = false → x.hd.e2 = 0 ∧ x.hd.p2 = 0
 now : mayW (wN x.hd) = true
 nxt : x.hd.a = true → mayW (wX x.hd) = true
 wf : wfI x.id
structure Inv (sv : List S71) (al : Int → Rat) (at_ : List (Int × Int)) (ls : Int → List (Int × Hd)) (H : List Hol) (m : Nat) : Prop where
 at_ : at_.Perm (H.map fun x => (x.id, x.srv))
 ls : ∀ s, inR sv.length s → (ls s).Perm (sub sv H s)
 nod : (H.map (·.id)).Nodup
 srv : ∀ x ∈ H, inR sv.length x.srv
 ok : ∀ x ∈ H, OkHol x
 len : H.length ≤ m
 le : ∀ s, inR sv.length s → heldH sv H s ≤ al s
 sz : ∀ s, inR sv.length s → Sz 3000 (al s)
section
variable {sv : List S71} {al : Int → Rat} {at_ : List (Int × Int)} {ls : Int → List (Int × Hd)} {H : List Hol} {m : Nat}
theorem sub_len (s : Int) : (sub sv H s).length ≤ H.length := by
 unfold sub
 rw [List.length_map]
 exact List.length_filter_le _ _
theorem sub_mem {s : Int} {y : Int × Hd} : y ∈ sub sv H s ↔ ∃ x ∈ H, onB sv s x = true ∧ y = (x.id, x.hd) := by
 unfold sub
 rw [List.mem_map]
 constructor
 ·rintro ⟨x, hx, rfl⟩
  rw [List.mem_filter] at hx
  exact ⟨x, hx.1, hx.2, rfl⟩
 ·rintro ⟨x, hx, h, rfl⟩
  exact ⟨x, List.mem_filter.2 ⟨hx, h⟩, rfl⟩
theorem sub_has {s z : Int} : hasL (sub sv H s) z = true ↔ ∃ x ∈ H, x.id = z ∧ onB sv s x = true := by
 unfold hasL
 rw [List.any_eq_true]
 constructor
 ·rintro ⟨y, hy, e⟩
  obtain ⟨x, hx, h, rfl⟩ := sub_mem.1 hy
  exact ⟨x, hx, by simpa using e, h⟩
 ·rintro ⟨x, hx, e, h⟩
  exact ⟨_, sub_mem.2 ⟨x, hx, h, rfl⟩, by simpa using e⟩
theorem hasH_iff {z : Int} : hasH H z = true ↔ ∃ x ∈ H, x.id = z := by
 unfold hasH
 rw [List.any_eq_true]
 simp
theorem sub_no {z : Int} (h : hasH H z = false) (s : Int) : hasL (sub sv H s) z = false := by
 cases e : hasL (sub sv H s) z with
 | false => rfl
 | true =>
  obtain ⟨x, hx, e, _⟩ := sub_has.1 e
  have := hasH_iff.2 ⟨x, hx, e⟩
  rw [h] at this
  cases this
theorem hol_unique (hn : (H.map (·.id)).Nodup) {x y : Hol} (hx : x ∈ H) (hy : y ∈ H) (e : x.id = y.id) : x = y := by
 induction H with
 | nil => cases hx
 | cons a H ih =>
  rw [List.map_cons, List.nodup_cons] at hn
  rcases List.mem_cons.1 hx with rfl | hx'
  ·rcases List.mem_cons.1 hy with rfl | hy'
   ·rfl
   ·exact absurd (List.mem_map.2 ⟨y, hy', e.symm⟩ : x.id ∈ List.map (fun x => x.id) H) hn.1
  ·rcases List.mem_cons.1 hy with rfl | hy'
   ·exact absurd (List.mem_map.2 ⟨x, hx', e⟩ : y.id ∈ List.map (fun x => x.id) H) hn.1
   ·exact ih hn.2 hx' hy'
theorem sub_app (x : Hol) (s : Int) : sub sv (H ++ [x]) s = if onB sv s x = true then sub sv H s ++ [(x.id, x.hd)] else sub sv H s := by
 unfold sub
 rw [List.filter_append, List.map_append]
 by_cases h : onB sv s x = true
 ·rw [if_pos h, List.filter_cons, if_pos h]; rfl
 ·rw [if_neg h, List.filter_cons, if_neg h]; simp
theorem del_far {l : List (Int × Hd)} {z : Int} (h : hasL l z = false) : delL l z = l := by
 unfold delL
 refine filter_far fun y hy e => ?_
 unfold hasL at h
 rw [List.any_eq_false] at h
 exact h y hy (by simpa using e)
theorem free_eq_del (l : List (Int × Hd)) (z : Int) : freeL l z = delL l z := by
 unfold freeL
 cases h : hasL l z with
 | true => rw [if_pos rfl]
 | false => rw [if_neg (by decide), del_far h]
theorem Inv.good (h : Inv sv al at_ ls H m) (hm : m ≤ 500) {s : Int} (hs : inR sv.length s) : GoodL (ls s) :=
 good_perm (h.ls s hs) ⟨Nat.le_trans (sub_len s) (Nat.le_trans h.len hm), fun z hz => by
  obtain ⟨x, hx, _, rfl⟩ := sub_mem.1 hz
  exact (h.ok x hx).ok⟩
theorem Inv.pa (h : Inv sv al at_ ls H m) (hm : m < 500) {s : Int} (hs : inR sv.length s) : PaL (al s) (ls s) :=
 ⟨h.sz s hs, h.good (by omega) hs, by rw [(h.ls s hs).length_eq]; exact Nat.lt_of_le_of_lt (Nat.le_trans (sub_len s) h.len) hm⟩
theorem Inv.held (h : Inv sv al at_ ls H m) {s : Int} (hs : inR sv.length s) : heldL (ls s) = heldH sv H s := held_perm (h.ls s hs)
theorem at_has {z : Int} (h : at_.Perm (H.map fun x => (x.id, x.srv))) : XAt.hasL at_ z = hasH H z := by
 rw [Bool.eq_iff_iff, hasH_iff]
 unfold XAt.hasL
 rw [List.any_eq_true]
 constructor
 ·rintro ⟨y, hy, e⟩
  obtain ⟨x, hx, rfl⟩ := List.mem_map.1 (h.mem_iff.1 hy)
  exact ⟨x, hx, by simpa using e⟩
 ·rintro ⟨x, hx, e⟩
  exact ⟨_, h.mem_iff.2 (List.mem_map.2 ⟨x, hx, rfl⟩), by simpa using e⟩
theorem at_get (hn : (H.map (·.id)).Nodup) (h : at_.Perm (H.map fun x => (x.id, x.srv))) {x : Hol} (hx : x ∈ H) : srvA at_ x.id = x.srv := by
 unfold srvA
 rw [at_has h, hasH_iff.2 ⟨x, hx, rfl⟩, if_pos rfl]
 have hmem : (x.id, x.srv) ∈ at_ := h.mem_iff.2 (List.mem_map.2 ⟨x, hx, rfl⟩)
 cases e : XAt.getL at_ x.id with
 | none =>
  have := XAt.getL_none e
  unfold XAt.hasL at this
  rw [List.any_eq_false] at this
  exact absurd (by simp : decide (((x.id, x.srv) : Int × Int).1 = x.id) = true) (this _ hmem)
 | some y =>
  have h1 := h.mem_iff.1 (XAt.getL_mem e)
  obtain ⟨x', hx', e'⟩ := List.mem_map.1 h1
  have e1 : x'.id = x.id := (Prod.mk.inj e').1
  have e2 := hol_unique hn hx' hx e1
  rw [← e2]
  exact (Prod.mk.inj e').2.symm
def srvH (H : List Hol) (z : Int) : Int := match getH H z with | none => -2 | some x => x.srv
theorem getH_mem {z : Int} {x : Hol} (h : getH H z = some x) : x ∈ H ∧ x.id = z := ⟨List.mem_of_find?_eq_some h, by simpa using List.find?_some h⟩
theorem getH_none {z : Int} (h : getH H z = none) : hasH H z = false := by
 unfold getH at h
 rw [List.find?_eq_none] at h
 unfold hasH
 rw [List.any_eq_false]
 exact h
theorem getH_some {z : Int} (h : hasH H z = true) : ∃ x, getH H z = some x := by
 cases e : getH H z with
 | none => rw [getH_none e] at h; cases h
 | some x => exact ⟨x, rfl⟩
theorem Inv.srvA (h : Inv sv al at_ ls H m) (z : Int) : srvA at_ z = srvH H z := by
 unfold srvH
 cases e : getH H z with
 | none =>
  show XOf.srvA at_ z = -2
  unfold XOf.srvA
  rw [at_has h.at_, getH_none e, if_neg (by decide)]
 | some x =>
  obtain ⟨hx, hz⟩ := getH_mem e
  rw [← hz]
  exact at_get h.nod h.at_ hx
end
end Go.Proofs.Ytfldklimlcnnnaa.QTr
end

section
namespace Go.Proofs.Ytfldklimlcnnnaa.QTr
open Go.RowKit Go.Proofs.Ytfldklimlcnnnaa.PHq Go.Proofs.YtfldklimlcnnnaaW.PrintWords Go.Proofs.YtfldklimlcnnnaaW.PrintLast Go.Proofs.YtfldklimlcnnnaaW.PrintMore Go.Proofs.Ytfldklimlcnnnaa.MWords
open Go.Proofs.Ytfldklimlcnnnaa.MNat Go.Proofs.Ytfldklimlcnnnaa.QRatio Go.Proofs.Ytfldklimlcnnnaa.XRV Go.Proofs.Ytfldklimlcnnnaa.XHold Go.Proofs.Ytfldklimlcnnnaa.XWts Go.Proofs.Ytfldklimlcnnnaa.XLed Go.Proofs.Ytfldklimlcnnnaa.XFits Go.Proofs.Ytfldklimlcnnnaa.XJoin Go.Proofs.Ytfldklimlcnnnaa.XMeth Go.Proofs.Ytfldklimlcnnnaa.XAsk Go.Proofs.Ytfldklimlcnnnaa.XEnd Go.Proofs.Ytfldklimlcnnnaa.QHold Go.Proofs.Ytfldklimlcnnnaa.XTree Go.Proofs.Ytfldklimlcnnnaa.QTree Go.Proofs.Ytfldklimlcnnnaa.XTCl Go.Proofs.Ytfldklimlcnnnaa.XAllW Go.Proofs.Ytfldklimlcnnnaa.XOf
theorem may_okW {x : S34} (h : mayW x = true) : okW x ∧ 1 ≤ x.f0 ∧ x.f0 ≤ x.f1 ∧ x.f1 ≤ 1048576 := by
 unfold mayW at h
 simp at h
 unfold okW
 omega
def newH (x : S34) : Hd := ⟨x.f0, x.f1, 0, 0, false⟩
section
variable {sv : List S71} {al : Int → Rat} {at_ : List (Int × Int)} {ls : Int → List (Int × Hd)} {H : List Hol} {m : Nat}
theorem onB_iff {s : Int} {x : Hol} : onB sv s x = true ↔ s ∈ pathS sv x.srv := by unfold onB; exact decide_eq_true_iff
theorem Inv.joinE (h : Inv sv al at_ ls H m) {z : Int} {x : S34} (hm : mayW x = true) (hz : hasH H z = false) {y : Int} (hy : inR sv.length y) :
  joinE (al y) (heldL (ls y)) (ls y) z x = if heldH sv H y + wt x ≤ al y then 0 else 18 := by
 rw [joinE_perm (h.ls y hy), join_new (held_nonneg _) hm (sub_no hz y)]
 rfl
theorem Inv.joinL (h : Inv sv al at_ ls H m) {z : Int} {x : S34} (hm : mayW x = true) (hz : hasH H z = false) {y : Int} (hy : inR sv.length y) (hf : heldH sv H y + wt x ≤ al y) :
  joinL (al y) (heldL (ls y)) (ls y) z x = ls y ++ [(z, newH x)] := by
 have h1 := h.joinE hm hz hy
 rw [if_pos hf] at h1
 unfold XMeth.joinL
 rw [if_pos h1, set_new (by rw [hasL_perm (h.ls y hy)]; exact sub_no hz y)]
 rfl
theorem Inv.join (h : Inv sv al at_ ls H m) (hG : GoodSv sv) {z s : Int} {x : S34} (hs : inR sv.length s) (hm : mayW x = true) (hz : hasH H z = false) (hw : wfI z) (hf : ∀ y ∈ pathS sv s, heldH sv H y + wt x ≤ al y) :
  Inv sv al (XAt.setL at_ z s) (stp (fun all l => XMeth.joinL all (heldL l) l z x) al ls (pathS sv s)) (H ++ [⟨z, s, newH x⟩]) (m + 1) where
 at_ := by
  unfold XAt.setL
  rw [at_has h.at_, hz, if_neg (by decide), List.map_append]
  exact h.at_.append_right _
 ls := fun y hy => by
  rw [sub_app]
  by_cases hp : y ∈ pathS sv s
  ·rw [if_pos (onB_iff.2 hp)]
   unfold stp
   rw [if_pos hp]
   show (XMeth.joinL (al y) (heldL (ls y)) (ls y) z x).Perm _
   rw [h.joinL hm hz hy (hf y hp)]
   exact (h.ls y hy).append_right _
  ·rw [if_neg (fun c => hp (onB_iff.1 c)), stp_other hp]
   exact h.ls y hy
 nod := by
  rw [List.map_append, List.nodup_append]
  refine ⟨h.nod, by simp, fun a ha b hb e => ?_⟩
  obtain ⟨x', hx', rfl⟩ := List.mem_map.1 ha
  have hb' : b = z := by simpa using hb
  have := hasH_iff.2 ⟨x', hx', e.trans hb'⟩
  rw [hz] at this
  cases this
 srv := fun a ha => by
  rcases List.mem_append.1 ha with ha | ha
  ·exact h.srv a ha
  ·rw [List.mem_singleton.1 ha]; exact hs
 ok := fun a ha => by
  rcases List.mem_append.1 ha with ha | ha
  ·exact h.ok a ha
  ·rw [List.mem_singleton.1 ha]
   exact ⟨⟨(may_okW hm).1, fun c => by cases c⟩, fun _ => ⟨rfl, rfl⟩, hm, fun c => (by cases c), hw⟩
 len := by rw [List.length_append]; have := h.len; simp; omega
 le := fun y hy => by
  unfold heldH
  rw [sub_app]
  by_cases hp : y ∈ pathS sv s
  ·rw [if_pos (onB_iff.2 hp), held_app]
   have : heldL [(z, newH x)] = wt x := by
    show wt (hv (newH x)) + heldL [] = wt x
    rw [hv_plain rfl]
    show wt x + 0 = wt x
    grind
   rw [this]
   exact hf y hp
  ·rw [if_neg (fun c => hp (onB_iff.1 c))]
   exact h.le y hy
 sz := h.sz
theorem Inv.unjoin (h : Inv sv al at_ ls H m) {z : Int} {x : S34} (hm : mayW x = true) (hz : hasH H z = false) {pre : List Int} (hp : ∀ y ∈ pre, inR sv.length y) (hE : ∀ y ∈ pre, XMeth.joinE (al y) (heldL (ls y)) (ls y) z x = 0) :
  stp (fun a l => freeL ((fun all l => XMeth.joinL all (heldL l) l z x) a l) z) al ls pre = ls := by
 funext y
 unfold stp
 split
 ·rename_i hy
  have h1 := hE y hy
  rw [h.joinE hm hz (hp y hy)] at h1
  have hf : heldH sv H y + wt x ≤ al y := by
   by_cases c : heldH sv H y + wt x ≤ al y
   ·exact c
   ·rw [if_neg c] at h1; cases h1
  show freeL (XMeth.joinL (al y) (heldL (ls y)) (ls y) z x) z = ls y
  rw [h.joinL hm hz (hp y hy) hf, free_eq_del]
  have h2 : hasL (ls y) z = false := by rw [hasL_perm (h.ls y (hp y hy))]; exact sub_no hz y
  have h3 : delL (ls y ++ [(z, newH x)]) z = delL (ls y) z ++ delL [(z, newH x)] z := by unfold delL; rw [List.filter_append]
  rw [h3, del_far h2]
  simp [delL]
 ·rfl
end
end Go.Proofs.Ytfldklimlcnnnaa.QTr
end

section
namespace Go.Proofs.Ytfldklimlcnnnaa.XAllJ
open Go.RowKit Go.Proofs.Ytfldklimlcnnnaa.PHq Go.Proofs.YtfldklimlcnnnaaW.PrintWords Go.Proofs.YtfldklimlcnnnaaW.PrintLast Go.Proofs.YtfldklimlcnnnaaW.PrintMore Go.Proofs.Ytfldklimlcnnnaa.MWords
open Go.Proofs.Ytfldklimlcnnnaa.MNat Go.Proofs.Ytfldklimlcnnnaa.XRV Go.Proofs.Ytfldklimlcnnnaa.XHold Go.Proofs.Ytfldklimlcnnnaa.XLed Go.Proofs.Ytfldklimlcnnnaa.XTree Go.Proofs.Ytfldklimlcnnnaa.QTree Go.Proofs.Ytfldklimlcnnnaa.XPath Go.Proofs.Ytfldklimlcnnnaa.XOf Go.Proofs.Ytfldklimlcnnnaa.XGo Go.Proofs.Ytfldklimlcnnnaa.XCollect Go.Proofs.Ytfldklimlcnnnaa.XRowP Go.Proofs.Ytfldklimlcnnnaa.XAllW
attribute [local go_sem] Oper.semAt_some
section
variable {w : World} {M : Tm} {sv : List S71} {at_ : List (Int × Int)} {al : Int → Rat} {ls : Int → List (Int × Hd)} {bx : List (Nat × TypeId × Array Value)}
set_option maxRecDepth 100000 in
set_option maxHeartbeats 8000000 in
theorem all_calls (hT : Tre w M sv at_ al ls) (hG : GoodSv sv) {s : Int} (hs : inR sv.length s) {k1 k2 : Nat} (hb1 : ∀ x ∈ bx, x.1 < w.heap.size) (hb2 : ∀ x ∈ bx, x.2.1 ≠ 97) (hok : OkB bx w)
  {E Eu : Rat → List (Int × Hd) → Int} {A U : Rat → List (Int × Hd) → List (Int × Hd)} {Pa Pu : Rat → List (Int × Hd) → Prop}
  (hca : LedCall 87 (fun p => #[p, .pointer (some ⟨k1, 0, none⟩), .pointer (some ⟨k2, 0, none⟩)]) bx E A Pa) (hcu : LedCall 88 (fun p => #[p, .pointer (some ⟨k1, 0, none⟩)]) bx Eu U Pu)
  (hPa : ∀ x ∈ pathS sv s, Pa (al x) (ls x)) (hPu : ∀ x ∈ pathS sv s, E (al x) (ls x) = 0 → Pu (al x) (A (al x) (ls x))) (hA : ∀ x ∈ pathS sv s, E (al x) (ls x) ≠ 0 → A (al x) (ls x) = ls x) :
  Calls Try.prog 86 #[.pointer (some ⟨M.t, 0, none⟩), .int .i64 s, .func (.func 87) #[] #[.pointer (some ⟨k1, 0, none⟩), .pointer (some ⟨k2, 0, none⟩)], .func (.func 88) #[] #[.pointer (some ⟨k1, 0, none⟩)]] w fun e w' =>
   ∃ ls', Kt M sv.length w w' ∧ Tre w' M sv at_ al ls' ∧
    ((e = .returned (.int .i64 0) ∧ (∀ x ∈ pathS sv s, E (al x) (ls x) = 0) ∧ ls' = stp A al ls (pathS sv s)) ∨
     ∃ pre x r, pathS sv s = pre ++ x :: r ∧ (∀ y ∈ pre, E (al y) (ls y) = 0) ∧ E (al x) (ls x) ≠ 0 ∧ e = .returned (.int .i64 (E (al x) (ls x))) ∧ ls' = stp (fun a l => U a (A a l)) al ls pre) := by
 have HPN := Aside0.mk (And.intro (path_in hG s hs) (And.intro (path_nodup hG s hs) (path_len hG s hs)))
 have HG := Aside0.mk hG
 have HT := Aside0.mk hT
 have HSM := Aside0.mk hT.small
 have HS := Aside0.mk hs
 have HBX := Aside0.mk (And.intro hb1 (And.intro hb2 hok))
 have HCA := Aside0.mk hca
 have HCU := Aside0.mk hcu
 have HPA := Aside0.mk (And.intro hPa (And.intro hPu hA))
 obtain ⟨pa, hpa⟩ : ∃ pa, pa = pathS sv s := ⟨_, rfl⟩
 rw [← hpa] at HPN HPA ⊢
 have HPE := Aside0.mk hpa
 clear hT hG hs hb1 hb2 hok hca hcu hPa hPu hA hpa
 obtain ⟨w1, hw1⟩ : ∃ w1, w1 = (((w.alloc (.cells #[.pointer (some ⟨M.t, 0, none⟩)] 67)).alloc (.cells #[.func (.func 87) #[] #[.pointer (some ⟨k1, 0, none⟩), .pointer (some ⟨k2, 0, none⟩)]] 126)).alloc (.cells #[.slice none 0 0] 117)).alloc (.cells #[.int .i64 0] 31) := ⟨_, rfl⟩
 have HW1 := Aside0.mk (show Below w.heap.size w w1 ∧ w1.heap.size = w.heap.size + 4 ∧ MBlk w1 w.heap.size 67 #[.pointer (some ⟨M.t, 0, none⟩)] ∧ MBlk w1 (w.heap.size + 1) 126 #[.func (.func 87) #[] #[.pointer (some ⟨k1, 0, none⟩), .pointer (some ⟨k2, 0, none⟩)]] ∧ MBlk w1 (w.heap.size + 2) 117 #[.slice none 0 0] ∧ MBlk w1 (w.heap.size + 3) 31 #[.int .i64 0] by
  rw [hw1]
  refine ⟨below_alloc (below_alloc (below_alloc (below_alloc (Below.refl _ _) _) _) _) _, by simp, mblk_alloc (mblk_alloc (mblk_alloc (mblk_new _ _ _) _) _) _, ?_, ?_, ?_⟩
  ·have := mblk_new (w.alloc (.cells #[.pointer (some ⟨M.t, 0, none⟩)] 67)) 126 #[.func (.func 87) #[] #[.pointer (some ⟨k1, 0, none⟩), .pointer (some ⟨k2, 0, none⟩)]]
   rw [World.size_alloc] at this
   exact mblk_alloc (mblk_alloc this _) _
  ·have := mblk_new ((w.alloc (.cells #[.pointer (some ⟨M.t, 0, none⟩)] 67)).alloc (.cells #[.func (.func 87) #[] #[.pointer (some ⟨k1, 0, none⟩), .pointer (some ⟨k2, 0, none⟩)]] 126)) 117 #[.slice none 0 0]
   rw [World.size_alloc, World.size_alloc] at this
   exact mblk_alloc this _
  ·have := mblk_new (((w.alloc (.cells #[.pointer (some ⟨M.t, 0, none⟩)] 67)).alloc (.cells #[.func (.func 87) #[] #[.pointer (some ⟨k1, 0, none⟩), .pointer (some ⟨k2, 0, none⟩)]] 126)).alloc (.cells #[.slice none 0 0] 117)) 31 #[.int .i64 0]
   rw [World.size_alloc, World.size_alloc, World.size_alloc] at this
   exact this)
 refine (callsIn_wide (n := 6)).1 (callsIn_of_wp_marks Try.func86 rfl trivial (wpIn_wide.2 ?_) rfl)
 simp only [Try.ntmps86, List.size_toArray, List.length_cons, List.length_nil, Nat.reduceAdd, Nat.reduceSub, Array.replicate_succ, Array.replicate_zero, List.push_toArray, List.append_toArray, List.nil_append, List.cons_append]
 have k0 : w1.cell? ⟨w.heap.size, 0, none⟩ = some (.pointer (some ⟨M.t, 0, none⟩)) := (mblk_cell HW1.out.2.2.1 0).trans rfl
 rw [hw1] at k0
 have HW := Aside0.mk hw1
 clear hw1
 go_wp2_with fail
 go_step3
 go_wp2_with fail
 go_step3
 go_wp2_with fail
 rw [← HW.out]
 clear HW k0
 refine (path_calls M.t s _).mono ?_
 rintro e w2 ⟨rfl, hw2⟩
 have HB := Aside0.mk (show Below w.heap.size w w2 ∧ w2.heap.size = w.heap.size + 6 by
  rw [hw2]
  exact ⟨below_alloc (below_alloc HW1.out.1 _) _, by simp; have := HW1.out.2.1; omega⟩)
 have HT2 := Aside0.mk (HT.out.below HB.out.1)
 have HBX5 := Aside0.mk (show MBlk w2 (w.heap.size + 5) 3 #[.int .i64 s] by
  have := mblk_new (w1.alloc (.cells #[.pointer (some ⟨M.t, 0, none⟩)] 67)) 3 #[.int .i64 s]
  rw [World.size_alloc, HW1.out.2.1] at this
  rw [hw2]
  exact this)
 have HI2 := Aside0.mk (show AInv w M sv at_ al bx (.func (.func 87) #[] #[.pointer (some ⟨k1, 0, none⟩), .pointer (some ⟨k2, 0, none⟩)]) ls 0 [] w2 by
  have hb : ∀ {k : Nat} {cs : Array Value} {T : TypeId}, MBlk w1 k T cs → MBlk w2 k T cs := fun h => by rw [hw2]; exact mblk_alloc (mblk_alloc h _) _
  refine ⟨HT2.out, hb HW1.out.2.2.1, hb HW1.out.2.2.2.1, ⟨none, 0, hb HW1.out.2.2.2.2.1, VRow.nil _ _ _⟩, hb HW1.out.2.2.2.2.2, ?_, fun x hx => (HB.out.1.block _ (HBX.out.1 x hx)).trans (HBX.out.2.2 x hx), Kt.of HB.out.1⟩
  have := mblk_new w1 67 #[.pointer (some ⟨M.t, 0, none⟩)]
  rw [HW1.out.2.1] at this
  rw [hw2]
  exact mblk_alloc this _)
 rw [HW1.out.2.1]
 clear hw2 HW1
 go_wp2_with fail
 have HSEQ := Aside0.mk (path_seq M sv (w.heap.size + 4) (w.heap.size + 5) s w2 HG.out HSM.out HS.out (Rd.of HT2.out HI2.out.pb) HBX5.out)
 rw [← HPE.out] at HSEQ
 refine (wpIn_wide (n := 6)).1 ?_
 refine range_g (F := Fence.wide) (n := 6) rfl (by omega) (gf := 114) (lb := #[.pointer (some ⟨w.heap.size + 5, 0, none⟩), .pointer (some ⟨w.heap.size + 4, 0, none⟩)]) rfl trivial (enters_of Try.func114 (by kernel_rfl) rfl)
  (w0 := w2) HSEQ.out (Below.refl _ _) (fun _ => rfl) (fun h k => h.trans k)
  (fun W l o o' hl ho _ _ => kq_put (N := w2.heap.size) (by rw [HB.out.2]; omega) (fun k hk => HT2.out.own_lt (by rcases hk with c | c; exact .inl c; exact .inr (.inl c))) W l o o' hl ho)
  (fun pre W => AInv w M sv at_ al bx (.func (.func 87) #[] #[.pointer (some ⟨k1, 0, none⟩), .pointer (some ⟨k2, 0, none⟩)]) (stp A al ls pre) 0 pre W ∧ ∀ x ∈ pre, E (al x) (ls x) = 0)
  (fun c pre W => c = .exit 0 ∧ ∃ pre' x, pre = pre' ++ [x] ∧ (∀ y ∈ pre', E (al y) (ls y) = 0) ∧ E (al x) (ls x) ≠ 0 ∧ AInv w M sv at_ al bx (.func (.func 87) #[] #[.pointer (some ⟨k1, 0, none⟩), .pointer (some ⟨k2, 0, none⟩)]) (stp A al ls pre') (E (al x) (ls x)) pre' W)
  (fun pre X Y row h hg hr => ⟨AInv.own HT.out HBX.out.2.1 (B := w2.heap.size) (by rw [HB.out.2]; omega) h.1 hg hr, h.2⟩)
  (fun c pre X Y row h hg hr => by
   obtain ⟨h1, pre', x, h2, h3, h4, h5⟩ := h
   exact ⟨h1, pre', x, h2, h3, h4, AInv.own HT.out HBX.out.2.1 (B := w2.heap.size) (by rw [HB.out.2]; omega) h5 hg hr⟩)
  ⟨by rw [stp_nil]; exact HI2.out, fun x hx => by cases hx⟩
  (fun x => { tmps := #[.pointer (some ⟨M.t, 0, none⟩), .int .i64 s, .func (.func 87) #[] #[.pointer (some ⟨k1, 0, none⟩), .pointer (some ⟨k2, 0, none⟩)], .func (.func 88) #[] #[.pointer (some ⟨k1, 0, none⟩)], .pointer (some ⟨w.heap.size, 0, none⟩), undef, .pointer (some ⟨w.heap.size + 1, 0, none⟩), undef, .int .i64 0, .pointer (some ⟨w.heap.size + 2, 0, none⟩), .pointer (some ⟨w.heap.size + 3, 0, none⟩), .int .i64 x, undef, undef, undef, .pointer (some ⟨M.t, 0, none⟩), .int .i64 s, .func (.func 114) #[] #[.pointer (some ⟨w.heap.size + 5, 0, none⟩), .pointer (some ⟨w.heap.size + 4, 0, none⟩)], .int .i64 x, undef, undef, undef, undef, undef, undef, undef, undef, undef, undef, undef, undef, undef, undef, undef, undef, undef, undef, undef, undef, undef, undef, undef, undef, undef], defers := [] })
  ?assign ?body ?done ?stop
 case assign =>
  intro lo x W K hK
  gi_wp2
  exact hK
 case body =>
  rintro lo pre x W ⟨hI, hz⟩ ⟨r, hr⟩ hlt
  have hxp : x ∈ pa := by rw [hr]; simp
  have hxi := (HPN.out.1 x hxp).1
  have hxn : x ∉ pre := fun hx => by
   have := HPN.out.2.1
   rw [hr, List.nodup_append] at this
   exact this.2.2 x hx x (by simp) rfl
  have HI := Aside0.mk hI
  have HZ := Aside0.mk hz
  have HX := Aside0.mk (And.intro hxp (And.intro hxi hxn))
  have HLEN := Aside0.mk (show pre.length < 1001 by
   have h1 := HPN.out.2.2
   have h2 := HSM.out
   rw [hr, List.length_append, List.length_cons] at h1
   omega)
  have k0 : W.cell? ⟨w.heap.size, 0, none⟩ = some (.pointer (some ⟨M.t, 0, none⟩)) := (mblk_cell hI.tb 0).trans rfl
  have h11 : 1 ≤ 6 - 1 - 1 := by omega
  clear hI hz hr hxp hxi hxn
  obtain ⟨q, hq⟩ : ∃ q, q = E (al x) (ls x) := ⟨_, rfl⟩
  have HQ := Aside0.mk hq
  clear hq
  gi_wp2
  refine ⟨trivial, (CallsIn.inRound lo (callsIn_wide.2 (of_calls HI.out.tre HX.out.2.1))).mono ?_⟩
  rintro e W1 ⟨rfl, hb⟩
  have HK1 := Aside0.mk (kf_below (D := w2.heap.size) hb)
  have HI1 := Aside0.mk (HI.out.below HBX.out.2.1 hb)
  have k1 : W1.cell? ⟨w.heap.size + 1, 0, none⟩ = some (.func (.func 87) #[] #[.pointer (some ⟨k1, 0, none⟩), .pointer (some ⟨k2, 0, none⟩)]) := (mblk_cell HI1.out.kb 0).trans rfl
  clear hb k0
  gi_wp2
  have hc := HCA.out (M.g x) (M.b x) (al x) (ls x) W1 HI1.out.ok (by have := HI1.out.tre.led x HX.out.2.1; rw [stp_other HX.out.2.2] at this; exact this) (HPA.out.1 x HX.out.1)
  rw [← HQ.out] at hc
  refine ⟨trivial, (CallsIn.inRound lo (callsIn_wide.2 hc)).mono ?_⟩
  clear hc
  rintro e W2 ⟨rfl, hL, hK⟩
  have hi := HI1.out.kp HBX.out.2.1 HX.out.2.1 hK hL
  rw [stp_snoc HX.out.2.2] at hi
  have HI3 := Aside0.mk hi
  have HK2 := Aside0.mk (HK1.out.trans (kf_kp HT.out (by rw [HB.out.2]; omega) HX.out.2.1 hK))
  have k3 : W2.cell? ⟨w.heap.size + 3, 0, none⟩ = some (.int .i64 0) := (mblk_cell HI3.out.bad 0).trans rfl
  have f3 : W2.frozen? ⟨w.heap.size + 3, 0, none⟩ = false := mblk_frozen HI3.out.bad 0
  clear hL hK hi HI1 HK1 k1
  by_cases hq0 : q = 0
  ·subst hq0
   have HI4 := Aside0.mk (HI3.out.bad_ HT.out HBX.out.1 0)
   have HK3 := Aside0.mk (HK2.out.trans (kf_set (D := w2.heap.size) W2 ⟨w.heap.size + 3, 0, none⟩ (.int .i64 0)))
   obtain ⟨A1, c1, hm, hv⟩ := HI4.out.row
   have HR := Aside0.mk (And.intro hm hv)
   have k4 : (W2.setCell ⟨w.heap.size + 3, 0, none⟩ (.int .i64 0)).cell? ⟨w.heap.size + 2, 0, none⟩ = some (.slice A1 pre.length c1) := (mblk_cell hm 0).trans rfl
   have HSZ := Aside0.mk (show w.heap.size + 6 ≤ (W2.setCell ⟨w.heap.size + 3, 0, none⟩ (.int .i64 0)).heap.size from by have h1 := HK3.out.size; have h2 := HB.out.2; omega)
   have HNO := Aside0.mk (show ∀ k, (Value.slice A1 pre.length c1).ownBlock = some k → w.heap.size + 6 ≤ k from fun k hk => (hv.typed k hk).1)
   clear hm hv
   gi_wp2_with (gi_at_builtin; refine appendV (W := (W2.setCell ⟨w.heap.size + 3, 0, none⟩ (.int .i64 0))) (w.heap.size + 6) rfl (.tmp 27) (.tmp 29) 117 24 (.pointer none) 8 rfl Try.underlying117 (by kernel_rfl) rfl (fun _ h => by cases h) (.slice A1 pre.length c1) (ptrs M.g pre) (.pointer (some ⟨M.g x, 0, none⟩)) rfl (by first | rfl | (simp [World.setCell, go_sem]; done)) rfl (fun _ h => by cases h) HR.out.2 HSZ.out (by rw [ptrs_len]; have := HLEN.out; omega) (by rw [ptrs_len]; have := HLEN.out; omega) ?_; intro v1 w5 hR5 hg5; rw [show ptrs M.g pre ++ [.pointer (some ⟨M.g x, 0, none⟩)] = ptrs M.g (pre ++ [x]) by simp [ptrs]] at hR5; obtain ⟨A2, c2, e2, _⟩ := hR5.shape; rw [ptrs_len] at e2; subst e2; have HR5 := Aside0.mk hR5; have HG5 := Aside0.mk hg5; have HM5 := Aside0.mk (show MBlk w5 (w.heap.size + 2) 117 #[.slice A1 pre.length c1] from (hg5.block _ (mblk_lt HR.out.1) (fun e => by have := HNO.out _ e.symm; omega)).trans HR.out.1); have k9 : w5.cell? ⟨w.heap.size + 2, 0, none⟩ = some (.slice A1 pre.length c1) := (mblk_cell HM5.out 0).trans rfl; have kf9 : w5.frozen? ⟨w.heap.size + 2, 0, none⟩ = false := mblk_frozen HM5.out 0; clear hR5 hg5)
   have hfin := HI4.out.app HT.out HBX.out.1 HR.out.1 HR.out.2 HR5.out HG5.out
   have hkf := (HK3.out.trans (kf_row HR.out.2 HG5.out)).trans (kf_set (D := w2.heap.size) w5 ⟨w.heap.size + 2, 0, none⟩ (.slice A2 (pre ++ [x]).length c2))
   have hz2 : ∀ y ∈ pre ++ [x], E (al y) (ls y) = 0 := fun y hy => by
    rcases List.mem_append.1 hy with h | h
    ·exact HZ.out y h
    ·rw [List.mem_singleton.1 h]; exact HQ.out.symm
   have hkq := ainv_kq HT.out HI.out hfin hkf.size
   simp only [List.length_append, List.length_cons, List.length_nil, Nat.zero_add] at hfin hkf hkq
   exact ⟨hkf, hkq, hfin, hz2⟩
  ·have c1 : (q == (0 : Int)) = false := beq_eq_false_iff_ne.mpr hq0
   have c2 : (q != (0 : Int)) = true := bne_iff_ne.mpr hq0
   have c3 : (q = (0 : Int)) = False := eq_false hq0
   have HI4 := Aside0.mk (HI3.out.bad_ HT.out HBX.out.1 q)
   have HK3 := Aside0.mk (HK2.out.trans (kf_set (D := w2.heap.size) W2 ⟨w.heap.size + 3, 0, none⟩ (.int .i64 q)))
   have HQ0 := Aside0.mk hq0
   clear hq0
   gi_wp2
   have hn : E (al x) (ls x) ≠ 0 := by rw [← HQ.out]; exact HQ0.out
   have hAx := HPA.out.2.2 x HX.out.1 hn
   have hst : stp A al ls (pre ++ [x]) = stp A al ls pre := by
    rw [← stp_snoc HX.out.2.2, hAx]
    funext y
    unfold upd
    split
    ·rename_i e; rw [e, stp_other HX.out.2.2]
    ·rfl
   have hfin := HI4.out
   rw [hst, HQ.out] at hfin
   have hkf := HK3.out
   rw [HQ.out] at hkf
   rw [HQ.out]
   exact ⟨hkf, rfl, pre, x, rfl, HZ.out, hn, hfin⟩
 case done =>
  rintro xs W rfl ⟨hI, hz⟩ hD
  have k3 : W.cell? ⟨w.heap.size + 3, 0, none⟩ = some (.int .i64 0) := (mblk_cell hI.bad 0).trans rfl
  have HI := Aside0.mk hI
  have HZ := Aside0.mk hz
  have HD := Aside0.mk hD
  clear hI hz hD
  go_wp2_with fail
  have hfar := HI.out.far HT.out (k := w2.heap.size) (by rw [HB.out.2]; omega)
  refine ⟨by simp, .inl ⟨_, _, rfl, run_takeDeferred HD.out, ?_⟩⟩
  exact ⟨_, results_tmp rfl _ _ _, _, kt_put HI.out.kt (by rw [HB.out.2]; omega), tre_put HI.out.tre HD.out hfar.1 hfar.2, .inl ⟨rfl, HZ.out, rfl⟩⟩
 case stop =>
  rintro c pre W ⟨r, hr⟩ ⟨rfl, pre', x, rfl, hz, hne, hI⟩ hD
  obtain ⟨q, hq⟩ : ∃ q, q = E (al x) (ls x) := ⟨_, rfl⟩
  rw [← hq] at hI hne
  have k3 : W.cell? ⟨w.heap.size + 3, 0, none⟩ = some (.int .i64 q) := (mblk_cell hI.bad 0).trans rfl
  have c1 : (q == (0 : Int)) = false := beq_eq_false_iff_ne.mpr hne
  have c2 : (q != (0 : Int)) = true := bne_iff_ne.mpr hne
  have c3 : (q = (0 : Int)) = False := eq_false hne
  obtain ⟨A1, c1', hm, hv⟩ := hI.row
  have k4 : W.cell? ⟨w.heap.size + 2, 0, none⟩ = some (.slice A1 pre'.length c1') := (mblk_cell hm 0).trans rfl
  have HV := Aside0.mk hv
  have HI := Aside0.mk (show AInv w M sv at_ al bx (.func (.func 87) #[] #[.pointer (some ⟨k1, 0, none⟩), .pointer (some ⟨k2, 0, none⟩)]) (und A U al ls pre' 0) q pre' W by rw [und_zero]; exact hI)
  have HD := Aside0.mk hD
  have HQ := Aside0.mk (And.intro hq hne)
  have HPRE := Aside0.mk (show pa = pre' ++ x :: r ∧ (∀ y ∈ pre', E (al y) (ls y) = 0) by rw [hr]; exact ⟨by simp, hz⟩)
  have HND := Aside0.mk (show pre'.Nodup ∧ pre'.length < 1001 ∧ ∀ y ∈ pre', y ∈ pa from by
   have h1 := HPN.out.2.1
   have h2 := HPN.out.2.2
   have h3 := HSM.out
   rw [HPRE.out.1] at h1 h2
   rw [List.length_append, List.length_cons] at h2
   exact ⟨(List.nodup_append.1 h1).1, by omega, fun y hy => by rw [HPRE.out.1]; simp [hy]⟩)
  clear hz hne hI hD hq hm hv hr
  refine wpIn_wide.2 ?_
  go_wp2_with fail
  go_loopw [35] (fun v wr => ∃ i : Nat, v = .int .i64 (i : Int) ∧ i ≤ pre'.length ∧ Aside0 (AInv w M sv at_ al bx (.func (.func 87) #[] #[.pointer (some ⟨k1, 0, none⟩), .pointer (some ⟨k2, 0, none⟩)]) (und A U al ls pre' i) q pre' wr) ∧ Aside0 (VRow wr (w.heap.size + 6) 24 (.slice A1 pre'.length c1') (ptrs M.g pre')) ∧ Aside0 (wr.heap[w2.heap.size]? = some (.deferred (some [])))) (fun v _ => pre'.length - (intOf v).toNat)
  case atStart => exact ⟨0, rfl, by omega, HI, HV, HD⟩
  case round =>
   clear HI HV HD k3 k4
   obtain ⟨i, rfl, hi, HI, HV, HD⟩ := hrel
   by_cases hlt : i < pre'.length
   ·have d1 : decide ((i : Int) < (pre'.length : Int)) = true := decide_eq_true (by omega)
    have d2 : decide (i < pre'.length) = true := decide_eq_true hlt
    have q1 : (i < pre'.length) = True := eq_true hlt
    have hc := HV.out.cell rfl i (by rw [ptrs_len]; exact hlt)
    obtain ⟨ad, hA1, hcell⟩ := hc
    have hcell' : wr.cell? (ad.add i) = some (.pointer (some ⟨M.g pre'[i], 0, none⟩)) := by rw [hcell]; simp [ptrs]
    obtain ⟨y, hy⟩ : ∃ y, y = pre'[i] := ⟨_, rfl⟩
    rw [← hy] at hcell'
    have hyp : y ∈ pre' := by rw [hy]; exact List.getElem_mem hlt
    have HY := Aside0.mk (show y ∈ pa ∧ inR sv.length y ∧ y ∈ pre' from ⟨HND.out.2.2 y hyp, (HPN.out.1 y (HND.out.2.2 y hyp)).1, hyp⟩)
    have hu1 := und_at (A := A) (U := U) (al := al) (ls := ls) HND.out.1 hlt
    have hu2 := und_step (A := A) (U := U) (al := al) (ls := ls) hlt
    rw [← hy] at hu1 hu2
    have HU := Aside0.mk (And.intro hu1 hu2)
    have HLT := Aside0.mk hlt
    have HLN := Aside0.mk (show i < 1001 by have := HND.out.2.1; omega)
    subst hA1
    clear hcell hu1 hu2 hy hyp hlt hi
    go_wp2_with fail
    have hc := HCU.out (M.g y) (M.b y) (al y) (A (al y) (ls y)) wr HI.out.ok (by have := HI.out.tre.led y HY.out.2.1; rw [HU.out.1] at this; exact this) (HPA.out.2.1 y HY.out.1 (HPRE.out.2 y HY.out.2.2))
    refine hc.mono ?_
    clear hc
    rintro e W2 ⟨rfl, hL, hK⟩
    have hi2 := HI.out.kp HBX.out.2.1 HY.out.2.1 hK hL
    rw [HU.out.2] at hi2
    have HI2 := Aside0.mk hi2
    have HV2 := Aside0.mk (row_stay HI.out.tre (Kt.kp HY.out.2.1 hK) HV.out)
    have HD2 := Aside0.mk (kp_def hK HD.out (fun e => by have := HT.out.wr_lt (k := M.g y) (.inr ⟨y, HY.out.2.1, .inl rfl⟩); have := HB.out.2; omega) (fun e => by have := HT.out.wr_lt (k := M.b y) (.inr ⟨y, HY.out.2.1, .inr rfl⟩); have := HB.out.2; omega))
    clear hL hK hi2 hcell'
    have hw : wrap64 ((i : Int) + 1) = ((i + 1 : Nat) : Int) := by have := HLN.out; rw [QNat.w64 (by omega) (by omega)]; omega
    go_wp2_with fail
    go_roundw
    case rel => exact ⟨i + 1, by first | rw [hw] | rfl | (simp; done), by have := HLT.out; omega, HI2, HV2, HD2⟩
    case measure =>
     rw [hw]
     show pre'.length - (i + 1) < pre'.length - i
     have := HLT.out
     omega
   ·have d1 : decide ((i : Int) < (pre'.length : Int)) = false := decide_eq_false (by omega)
    have d2 : decide (i < pre'.length) = false := decide_eq_false hlt
    obtain rfl : i = pre'.length := by omega
    have k3 : wr.cell? ⟨w.heap.size + 3, 0, none⟩ = some (.int .i64 q) := (mblk_cell HI.out.bad 0).trans rfl
    clear hlt hi
    go_wp2_with fail
    have hfar := HI.out.far HT.out (k := w2.heap.size) (by rw [HB.out.2]; omega)
    refine ⟨by simp, .inl ⟨_, _, rfl, run_takeDeferred HD.out, ?_⟩⟩
    have htr := tre_put (o' := .deferred none) HI.out.tre HD.out hfar.1 hfar.2
    rw [und_all] at htr
    exact ⟨_, results_tmp rfl _ _ _, _, kt_put HI.out.kt (by rw [HB.out.2]; omega), htr, .inr ⟨pre', x, r, HPRE.out.1, HPRE.out.2, by rw [← HQ.out.1]; exact HQ.out.2, by rw [← HQ.out.1]; rfl, rfl⟩⟩
end
end Go.Proofs.Ytfldklimlcnnnaa.XAllJ
end

section
namespace Go.Proofs.Ytfldklimlcnnnaa.XTJoin
open Go.RowKit Go.Proofs.Ytfldklimlcnnnaa.PHq Go.Proofs.YtfldklimlcnnnaaW.PrintWords Go.Proofs.YtfldklimlcnnnaaW.PrintLast Go.Proofs.YtfldklimlcnnnaaW.PrintMore Go.Proofs.Ytfldklimlcnnnaa.MWords
open Go.Proofs.Ytfldklimlcnnnaa.MNat Go.Proofs.Ytfldklimlcnnnaa.QRatio Go.Proofs.Ytfldklimlcnnnaa.XRV Go.Proofs.Ytfldklimlcnnnaa.XHold Go.Proofs.Ytfldklimlcnnnaa.XLed Go.Proofs.Ytfldklimlcnnnaa.XJoin Go.Proofs.Ytfldklimlcnnnaa.XMeth Go.Proofs.Ytfldklimlcnnnaa.QHold Go.Proofs.Ytfldklimlcnnnaa.XTree Go.Proofs.Ytfldklimlcnnnaa.QTree Go.Proofs.Ytfldklimlcnnnaa.XOf Go.Proofs.Ytfldklimlcnnnaa.XTCl Go.Proofs.Ytfldklimlcnnnaa.XAllW Go.Proofs.Ytfldklimlcnnnaa.QTr
def TH (W : World) (M : Tm) (sv : List S71) (al : Int → Rat) (H : List Hol) (m : Nat) : Prop := ∃ at_ ls, Tre W M sv at_ al ls ∧ Inv sv al at_ ls H m ∧ GoodSv sv
section
variable {w W W' : World} {M : Tm} {sv : List S71} {al : Int → Rat} {H : List Hol} {m : Nat}
theorem Inv.mono {at_ : List (Int × Int)} {ls : Int → List (Int × Hd)} {n : Nat} (h : Inv sv al at_ ls H m) (hn : m ≤ n) : Inv sv al at_ ls H n := ⟨h.at_, h.ls, h.nod, h.srv, h.ok, Nat.le_trans h.len hn, h.le, h.sz⟩
theorem TH.below (h : TH W M sv al H m) (hb : Below W.heap.size W W') : TH W' M sv al H m := by
 obtain ⟨at_, ls, h1, h2, h3⟩ := h
 exact ⟨at_, ls, h1.below hb, h2, h3⟩
def fitsP (sv : List S71) (al : Int → Rat) (H : List Hol) (s : Int) (q : Rat) : Bool := (pathS sv s).all fun y => decide (heldH sv H y + q ≤ al y)
def joinTE (sv : List S71) (al : Int → Rat) (H : List Hol) (z s : Int) (x : S34) : Int :=
 if (thereB sv.length s && mayW x) = false then 1 else if hasH H z = true then 14 else if fitsP sv al H s (wt x) = true then 0 else 18
def joinTH (sv : List S71) (al : Int → Rat) (H : List Hol) (z s : Int) (x : S34) : List Hol := if joinTE sv al H z s x = 0 then H ++ [⟨z, s, newH x⟩] else H
theorem srvH_in (hs : ∀ x ∈ H, inR sv.length x.srv) {z : Int} (h : hasH H z = true) : inR sv.length (srvH H z) := by
 obtain ⟨x, hx⟩ := getH_some h
 unfold srvH
 rw [hx]
 exact hs x (getH_mem hx).1
theorem srvH_no {z : Int} (h : hasH H z = false) : srvH H z = -2 := by
 unfold srvH
 cases e : getH H z with
 | none => rfl
 | some x =>
  have := hasH_iff.2 ⟨x, getH_mem e⟩
  rw [h] at this
  cases this
theorem at_len {at_ : List (Int × Int)} {ls : Int → List (Int × Hd)} (h : Inv sv al at_ ls H m) : at_.length ≤ m := by
 rw [h.at_.length_eq, List.length_map]
 exact h.len
set_option maxRecDepth 100000 in
set_option maxHeartbeats 8000000 in
theorem tjoin_calls (hT : TH w M sv al H m) (hm : m < 400) (z s : Int) (x : S34) (hz : wfI z) :
  Calls Try.prog 45 #[.pointer (some ⟨M.t, 0, none⟩), .int .i64 z, .int .i64 s, .agg #[.int .i64 x.f0, .int .i64 x.f1]] w fun e w' => e = .returned (.int .i64 (joinTE sv al H z s x)) ∧ TH w' M sv al (joinTH sv al H z s x) (m + 1) ∧ Kt M sv.length w w' := by
 have mixed : Try.prog.follows Departure.mixedOrders = true := by kernel_rfl
 obtain ⟨at_, ls, hT, hI, hG⟩ := hT
 obtain ⟨W0, hW0⟩ : ∃ W0, W0 = (w.alloc (.cells #[.int .i64 z] 3)).alloc (.cells #[.int .i64 x.f0, .int .i64 x.f1] 34) := ⟨_, rfl⟩
 have hb0 : Below w.heap.size w W0 := by rw [hW0]; exact below_alloc (below_alloc (Below.refl _ _) _) _
 have HB0 := Aside0.mk hb0
 have HM0 := Aside0.mk (show MBlk W0 w.heap.size 3 #[.int .i64 z] ∧ MBlk W0 (w.heap.size + 1) 34 #[.int .i64 x.f0, .int .i64 x.f1] ∧ W0.heap.size = w.heap.size + 2 by
  rw [hW0]
  refine ⟨mblk_alloc (mblk_new _ _ _) _, ?_, by simp⟩
  have := mblk_new (w.alloc (.cells #[.int .i64 z] 3)) 34 #[.int .i64 x.f0, .int .i64 x.f1]
  rwa [World.size_alloc] at this)
 have HT0 := Aside0.mk (hT.below hb0)
 have HI := Aside0.mk hI
 have HG := Aside0.mk hG
 have HZ := Aside0.mk (And.intro hz hm)
 have HC := Aside0.mk (wcheck_f x)
 obtain ⟨r, hr⟩ : ∃ r, r = joinTE sv al H z s x := ⟨_, rfl⟩
 obtain ⟨H', hH'⟩ : ∃ H', H' = joinTH sv al H z s x := ⟨_, rfl⟩
 rw [← hr, ← hH']
 have HR := Aside0.mk (And.intro hr hH')
 clear hT hI hG hz hm hb0 hr hH'
 have c0 : W0.cell? ⟨w.heap.size, 0, none⟩ = some (.int .i64 z) := (mblk_cell HM0.out.1 0).trans rfl
 have x0 : W0.cell? ⟨w.heap.size + 1, 0, none⟩ = some (.int .i64 x.f0) := (mblk_cell HM0.out.2.1 0).trans rfl
 have x1 : W0.cell? ⟨w.heap.size + 1, 1, none⟩ = some (.int .i64 x.f1) := (mblk_cell HM0.out.2.1 1).trans rfl
 go_enter Try.func45, Try.ntmps45
 go_upto_region 1 with fail
 rw [← hW0]
 clear hW0
 cases ht : thereB sv.length s with
 | false =>
  have hr1 : r = 1 := by rw [HR.out.1]; unfold joinTE; rw [ht]; rfl
  have hH : H' = H := by rw [HR.out.2]; unfold joinTH; rw [← HR.out.1, hr1]; rfl
  subst hr1
  go_wp2_with (go_at_call 83; refine (there_calls HT0.out s).mono ?_; rw [ht]; rintro e w1 ⟨rfl, rfl⟩; clear ht)
  go_ret
  exact ⟨rfl, by rw [hH]; exact ⟨at_, ls, HT0.out, Inv.mono HI.out (by omega), HG.out⟩, Kt.of HB0.out⟩
 | true =>
  have HIN := Aside0.mk (there_in.1 ht)
  cases hmw : mayW x with
  | false =>
   have hr1 : r = 1 := by rw [HR.out.1]; unfold joinTE; rw [ht, hmw]; rfl
   have hH : H' = H := by rw [HR.out.2]; unfold joinTH; rw [← HR.out.1, hr1]; rfl
   subst hr1
   go_wp2_with (first
    | (go_at_call 83; refine (there_calls HT0.out s).mono ?_; rw [ht]; rintro e w1 ⟨rfl, rfl⟩; clear ht)
    | (go_at_call 66; refine (window_Check.calls x.f0 x.f1 _ _ HC.out).mono ?_; rw [hmw]; rintro e w3 ⟨rfl, hb⟩; have HB3 := Aside0.mk hb; clear hb))
   go_ret
   exact ⟨rfl, by rw [hH]; exact ⟨at_, ls, HT0.out.below HB3.out, Inv.mono HI.out (by omega), HG.out⟩, Kt.of (below_step HB0.out HB3.out)⟩
  | true =>
   have HMW := Aside0.mk hmw
   cases hh : hasH H z with
   | true =>
    have hr1 : r = 14 := by rw [HR.out.1]; unfold joinTE; rw [ht, hmw, hh]; rfl
    have hH : H' = H := by rw [HR.out.2]; unfold joinTH; rw [← HR.out.1, hr1]; rfl
    subst hr1
    have hin := srvH_in HI.out.srv hh
    obtain ⟨y, hy⟩ : ∃ y, y = srvH H z := ⟨_, rfl⟩
    rw [← hy] at hin
    have d1 : (y != (-2 : Int)) = true := bne_iff_ne.mpr (by have := hin.1; omega)
    have d2 : (y = (-2 : Int)) = False := eq_false (by have := hin.1; omega)
    have HY := Aside0.mk hy
    clear hin hy
    go_wp2_with (first
     | (go_at_call 83; refine (there_calls HT0.out s).mono ?_; rw [ht]; rintro e w1 ⟨rfl, rfl⟩; clear ht)
     | (go_at_call 66; refine (window_Check.calls x.f0 x.f1 _ _ HC.out).mono ?_; rw [hmw]; rintro e w3 ⟨rfl, hb⟩; have HB3 := Aside0.mk (below_step HB0.out hb); have HM3 := Aside0.mk (And.intro ((hb.block _ (mblk_lt HM0.out.1)).trans HM0.out.1) ((hb.block _ (mblk_lt HM0.out.2.1)).trans HM0.out.2.1)); have HT3 := Aside0.mk (HT0.out.below hb); have c3 : w3.cell? ⟨w.heap.size, 0, none⟩ = some (.int .i64 z) := (mblk_cell HM3.out.1 0).trans rfl; clear hb hmw)
     | (go_at_call 58; refine (server_calls HT3.out HZ.out.1).mono ?_; rw [HI.out.srvA z, ← HY.out]; rintro e w4 ⟨rfl, rfl⟩))
    go_ret
    exact ⟨rfl, by rw [hH]; exact ⟨at_, ls, HT3.out, Inv.mono HI.out (by omega), HG.out⟩, Kt.of HB3.out⟩
   | false =>
    have HH := Aside0.mk hh
    have HSV := Aside0.mk (srvH_no hh)
    go_wp2_with (first
     | (go_at_call 83; refine (there_calls HT0.out s).mono ?_; rw [ht]; rintro e w1 ⟨rfl, rfl⟩; clear ht)
     | (go_at_call 66; refine (window_Check.calls x.f0 x.f1 _ _ HC.out).mono ?_; rw [hmw]; rintro e w3 ⟨rfl, hb⟩; have HB3 := Aside0.mk (below_step HB0.out hb); have HM3 := Aside0.mk (And.intro ((hb.block _ (mblk_lt HM0.out.1)).trans HM0.out.1) ((hb.block _ (mblk_lt HM0.out.2.1)).trans HM0.out.2.1)); have HT3 := Aside0.mk (HT0.out.below hb); have c3 : w3.cell? ⟨w.heap.size, 0, none⟩ = some (.int .i64 z) := (mblk_cell HM3.out.1 0).trans rfl; clear hb hmw)
     | (go_at_call 58; refine (server_calls HT3.out HZ.out.1).mono ?_; rw [HI.out.srvA z, HSV.out]; rintro e w4 ⟨rfl, rfl⟩))
    have hz400 := HZ.out.2
    have hall := XAllJ.all_calls (bx := [bxI w.heap.size z, bxW (w.heap.size + 1) x]) HT3.out HG.out HIN.out (k1 := w.heap.size) (k2 := w.heap.size + 1)
     (fun y hy => by
      have h1 := mblk_lt HM3.out.1
      have h2 := mblk_lt HM3.out.2
      rcases List.mem_cons.1 hy with rfl | hy
      ·exact h1
      ·rw [List.mem_singleton.1 hy]; exact h2)
     (fun y hy => by
      rcases List.mem_cons.1 hy with rfl | hy
      ·exact bxI_ty _ _
      ·rw [List.mem_singleton.1 hy]; exact bxW_ty _ _)
     (fun y hy => by
      rcases List.mem_cons.1 hy with rfl | hy
      ·exact HM3.out.1
      ·rw [List.mem_singleton.1 hy]; exact HM3.out.2)
     (join1 w.heap.size (w.heap.size + 1) z x HZ.out.1) (join2 w.heap.size z _ (by simp) HZ.out.1)
     (fun y hy => HI.out.pa (by omega) (path_in HG.out s HIN.out y hy).1)
     (fun y hy h0 => by
      have hyi := (path_in HG.out s HIN.out y hy).1
      have h1 := HI.out.joinE HMW.out HH.out hyi
      rw [h0] at h1
      have hf : heldH sv H y + wt x ≤ al y := by
       by_cases c : heldH sv H y + wt x ≤ al y
       ·exact c
       ·rw [if_neg c] at h1; cases h1
      show PuL (al y) (joinL (al y) (heldL (ls y)) (ls y) z x)
      rw [HI.out.joinL HMW.out HH.out hyi hf]
      have hg := HI.out.good (by omega) hyi
      have hl := (HI.out.pa (by omega) hyi).2.2
      exact ⟨by simp; omega, fun q hq => by
       rcases List.mem_append.1 hq with hq | hq
       ·exact hg.ok q hq
       ·rw [List.mem_singleton.1 hq]; exact ⟨(may_okW HMW.out).1, fun c => by cases c⟩⟩)
     (fun y hy h0 => joinL_same h0)
    refine hall.mono ?_
    clear hall
    rintro e w5 ⟨ls', hkt, htr, ⟨rfl, hE, rfl⟩ | ⟨pre, y, rr, hp, hE, hne, rfl, rfl⟩⟩
    ·have hfits : ∀ y ∈ pathS sv s, heldH sv H y + wt x ≤ al y := fun y hy => by
      have h1 := HI.out.joinE (z := z) HMW.out HH.out (path_in HG.out s HIN.out y hy).1
      rw [hE y hy] at h1
      by_cases c : heldH sv H y + wt x ≤ al y
      ·exact c
      ·rw [if_neg c] at h1; cases h1
     have hr1 : r = 0 := by
      rw [HR.out.1]
      unfold joinTE
      have hp : fitsP sv al H s (wt x) = true := by
       unfold fitsP
       rw [List.all_eq_true]
       exact fun y hy => decide_eq_true (hfits y hy)
      rw [there_in.2 HIN.out, HMW.out, HH.out, hp]
      rfl
     have hH : H' = H ++ [⟨z, s, newH x⟩] := by rw [HR.out.2]; unfold joinTH; rw [← HR.out.1, hr1]; rfl
     have hinv := HI.out.join HG.out HIN.out HMW.out HH.out HZ.out.1 hfits
     have HF := Aside0.mk (And.intro hinv hH)
     have m5 : MBlk w5 w.heap.size 3 #[.int .i64 z] := mblk_stay HT3.out hkt HM3.out.1 (by decide)
     have c5 : w5.cell? ⟨w.heap.size, 0, none⟩ = some (.int .i64 z) := (mblk_cell m5 0).trans rfl
     have k5 := htr.cell2
     have hk5 := HT3.out
     have htd := htr.below (below_drew (Below.refl w5.heap.size w5))
     obtain ⟨w6, hrun, hm6, ht6⟩ := XAt.map_put htd.map (by have := at_len HI.out; have := HZ.out.2; omega) HZ.out.1 s
     have H6 := Aside0.mk (show Tre w6 M sv (XAt.setL at_ z s) al _ ∧ Kt M sv.length w w6 from ⟨htd.turn ht6 hm6, (Kt.of HB3.out).trans (hkt.trans ((Kt.of (below_drew (Below.refl w5.heap.size w5))).trans (Kt.turn ht6)))⟩)
     subst hr1
     clear hfits hinv hH hE m5 hkt htr hk5 htd hm6 ht6 hz400
     go_wp2_with fail
     go_region
     go_wp2_with fail
     go_ret
     exact ⟨rfl, by rw [HF.out.2]; exact ⟨_, _, H6.out.1, HF.out.1, HG.out⟩, H6.out.2⟩
    ·have hyp : y ∈ pathS sv s := by rw [hp]; simp
     have hyi := (path_in HG.out s HIN.out y hyp).1
     have hj := HI.out.joinE (z := z) HMW.out HH.out hyi
     have hnf : ¬ heldH sv H y + wt x ≤ al y := fun c => by
      rw [if_pos c] at hj
      exact hne hj
     rw [if_neg hnf] at hj
     have hr1 : r = 18 := by
      rw [HR.out.1]
      unfold joinTE
      have hp : fitsP sv al H s (wt x) = false := by
       unfold fitsP
       rw [List.all_eq_false]
       exact ⟨y, hyp, by simpa using hnf⟩
      rw [there_in.2 HIN.out, HMW.out, HH.out, hp]
      rfl
     have hH : H' = H := by rw [HR.out.2]; unfold joinTH; rw [← HR.out.1, hr1]; rfl
     have hun := HI.out.unjoin (z := z) HMW.out HH.out (fun q hq => (path_in HG.out s HIN.out q (by rw [hp]; simp [hq])).1) hE
     have HF := Aside0.mk (show TH w5 M sv al H' (m + 1) ∧ Kt M sv.length w w5 by
      rw [hH]
      refine ⟨⟨at_, ls, ?_, Inv.mono HI.out (by omega), HG.out⟩, (Kt.of HB3.out).trans hkt⟩
      have := htr
      rw [hun] at this
      exact this)
     subst hr1
     rw [hj]
     clear hH hun hE htr hkt hj hnf hne hyi hyp hp hz400
     go_wp2_with fail
     go_ret
     exact ⟨rfl, HF.out⟩
end
end Go.Proofs.Ytfldklimlcnnnaa.XTJoin
end

section
namespace Go.Proofs.Ytfldklimlcnnnaa.XTNew
open Go.RowKit Go.Proofs.Ytfldklimlcnnnaa.PHq Go.Proofs.YtfldklimlcnnnaaW.PrintWords Go.Proofs.YtfldklimlcnnnaaW.PrintLast Go.Proofs.YtfldklimlcnnnaaW.PrintMore Go.Proofs.Ytfldklimlcnnnaa.MWords
open Go.Proofs.Ytfldklimlcnnnaa.MNat Go.Proofs.Ytfldklimlcnnnaa.QNat Go.Proofs.Ytfldklimlcnnnaa.QRatio Go.Proofs.Ytfldklimlcnnnaa.XRV Go.Proofs.Ytfldklimlcnnnaa.XHold Go.Proofs.Ytfldklimlcnnnaa.XWts Go.Proofs.Ytfldklimlcnnnaa.XLed Go.Proofs.Ytfldklimlcnnnaa.XFits Go.Proofs.Ytfldklimlcnnnaa.XTree Go.Proofs.Ytfldklimlcnnnaa.QTree Go.Proofs.Ytfldklimlcnnnaa.XRowP Go.Proofs.Ytfldklimlcnnnaa.XAllW Go.Proofs.Ytfldklimlcnnnaa.QTr Go.Proofs.Ytfldklimlcnnnaa.XTJoin
theorem nil_ne (ad : Addr) (n c : Nat) (w : World) : (binOp BinOp.eql 65 (.slice (some ad) n c) (.slice none 0 0)).run Try.prog w = .ok (.bool false) w := by
 kernel_rfl
theorem nil_eq (n c : Nat) (w : World) : (binOp BinOp.eql 65 (.slice none n c) (.slice none 0 0)).run Try.prog w = .ok (.bool true) w := by
 kernel_rfl
set_option maxRecDepth 100000 in
set_option maxHeartbeats 4000000 in
theorem clone_calls (A : Option Addr) (c : Nat) (xs : List S71) (w : World) (hC : Kd.C k71 w A xs.length xs) (hc : xs.length ≤ c) (hl : xs.length ≤ 1000000) :
  Calls Try.prog 82 #[.slice A xs.length c] w fun e w' => ∃ A' c', e = .returned (.slice A' xs.length c') ∧ Kd.R k71 71 w' w.heap.size (fun _ => True) (.slice A' xs.length c') xs ∧ Below w.heap.size w w' := by
 have HC := Aside0.mk hC
 have HL := Aside0.mk hl
 clear hC
 go_enter Try.func82, Try.ntmps82
 cases A with
 | none =>
  have h0 : xs = [] := by
   cases xs with
   | nil => rfl
   | cons x xs => obtain ⟨ad, h, _⟩ := HC.out.2.2 (by simp); cases h
  subst h0
  have q0 := nil_eq 0 c
  go_wp2_with fail
  exact bodyPost_ret (results_tmp rfl _ _ _) rfl ⟨none, 0, rfl, Kd.R_nil _ _ _ _ _, Below.refl _ _⟩
 | some ad =>
  have q0 := nil_ne ad xs.length c
  go_wp2_with (first
   | ((with_reducible refine gate_dst (N := 5) rfl ?_); refine Kd.R_lit k71 (w0 := w) w.heap.size 71 rfl (N := 5) rfl (xs := ([] : List S71)) (inner := []) (ok := fun _ => True) (okp := fun _ => True) (by first | (go_simp; done) | (go_simp; rfl)) (Reps.none _ _) (fun _ hk => hk) trivial (Below.refl _ _) (Nat.le_refl _) (by simp) ?_; intro v1 w1 hR1 hb1 _ _; have HR1 := Aside0.mk hR1; have HB1 := Aside0.mk hb1; have HS1 := Aside0.mk hb1.size; clear hR1 hb1)
   | ((with_reducible refine gate_builtin (b := .append) (xs := #[.tmp 5, .tmp 6]) rfl ?_); at_builtin; refine Kd.R_append_rows k71 (w0 := w) w.heap.size rfl (.tmp 5) (.tmp 6) 65 71 (.agg #[.int .i64 0, .int .i64 0, .int .i64 0]) 24 rfl Try.underlying65 info71 rfl (by decide) (by omega) v1 [] xs (some ad) xs.length c (fun _ => True) (fun _ => False) rfl rfl HR1.out (Kd.C_below HC.out HB1.out) (fun x cs hx => by obtain rfl := k71_open hx; exact k71_mkM _ _ _ x) (fun _ hk => hk.elim) (fun _ _ => trivial) HB1.out HS1.out (by have := HL.out; simp; omega) ?_; intro v2 w2 hR2 hb2 _ _; have HR2 := Aside0.mk hR2; have HB2 := Aside0.mk hb2; clear hR2 hb2))
  obtain ⟨A2, c2, rfl⟩ := Kd.R_slice HR2.out
  exact bodyPost_ret (results_tmp rfl _ _ _) rfl ⟨A2, c2, rfl, HR2.out, HB2.out⟩
structure Con (w : World) (t : Nat) (A : Option Addr) (c m : Nat) (sv : List S71) (g b : Nat → Nat) (qs : Nat → Rat) (i : Nat) (W : World) : Prop where
 cells : ∃ A1 c1, MBlk W t 119 #[.slice A sv.length c, .slice A1 i c1, .map (some m)] ∧ VRow W w.heap.size 24 (.slice A1 i c1) ((List.range i).map fun j => .pointer (some ⟨g j, 0, none⟩))
 row : Kd.C k71 W A sv.length sv
 rowt : 0 < sv.length → ∀ ad, A = some ad → ∃ cs, W.heap[ad.block]? = some (.cells cs 71 (0, 0))
 map : XAt.MapIs W m []
 led : ∀ j, j < i → Led W (g j) (b j) (qs j) 0 []
 ne : ∀ j k, j < i → k < i → j ≠ k → g j ≠ g k ∧ b j ≠ b k
 mb : ∀ j, j < i → b j ≠ m
 base : w.heap.size ≤ t ∧ w.heap.size ≤ m ∧ ∀ j, j < i → w.heap.size ≤ g j ∧ w.heap.size ≤ b j
 keep : Below w.heap.size w W
section
variable {w W W' : World} {t : Nat} {A : Option Addr} {c m : Nat} {sv : List S71} {g b : Nat → Nat} {qs : Nat → Rat} {i : Nat}
theorem Con.below (h : Con w t A c m sv g b qs i W) (hb : Below W.heap.size W W') : Con w t A c m sv g b qs i W' := by
 obtain ⟨A1, c1, h1, h2⟩ := h.cells
 exact ⟨⟨A1, c1, (hb.block _ (mblk_lt h1)).trans h1, h2.same fun k cs _ hc => hb.block _ (Array.getElem?_eq_some_iff.1 hc).1⟩, Kd.C_below h.row hb,
  fun h0 ad e => by obtain ⟨cs, hc⟩ := h.rowt h0 ad e; exact ⟨cs, (hb.block _ (Array.getElem?_eq_some_iff.1 hc).1).trans hc⟩, h.map.kept (hb.block _ h.map.lt), fun j hj => (h.led j hj).below hb, h.ne, h.mb, h.base, below_step h.keep hb⟩
theorem noLimb_tree {X : World} {k : Nat} {o1 o2 : Option Addr} {n1 n2 m1 m2 : Nat} {mm : Option Nat} {T : TypeId} (hG : MBlk X k T #[.slice o1 n1 m1, .slice o2 n2 m2, .map mm]) : NoLimb X k := by
 intro p hp n hc
 unfold World.cell? at hc
 rw [hp, show X.heap[k]? = _ from hG] at hc
 simp only at hc
 split at hc
 ·cases hc
 ·match ho : p.off, hc with
  | 0, hc => simp at hc
  | 1, hc => simp at hc
  | 2, hc => simp at hc
  | k + 3, hc => simp at hc
def ext {β : Type} (f : Nat → β) (i : Nat) (x : β) : Nat → β := fun j => if j = i then x else f j
theorem ext_same {β : Type} (f : Nat → β) (i : Nat) (x : β) : ext f i x i = x := if_pos rfl
theorem ext_lt {β : Type} (f : Nat → β) {i j : Nat} (x : β) (h : j < i) : ext f i x j = f j := if_neg (by omega)
theorem range_ext (g : Nat → Nat) (i x : Nat) : ((List.range (i + 1)).map fun j => (Value.pointer (some ⟨ext g i x j, 0, none⟩))) = ((List.range i).map fun j => (Value.pointer (some ⟨g j, 0, none⟩))) ++ [.pointer (some ⟨x, 0, none⟩)] := by
 rw [List.range_succ, List.map_append]
 congr 1
 ·refine List.map_congr_left fun j hj => ?_
  rw [ext_lt g x (List.mem_range.1 hj)]
 ·rw [List.map_cons, ext_same]; rfl
theorem Con.step (h : Con w t A c m sv g b qs i W) {gi bi : Nat} {q : Rat} (hL : Led W gi bi q 0 []) (hn : ∀ j, j < i → gi ≠ g j ∧ bi ≠ b j) (hm : bi ≠ m) (hb : w.heap.size ≤ gi ∧ w.heap.size ≤ bi)
  {A1 A2 : Option Addr} {c1 c2 : Nat} {w5 : World} (h1 : MBlk W t 119 #[.slice A sv.length c, .slice A1 i c1, .map (some m)]) (h2 : VRow W w.heap.size 24 (.slice A1 i c1) ((List.range i).map fun j => .pointer (some ⟨g j, 0, none⟩)))
  (hv : VRow w5 w.heap.size 24 (.slice A2 (i + 1) c2) (((List.range i).map fun j => .pointer (some ⟨g j, 0, none⟩)) ++ [.pointer (some ⟨gi, 0, none⟩)])) (hg : W.grownBy w5 (Value.slice A1 i c1).ownBlock) :
  Con w t A c m sv (ext g i gi) (ext b i bi) (ext qs i q) (i + 1) (w5.setCell ⟨t, 1, none⟩ (.slice A2 (i + 1) c2)) := by
 have hty : ∀ k, (Value.slice A1 i c1).ownBlock = some k → w.heap.size ≤ k ∧ ∃ cs, W.heap[k]? = some (.cells cs 24 (0, 0)) := h2.typed
 have hs : ∀ k o, W.heap[k]? = some o → (∀ cs, o ≠ Obj.cells cs 24 (0, 0)) → w5.heap[k]? = some o := fun k o hk ho => (hg.block k (Array.getElem?_eq_some_iff.1 hk).1 (fun e => by
  obtain ⟨_, cs, hc⟩ := hty k e.symm
  rw [hk] at hc
  exact ho cs (Option.some.inj hc))).trans hk
 have ht5 : MBlk w5 t 119 #[.slice A sv.length c, .slice A1 i c1, .map (some m)] := hs t _ h1 (fun cs e => by cases e)
 have hne : ∀ k, k ≠ t → (w5.setCell ⟨t, 1, none⟩ (.slice A2 (i + 1) c2)).heap[k]? = w5.heap[k]? := fun k hk => Below.heap_setCell _ ⟨t, 1, none⟩ _ k hk
 have hs6 : ∀ k o, W.heap[k]? = some o → (∀ cs T, o = Obj.cells cs T (0, 0) → T ≠ 24 ∧ T ≠ 119) → (w5.setCell ⟨t, 1, none⟩ (.slice A2 (i + 1) c2)).heap[k]? = some o := fun k o hk ho => (hne k (fun e => by
  subst e
  rw [show W.heap[k]? = _ from h1] at hk
  cases hk
  exact (ho _ _ rfl).2 rfl)).trans (hs k o hk (fun cs e => (ho cs _ e).1 rfl))
 have hlimb : ∀ k, k < W.heap.size → ¬ NoLimb W k → (w5.setCell ⟨t, 1, none⟩ (.slice A2 (i + 1) c2)).heap[k]? = W.heap[k]? := fun k hk hnl => (hne k (fun e => hnl (by rw [e]; exact noLimb_tree h1))).trans (hg.block k hk (fun e => hnl (h2.noLimb e.symm)))
 have hled : ∀ {g' b' : Nat} {q' : Rat}, Led W g' b' q' 0 [] → Led (w5.setCell ⟨t, 1, none⟩ (.slice A2 (i + 1) c2)) g' b' q' 0 [] := fun hl => by
  obtain ⟨⟨cg, hg1⟩, es, cc, hb1⟩ := Led.blk hl
  exact hl.near ((hs6 _ _ hg1 (fun cs T e => by cases e; exact ⟨by decide, by decide⟩)).trans hg1.symm) ((hs6 _ _ hb1 (fun cs T e => by cases e)).trans hb1.symm) hlimb
 obtain ⟨em, cm, hmap⟩ := h.map.obj
 refine ⟨⟨A2, c2, mblk_set ht5 1 _, ?_⟩, C_blk h.row (fun h0 ad e => ?_), fun h0 ad e => ?_, h.map.kept ((hs6 _ _ hmap (fun cs T e => by cases e)).trans hmap.symm), fun j hj => ?_, fun j k hj hk hjk => ?_, fun j hj => ?_, ⟨h.base.1, h.base.2.1, fun j hj => ?_⟩, ?_⟩
 ·rw [range_ext]
  exact hv.same fun k cs hk hc => hne k (fun e => by
   subst e
   rw [show w5.heap[k]? = _ from ht5] at hc
   cases hc)
 ·obtain ⟨cs, hc⟩ := h.rowt h0 ad e
  exact (hs6 _ _ hc (fun cs T e => by cases e; exact ⟨by decide, by decide⟩)).trans hc.symm
 ·obtain ⟨cs, hc⟩ := h.rowt h0 ad e
  exact ⟨cs, hs6 _ _ hc (fun cs T e => by cases e; exact ⟨by decide, by decide⟩)⟩
 ·by_cases e : j = i
  ·subst e
   rw [ext_same, ext_same, ext_same]
   exact hled hL
  ·have hj' : j < i := by omega
   rw [ext_lt g gi hj', ext_lt b bi hj', ext_lt qs q hj']
   exact hled (h.led j hj')
 ·by_cases e1 : j = i
  ·subst e1
   have hk' : k < j := by omega
   rw [ext_same, ext_same, ext_lt g gi hk', ext_lt b bi hk']
   exact hn k hk'
  ·have hj' : j < i := by omega
   rw [ext_lt g gi hj', ext_lt b bi hj']
   by_cases e2 : k = i
   ·subst e2
    rw [ext_same, ext_same]
    exact ⟨fun e => (hn j hj').1 e.symm, fun e => (hn j hj').2 e.symm⟩
   ·have hk' : k < i := by omega
    rw [ext_lt g gi hk', ext_lt b bi hk']
    exact h.ne j k hj' hk' hjk
 ·by_cases e : j = i
  ·subst e; rw [ext_same]; exact hm
  ·rw [ext_lt b bi (by omega)]; exact h.mb j (by omega)
 ·by_cases e : j = i
  ·subst e; rw [ext_same, ext_same]; exact hb
  ·rw [ext_lt g gi (by omega), ext_lt b bi (by omega)]; exact h.base.2.2 j (by omega)
 ·have hk5 : Below w.heap.size w w5 := h.keep.grown hg h.keep.size (fun k e => (hty k e).1)
  exact hk5.setCell (p := ⟨t, 1, none⟩) h.base.1 _
end
end Go.Proofs.Ytfldklimlcnnnaa.XTNew
end

section
namespace Go.Proofs.Ytfldklimlcnnnaa.QTChk
open Go.RowKit Go.Proofs.Ytfldklimlcnnnaa.PHq Go.Proofs.YtfldklimlcnnnaaW.PrintWords Go.Proofs.YtfldklimlcnnnaaW.PrintLast Go.Proofs.YtfldklimlcnnnaaW.PrintMore Go.Proofs.Ytfldklimlcnnnaa.MWords
open Go.Proofs.Ytfldklimlcnnnaa.MNat Go.Proofs.Ytfldklimlcnnnaa.QNat Go.Proofs.Ytfldklimlcnnnaa.XTree Go.Proofs.Ytfldklimlcnnnaa.QTree
def OkS (x : S71) (i : Nat) : Prop := -1 ≤ x.f0 ∧ x.f0 < i ∧ 0 ≤ x.f1.f0 ∧ x.f1.f0 ≤ 1073741824 ∧ 1 ≤ x.f1.f1 ∧ x.f1.f1 ≤ 1048576
structure SvOk (sv : List S71) : Prop where
 ok : ∀ i : Nat, i < sv.length → OkS (rd_T71 sv (i : Int)) i
 len : sv.length ≤ 16
theorem SvOk.good {sv : List S71} (h : SvOk sv) : GoodSv sv := fun s h0 h1 => by
 obtain ⟨i, rfl⟩ : ∃ i : Nat, s = i := ⟨s.toNat, by omega⟩
 have := h.ok i (by omega)
 exact ⟨this.1, this.2.1⟩
theorem chk_l {sv : List S71} (h : SvOk sv) : ∀ (d k i : Nat), i + d = sv.length → d < k → quota_Check.l0 k sv sv (sv.length : Int) (i : Int) = some true := by
 intro d
 induction d with
 | zero =>
  intro k i hi hk
  obtain ⟨k, rfl⟩ : ∃ j, k = j + 1 := ⟨k - 1, by omega⟩
  simp only [quota_Check.l0]
  have := h.len
  rw [if_neg (by omega), decide_eq_true (by omega)]
 | succ d ih =>
  intro k i hi hk
  obtain ⟨k, rfl⟩ : ∃ j, k = j + 1 := ⟨k - 1, by omega⟩
  simp only [quota_Check.l0]
  have hl := h.len
  obtain ⟨h1, h2, h3, h4, h5, h6⟩ := h.ok i (by omega)
  rw [if_pos (by omega), if_pos (by omega), if_pos (by omega), if_neg (by omega), if_neg (by omega), if_neg (by omega), if_neg (by omega), if_neg (by omega), if_neg (by omega), w64 (by omega) (by omega)]
  exact ih k (i + 1) (by omega) (by omega)
theorem chk_f {sv : List S71} (h : SvOk sv) : quota_Check.f (sv.length + 1) sv = some true := by
 unfold quota_Check.f
 exact chk_l h sv.length _ 0 (by omega) (by omega)
end Go.Proofs.Ytfldklimlcnnnaa.QTChk
end

section
namespace Go.Proofs.Ytfldklimlcnnnaa.XTNew2
open Go.RowKit Go.Proofs.Ytfldklimlcnnnaa.PHq Go.Proofs.YtfldklimlcnnnaaW.PrintWords Go.Proofs.YtfldklimlcnnnaaW.PrintLast Go.Proofs.YtfldklimlcnnnaaW.PrintMore Go.Proofs.Ytfldklimlcnnnaa.MWords
open Go.Proofs.Ytfldklimlcnnnaa.MNat Go.Proofs.Ytfldklimlcnnnaa.QNat Go.Proofs.Ytfldklimlcnnnaa.QRatio Go.Proofs.Ytfldklimlcnnnaa.XRV Go.Proofs.Ytfldklimlcnnnaa.XHold Go.Proofs.Ytfldklimlcnnnaa.XWts Go.Proofs.Ytfldklimlcnnnaa.XLed Go.Proofs.Ytfldklimlcnnnaa.XFits Go.Proofs.Ytfldklimlcnnnaa.XTree Go.Proofs.Ytfldklimlcnnnaa.QTree Go.Proofs.Ytfldklimlcnnnaa.XRowP Go.Proofs.Ytfldklimlcnnnaa.XAllW Go.Proofs.Ytfldklimlcnnnaa.QTr Go.Proofs.Ytfldklimlcnnnaa.XTJoin Go.Proofs.Ytfldklimlcnnnaa.XTNew Go.Proofs.Ytfldklimlcnnnaa.QTChk
def quo (sv : List S71) (i : Nat) : Rat := wt (rd_T71 sv (i : Int)).f1
def alT (sv : List S71) (q : Rat) : Int → Rat := fun s => if s = -1 then q else quo sv s.toNat
theorem ext_self {β : Type} (f : Nat → β) (i : Nat) : ext f i (f i) = f := by
 funext j
 unfold ext
 split
 ·rename_i e; rw [e]
 ·rfl
set_option maxRecDepth 100000 in
set_option maxHeartbeats 8000000 in
theorem tnew_calls (x y : Value) (n d j : Nat) (A0 : Option Addr) (c0 : Nat) (sv : List S71) (w : World) (hv : RV w x y (limbs n) (limbs d)) (hn : F j n) (hd : F j d) (hj : j ≤ 1000) (h0 : 0 < d) (hC : Kd.C k71 w A0 sv.length sv) (hc : sv.length ≤ c0) (hS : SvOk sv) :
    Calls Try.prog 41 #[.agg #[x, y], .slice A0 sv.length c0] w fun e w' => ∃ (t : Nat) (A : Option Addr) (c m : Nat) (g b : Nat → Nat), e = .returned (.pointer (some ⟨t, 0, none⟩)) ∧ sv.length ≤ c ∧ Con w t A c m sv g b (ext (quo sv) sv.length (mkRat (n : Int) d)) (sv.length + 1) w' := by
  have mixed : Try.prog.follows Departure.mixedOrders = true := by kernel_rfl
  have hC0 := check_n j n d hn hd (by omega) h0
  obtain ⟨A1, c1, A2, c2, rfl, rfl⟩ := hv.shape
  obtain ⟨W0, hW0⟩ : ∃ W0, W0 = w.alloc (.cells #[.slice A1 (limbs n).length c1, .slice A2 (limbs d).length c2] 28) := ⟨_, rfl⟩
  have hb0 : Below w.heap.size w W0 := by rw [hW0]; exact below_alloc (Below.refl _ _) _
  have HB0 := Aside0.mk hb0
  have HM0 := Aside0.mk (show MBlk W0 w.heap.size 28 #[.slice A1 (limbs n).length c1, .slice A2 (limbs d).length c2] by rw [hW0]; exact mblk_new _ _ _)
  have HV0 := Aside0.mk (hv.below hb0)
  have HC := Aside0.mk (And.intro hC hc)
  have HS := Aside0.mk hS
  have HF := Aside0.mk (And.intro hn (And.intro hd (And.intro hj h0)))
  have HRC := Aside0.mk hC0
  have hmm := @run_makeMap Try.prog
  clear hv hn hd hj h0 hC hc hS hb0 hC0
  obtain ⟨un, hun⟩ : ∃ un, un = limbs n := ⟨_, rfl⟩
  obtain ⟨ud, hud⟩ : ∃ ud, ud = limbs d := ⟨_, rfl⟩
  rw [← hun, ← hud] at HM0 HV0 HRC hW0 ⊢
  have HU := Aside0.mk (And.intro hun hud)
  clear hun hud
  have k0 : W0.cell? ⟨w.heap.size, 0, none⟩ = some (.slice A1 un.length c1) := (mblk_cell HM0.out 0).trans rfl
  have k1 : W0.cell? ⟨w.heap.size, 1, none⟩ = some (.slice A2 ud.length c2) := (mblk_cell HM0.out 1).trans rfl
  go_enter Try.func41, Try.ntmps41
  go_upto_region 1 with fail
  rw [← hW0]
  clear hW0
  go_upto_region 3 with (first
    | (go_at_call 61; refine (quota_Check.calls _ A0 c0 sv true _ (Kd.C_below HC.out.1 HB0.out) HC.out.2 (chk_f HS.out)).mono ?_; rintro e w1 ⟨rfl, hb⟩; have HB1 := Aside0.mk (below_step HB0.out hb); have HV1 := Aside0.mk (HV0.out.below hb); have HM1 := Aside0.mk ((hb.block _ (mblk_lt HM0.out)).trans HM0.out); have k2 : w1.cell? ⟨w.heap.size, 0, none⟩ = some (.slice A1 un.length c1) := (mblk_cell HM1.out 0).trans rfl; have k3 : w1.cell? ⟨w.heap.size, 1, none⟩ = some (.slice A2 ud.length c2) := (mblk_cell HM1.out 1).trans rfl; clear hb)
    | (go_at_call 62; refine (check_rv HV1.out HRC.out).mono ?_; rintro e w2 ⟨rfl, hb⟩; have HB2 := Aside0.mk (below_step HB1.out hb); have HV2 := Aside0.mk (HV1.out.below hb); have HM2 := Aside0.mk ((hb.block _ (mblk_lt HM1.out)).trans HM1.out); clear hb))
  clear k0 k1 k2 k3 HM0 HM1 HV0 HV1 HB0 HB1
  go_wp2_with fail
  refine (clone_calls A0 c0 sv _ (Kd.C_below HC.out.1 HB2.out) HC.out.2 (by have := HS.out.len; omega)).mono ?_
  rintro e w3 ⟨A, c, rfl, hR, hb⟩
  have HB3 := Aside0.mk (below_step HB2.out hb)
  have HV3 := Aside0.mk (HV2.out.below hb)
  have HM3 := Aside0.mk ((hb.block _ (mblk_lt HM2.out)).trans HM2.out)
  have HR3 := Aside0.mk hR
  have HSB := Aside0.mk (show w.heap.size ≤ w2.heap.size from HB2.out.size)
  clear hb hR HB2 HV2 HM2
  obtain ⟨m, hmd⟩ : ∃ m, m = w3.heap.size := ⟨_, rfl⟩
  obtain ⟨t, htd⟩ : ∃ t, t = w3.heap.size + 1 := ⟨_, rfl⟩
  obtain ⟨w5, hw5⟩ : ∃ w5, w5 = (w3.alloc (.map #[] 0)).alloc (.cells #[.slice A sv.length c, .slice none 0 0, .map (some w3.heap.size)] 119) := ⟨_, rfl⟩
  have hz5 : (w3.alloc (.map #[] 0)).heap.size = t := by rw [htd]; simp
  have ha5 : Below w3.heap.size w3 w5 := by rw [hw5]; exact below_alloc (below_alloc (Below.refl _ _) _) _
  have HCON := Aside0.mk (show Con w t A c m sv (fun _ => 0) (fun _ => 0) (quo sv) 0 w5 by
    have hRR := Kd.R_reads' HR3.out
    refine ⟨⟨none, 0, ?_, VRow.nil _ _ _⟩, Kd.C_below hRR.2.2 ha5, fun h0 ad e => ?_, ?_, fun j hj => absurd hj (by omega), fun j k hj => absurd hj (by omega), fun j hj => absurd hj (by omega), ⟨by rw [htd]; have := HB3.out.size; omega, by rw [hmd]; exact HB3.out.size, fun j hj => absurd hj (by omega)⟩, below_step HB3.out ha5⟩
    · rw [hw5, hmd, ← hz5]; exact mblk_new _ _ _
    · subst e
      obtain ⟨cs, hcs⟩ := Kd.R_typed HR3.out ad.block rfl
      exact ⟨cs, (ha5.block _ (Array.getElem?_eq_some_iff.1 hcs).1).trans hcs⟩
    · have hm2 : XAt.MapIs (w3.alloc (.map #[] 0)) m [] := ⟨_, by rw [hmd]; exact World.ownsMap_made _ _ _ _, XAt.View.nil⟩
      rw [hw5]
      exact hm2.kept ((below_alloc (Below.refl _ _) _).block m hm2.lt))
  have HAL := Aside0.mk (show MBlk w5 w.heap.size 28 #[.slice A1 un.length c1, .slice A2 ud.length c2] ∧ RV w5 (.slice A1 un.length c1) (.slice A2 ud.length c2) un ud from ⟨(ha5.block _ (mblk_lt HM3.out)).trans HM3.out, HV3.out.below ha5⟩)
  have HCC := Aside0.mk (show sv.length ≤ c from (Kd.R_reads' HR3.out).2.1)
  go_upto_region 4 with fail
  rw [← hw5]
  rw [← htd]
  clear hw5 ha5 hz5 hmd htd HR3 HV3 HM3 HB3 HSB hmm
  go_wp2_with fail
  go_loopw [23] (fun v wr => ∃ (i : Nat) (g b : Nat → Nat), v = .int .i64 (i : Int) ∧ i ≤ sv.length ∧ Aside0 (Con w t A c m sv g b (quo sv) i wr) ∧ Aside0 (MBlk wr w.heap.size 28 #[.slice A1 un.length c1, .slice A2 ud.length c2] ∧ RV wr (.slice A1 un.length c1) (.slice A2 ud.length c2) un ud)) (fun v _ => sv.length - (intOf v).toNat)
  case atStart => exact ⟨0, _, _, rfl, by omega, HCON, HAL⟩
  case round =>
    clear HCON HAL
    obtain ⟨i, g, b, rfl, hi, HCON, HAL⟩ := hrel
    by_cases hlt : i < sv.length
    · have d1 : decide ((i : Int) < (sv.length : Int)) = true := decide_eq_true (by omega)
      have d2 : decide (i < sv.length) = true := decide_eq_true hlt
      have q1 : (i < sv.length) = True := eq_true hlt
      have HLT := Aside0.mk hlt
      have HLN := Aside0.mk (show i < 16 by have := HS.out.len; omega)
      obtain ⟨ad, hA0, l0, l1, l2⟩ := at_T71 (Kd.C_below HC.out.1 HCON.out.keep) (i : Int) (by omega) (by omega)
      rw [Int.toNat_natCast] at l0 l1 l2
      obtain ⟨s, hs⟩ : ∃ s, s = rd_T71 sv (i : Int) := ⟨_, rfl⟩
      rw [← hs] at l0 l1 l2
      have hok := HS.out.ok i hlt
      rw [← hs] at hok
      have hquo : quo sv i = wt s.f1 := by unfold quo; rw [hs]
      have HQ := Aside0.mk (And.intro hquo (show okW s.f1 from ⟨by have := hok.2.2.1; omega, by have := hok.2.2.2.1; omega, hok.2.2.2.2.1, by have := hok.2.2.2.2.2; omega⟩))
      subst hA0
      obtain ⟨u0, hu0⟩ : ∃ u0, u0 = wr.alloc (.cells #[.int .i64 s.f0, .int .i64 s.f1.f0, .int .i64 s.f1.f1] 71) := ⟨_, rfl⟩
      have hb0 : Below wr.heap.size wr u0 := by rw [hu0]; exact below_alloc (Below.refl _ _) _
      have hM0 : MBlk u0 wr.heap.size 71 #[.int .i64 s.f0, .int .i64 s.f1.f0, .int .i64 s.f1.f1] := by rw [hu0]; exact mblk_new _ _ _
      have x1 : u0.cell? ⟨wr.heap.size, 1, none⟩ = some (.int .i64 s.f1.f0) := (mblk_cell hM0 1).trans rfl
      have x2 : u0.cell? ⟨wr.heap.size, 2, none⟩ = some (.int .i64 s.f1.f1) := (mblk_cell hM0 2).trans rfl
      obtain ⟨B1, d1', hm, hv⟩ := HCON.out.cells
      have HCU := Aside0.mk (HCON.out.below (hb0.trans (below_drew (Below.refl u0.heap.size u0) |>.mono hb0.size)))
      have HRW := Aside0.mk (And.intro hm hv)
      have y1 : u0.cell? ⟨t, 1, none⟩ = some (.slice B1 i d1') := (mblk_cell ((hb0.block _ (mblk_lt hm)).trans hm) 1).trans rfl
      have HBU := Aside0.mk hb0
      clear hi hlt hs hok hquo hm hv hM0 hb0
      go_upto_region 7 with fail
      rw [← hu0]
      clear hu0 l0 l1 l2
      have HOF := Aside0.mk (of_w s.f1 HQ.out.2)
      have HALU := Aside0.mk (show RV u0.drew (.slice A1 un.length c1) (.slice A2 ud.length c2) un ud ∧ MBlk u0.drew w.heap.size 28 #[.slice A1 un.length c1, .slice A2 ud.length c2] from ⟨(HAL.out.2.below HBU.out).below (below_drew (Below.refl _ _)), (HBU.out.block _ (mblk_lt HAL.out.1)).trans HAL.out.1⟩)
      have HTB := Aside0.mk (show MBlk u0.drew t 119 #[.slice A sv.length c, .slice B1 i d1', .map (some m)] from (HBU.out.block _ (mblk_lt HRW.out.1)).trans HRW.out.1)
      have HVB := Aside0.mk (show VRow u0.drew w.heap.size 24 (.slice B1 i d1') ((List.range i).map fun j => .pointer (some ⟨g j, 0, none⟩)) from HRW.out.2.same fun k cs _ hc => HBU.out.block _ (Array.getElem?_eq_some_iff.1 hc).1)
      go_region_law
        (first
          | (go_simp
             go_at_call 71
             refine (of_rv HOF.out).mono ?_
             rintro e u1 ⟨p, q, rfl, hpq, hb⟩
             obtain ⟨P1, p1, P2, p2, rfl, rfl⟩ := hpq.shape
             have HPQ := Aside0.mk hpq
             have HB1 := Aside0.mk hb
             have y2 : u1.cell? ⟨t, 1, none⟩ = some (.slice B1 i d1') := (mblk_cell ((hb.block _ (mblk_lt HTB.out)).trans HTB.out) 1).trans rfl
             clear hb hpq)
          | (go_simp
             go_at_call 16
             refine (new_calls (.slice P1 (limbs s.f1.f0.toNat).length p1) (.slice P2 (limbs s.f1.f1.toNat).length p2) s.f1.f0.toNat s.f1.f1.toNat 1 u1 HPQ.out (okW_F HQ.out.2).1 (okW_F HQ.out.2).2 (by omega) (okW_pos HQ.out.2)).mono ?_
             rintro e u2 ⟨gi, bi, rfl, hL, hb, hg1, hb1⟩
             have hbb := below_step HB1.out hb
             have HB2 := Aside0.mk hbb
             have HL2 := Aside0.mk (And.intro hL (And.intro (Nat.le_trans HB1.out.size hg1) (Nat.le_trans HB1.out.size hb1)))
             have HT2 := Aside0.mk ((hbb.block _ (mblk_lt HTB.out)).trans HTB.out)
             have HV2 := Aside0.mk (show VRow u2 w.heap.size 24 (.slice B1 i d1') ((List.range i).map fun j => .pointer (some ⟨g j, 0, none⟩)) from HVB.out.same fun k cs _ hc => hbb.block _ (Array.getElem?_eq_some_iff.1 hc).1)
             have HS2 := Aside0.mk (show w.heap.size ≤ u2.heap.size from Nat.le_trans HCU.out.keep.size hbb.size)
             have y3 : u2.cell? ⟨t, 1, none⟩ = some (.slice B1 i d1') := (mblk_cell (show MBlk u2 t _ _ from HT2.out) 1).trans rfl
             have y4 : ∀ o, (u2.alloc o).cell? ⟨t, 1, none⟩ = some (.slice B1 i d1') := fun o => (mblk_cell (mblk_alloc (show MBlk u2 t _ _ from HT2.out) o) 1).trans rfl
             clear hb hL hbb hg1 hb1)
          | (refine V_append_step w.heap.size (by rfl) (.tmp 31) (.tmp 36) 117 24 (.pointer none) 8 (by rfl) Try.underlying117 (by kernel_rfl) rfl (fun _ h => by cases h) (.slice B1 i d1') ((List.range i).map fun j => .pointer (some ⟨g j, 0, none⟩)) (.pointer (some ⟨gi, 0, none⟩)) (by rfl) (by rfl) rfl (fun _ h => by cases h) HV2.out HS2.out (by rw [List.length_map, List.length_range]; have := HLN.out; omega) (by rw [List.length_map, List.length_range]; have := HLN.out; omega) ?_
             intro v1 u5 hv hg
             obtain ⟨B2, d2', e2, _⟩ := hv.shape
             rw [List.length_append, List.length_map, List.length_range] at e2
             simp only [List.length_cons, List.length_nil, Nat.zero_add] at e2
             subst e2
             have HV5 := Aside0.mk hv
             have HG5 := Aside0.mk hg
             have hT5 : MBlk u5 t 119 #[.slice A sv.length c, .slice B1 i d1', .map (some m)] := (hg.block _ (mblk_lt HT2.out) (fun e => by
               obtain ⟨_, cs, hc⟩ := HV2.out.typed t e.symm
               rw [show u2.heap[t]? = _ from HT2.out] at hc
               cases hc)).trans HT2.out
             have z1 : u5.cell? ⟨t, 1, none⟩ = some (.slice B1 i d1') := (mblk_cell hT5 1).trans rfl
             have zf : u5.frozen? ⟨t, 1, none⟩ = false := mblk_frozen hT5 1
             clear hv hg hT5))
      all_goals
        have hcon : Con w t A c m sv (ext g i gi) (ext b i bi) (quo sv) (i + 1) (u5.setCell ⟨t, 1, none⟩ (.slice B2 (i + 1) d2')) := by
          have hL : Led u2 gi bi (quo sv i) 0 [] := by rw [HQ.out.1]; exact HL2.out.1
          have hlt' : ∀ k, k < u0.drew.heap.size → k ≠ gi ∧ k ≠ bi := fun k hk => by
            have h1 := HL2.out.2.1
            have h2 := HL2.out.2.2
            omega
          have hst := (HCU.out.below HB2.out).step hL (fun j hj => by
              obtain ⟨⟨cs, h1⟩, es, cc, h2⟩ := Led.blk (HCU.out.led j hj)
              exact ⟨fun e => (hlt' _ (Array.getElem?_eq_some_iff.1 h1).1).1 e.symm, fun e => (hlt' _ (Array.getElem?_eq_some_iff.1 h2).1).2 e.symm⟩)
            (fun e => (hlt' _ HCU.out.map.lt).2 e.symm) ⟨Nat.le_trans HCU.out.keep.size HL2.out.2.1, Nat.le_trans HCU.out.keep.size HL2.out.2.2⟩ HT2.out HV2.out HV5.out HG5.out
          rw [ext_self] at hst
          exact hst
        have hal : MBlk (u5.setCell ⟨t, 1, none⟩ (.slice B2 (i + 1) d2')) w.heap.size 28 #[.slice A1 un.length c1, .slice A2 ud.length c2] ∧ RV (u5.setCell ⟨t, 1, none⟩ (.slice B2 (i + 1) d2')) (.slice A1 un.length c1) (.slice A2 ud.length c2) un ud := by
          have ha2 : MBlk u2 w.heap.size 28 #[.slice A1 un.length c1, .slice A2 ud.length c2] := (HB2.out.block _ (mblk_lt HALU.out.2)).trans HALU.out.2
          have ht5 : MBlk u5 t 119 #[.slice A sv.length c, .slice B1 i d1', .map (some m)] := (HG5.out.block _ (mblk_lt HT2.out) (fun e => by
            obtain ⟨_, cs, hc⟩ := HV2.out.typed t e.symm
            rw [show u2.heap[t]? = _ from HT2.out] at hc
            cases hc)).trans HT2.out
          have hne : ∀ k, k ≠ t → (u5.setCell ⟨t, 1, none⟩ (.slice B2 (i + 1) d2')).heap[k]? = u5.heap[k]? := fun k hk => Below.heap_setCell _ ⟨t, 1, none⟩ _ k hk
          have ha5 : MBlk u5 w.heap.size 28 #[.slice A1 un.length c1, .slice A2 ud.length c2] := (HG5.out.block _ (mblk_lt ha2) (fun e => by
            obtain ⟨_, cs, hc⟩ := HV2.out.typed _ e.symm
            rw [show u2.heap[w.heap.size]? = _ from ha2] at hc
            cases hc)).trans ha2
          refine ⟨(hne _ (fun e => ?_)).trans ha5, (HALU.out.1.below HB2.out).near fun k hk hn => (hne k (fun e => hn (by rw [e]; exact noLimb_tree HT2.out))).trans (HG5.out.block k hk (fun e => hn (HV2.out.noLimb e.symm)))⟩
          exact mblk_ne ha5 ht5 (by decide) e
        have HCN := Aside0.mk hcon
        have HAN := Aside0.mk hal
        clear hcon hal
        have hw : wrap64 ((i : Int) + 1) = ((i + 1 : Nat) : Int) := by have := HLN.out; rw [w64 (by omega) (by omega)]; omega
        go_wp2_with fail
        go_roundw
        case rel => exact ⟨i + 1, _, _, by first | rw [hw] | rfl | (simp; done), by have := HLT.out; omega, HCN, HAN⟩
        case measure =>
          rw [hw]
          show sv.length - (i + 1) < sv.length - i
          have := HLT.out
          omega
    · have d1 : decide ((i : Int) < (sv.length : Int)) = false := decide_eq_false (by omega)
      have d2 : decide (i < sv.length) = false := decide_eq_false hlt
      obtain rfl : i = sv.length := by omega
      obtain ⟨B1, d1', hm, hv⟩ := HCON.out.cells
      have HLN := Aside0.mk (show sv.length < 17 by have := HS.out.len; omega)
      have HCU := Aside0.mk (HCON.out.below (below_drew (Below.refl wr.heap.size wr)))
      have HTB := Aside0.mk (show MBlk wr.drew t 119 #[.slice A sv.length c, .slice B1 sv.length d1', .map (some m)] from hm)
      have HVB := Aside0.mk (show VRow wr.drew w.heap.size 24 (.slice B1 sv.length d1') ((List.range sv.length).map fun j => .pointer (some ⟨g j, 0, none⟩)) from hv.same fun k cs _ hc => rfl)
      have y1 : wr.cell? ⟨t, 1, none⟩ = some (.slice B1 sv.length d1') := (mblk_cell hm 1).trans rfl
      have x1 : wr.cell? ⟨w.heap.size, 0, none⟩ = some (.slice A1 un.length c1) := (mblk_cell HAL.out.1 0).trans rfl
      have x2 : wr.cell? ⟨w.heap.size, 1, none⟩ = some (.slice A2 ud.length c2) := (mblk_cell HAL.out.1 1).trans rfl
      have HRA := Aside0.mk (show RV wr.drew (.slice A1 un.length c1) (.slice A2 ud.length c2) (limbs n) (limbs d) by rw [← HU.out.1, ← HU.out.2]; exact HAL.out.2.below (below_drew (Below.refl _ _)))
      clear hlt hi hm hv
      go_upto_region 9 with fail
      go_region_law
        (first
          | (go_simp
             go_at_call 16
             refine (new_calls (.slice A1 un.length c1) (.slice A2 ud.length c2) n d j _ HRA.out HF.out.1 HF.out.2.1 (by have := HF.out.2.2.1; omega) HF.out.2.2.2).mono ?_
             rintro e u2 ⟨gi, bi, rfl, hL, hb, hg1, hb1⟩
             have HB2 := Aside0.mk hb
             have HL2 := Aside0.mk (And.intro hL (And.intro hg1 hb1))
             have HT2 := Aside0.mk ((hb.block _ (mblk_lt HTB.out)).trans HTB.out)
             have HV2 := Aside0.mk (show VRow u2 w.heap.size 24 (.slice B1 sv.length d1') ((List.range sv.length).map fun j => .pointer (some ⟨g j, 0, none⟩)) from HVB.out.same fun k cs _ hc => hb.block _ (Array.getElem?_eq_some_iff.1 hc).1)
             have HS2 := Aside0.mk (show w.heap.size ≤ u2.heap.size from Nat.le_trans HCU.out.keep.size hb.size)
             have y3 : u2.cell? ⟨t, 1, none⟩ = some (.slice B1 sv.length d1') := (mblk_cell (show MBlk u2 t _ _ from HT2.out) 1).trans rfl
             have y4 : ∀ o, (u2.alloc o).cell? ⟨t, 1, none⟩ = some (.slice B1 sv.length d1') := fun o => (mblk_cell (mblk_alloc (show MBlk u2 t _ _ from HT2.out) o) 1).trans rfl
             clear hb hL hg1 hb1)
          | (refine V_append_step w.heap.size (by rfl) (.tmp 45) (.tmp 48) 117 24 (.pointer none) 8 (by rfl) Try.underlying117 (by kernel_rfl) rfl (fun _ h => by cases h) (.slice B1 sv.length d1') ((List.range sv.length).map fun j => .pointer (some ⟨g j, 0, none⟩)) (.pointer (some ⟨gi, 0, none⟩)) (by rfl) (by rfl) rfl (fun _ h => by cases h) HV2.out HS2.out (by rw [List.length_map, List.length_range]; have := HLN.out; omega) (by rw [List.length_map, List.length_range]; have := HLN.out; omega) ?_
             intro v1 u5 hv hg
             obtain ⟨B2, d2', e2, _⟩ := hv.shape
             rw [List.length_append, List.length_map, List.length_range] at e2
             simp only [List.length_cons, List.length_nil, Nat.zero_add] at e2
             subst e2
             have HV5 := Aside0.mk hv
             have HG5 := Aside0.mk hg
             have hT5 : MBlk u5 t 119 #[.slice A sv.length c, .slice B1 sv.length d1', .map (some m)] := (hg.block _ (mblk_lt HT2.out) (fun e => by
               obtain ⟨_, cs, hc⟩ := HV2.out.typed t e.symm
               rw [show u2.heap[t]? = _ from HT2.out] at hc
               cases hc)).trans HT2.out
             have z1 : u5.cell? ⟨t, 1, none⟩ = some (.slice B1 sv.length d1') := (mblk_cell hT5 1).trans rfl
             have zf : u5.frozen? ⟨t, 1, none⟩ = false := mblk_frozen hT5 1
             clear hv hg hT5))
      all_goals
        have hlt' : ∀ k, k < wr.drew.heap.size → k ≠ gi ∧ k ≠ bi := fun k hk => by
          have h1 := HL2.out.2.1
          have h2 := HL2.out.2.2
          omega
        have hst := (HCU.out.below HB2.out).step HL2.out.1 (fun j hj => by
            obtain ⟨⟨cs, h1⟩, es, cc, h2⟩ := Led.blk (HCU.out.led j hj)
            exact ⟨fun e => (hlt' _ (Array.getElem?_eq_some_iff.1 h1).1).1 e.symm, fun e => (hlt' _ (Array.getElem?_eq_some_iff.1 h2).1).2 e.symm⟩)
          (fun e => (hlt' _ HCU.out.map.lt).2 e.symm) ⟨Nat.le_trans HCU.out.keep.size HL2.out.2.1, Nat.le_trans HCU.out.keep.size HL2.out.2.2⟩ HT2.out HV2.out HV5.out HG5.out
        have HST := Aside0.mk hst
        clear hlt' hst
        go_wp2_with fail
        go_ret
        exact ⟨t, A, c, m, _, _, rfl, HCC.out, HST.out⟩
end Go.Proofs.Ytfldklimlcnnnaa.XTNew2
end

section
namespace Go.Proofs.Ytfldklimlcnnnaa.XTMade
open Go.RowKit Go.Proofs.Ytfldklimlcnnnaa.PHq Go.Proofs.YtfldklimlcnnnaaW.PrintWords Go.Proofs.YtfldklimlcnnnaaW.PrintLast Go.Proofs.YtfldklimlcnnnaaW.PrintMore Go.Proofs.Ytfldklimlcnnnaa.MWords
open Go.Proofs.Ytfldklimlcnnnaa.MNat Go.Proofs.Ytfldklimlcnnnaa.QNat Go.Proofs.Ytfldklimlcnnnaa.QRatio Go.Proofs.Ytfldklimlcnnnaa.XRV Go.Proofs.Ytfldklimlcnnnaa.XHold Go.Proofs.Ytfldklimlcnnnaa.XWts Go.Proofs.Ytfldklimlcnnnaa.XLed Go.Proofs.Ytfldklimlcnnnaa.XFits Go.Proofs.Ytfldklimlcnnnaa.QHold Go.Proofs.Ytfldklimlcnnnaa.XTree Go.Proofs.Ytfldklimlcnnnaa.QTree Go.Proofs.Ytfldklimlcnnnaa.XRowP Go.Proofs.Ytfldklimlcnnnaa.XAllW Go.Proofs.Ytfldklimlcnnnaa.QTr Go.Proofs.Ytfldklimlcnnnaa.XTJoin Go.Proofs.Ytfldklimlcnnnaa.XTNew Go.Proofs.Ytfldklimlcnnnaa.QTChk Go.Proofs.Ytfldklimlcnnnaa.XTNew2
theorem quo_okW {sv : List S71} (h : SvOk sv) {i : Nat} (hi : i < sv.length) : okW (rd_T71 sv (i : Int)).f1 := by
 have := h.ok i hi
 unfold OkS at this
 unfold okW
 omega
theorem al_ext (sv : List S71) (q : Rat) {s : Int} (hs : inR sv.length s) : ext (quo sv) sv.length q (ix sv.length s) = alT sv q s := by
 unfold alT ix
 by_cases e : s = -1
 ·rw [if_pos e, if_pos e, ext_same]
 ·rw [if_neg e, if_neg e, ext_lt]
  have := hs.1
  have := hs.2
  omega
theorem ix_lt {n : Nat} {s : Int} (hs : inR n s) : ix n s < n + 1 := by
 unfold ix
 have := hs.1
 have := hs.2
 split <;> omega
theorem ix_inj {n : Nat} {s s' : Int} (hs : inR n s) (hs' : inR n s') (h : ix n s = ix n s') : s = s' := by
 unfold ix at h
 have := hs.1
 have := hs.2
 have := hs'.1
 have := hs'.2
 split at h <;> split at h <;> omega
theorem range_at (g : Nat → Nat) {n i : Nat} (hi : i < n) : ((List.range n).map fun j => (Value.pointer (some ⟨g j, 0, none⟩)))[i]? = some (.pointer (some ⟨g i, 0, none⟩)) := by
 rw [List.getElem?_map, List.getElem?_range hi]
 rfl
theorem con_tree {w W : World} {t : Nat} {A : Option Addr} {c m : Nat} {sv : List S71} {g b : Nat → Nat} {q : Rat} (hS : SvOk sv) (h : Con w t A c m sv g b (ext (quo sv) sv.length q) (sv.length + 1) W) (hq : Sz 3000 q) :
  ∃ M : Tm, M.t = t ∧ TH W M sv (alT sv q) [] 0 ∧ (∀ k, M.wr sv.length k → w.heap.size ≤ k) ∧ Below w.heap.size w W := by
 obtain ⟨A1, c1, h1, h2⟩ := h.cells
 rcases h2.own.2 with ⟨_, h0⟩ | ⟨Al, cap, cur, e, hb, hc, hcap, _, _, htake⟩
 ·rw [List.length_map, List.length_range] at h0
  omega
 rw [List.length_map, List.length_range] at e hcap
 injection e with e1 e2 e3
 subst e1
 have hcur : ∀ s, inR sv.length s → cur[ix sv.length s]? = some (.pointer (some ⟨g (ix sv.length s), 0, none⟩)) := fun s hs => by
  have h5 := range_at g (ix_lt hs)
  rw [← htake, List.length_map, List.length_range, List.getElem?_take, if_pos (by have := ix_lt hs; omega)] at h5
  simpa using h5
 have hin : ∀ s, inR sv.length s → ix sv.length s < sv.length + 1 := fun s hs => ix_lt hs
 refine ⟨⟨t, A, c, Al, c1, m, fun s => g (ix sv.length s), fun s => b (ix sv.length s)⟩, rfl, ⟨[], fun _ => [], ?_, ?_, hS.good⟩, ?_, h.keep⟩
 ·refine ⟨h1, by rw [e3]; exact hcap, h.row, fun h0 ad e => ?_, ⟨cur, _, hc, hcur⟩, h.map, fun s hs => ?_, fun s s' hs hs' hne => h.ne _ _ (hin s hs) (hin s' hs') (fun e => hne (ix_inj hs hs' e)), fun s hs => h.mb _ (hin s hs), by have := hS.len; omega⟩
  ·obtain ⟨cs, hcs⟩ := h.rowt h0 ad e
   exact ⟨cs, _, hcs⟩
  ·have := h.led _ (hin s hs)
   rw [al_ext sv q hs] at this
   exact this
 ·refine ⟨List.Perm.refl _, fun s hs => List.Perm.refl _, by simp, fun x hx => (by cases hx), fun x hx => (by cases hx), Nat.le_refl _, fun s hs => ?_, fun s hs => ?_⟩
  ·show (0 : Rat) ≤ alT sv q s
   unfold alT
   split
   ·exact hq.1
   ·exact wt_nonneg _
  ·unfold alT
   split
   ·exact hq
   ·rename_i hne
    have hi : s.toNat < sv.length := by have := hs.1; have := hs.2; omega
    have hw := quo_okW hS hi
    exact sz_mono (mk_sz 1 _ _ (okW_F hw).1 (okW_F hw).2 (okW_pos hw)) (by omega)
 ·rintro k (rfl | ⟨s, hs, rfl | rfl⟩)
  ·exact h.base.2.1
  ·exact (h.base.2.2 _ (hin s hs)).1
  ·exact (h.base.2.2 _ (hin s hs)).2
theorem new_tree (x y : Value) (n d j : Nat) (A0 : Option Addr) (c0 : Nat) (sv : List S71) (w : World) (hv : RV w x y (limbs n) (limbs d)) (hn : F j n) (hd : F j d) (hj : j ≤ 1000) (h0 : 0 < d) (hC : Kd.C k71 w A0 sv.length sv) (hc : sv.length ≤ c0) (hS : SvOk sv) :
  Calls Try.prog 41 #[.agg #[x, y], .slice A0 sv.length c0] w fun e w' => ∃ M : Tm, e = .returned (.pointer (some ⟨M.t, 0, none⟩)) ∧ TH w' M sv (alT sv (mkRat (n : Int) d)) [] 0 ∧ (∀ k, M.wr sv.length k → w.heap.size ≤ k) ∧ Below w.heap.size w w' := by
 refine (tnew_calls x y n d j A0 c0 sv w hv hn hd hj h0 hC hc hS).mono ?_
 rintro e w' ⟨t, A, c, m, g, b, rfl, _, hcon⟩
 obtain ⟨M, rfl, h1, h2, h3⟩ := con_tree hS hcon (sz_mono (mk_sz j n d hn hd h0) (by omega))
 exact ⟨M, rfl, h1, h2, h3⟩
end Go.Proofs.Ytfldklimlcnnnaa.XTMade
end

section
namespace Go.Proofs.Ytfldklimlcnnnaa.QServ
open Go.RowKit Go.Proofs.Ytfldklimlcnnnaa.PHq Go.Proofs.YtfldklimlcnnnaaW.PrintWords Go.Proofs.YtfldklimlcnnnaaW.PrintLast Go.Proofs.YtfldklimlcnnnaaW.PrintMore Go.Proofs.Ytfldklimlcnnnaa.MWords
open Go.Proofs.Ytfldklimlcnnnaa.MNat Go.Proofs.Ytfldklimlcnnnaa.QNat Go.Proofs.Ytfldklimlcnnnaa.QRef Go.Proofs.Ytfldklimlcnnnaa.QBits Go.Proofs.Ytfldklimlcnnnaa.XTree Go.Proofs.Ytfldklimlcnnnaa.QTree Go.Proofs.Ytfldklimlcnnnaa.QTChk
theorem one_f (k n d : Nat) (hn : n < 18446744073709551616) (hd : d < 18446744073709551616) (hk : 5 ≤ k) : regattalaw13_one.f k (n : Int) (d : Int) = some (limbs n, limbs d) := by
 unfold regattalaw13_one.f
 rw [rof_f k n hn hk, rof_f k d hd hk]
 rfl
theorem tm_lo (a m : Int) (h : 0 < m) : -m < a.tmod m ∧ a.tmod m < m := by
 refine ⟨?_, Int.tmod_lt_of_pos a h⟩
 have := Int.lt_tmod_of_pos a h
 omega
theorem par_ok (p : Int) (i : Nat) (hi : i ≤ 8) : -1 ≤ wrap64 ((Int.tmod (wrap64 ((wrap64 ((Int.tmod p (wrap64 ((i : Int) + 1))) + i)) + 1)) (wrap64 ((i : Int) + 1))) - 1) ∧ wrap64 ((Int.tmod (wrap64 ((wrap64 ((Int.tmod p (wrap64 ((i : Int) + 1))) + i)) + 1)) (wrap64 ((i : Int) + 1))) - 1) < i := by
 have e : wrap64 ((i : Int) + 1) = (i : Int) + 1 := QBits.w64 (by omega) (by omega)
 rw [e]
 have h1 := tm_lo p ((i : Int) + 1) (by omega)
 generalize p.tmod ((i : Int) + 1) = r at *
 have e1 : wrap64 (r + i) = r + i := QBits.w64 (by omega) (by omega)
 rw [e1]
 have e2 : wrap64 (r + i + 1) = r + i + 1 := QBits.w64 (by omega) (by omega)
 rw [e2]
 have h2 := tm_lo (r + i + 1) ((i : Int) + 1) (by omega)
 have h3 : 0 ≤ (r + i + 1).tmod ((i : Int) + 1) := Int.tmod_nonneg _ (by omega)
 generalize (r + i + 1).tmod ((i : Int) + 1) = r2 at *
 rw [QBits.w64 (by omega) (by omega)]
 omega
theorem ok_snoc {sv : List S71} {x : S71} (h : ∀ i : Nat, i < sv.length → OkS (rd_T71 sv (i : Int)) i) (hx : OkS x sv.length) : ∀ i : Nat, i < (sv ++ [x]).length → OkS (rd_T71 (sv ++ [x]) (i : Int)) i := by
 intro i hi
 rw [List.length_append, List.length_singleton] at hi
 unfold rd_T71
 rw [Int.toNat_natCast]
 by_cases e : i = sv.length
 ·subst e
  rw [List.getD_eq_getElem?_getD, List.getElem?_append_right (Nat.le_refl _), Nat.sub_self]
  exact hx
 ·have := h i (by omega)
  unfold rd_T71 at this
  rw [Int.toNat_natCast] at this
  rw [List.getD_eq_getElem?_getD, List.getElem?_append_left (by omega), ← List.getD_eq_getElem?_getD]
  exact this
end Go.Proofs.Ytfldklimlcnnnaa.QServ
end

section
namespace Go.Proofs.Ytfldklimlcnnnaa.XQAwake
open Go.RowKit Go.Proofs.Ytfldklimlcnnnaa.PHq Go.Proofs.YtfldklimlcnnnaaW.PrintWords Go.Proofs.YtfldklimlcnnnaaW.PrintLast Go.Proofs.YtfldklimlcnnnaaW.PrintMore Go.Proofs.Ytfldklimlcnnnaa.MWords
open Go.Proofs.Ytfldklimlcnnnaa.MNat Go.Proofs.Ytfldklimlcnnnaa.QNat Go.Proofs.Ytfldklimlcnnnaa.QRatio Go.Proofs.Ytfldklimlcnnnaa.XRV Go.Proofs.Ytfldklimlcnnnaa.XHold Go.Proofs.Ytfldklimlcnnnaa.XJoin Go.Proofs.Ytfldklimlcnnnaa.XTree Go.Proofs.Ytfldklimlcnnnaa.QTree Go.Proofs.Ytfldklimlcnnnaa.XOf Go.Proofs.Ytfldklimlcnnnaa.XCollect Go.Proofs.Ytfldklimlcnnnaa.QTr Go.Proofs.Ytfldklimlcnnnaa.XTJoin Go.Proofs.Ytfldklimlcnnnaa.QTChk Go.Proofs.Ytfldklimlcnnnaa.XTNew2 Go.Proofs.Ytfldklimlcnnnaa.XTMade Go.Proofs.Ytfldklimlcnnnaa.QServ
def sv2 : List S71 := [⟨-1, ⟨1, 2⟩⟩, ⟨0, ⟨1, 3⟩⟩]
theorem sv2_ok : SvOk sv2 := ⟨fun i hi => by
 match i, hi with
 | 0, _ => exact ⟨by decide, by decide, by decide, by decide, by decide, by decide⟩
 | 1, _ => exact ⟨by decide, by decide, by decide, by decide, by decide, by decide⟩
 | i + 2, hi => exact absurd hi (by simp [sv2]), by decide⟩
theorem path2 : pathS sv2 1 = [1, 0, -1] := by decide
theorem join_a : joinTE sv2 (alT sv2 (mkRat 1 1)) [] 1 1 ⟨1, 2⟩ = 18 := by
 have h : fitsP sv2 (alT sv2 (mkRat 1 1)) [] 1 (QRatio.wt ⟨1, 2⟩) = false := by
  unfold fitsP
  rw [path2, List.all_eq_false]
  refine ⟨1, by simp, ?_⟩
  show ¬ decide ((0 : Rat) + mkRat 1 2 ≤ mkRat 1 3) = true
  rw [Rat.zero_add]
  decide +kernel
 unfold joinTE
 rw [h]
 decide
theorem join_b : joinTE sv2 (alT sv2 (mkRat 1 1)) [] 1 1 ⟨1, 3⟩ = 0 := by
 have h : fitsP sv2 (alT sv2 (mkRat 1 1)) [] 1 (QRatio.wt ⟨1, 3⟩) = true := by
  unfold fitsP
  rw [path2, List.all_eq_true]
  intro y hy
  rcases List.mem_cons.1 hy with rfl | hy
  ·show decide ((0 : Rat) + mkRat 1 3 ≤ mkRat 1 3) = true
   rw [Rat.zero_add]
   decide +kernel
  rcases List.mem_cons.1 hy with rfl | hy
  ·show decide ((0 : Rat) + mkRat 1 3 ≤ mkRat 1 2) = true
   rw [Rat.zero_add]
   decide +kernel
  rw [List.mem_singleton.1 hy]
  show decide ((0 : Rat) + mkRat 1 3 ≤ mkRat 1 1) = true
  rw [Rat.zero_add]
  decide +kernel
 unfold joinTE
 rw [h]
 decide
theorem same_l (l : List Int) (hl : l.length ≤ 1000) : ∀ (d k i : Nat), i + d = l.length → d < k → regattaref07_Same.l0 k l l (i : Int) = some true := by
 intro d
 induction d with
 | zero =>
  intro k i hi hk
  obtain ⟨k, rfl⟩ : ∃ j, k = j + 1 := ⟨k - 1, by omega⟩
  simp only [regattaref07_Same.l0]
  rw [if_neg (by omega)]
 | succ d ih =>
  intro k i hi hk
  obtain ⟨k, rfl⟩ : ∃ j, k = j + 1 := ⟨k - 1, by omega⟩
  simp only [regattaref07_Same.l0]
  rw [if_pos (by omega), if_pos (by omega), if_pos (by omega), if_pos trivial, w64 (by omega) (by omega)]
  exact ih k (i + 1) (by omega) (by omega)
theorem same_f (l : List Int) (hl : l.length ≤ 1000) : regattaref07_Same.f (l.length + 1) l l = some true := by
 unfold regattaref07_Same.f
 rw [if_pos rfl]
 exact same_l l hl l.length _ 0 (by omega) (by omega)
theorem C_sv2 {W : World} {k : Nat} (h : MBlk W k 71 #[.int .i64 (-1), .int .i64 1, .int .i64 2, .int .i64 0, .int .i64 1, .int .i64 3]) : Kd.C k71 W (some ⟨k, 0, none⟩) sv2.length sv2 := by
 have ea : ∀ i : Nat, (⟨k, 0, none⟩ : Addr).add i = ⟨k, i, none⟩ := fun i => by
  unfold Addr.add
  split
  ·rename_i h; simp [h]
  ·simp
 refine ⟨rfl, by decide, fun _ => ⟨⟨k, 0, none⟩, rfl, fun j p hj => ?_⟩⟩
 match j, hj with
 | 0, hj =>
  obtain rfl : (⟨-1, ⟨1, 2⟩⟩ : S71) = p := Option.some.inj hj
  refine ⟨_, rfl, k71_mk W _, fun i u hu => ?_⟩
  rw [ea]
  match i, hu with
  | 0, hu => exact (mblk_cell h 0).trans hu
  | 1, hu => exact (mblk_cell h 1).trans hu
  | 2, hu => exact (mblk_cell h 2).trans hu
  | i + 3, hu => simp at hu
 | 1, hj =>
  obtain rfl : (⟨0, ⟨1, 3⟩⟩ : S71) = p := Option.some.inj hj
  refine ⟨_, rfl, k71_mk W _, fun i u hu => ?_⟩
  rw [ea]
  match i, hu with
  | 0, hu => exact (mblk_cell h 3).trans hu
  | 1, hu => exact (mblk_cell h 4).trans hu
  | 2, hu => exact (mblk_cell h 5).trans hu
  | i + 3, hu => simp at hu
 | j + 2, hj => simp [sv2] at hj
theorem C_p3 {W : World} {k : Nat} (h : MBlk W k 3 #[.int .i64 1, .int .i64 0, .int .i64 (-1)]) : Kd.C (Kd.int .i64) W (some ⟨k, 0, none⟩) ([1, 0, -1] : List Int).length [1, 0, -1] := by
 have ea : ∀ i : Nat, (⟨k, 0, none⟩ : Addr).add i = ⟨k, i, none⟩ := fun i => by
  unfold Addr.add
  split
  ·rename_i h; simp [h]
  ·simp
 refine ⟨rfl, by decide, fun _ => ⟨⟨k, 0, none⟩, rfl, fun j p hj => ?_⟩⟩
 refine ⟨[.int .i64 p], rfl, rfl, fun i u hu => ?_⟩
 match i, hu with
 | 0, hu =>
  obtain rfl : Value.int .i64 p = u := Option.some.inj hu
  rw [ea]
  match j, hj with
  | 0, hj => obtain rfl : (1 : Int) = p := Option.some.inj hj; exact (mblk_cell h 0).trans rfl
  | 1, hj => obtain rfl : (0 : Int) = p := Option.some.inj hj; exact (mblk_cell h 1).trans rfl
  | 2, hj => obtain rfl : (-1 : Int) = p := Option.some.inj hj; exact (mblk_cell h 2).trans rfl
  | j + 3, hj => simp at hj
 | i + 1, hu => simp at hu
set_option maxRecDepth 100000 in
set_option maxHeartbeats 4000000 in
theorem awake_calls (w : World) : Calls Try.prog 39 #[] w fun e w' => e = .returned (.bool true) ∧ Below w.heap.size w w' := by
 obtain ⟨w1, hw1⟩ : ∃ w1, w1 = w.alloc (.cells #[.int .i64 (-1), .int .i64 1, .int .i64 2, .int .i64 0, .int .i64 1, .int .i64 3] 71) := ⟨_, rfl⟩
 have HB1 := Aside0.mk (show Below w.heap.size w w1 by rw [hw1]; exact below_alloc (Below.refl _ _) _)
 have HM1 := Aside0.mk (show MBlk w1 w.heap.size 71 #[.int .i64 (-1), .int .i64 1, .int .i64 2, .int .i64 0, .int .i64 1, .int .i64 3] by rw [hw1]; exact mblk_new _ _ _)
 have HJ := Aside0.mk (And.intro join_a join_b)
 go_enter Try.func39, Try.ntmps39
 go_upto_region 2 with fail
 rw [← hw1]
 clear hw1
 go_wp2_with fail
 refine (regattalaw13_one.calls 5 ((1 : Nat) : Int) ((1 : Nat) : Int) _ _ _ (one_f 5 1 1 (by decide) (by decide) (Nat.le_refl _))).mono ?_
 rintro e w2 ⟨v0, v1, rfl, h1, h2, hb⟩
 have HV2 := Aside0.mk (RV.ofR h1 h2)
 obtain ⟨P1, p1, P2, p2, rfl, rfl⟩ := HV2.out.shape
 have HB2 := Aside0.mk (below_step HB1.out hb)
 have HM2 := Aside0.mk ((hb.block _ (mblk_lt HM1.out)).trans HM1.out)
 clear h1 h2 hb HM1 HB1
 go_wp2_with fail
 have hnew := new_tree (.slice P1 (limbs 1).length p1) (.slice P2 (limbs 1).length p2) 1 1 2 (some ⟨w.heap.size, 0, none⟩) 2 sv2 w2 HV2.out (show (1 : Nat) < 4294967296 ^ 2 by decide) (show (1 : Nat) < 4294967296 ^ 2 by decide) (by decide) (by decide) (C_sv2 HM2.out) (by decide) sv2_ok
 refine hnew.mono ?_
 clear hnew
 rintro e w3 ⟨M, rfl, hT, hwr, hb⟩
 have HT3 := Aside0.mk hT
 have HWR := Aside0.mk hwr
 have HB3 := Aside0.mk (below_step HB2.out hb)
 have HSZ := Aside0.mk HB2.out.size
 have HS3 := Aside0.mk hb.size
 clear hT hwr hb
 go_wp2_with fail
 refine (tjoin_calls HT3.out (by decide) 1 1 ⟨1, 2⟩ (wfI_of (by decide) (by decide))).mono ?_
 rintro e w4 ⟨rfl, hT, hk⟩
 have hja : joinTH sv2 (alT sv2 (mkRat ((1 : Nat) : Int) 1)) [] 1 1 ⟨1, 2⟩ = [] := by
  unfold joinTH
  rw [if_neg (by rw [show joinTE sv2 (alT sv2 (mkRat ((1 : Nat) : Int) 1)) [] 1 1 ⟨1, 2⟩ = 18 from HJ.out.1]; decide)]
 rw [hja] at hT
 rw [show joinTE sv2 (alT sv2 (mkRat ((1 : Nat) : Int) 1)) [] 1 1 ⟨1, 2⟩ = 18 from HJ.out.1]
 have HT4 := Aside0.mk hT
 have HK4 := Aside0.mk hk
 clear hT hk hja
 go_wp2_with fail
 refine (tjoin_calls HT4.out (by decide) 1 1 ⟨1, 3⟩ (wfI_of (by decide) (by decide))).mono ?_
 rintro e w5 ⟨rfl, hT, hk⟩
 rw [show joinTE sv2 (alT sv2 (mkRat ((1 : Nat) : Int) 1)) [] 1 1 ⟨1, 3⟩ = 0 from HJ.out.2]
 have HB5 := Aside0.mk (show Below w.heap.size w w5 from by
  have hkk := HK4.out.trans hk
  have h1 : Below w.heap.size w3 w5 := hkk.below (fun k hk => Nat.le_trans HSZ.out (HWR.out k hk)) HB3.out.size
  exact ⟨h1.os.trans HB3.out.os, h1.tape.trans HB3.out.tape, h1.output.trans HB3.out.output, Nat.le_trans HB3.out.size h1.size, fun k hk => (h1.block k hk).trans (HB3.out.block k hk)⟩)
 obtain ⟨at_, ls, ht, hi, hg⟩ := hT
 have HT5 := Aside0.mk (And.intro ht hg)
 clear ht hi hg hk
 go_wp2_with (first
  | (go_at_call 43; have hp := Path_calls HT5.out.1 HT5.out.2 1; rw [show pathT sv2 1 = [1, 0, -1] from path2] at hp; refine hp.mono ?_; clear hp; rintro e w6 ⟨A6, c6, rfl, hl, hC, hb⟩; have HC6 := Aside0.mk (And.intro hl hC); have HB6 := Aside0.mk (below_step HB5.out hb); clear hl hC hb)
  | (go_at_call 54; refine (regattaref07_Same.calls 4 A6 c6 [1, 0, -1] (some ⟨w6.heap.size, 0, none⟩) 3 [1, 0, -1] true _ (Kd.C_below HC6.out.2 (below_alloc (Below.refl _ _) _)) HC6.out.1 (C_p3 (mblk_new _ _ _)) (by decide) (same_f _ (by decide))).mono ?_; rintro e w7 ⟨rfl, hd⟩; have HB7 := Aside0.mk (below_step (below_alloc HB6.out _) hd.below); clear hd))
 go_ret
 exact ⟨by simp, HB7.out⟩
end Go.Proofs.Ytfldklimlcnnnaa.XQAwake
end

section
namespace Go.Proofs.Ytfldklimlcnnnaa.QSums
open Go.RowKit Go.Proofs.Ytfldklimlcnnnaa.PHq Go.Proofs.YtfldklimlcnnnaaW.PrintWords Go.Proofs.YtfldklimlcnnnaaW.PrintLast Go.Proofs.YtfldklimlcnnnaaW.PrintMore Go.Proofs.Ytfldklimlcnnnaa.MWords
open Go.Proofs.Ytfldklimlcnnnaa.MNat Go.Proofs.Ytfldklimlcnnnaa.QNat Go.Proofs.Ytfldklimlcnnnaa.QRatio Go.Proofs.Ytfldklimlcnnnaa.XRV Go.Proofs.Ytfldklimlcnnnaa.XHold Go.Proofs.Ytfldklimlcnnnaa.XWts Go.Proofs.Ytfldklimlcnnnaa.XLed Go.Proofs.Ytfldklimlcnnnaa.XJoin Go.Proofs.Ytfldklimlcnnnaa.QHold Go.Proofs.Ytfldklimlcnnnaa.XTree Go.Proofs.Ytfldklimlcnnnaa.QTree Go.Proofs.Ytfldklimlcnnnaa.XOf Go.Proofs.Ytfldklimlcnnnaa.QTr Go.Proofs.Ytfldklimlcnnnaa.XTJoin Go.Proofs.Ytfldklimlcnnnaa.QTChk Go.Proofs.Ytfldklimlcnnnaa.XTNew2 Go.Proofs.Ytfldklimlcnnnaa.XTMade Go.Proofs.Ytfldklimlcnnnaa.QServ
section
variable {sv : List S71} {H : List Hol} {i : Nat}
def w64th : S34 := ⟨1, 64⟩
def cnt (sv : List S71) (H : List Hol) (y : Int) : Nat := (H.filter (onB sv y)).length
def OneQ (sv : List S71) : Prop := ∀ j : Nat, j < sv.length → (rd_T71 sv (j : Int)).f1 = ⟨1, 1⟩
structure Sums (H : List Hol) (i : Nat) : Prop where
 len : H.length = i
 hd : ∀ x ∈ H, x.hd = newH w64th
 id : ∀ x ∈ H, x.id < (i : Int)
theorem cnt_le (sv : List S71) (H : List Hol) (y : Int) : cnt sv H y ≤ H.length := List.length_filter_le _ _
theorem held_all : ∀ l : List (Int × Hd), (∀ z ∈ l, z.2 = newH w64th) → heldL l = mkRat (l.length : Int) 64
 | [], _ => by
  show (0 : Rat) = mkRat 0 64
  rw [Rat.zero_mkRat]
 | z :: l, h => by
  rw [held_cons, held_all l (fun y hy => h y (List.mem_cons_of_mem _ hy)), h z List.mem_cons_self, show wt (hv (newH w64th)) = mkRat ((1 : Nat) : Int) 64 from rfl, mk_addD 1 l.length 64 (by decide), List.length_cons, Nat.add_comm 1]
theorem Sums.held (h : Sums H i) (y : Int) : heldH sv H y = mkRat (cnt sv H y : Int) 64 := by
 unfold heldH
 rw [held_all _ (fun z hz => by
  obtain ⟨x, hx, _, rfl⟩ := sub_mem.1 hz
  exact h.hd x hx)]
 unfold sub cnt
 rw [List.length_map]
theorem cnt_app (x : Hol) (y : Int) : cnt sv (H ++ [x]) y = cnt sv H y + if y ∈ pathS sv x.srv then 1 else 0 := by
 unfold cnt
 rw [List.filter_append, List.length_append]
 congr 1
 by_cases h : y ∈ pathS sv x.srv
 ·rw [if_pos h, List.filter_cons, if_pos (onB_iff.2 h)]; rfl
 ·rw [if_neg h, List.filter_cons, if_neg (fun k => h (onB_iff.1 k))]; rfl
theorem one_al (hQ : OneQ sv) {y : Int} (hy : inR sv.length y) : alT sv (mkRat ((1 : Nat) : Int) 1) y = mkRat ((1 : Nat) : Int) 1 := by
 unfold alT
 by_cases e : y = -1
 ·rw [if_pos e]
 ·rw [if_neg e]
  unfold quo
  rw [hQ y.toNat (by have := hy.1; have := hy.2; omega)]
  rfl
theorem Sums.new (h : Sums H i) : hasH H i = false := by
 cases e : hasH H i with
 | false => rfl
 | true =>
  obtain ⟨x, hx, hi⟩ := hasH_iff.1 e
  have := h.id x hx
  omega
theorem Sums.join (h : Sums H i) (hi : i < 20) (hQ : OneQ sv) (hG : GoodSv sv) {s : Int} (hs : inR sv.length s) :
  joinTE sv (alT sv (mkRat ((1 : Nat) : Int) 1)) H i s ⟨1, 64⟩ = 0 := by
 unfold joinTE
 rw [if_neg (by rw [there_in.2 hs]; decide), if_neg (by rw [h.new]; decide), if_pos]
 unfold fitsP
 rw [List.all_eq_true]
 intro y hy
 refine decide_eq_true ?_
 have hyR := (path_in hG s hs y hy).1
 rw [one_al hQ hyR, h.held, show wt ⟨1, 64⟩ = mkRat ((1 : Nat) : Int) 64 from rfl, mk_addD _ 1 64 (by decide), le_whole _ _ _ (by decide)]
 have := cnt_le sv H y
 rw [h.len] at this
 omega
theorem Sums.next (h : Sums H i) (s : Int) : Sums (H ++ [⟨(i : Int), s, newH w64th⟩]) (i + 1) := by
 refine ⟨by simp [h.len], fun x hx => ?_, fun x hx => ?_⟩
 ·rcases List.mem_append.1 hx with hx | hx
  ·exact h.hd x hx
  ·rw [List.mem_singleton.1 hx]
 ·rcases List.mem_append.1 hx with hx | hx
  ·have := h.id x hx
   omega
  ·rw [List.mem_singleton.1 hx]
   show (i : Int) < _
   omega
structure OnWay (sv : List S71) (H : List Hol) (x : Int) (c0 : Int) (os : List Int) : Prop where
 len : os.length = 7
 root : os.getD 0 0 = c0
 at_ : ∀ y : Int, 0 ≤ y → y < sv.length → os.getD (y + 1).toNat 0 + (if y ∈ pathS sv x then 1 else 0) = cnt sv H y
structure Stand (sv : List S71) (H : List Hol) (os : List Int) : Prop where
 len : os.length = 7
 at_ : ∀ y : Int, inR sv.length y → os.getD (y + 1).toNat 0 = cnt sv H y
theorem Stand.zero (sv : List S71) : Stand sv [] [0, 0, 0, 0, 0, 0, 0] := ⟨rfl, fun y hy => by
 have h : ∀ n : Nat, ([0, 0, 0, 0, 0, 0, 0] : List Int).getD n 0 = 0 := fun n => by
  match n with
  | 0 => rfl
  | 1 => rfl
  | 2 => rfl
  | 3 => rfl
  | 4 => rfl
  | 5 => rfl
  | 6 => rfl
  | n + 7 => rfl
 rw [h]
 rfl⟩
theorem Stand.way {os : List Int} (h : Stand sv H os) (x : Hol) : OnWay sv (H ++ [x]) x.srv (cnt sv H (-1)) os := by
 refine ⟨h.len, (show ((-1 : Int) + 1).toNat = 0 from rfl) ▸ h.at_ (-1) ⟨by omega, by omega⟩, fun y h0 h1 => ?_⟩
 rw [h.at_ y ⟨by omega, h1⟩, cnt_app]
 split <;> simp
theorem OnWay.step {os : List Int} {x c0 : Int} (hG : GoodSv sv) (hn : sv.length ≤ 6) (h : OnWay sv H x c0 os) (h0 : 0 ≤ x) (h1 : x < sv.length) : OnWay sv H (par sv x) c0 (os.set (x + 1).toNat (os.getD (x + 1).toNat 0 + 1)) := by
 have hp := hG x h0 h1
 have hlen := h.len
 refine ⟨by rw [List.length_set, h.len], ?_, fun y y0 y1 => ?_⟩
 ·rw [List.getD_eq_getElem?_getD, List.getElem?_set_ne (by omega), ← List.getD_eq_getElem?_getD]; exact h.root
 ·have hy := h.at_ y y0 y1
  rw [path_step hG h0 h1] at hy
  by_cases e : y = x
  ·subst e
   rw [if_pos List.mem_cons_self] at hy
   rw [List.getD_eq_getElem?_getD, List.getElem?_set_self (by omega), if_neg (fun k => by
    have := (path_in hG (par sv y) ⟨hp.1, by omega⟩ y k).2
    omega)]
   simp only [Option.getD_some]
   omega
  ·rw [List.getD_eq_getElem?_getD, List.getElem?_set_ne (by omega), ← List.getD_eq_getElem?_getD]
   by_cases k : y ∈ pathS sv (par sv x)
   ·rw [if_pos (List.mem_cons_of_mem _ k)] at hy
    rw [if_pos k]; exact hy
   ·rw [if_neg (fun m => by rcases List.mem_cons.1 m with m | m; exact e m; exact k m)] at hy
    rw [if_neg k]; exact hy
theorem OnWay.done {os : List Int} {x : Hol} (hG : GoodSv sv) (hs : inR sv.length x.srv) (h : OnWay sv (H ++ [x]) (-1) (cnt sv H (-1)) os) : Stand sv (H ++ [x]) (os.set 0 (os.getD 0 0 + 1)) := by
 have hlen := h.len
 refine ⟨by rw [List.length_set, h.len], fun y hy => ?_⟩
 by_cases e : y = -1
 ·subst e
  have h0 : ((-1 : Int) + 1).toNat = 0 := rfl
  obtain ⟨r, hr⟩ := path_last hG x.srv hs
  rw [h0, List.getD_eq_getElem?_getD, List.getElem?_set_self (by omega), Option.getD_some, h.root, cnt_app, if_pos (by rw [hr]; simp)]
  simp
 ·have hy0 : 0 ≤ y := by have := hy.1; omega
  rw [List.getD_eq_getElem?_getD, List.getElem?_set_ne (by omega), ← List.getD_eq_getElem?_getD]
  have h1 := h.at_ y hy0 hy.2
  rw [path_root, if_neg (by simp; omega)] at h1
  omega
theorem OnWay.bd {os : List Int} {x c0 : Int} (h : OnWay sv H x c0 os) (hl : H.length ≤ 20) (h0 : 0 ≤ x) (h1 : x < sv.length) : -1 ≤ os.getD (x + 1).toNat 0 ∧ os.getD (x + 1).toNat 0 ≤ 20 := by
 have h2 := h.at_ x h0 h1
 have h3 := cnt_le sv H x
 split at h2 <;> omega
theorem ok_one {sv : List S71} (h : ∀ j : Nat, j < sv.length → OkS (rd_T71 sv (j : Int)) j) (hQ : OneQ sv) (p : Int) (hi : sv.length ≤ 8) :
  (∀ j : Nat, j < (sv ++ [(⟨wrap64 ((Int.tmod (wrap64 ((wrap64 ((Int.tmod p (wrap64 ((sv.length : Int) + 1))) + sv.length)) + 1)) (wrap64 ((sv.length : Int) + 1))) - 1), ⟨1, 1⟩⟩ : S71)]).length → OkS (rd_T71 (sv ++ [(⟨wrap64 ((Int.tmod (wrap64 ((wrap64 ((Int.tmod p (wrap64 ((sv.length : Int) + 1))) + sv.length)) + 1)) (wrap64 ((sv.length : Int) + 1))) - 1), ⟨1, 1⟩⟩ : S71)]) (j : Int)) j) ∧ OneQ (sv ++ [(⟨wrap64 ((Int.tmod (wrap64 ((wrap64 ((Int.tmod p (wrap64 ((sv.length : Int) + 1))) + sv.length)) + 1)) (wrap64 ((sv.length : Int) + 1))) - 1), ⟨1, 1⟩⟩ : S71)]) := by
 obtain ⟨P, hP⟩ : ∃ P, P = wrap64 ((Int.tmod (wrap64 ((wrap64 ((Int.tmod p (wrap64 ((sv.length : Int) + 1))) + sv.length)) + 1)) (wrap64 ((sv.length : Int) + 1))) - 1) := ⟨_, rfl⟩
 have hb := par_ok p sv.length hi
 rw [← hP] at hb ⊢
 refine ⟨ok_snoc h ⟨hb.1, hb.2, show (0 : Int) ≤ 1 by decide, show (1 : Int) ≤ 1073741824 by decide, show (1 : Int) ≤ 1 by decide, show (1 : Int) ≤ 1048576 by decide⟩, fun j hj => ?_⟩
 rw [List.length_append, List.length_singleton] at hj
 by_cases e : j < sv.length
 ·rw [show rd_T71 (sv ++ [(⟨P, ⟨1, 1⟩⟩ : S71)]) (j : Int) = rd_T71 sv (j : Int) from by
   unfold rd_T71
   simp [List.getElem?_append_left e, List.getD_eq_getElem?_getD, Int.toNat_natCast]]
  exact hQ j e
 ·obtain rfl : j = sv.length := by omega
  unfold rd_T71
  simp [List.getD_eq_getElem?_getD]
end
end Go.Proofs.Ytfldklimlcnnnaa.QSums
end

section
namespace Go.Proofs.Ytfldklimlcnnnaa.XTHeld
open Go.RowKit Go.Proofs.Ytfldklimlcnnnaa.PHq Go.Proofs.YtfldklimlcnnnaaW.PrintWords Go.Proofs.YtfldklimlcnnnaaW.PrintLast Go.Proofs.YtfldklimlcnnnaaW.PrintMore Go.Proofs.Ytfldklimlcnnnaa.MWords
open Go.Proofs.Ytfldklimlcnnnaa.MNat Go.Proofs.Ytfldklimlcnnnaa.QNat Go.Proofs.Ytfldklimlcnnnaa.QEv Go.Proofs.Ytfldklimlcnnnaa.QRatio Go.Proofs.Ytfldklimlcnnnaa.XRV Go.Proofs.Ytfldklimlcnnnaa.XHold Go.Proofs.Ytfldklimlcnnnaa.XLed Go.Proofs.Ytfldklimlcnnnaa.XNew Go.Proofs.Ytfldklimlcnnnaa.XTree Go.Proofs.Ytfldklimlcnnnaa.QTree Go.Proofs.Ytfldklimlcnnnaa.XOf
theorem noLimb_rat {X : World} {g7 : Nat} {o1 o2 : Option Addr} {n1 n2 m1 m2 : Nat} {t : TypeId} (hG : MBlk X g7 t #[.slice o1 n1 m1, .slice o2 n2 m2]) : NoLimb X g7 := by
 intro p hp n hc
 unfold World.cell? at hc
 rw [hp, show X.heap[g7]? = _ from hG] at hc
 simp only at hc
 split at hc
 ·cases hc
 ·match ho : p.off, hc with
  | 0, hc => simp at hc
  | 1, hc => simp at hc
  | k + 2, hc => simp at hc
theorem rat_put {X w : World} {k N : Nat} {p p' : Value} {r1 r2 : List Int} {o1 o2 : Option Addr} {n1 n2 m1 m2 : Nat} (hG : MBlk X k 28 #[.slice o1 n1 m1, .slice o2 n2 m2]) (hV : RV X p p' r1 r2) (hB : Below N w X) (hN : N ≤ k) :
  MBlk ((X.setCell ⟨k, 0, none⟩ p).setCell ⟨k, 1, none⟩ p') k 28 #[p, p'] ∧ RV ((X.setCell ⟨k, 0, none⟩ p).setCell ⟨k, 1, none⟩ p') p p' r1 r2 ∧ Below N w ((X.setCell ⟨k, 0, none⟩ p).setCell ⟨k, 1, none⟩ p') := by
 have hn := noLimb_rat hG
 have hs : ∀ j, j ≠ k → ((X.setCell ⟨k, 0, none⟩ p).setCell ⟨k, 1, none⟩ p').heap[j]? = X.heap[j]? := fun j hk => (Below.heap_setCell _ ⟨k, 1, none⟩ _ j hk).trans (Below.heap_setCell _ ⟨k, 0, none⟩ _ j hk)
 exact ⟨mblk_set (mblk_set hG 0 _) 1 _, hV.near (fun j _ h => hs j (fun e => h (by rw [e]; exact hn))), (hB.setCell (p := ⟨k, 0, none⟩) hN _).setCell (p := ⟨k, 1, none⟩) hN _⟩
section
variable {w : World} {M : Tm} {sv : List S71} {at_ : List (Int × Int)} {al : Int → Rat} {ls : Int → List (Int × Hd)}
def heldT (n : Nat) (ls : Int → List (Int × Hd)) (s : Int) : Rat := if thereB n s = true then heldL (ls s) else ((0 : Nat) : Rat)
set_option maxRecDepth 100000 in
set_option maxHeartbeats 4000000 in
theorem theld_calls (hT : Tre w M sv at_ al ls) (s : Int) (hs : ∀ s, inR sv.length s → Sz 100000 (heldL (ls s))) :
  Calls Try.prog 46 #[.pointer (some ⟨M.t, 0, none⟩), .int .i64 s] w fun e w' => ∃ p p' : Value, e = .returned (.agg #[p, p']) ∧ RV w' p p' (L (heldT sv.length ls s)).1 (L (heldT sv.length ls s)).2 ∧ Below w.heap.size w w' := by
 obtain ⟨W0, hW0⟩ : ∃ W0, W0 = w.alloc (.cells #[.slice none 0 0, .slice none 0 0] 28) := ⟨_, rfl⟩
 have hb0 : Below w.heap.size w W0 := by rw [hW0]; exact below_alloc (Below.refl _ _) _
 have HB0 := Aside0.mk hb0
 have HR0 := Aside0.mk (show MBlk W0 w.heap.size 28 #[.slice none 0 0, .slice none 0 0] by rw [hW0]; exact mblk_new _ _ _)
 have HT0 := Aside0.mk (hT.below hb0)
 have HS := Aside0.mk hs
 obtain ⟨q, hq⟩ : ∃ q, q = heldT sv.length ls s := ⟨_, rfl⟩
 rw [← hq]
 have HQ0 := Aside0.mk hq
 clear hT hb0 hs hq
 go_enter Try.func46, Try.ntmps46
 go_upto_region 1 with fail
 rw [← hW0]
 clear hW0
 cases ht : thereB sv.length s with
 | true =>
  have HE := Aside0.mk (show heldL (ls s) = q by rw [HQ0.out]; unfold heldT; rw [ht, if_pos rfl])
  have HI := Aside0.mk (there_in.1 ht)
  go_wp2_with (go_at_call 83; refine (there_calls HT0.out s).mono ?_; rw [ht]; rintro e w1 ⟨rfl, rfl⟩; clear ht)
  refine (of_calls HT0.out HI.out).mono ?_
  rintro e w2 ⟨rfl, hb⟩
  have HB2 := Aside0.mk (below_step HB0.out hb)
  have HT2 := Aside0.mk (HT0.out.below hb)
  have HR2 := Aside0.mk ((hb.block _ (mblk_lt HR0.out)).trans HR0.out)
  clear hb HT0 HR0
  go_wp2_with fail
  refine (held_calls _ _ _ _ _ _ (HT2.out.led s HI.out) (HS.out s HI.out)).mono ?_
  rintro e w3 ⟨p, p', rfl, hr, hb⟩
  rw [HE.out] at hr
  obtain ⟨A1, c1, A2, c2, rfl, rfl⟩ := hr.shape
  obtain ⟨u0, hu0⟩ : ∃ u0, u0 = (L q).1 := ⟨_, rfl⟩
  obtain ⟨u1, hu1⟩ : ∃ u1, u1 = (L q).2 := ⟨_, rfl⟩
  rw [← hu0, ← hu1] at hr ⊢
  have HU := Aside0.mk (And.intro hu0 hu1)
  have hR3 : MBlk w3 w.heap.size 28 #[.slice none 0 0, .slice none 0 0] := (hb.block _ (mblk_lt HR2.out)).trans HR2.out
  have HQ := Aside0.mk (rat_put hR3 hr (below_step HB2.out hb) (Nat.le_refl _))
  obtain ⟨w5, hw5⟩ : ∃ w5, w5 = (w3.setCell ⟨w.heap.size, 0, none⟩ (.slice A1 u0.length c1)).setCell ⟨w.heap.size, 1, none⟩ (.slice A2 u1.length c2) := ⟨_, rfl⟩
  rw [← hw5] at HQ
  have HW5 := Aside0.mk hw5
  have z0 : w3.cell? ⟨w.heap.size, 0, none⟩ = some (.slice none 0 0) := (mblk_cell hR3 0).trans rfl
  have z1 : w3.cell? ⟨w.heap.size, 1, none⟩ = some (.slice none 0 0) := (mblk_cell hR3 1).trans rfl
  have f0 : w3.frozen? ⟨w.heap.size, 0, none⟩ = false := mblk_frozen hR3 0
  have f1 : w3.frozen? ⟨w.heap.size, 1, none⟩ = false := mblk_frozen hR3 1
  clear hw5 hb hR3 hr hu0 hu1
  go_wp2_with fail
  rw [← HW5.out]
  clear HW5 z0 z1 f0 f1
  have e0 : w5.cell? ⟨w.heap.size, 0, none⟩ = some (.slice A1 u0.length c1) := (mblk_cell HQ.out.1 0).trans rfl
  have e1 : w5.cell? ⟨w.heap.size, 1, none⟩ = some (.slice A2 u1.length c2) := (mblk_cell HQ.out.1 1).trans rfl
  exact bodyPost_ret (v := .agg #[.slice A1 u0.length c1, .slice A2 u1.length c2]) (by simp [results, Try.results46, go_sem, e0, e1]) rfl ⟨_, _, rfl, by rw [← HU.out.1, ← HU.out.2]; exact HQ.out.2.1, HQ.out.2.2⟩
 | false =>
  have HW := Aside0.mk (show ratio_Whole.f 0 = some ((L q).1, (L q).2) by rw [HQ0.out]; unfold heldT; rw [ht, if_neg (by decide)]; exact whole_n 0 (by omega))
  go_wp2_with (go_at_call 83; refine (there_calls HT0.out s).mono ?_; rw [ht]; rintro e w1 ⟨rfl, rfl⟩; clear ht)
  refine (whole_rv HW.out).mono ?_
  rintro e w2 ⟨p, p', rfl, hr, hb⟩
  obtain ⟨A1, c1, A2, c2, rfl, rfl⟩ := hr.shape
  obtain ⟨u0, hu0⟩ : ∃ u0, u0 = (L q).1 := ⟨_, rfl⟩
  obtain ⟨u1, hu1⟩ : ∃ u1, u1 = (L q).2 := ⟨_, rfl⟩
  rw [← hu0, ← hu1] at hr ⊢
  have HU := Aside0.mk (And.intro hu0 hu1)
  have hR3 : MBlk w2 w.heap.size 28 #[.slice none 0 0, .slice none 0 0] := (hb.block _ (mblk_lt HR0.out)).trans HR0.out
  have HQ := Aside0.mk (rat_put hR3 hr (below_step HB0.out hb) (Nat.le_refl _))
  obtain ⟨w5, hw5⟩ : ∃ w5, w5 = (w2.setCell ⟨w.heap.size, 0, none⟩ (.slice A1 u0.length c1)).setCell ⟨w.heap.size, 1, none⟩ (.slice A2 u1.length c2) := ⟨_, rfl⟩
  rw [← hw5] at HQ
  have HW5 := Aside0.mk hw5
  have z0 : w2.cell? ⟨w.heap.size, 0, none⟩ = some (.slice none 0 0) := (mblk_cell hR3 0).trans rfl
  have z1 : w2.cell? ⟨w.heap.size, 1, none⟩ = some (.slice none 0 0) := (mblk_cell hR3 1).trans rfl
  have f0 : w2.frozen? ⟨w.heap.size, 0, none⟩ = false := mblk_frozen hR3 0
  have f1 : w2.frozen? ⟨w.heap.size, 1, none⟩ = false := mblk_frozen hR3 1
  clear hw5 hb hR3 hr hu0 hu1
  go_wp2_with fail
  rw [← HW5.out]
  clear HW5 z0 z1 f0 f1
  have e0 : w5.cell? ⟨w.heap.size, 0, none⟩ = some (.slice A1 u0.length c1) := (mblk_cell HQ.out.1 0).trans rfl
  have e1 : w5.cell? ⟨w.heap.size, 1, none⟩ = some (.slice A2 u1.length c2) := (mblk_cell HQ.out.1 1).trans rfl
  exact bodyPost_ret (v := .agg #[.slice A1 u0.length c1, .slice A2 u1.length c2]) (by simp [results, Try.results46, go_sem, e0, e1]) rfl ⟨_, _, rfl, by rw [← HU.out.1, ← HU.out.2]; exact HQ.out.2.1, HQ.out.2.2⟩
end
end Go.Proofs.Ytfldklimlcnnnaa.XTHeld
end

section
namespace Go.Proofs.Ytfldklimlcnnnaa.XOp
open Go.RowKit Go.Shelf Go.Proofs.Ytfldklimlcnnnaa.PHq Go.Proofs.YtfldklimlcnnnaaW.PrintWords Go.Proofs.YtfldklimlcnnnaaW.PrintLast Go.Proofs.YtfldklimlcnnnaaW.PrintMore Go.Proofs.Ytfldklimlcnnnaa.MWords Go.Proofs.Ytfldklimlcnnnaa.MOpen
open Go.Proofs.Ytfldklimlcnnnaa.MNat Go.Proofs.Ytfldklimlcnnnaa.QNat Go.Proofs.Ytfldklimlcnnnaa.QText Go.Proofs.Ytfldklimlcnnnaa.QEv Go.Proofs.Ytfldklimlcnnnaa.QRatio Go.Proofs.Ytfldklimlcnnnaa.XHold Go.Proofs.Ytfldklimlcnnnaa.XLed Go.Proofs.Ytfldklimlcnnnaa.QHold
end Go.Proofs.Ytfldklimlcnnnaa.XOp
end

section
namespace Go.Proofs.Ytfldklimlcnnnaa.XTKt
open Go.RowKit Go.Proofs.Ytfldklimlcnnnaa.PHq Go.Proofs.YtfldklimlcnnnaaW.PrintWords Go.Proofs.YtfldklimlcnnnaaW.PrintLast Go.Proofs.YtfldklimlcnnnaaW.PrintMore Go.Proofs.Ytfldklimlcnnnaa.MWords
open Go.Proofs.Ytfldklimlcnnnaa.MNat Go.Proofs.Ytfldklimlcnnnaa.QNat Go.Proofs.Ytfldklimlcnnnaa.QEv Go.Proofs.Ytfldklimlcnnnaa.QRatio Go.Proofs.Ytfldklimlcnnnaa.XRV Go.Proofs.Ytfldklimlcnnnaa.XHold Go.Proofs.Ytfldklimlcnnnaa.XWts Go.Proofs.Ytfldklimlcnnnaa.XLed Go.Proofs.Ytfldklimlcnnnaa.XNew Go.Proofs.Ytfldklimlcnnnaa.XFits Go.Proofs.Ytfldklimlcnnnaa.XMeth Go.Proofs.Ytfldklimlcnnnaa.QHold Go.Proofs.Ytfldklimlcnnnaa.XOp Go.Proofs.Ytfldklimlcnnnaa.XTree Go.Proofs.Ytfldklimlcnnnaa.QTree Go.Proofs.Ytfldklimlcnnnaa.XOf Go.Proofs.Ytfldklimlcnnnaa.QTr Go.Proofs.Ytfldklimlcnnnaa.XTHeld Go.Proofs.Ytfldklimlcnnnaa.XTJoin
section
variable {W W' : World} {M : Tm} {sv : List S71} {al : Int → Rat} {H : List Hol} {m : Nat}
theorem TH.not_wr (h : TH W M sv al H m) {k : Nat} {cs : Array Value} {T : TypeId} {fr : Nat × Nat} (hk : W.heap[k]? = some (.cells cs T fr)) (hT : T ≠ 97) : ¬ M.wr sv.length k := by
 obtain ⟨_, _, h1, _, _⟩ := h
 exact h1.not_wr hk hT
theorem mblk_kt (h : TH W M sv al H m) (hk : Kt M sv.length W W') {g : Nat} {t : TypeId} {cs : Array Value} (hb : MBlk W g t cs) (ht : t ≠ 97) : MBlk W' g t cs :=
 (hk.same g (mblk_lt hb) (TH.not_wr h hb ht)).trans hb
theorem R_kt (h : TH W M sv al H m) (hk : Kt M sv.length W W') {B : Nat} {v : Value} {xs : List S71} (hR : Kd.R k71 71 W B (fun _ => True) v xs) : Kd.R k71 71 W' B (fun _ => True) v xs :=
 Kd.R_mono (Kd.R_step (Kd.R_bound hR) (fun k ho hlt => by
  obtain ⟨_, _, _, q, hq, cells, hc⟩ := ho
  have e : q = 71 := by
   have : q ∈ [71] := hq
   simpa using this
  subst e
  exact hk.same k hlt (TH.not_wr h hc (by decide)))) (fun _ _ => trivial)
theorem below_kt {w : World} (hB : Below w.heap.size w W) (hw : ∀ k, M.wr sv.length k → w.heap.size ≤ k) (hk : Kt M sv.length W W') : Below w.heap.size w W' := by
 have h1 : Below w.heap.size W W' := hk.below hw hB.size
 exact ⟨h1.os.trans hB.os, h1.tape.trans hB.tape, h1.output.trans hB.output, Nat.le_trans hB.size h1.size, fun k hk => (h1.block k hk).trans (hB.block k hk)⟩
theorem noLimb_all {W : World} {b : Nat} {t : TypeId} {cs : Array Value} (h : MBlk W b t cs) (hn : ∀ (i : Nat) (n : Int), cs[i]? ≠ some (Value.int .u32 n)) : NoLimb W b := by
 intro p hp n hc
 unfold World.cell? at hc
 rw [hp, show W.heap[b]? = _ from h] at hc
 simp only at hc
 split at hc
 ·cases hc
 ·exact hn _ _ hc
theorem own_ne (h : TH W M sv al H m) {b : Nat} {t : TypeId} {cs : Array Value} (hb : MBlk W b t cs) (h1 : t ≠ 119) (h2 : t ≠ 71) (h3 : t ≠ 24) : ¬ M.own sv.length b := by
 obtain ⟨_, _, hT, _, _⟩ := h
 have hb' : W.heap[b]? = some (.cells cs t (0, 0)) := hb
 rintro (rfl | ⟨h0, ad, e, rfl⟩ | rfl)
 ·have := hT.cells
  rw [show W.heap[M.t]? = _ from this] at hb'
  cases hb'
  exact h1 rfl
 ·obtain ⟨cs', fr, h4⟩ := hT.rowt h0 ad e
  rw [h4] at hb'
  cases hb'
  exact h2 rfl
 ·obtain ⟨cs', fr, h4, _⟩ := hT.ptr
  rw [h4] at hb'
  cases hb'
  exact h3 rfl
theorem TH.put (h : TH W M sv al H m) {b : Nat} {t : TypeId} {cs : Array Value} (hb : MBlk W b t cs) (h1 : t ≠ 119) (h2 : t ≠ 71) (h3 : t ≠ 24) (h4 : t ≠ 97) (hn : NoLimb W b) (i : Nat) (v : Value) : TH (W.setCell ⟨b, i, none⟩ v) M sv al H m := by
 have ho := own_ne h hb h1 h2 h3
 have hw := TH.not_wr h hb h4
 obtain ⟨at_, ls, hT, hI, hG⟩ := h
 exact ⟨at_, ls, hT.box ho hw hn, hI, hG⟩
theorem R_put {B : Nat} {v : Value} {xs : List S71} (hR : Kd.R k71 71 W B (fun _ => True) v xs) {b : Nat} {t : TypeId} {cs : Array Value} (hb : MBlk W b t cs) (ht : t ≠ 71) (i : Nat) (u : Value) : Kd.R k71 71 (W.setCell ⟨b, i, none⟩ u) B (fun _ => True) v xs :=
 Kd.R_mono (Kd.R_step (Kd.R_bound hR) (fun k ho hlt => by
  obtain ⟨_, _, _, q, hq, cells, hc⟩ := ho
  have e : q = 71 := by
   have : q ∈ [71] := hq
   simpa using this
  subst e
  have hne : k ≠ b := fun e => by
   subst e
   rw [show W.heap[k]? = _ from hb] at hc
   cases hc
   exact ht rfl
  exact Below.heap_setCell _ ⟨b, i, none⟩ _ k hne)) (fun _ _ => trivial)
def heldA (sv : List S71) (H : List Hol) (s : Int) : Rat := if thereB sv.length s = true then heldH sv H s else ((0 : Nat) : Rat)
theorem theldH (h : TH W M sv al H m) (hm : m ≤ 490) (s : Int) :
  Calls Try.prog 46 #[.pointer (some ⟨M.t, 0, none⟩), .int .i64 s] W fun e w' => ∃ p p' : Value, e = .returned (.agg #[p, p']) ∧ RV w' p p' (L (heldA sv H s)).1 (L (heldA sv H s)).2 ∧ Below W.heap.size W w' := by
 obtain ⟨_, ls, h1, h2, h3⟩ := h
 have e : heldT sv.length ls s = heldA sv H s := by
  unfold heldT heldA
  cases ht : thereB sv.length s with
  | false => rfl
  | true => rw [if_pos rfl, if_pos rfl]; exact h2.held (there_in.1 ht)
 rw [← e]
 exact theld_calls h1 s (fun s hs => sz_mono (XMeth.held_sz (h2.good (by omega) hs)) (by omega))
theorem heldA_in {s : Int} (hs : inR sv.length s) : heldA sv H s = heldH sv H s := by
 unfold heldA
 rw [if_pos (there_in.2 hs)]
theorem tcmp (h : TH W M sv al H m) (hm : m ≤ 490) {s : Int} (hs : inR sv.length s) (n d : Nat) (hn : n < 18446744073709551616) (hd : d < 18446744073709551616) (h0 : 0 < d) :
  ∃ k, regattaref03_Cmp.f k (L (heldH sv H s)).1 (L (heldH sv H s)).2 (limbs n) (limbs d) = some (cmpR (heldH sv H s) (mkRat (n : Int) d)) := by
 obtain ⟨_, ls, _, h2, _⟩ := h
 rw [← h2.held hs]
 have hG := h2.good (by omega : m ≤ 500) hs
 exact cmp_held hG hG.len n d hn hd h0
end
end Go.Proofs.Ytfldklimlcnnnaa.XTKt
end

section
namespace Go.Proofs.Ytfldklimlcnnnaa.PureQuotaSums
open Go.RowKit Go.Proofs.Ytfldklimlcnnnaa.PHq Go.Proofs.YtfldklimlcnnnaaW.PrintWords Go.Proofs.YtfldklimlcnnnaaW.PrintLast Go.Proofs.YtfldklimlcnnnaaW.PrintMore Go.Proofs.Ytfldklimlcnnnaa.MWords
open Go.Proofs.Ytfldklimlcnnnaa.MNat Go.Proofs.Ytfldklimlcnnnaa.QNat Go.Proofs.Ytfldklimlcnnnaa.QRatio Go.Proofs.Ytfldklimlcnnnaa.XRV Go.Proofs.Ytfldklimlcnnnaa.XHold Go.Proofs.Ytfldklimlcnnnaa.XJoin Go.Proofs.Ytfldklimlcnnnaa.XTree Go.Proofs.Ytfldklimlcnnnaa.QTree Go.Proofs.Ytfldklimlcnnnaa.XOf Go.Proofs.Ytfldklimlcnnnaa.QTr Go.Proofs.Ytfldklimlcnnnaa.XTJoin Go.Proofs.Ytfldklimlcnnnaa.QTChk Go.Proofs.Ytfldklimlcnnnaa.XTNew2 Go.Proofs.Ytfldklimlcnnnaa.XTMade Go.Proofs.Ytfldklimlcnnnaa.QServ Go.Proofs.Ytfldklimlcnnnaa.XQAwake Go.Proofs.Ytfldklimlcnnnaa.QSums Go.Proofs.Ytfldklimlcnnnaa.XTKt
theorem int_at {W : World} {A : Option Addr} {n : Nat} {xs : List Int} (h : Kd.C (Kd.int .i64) W A n xs) (i : Nat) (hi : i < n) : ∃ ad, A = some ad ∧ W.cell? (ad.add i) = some (.int .i64 (xs.getD i 0)) := by
 obtain ⟨ad, c, e, _, hK, hc⟩ := Kd.C_get h 0 (i : Int) (by omega) (by omega)
 have hK' : c = [.int .i64 (xs.getD (i : Int).toNat 0)] := hK
 subst hK'
 have h1 := hc 0 _ rfl
 refine ⟨ad, e, ?_⟩
 have e1 : (i : Int).toNat * (Kd.int .i64).sz + 0 = i := by show (i : Int).toNat * 1 + 0 = i; omega
 rw [e1, Int.toNat_natCast] at h1
 exact h1
theorem srv_in (q N : Int) (h1 : 1 ≤ N) (h2 : N ≤ 100) : -1 ≤ wrap64 (Int.tmod (wrap64 (Int.tmod q N + N)) N - 1) ∧ wrap64 (Int.tmod (wrap64 (Int.tmod q N + N)) N - 1) < N - 1 := by
 have a := tm_lo q N (by omega)
 generalize Int.tmod q N = t at a
 rw [w64 (x := t + N) (by omega) (by omega)]
 have b := tm_lo (t + N) N (by omega)
 have b0 : 0 ≤ Int.tmod (t + N) N := Int.tmod_nonneg _ (by omega)
 generalize Int.tmod (t + N) N = r at b b0
 rw [w64 (by omega) (by omega)]
 omega
theorem mblk_at {W : World} {b t : Nat} {os : List Int} (h : MBlk W b t (os.map fun x => Value.int .i64 x).toArray) (i : Nat) (hi : i < os.length) : W.cell? ⟨b, i, none⟩ = some (.int .i64 (os.getD i 0)) := by
 refine (mblk_cell h i).trans ?_
 simp [List.getElem?_eq_getElem hi, List.getD_eq_getElem?_getD]
theorem mblk_put {W : World} {b t : Nat} {os : List Int} (h : MBlk W b t (os.map fun x => Value.int .i64 x).toArray) (i : Nat) (v : Int) : MBlk (W.setCell ⟨b, i, none⟩ (.int .i64 v)) b t ((os.set i v).map fun x => Value.int .i64 x).toArray := by
 have h1 := mblk_set h i (.int .i64 v)
 have e : ((os.map fun x => Value.int .i64 x).toArray.setIfInBounds i (.int .i64 v)) = ((os.set i v).map fun x => Value.int .i64 x).toArray := by
  rw [List.map_set, List.setIfInBounds_toArray]
 first
  | exact e ▸ h1
  | (rw [← e]; exact h1)
theorem noLimb_ints {W : World} {b t : Nat} {os : List Int} (h : MBlk W b t (os.map fun x => Value.int .i64 x).toArray) : NoLimb W b :=
 noLimb_all h (fun i n e => by
  have e' : (os.map fun x => Value.int .i64 x)[i]? = some (Value.int .u32 n) := by rw [← List.getElem?_toArray]; exact e
  rw [List.getElem?_map] at e'
  cases hx : os[i]? with
  | none => rw [hx] at e'; cases e'
  | some y => rw [hx] at e'; cases e')
def Svs (sv : List S71) : Prop := (∀ j : Nat, j < sv.length → OkS (rd_T71 sv (j : Int)) j) ∧ OneQ sv
set_option maxRecDepth 100000 in
set_option maxHeartbeats 8000000 in
theorem sums_law (A0 A1 : Option Addr) (c0 c1 : Nat) (ps js : List Int) (w : World) (h0 : Kd.C (Kd.int .i64) w A0 ps.length ps) (l0 : ps.length ≤ c0) (h1 : Kd.C (Kd.int .i64) w A1 js.length js) (l1 : js.length ≤ c1) :
  Calls Try.prog 10 #[.slice A0 ps.length c0, .slice A1 js.length c1] w fun e w' => e = .returned (.bool true) ∧ Below w.heap.size w w' := by
 have HQ := Aside0.mk (And.intro (And.intro h0 l0) (And.intro h1 l1))
 clear h0 l0 h1 l1
 go_enter Try.func10, Try.ntmps10
 go_upto_region 2 with (go_at_call 39; refine (awake_calls _).mono ?_; rintro e w1 ⟨rfl, hb⟩; have HB1 := Aside0.mk hb; clear hb)
 go_upto_block 0 with fail
 go_cut [6, 7] (fun v6 v7 wc => ∃ (sv : List S71) (A : Option Addr) (c : Nat) (u : Value), v6 = .slice A sv.length c ∧ v7 = u ∧ sv.length ≤ 6 ∧ Aside0 (Kd.R k71 71 wc w.heap.size (fun _ => True) (.slice A sv.length c) sv) ∧ Aside0 (Svs sv) ∧ Aside0 (Below w.heap.size w wc))
 case first =>
  go_wp2_with fail
  go_loopw [6, 7] (fun v6 v7 wr => ∃ (i : Nat) (sv : List S71) (A : Option Addr) (c : Nat), v6 = .slice A sv.length c ∧ v7 = .int .i64 i ∧ i ≤ 6 ∧ sv.length = i ∧ i ≤ ps.length ∧ Aside0 (Kd.R k71 71 wr w.heap.size (fun _ => True) (.slice A sv.length c) sv) ∧ Aside0 (Svs sv) ∧ Aside0 (Below w.heap.size w wr)) (fun _ v _ => 6 - (intOf v).toNat)
  case atStart => exact ⟨0, [], none, 0, rfl, rfl, by omega, rfl, by omega, ⟨Kd.R_nil _ _ _ _ _⟩, ⟨⟨fun j hj => absurd hj (by simp), fun j hj => absurd hj (by simp)⟩⟩, HB1⟩
  case round =>
   clear HB1
   obtain ⟨i, sv, A, c, rfl, rfl, hi, hsl, hip, HR, HS, HB⟩ := hrel
   by_cases hlt : i < ps.length ∧ i < 6
   case pos =>
    have hlp := hlt.1
    obtain ⟨ad, e, z0⟩ := int_at (Kd.C_below HQ.out.1.1 HB.out) i hlp
    have HC0 := Aside0.mk HQ.out.1.2
    subst e
    generalize ps.getD i 0 = p at z0
    have dd1 : decide ((i : Int) < (ps.length : Int)) = true := decide_eq_true (by omega)
    have dd2 : decide ((i : Int) < 6) = true := decide_eq_true (by omega)
    have f1 : (0 ≤ (i : Int)) = True := eq_true (by omega)
    have f2 : ((i : Int) < (ps.length : Int)) = True := eq_true (by omega)
    have f3 : (i < ps.length) = True := eq_true (by omega)
    have hi6 : i < 6 := hlt.2
    have g1 : -9223372036854775808 ≤ (i : Int) + 1 ∧ (i : Int) + 1 ≤ 9223372036854775807 := by omega
    have g2 : ((i : Int) + 1 == 0) = false := beq_eq_false_iff_ne.2 (by omega)
    have g3 : ¬ ((i : Int) + 1 = 0) := by omega
    have e1 : wrap64 ((i : Int) + 1) = (i : Int) + 1 := w64 g1.1 g1.2
    have np : (wrap64 ((i : Int) + 1) == 0) = false := by rw [e1]; exact g2
    have np' : ¬ (wrap64 ((i : Int) + 1) = 0) := by rw [e1]; exact g3
    have HE := Aside0.mk e1
    clear hlt g1 np np' e1
    have HSN := Aside0.mk (ok_one HS.out.1 HS.out.2 p (by omega))
    rw [hsl, HE.out] at HSN
    have HL : Aside0 ((sv.length + 1) * 24 ≤ 140737488355328) := ⟨by omega⟩
    obtain ⟨WA, hWA⟩ : ∃ WA, WA = wr.alloc (.cells #[(.int .i64 (wrap64 ((Int.tmod (wrap64 ((wrap64 ((Int.tmod p (((i : Int) + 1))) + (i : Int))) + 1)) (((i : Int) + 1))) - 1))), .int .i64 1, .int .i64 1] 71) := ⟨_, rfl⟩
    have HBA : Aside0 (Below wr.heap.size wr (wr.alloc (.cells #[(.int .i64 (wrap64 ((Int.tmod (wrap64 ((wrap64 ((Int.tmod p (((i : Int) + 1))) + (i : Int))) + 1)) (((i : Int) + 1))) - 1))), .int .i64 1, .int .i64 1] 71))) := ⟨below_alloc (Below.refl _ _) _⟩
    clear hWA
    go_wp2_with ((with_reducible refine gate_builtin (b := .append) (xs := #[.tmp 26, .tmp 43]) rfl ?_); at_builtin; refine Kd.R_append k71 (w0 := w) w.heap.size rfl (.tmp 26) (.tmp 43) 65 71 (.agg #[(.int .i64 0), (.int .i64 0), (.int .i64 0)]) 24 rfl Try.underlying65 info71 rfl (by decide) (by omega) (.slice A sv.length c) sv (⟨wrap64 ((Int.tmod (wrap64 ((wrap64 ((Int.tmod p (((i : Int) + 1))) + (i : Int))) + 1)) (((i : Int) + 1))) - 1), ⟨1, 1⟩⟩ : S71) [(.int .i64 (wrap64 ((Int.tmod (wrap64 ((wrap64 ((Int.tmod p (((i : Int) + 1))) + (i : Int))) + 1)) (((i : Int) + 1))) - 1))), .int .i64 1, .int .i64 1] (fun _ => True) (fun _ => False) ?aV ?aX (k71_mkM _ _ _ (⟨wrap64 ((Int.tmod (wrap64 ((wrap64 ((Int.tmod p (((i : Int) + 1))) + (i : Int))) + 1)) (((i : Int) + 1))) - 1), ⟨1, 1⟩⟩ : S71)) (fun _ hk => hk.elim) (fun _ _ => trivial) HR.out HB.out ?aS HL.out ?_; (case aV => rfl); (case aX => rfl); (case aS => exact HB.out.size); intro v1 w2 ho hb hg hat; have HO2 := Aside0.mk ho; have HB2 := Aside0.mk hb; clear ho hb hg hat)
    obtain ⟨A2, c2, rfl⟩ := Kd.R_slice HO2.out
    have hl2 : (sv ++ [(⟨wrap64 ((Int.tmod (wrap64 ((wrap64 ((Int.tmod p (((i : Int) + 1))) + (i : Int))) + 1)) (((i : Int) + 1))) - 1), ⟨1, 1⟩⟩ : S71)]).length = i + 1 := by rw [List.length_append, hsl]; rfl
    exact ⟨⟨i + 1, _, A2, c2, rfl, by simp, by omega, hl2, by omega, HO2, ⟨HSN.out⟩, HB2⟩, by simp only [intOf]; omega⟩
   case neg =>
    by_cases h1 : i < ps.length
    ·have h2 : i = 6 := by omega
     have dd : decide ((i : Int) < (ps.length : Int)) = true := decide_eq_true (by omega)
     have dd' : decide ((i : Int) < 6) = false := decide_eq_false (by omega)
     have HSL := Aside0.mk (show sv.length ≤ 6 by omega)
     clear hlt h2 hsl
     go_wp2_with fail
     go_meet
     case rel => exact ⟨sv, A, c, _, rfl, rfl, HSL.out, HR, HS, HB⟩
    ·have dd : decide ((i : Int) < (ps.length : Int)) = false := decide_eq_false (by omega)
     have HSL := Aside0.mk (show sv.length ≤ 6 by omega)
     clear hlt hsl
     go_wp2_with fail
     go_meet
     case rel => exact ⟨sv, A, c, _, rfl, rfl, HSL.out, HR, HS, HB⟩
 case rest =>
  clear HB1
  obtain ⟨sv, A, c, u, rfl, rfl, h6, HR, HS, HB⟩ := hcut
  have HSV := Aside0.mk (show SvOk sv from ⟨HS.out.1, by omega⟩)
  go_wp2_with fail
  refine (regattalaw13_one.calls 5 ((1 : Nat) : Int) ((1 : Nat) : Int) _ _ _ (one_f 5 1 1 (by decide) (by decide) (Nat.le_refl _))).mono ?_
  rintro e w2 ⟨v0, v1, rfl, h1, h2, hb⟩
  have HV2 := Aside0.mk (RV.ofR h1 h2)
  obtain ⟨P1, p1, P2, p2, rfl, rfl⟩ := HV2.out.shape
  have HB2 := Aside0.mk (below_step HB.out hb)
  have HR2 := Aside0.mk (Kd.R_below HR.out hb)
  clear h1 h2 hb HB HR
  go_wp2_with fail
  have hnew := new_tree (.slice P1 (limbs 1).length p1) (.slice P2 (limbs 1).length p2) 1 1 2 A c sv w2 HV2.out (show (1 : Nat) < 4294967296 ^ 2 by decide) (show (1 : Nat) < 4294967296 ^ 2 by decide) (by decide) (by decide) (Kd.R_reads' HR2.out).2.2 (Kd.R_reads' HR2.out).2.1 HSV.out
  refine hnew.mono ?_
  clear hnew
  rintro e w3 ⟨M, rfl, hT, hwr, hb⟩
  have HT3 := Aside0.mk hT
  have HWR := Aside0.mk (show ∀ k, M.wr sv.length k → w.heap.size ≤ k from fun k hk => Nat.le_trans HB2.out.size (hwr k hk))
  have HB3 := Aside0.mk (below_step HB2.out hb)
  have HR3 := Aside0.mk (Kd.R_below HR2.out hb)
  clear hT hwr hb HB2 HR2
  obtain ⟨bo, hbo⟩ : ∃ bo, bo = w3.heap.size := ⟨_, rfl⟩
  obtain ⟨w4, hw4⟩ : ∃ w4, w4 = w3.alloc (.cells #[.int .i64 0, .int .i64 0, .int .i64 0, .int .i64 0, .int .i64 0, .int .i64 0, .int .i64 0] 73) := ⟨_, rfl⟩
  have hb4 : Below w3.heap.size w3 w4 := by rw [hw4]; exact below_alloc (Below.refl _ _) _
  have HO4 := Aside0.mk (show MBlk w4 bo 73 ((([0, 0, 0, 0, 0, 0, 0] : List Int).map fun x => Value.int .i64 x).toArray) by rw [hw4, hbo]; exact mblk_new _ _ _)
  have HT4 := Aside0.mk (HT3.out.below hb4)
  have HB4 := Aside0.mk (below_step HB3.out hb4)
  have HR4 := Aside0.mk (Kd.R_below HR3.out hb4)
  have HBO := Aside0.mk (show w.heap.size ≤ bo by rw [hbo]; exact HB3.out.size)
  go_upto_region 11 with fail
  rw [← hw4, ← hbo]
  clear hw4 hbo hb4 HT3 HB3 HR3 HV2
  obtain ⟨al, hal⟩ : ∃ al, al = alT sv (mkRat ((1 : Nat) : Int) 1) := ⟨_, rfl⟩
  rw [← hal] at HT4
  have HAL := Aside0.mk hal
  clear hal
  go_upto_block 2 with fail
  go_cut [11, 12, 13] (fun v11 v12 v13 wc => ∃ (H : List Hol) (os : List Int) (i m : Nat) (u x y : Value), v11 = u ∧ v12 = x ∧ v13 = y ∧ m ≤ 20 ∧ Aside0 (TH wc M sv al H m) ∧ Aside0 (Sums H i) ∧ i ≤ 20 ∧ Aside0 (Stand sv H os) ∧ Aside0 (MBlk wc bo 73 (os.map fun x => Value.int .i64 x).toArray) ∧ Aside0 (Kd.R k71 71 wc w.heap.size (fun _ => True) (.slice A sv.length c) sv) ∧ Aside0 (Below w.heap.size w wc))
  case first =>
   go_wp2_with fail
   go_loopw [11, 12, 13] (fun v11 v12 v13 wr => ∃ (H : List Hol) (os : List Int) (i : Nat) (x y : Value), v11 = .int .i64 i ∧ v12 = x ∧ v13 = y ∧ i ≤ 20 ∧ i ≤ js.length ∧ Aside0 (TH wr M sv al H i) ∧ Aside0 (Sums H i) ∧ Aside0 (Stand sv H os) ∧ Aside0 (MBlk wr bo 73 (os.map fun x => Value.int .i64 x).toArray) ∧ Aside0 (Kd.R k71 71 wr w.heap.size (fun _ => True) (.slice A sv.length c) sv) ∧ Aside0 (Below w.heap.size w wr)) (fun v _ _ _ => 20 - (intOf v).toNat)
   case atStart => exact ⟨[], [0, 0, 0, 0, 0, 0, 0], 0, _, _, rfl, rfl, rfl, by omega, by omega, HT4, ⟨⟨rfl, fun _ h => by simp at h, fun _ h => by simp at h⟩⟩, ⟨Stand.zero sv⟩, HO4, HR4, HB4⟩
   case round =>
    clear HT4 HO4 HR4 HB4
    obtain ⟨H, os, i, x, y, rfl, rfl, rfl, hi, hij, HT, HSM, HST, HO, HR, HB⟩ := hrel
    by_cases hlt : i < js.length ∧ i < 20
    case neg =>
     have HJ := Aside0.mk (And.intro hi hij)
     by_cases h1 : i < js.length
     ·have dd : decide ((i : Int) < (js.length : Int)) = true := decide_eq_true (by omega)
      have dd' : decide ((i : Int) < 20) = false := decide_eq_false (by omega)
      clear hlt hi hij
      go_wp2_with fail
      go_meet
      case rel => exact ⟨H, os, i, i, _, _, _, rfl, rfl, rfl, HJ.out.1, HT, HSM, HJ.out.1, HST, HO, HR, HB⟩
     ·have dd : decide ((i : Int) < (js.length : Int)) = false := decide_eq_false (by omega)
      clear hlt hi hij
      go_wp2_with fail
      go_meet
      case rel => exact ⟨H, os, i, i, _, _, _, rfl, rfl, rfl, HJ.out.1, HT, HSM, HJ.out.1, HST, HO, HR, HB⟩
    case pos =>
     obtain ⟨ad, e, z0⟩ := int_at (Kd.C_below HQ.out.2.1 HB.out) i hlt.1
     have HC1 := Aside0.mk HQ.out.2.2
     subst e
     generalize js.getD i 0 = q at z0
     have hi20 : i < 20 := hlt.2
     have hij' : i < js.length := hlt.1
     have dd1 : decide ((i : Int) < (js.length : Int)) = true := decide_eq_true (by omega)
     have dd2 : decide ((i : Int) < 20) = true := decide_eq_true (by omega)
     have f1 : (0 ≤ (i : Int)) = True := eq_true (by omega)
     have f2 : ((i : Int) < (js.length : Int)) = True := eq_true (by omega)
     have f3 : (i < js.length) = True := eq_true (by omega)
     have g2 : ((sv.length : Int) + 1 == 0) = false := beq_eq_false_iff_ne.2 (by omega)
     have g3 : ¬ ((sv.length : Int) + 1 = 0) := by omega
     have HJJ := Aside0.mk (And.intro hi20 hij')
     obtain ⟨s, hs⟩ : ∃ s, s = wrap64 (Int.tmod (wrap64 (Int.tmod q ((sv.length : Int) + 1) + ((sv.length : Int) + 1))) ((sv.length : Int) + 1) - 1) := ⟨_, rfl⟩
     have hsr := srv_in q ((sv.length : Int) + 1) (by omega) (by omega)
     rw [← hs] at hsr
     have hsi : inR sv.length s := ⟨hsr.1, by omega⟩
     have HSI := Aside0.mk hsi
     have HSD := Aside0.mk hs
     clear hlt hs hsr hsi
     go_upto_region 16 with fail
     rw [← HSD.out]
     clear g2 g3 f1 f2 f3 dd1 dd2 z0
     have HWF := Aside0.mk (wfI_of (x := (i : Int)) (by omega) (by omega))
     have HJ0 := Aside0.mk (show joinTE sv al H i s ⟨1, 64⟩ = 0 by rw [HAL.out]; exact HSM.out.join hi20 HS.out.2 HSV.out.good HSI.out)
     have HJH := Aside0.mk (show joinTH sv al H i s ⟨1, 64⟩ = H ++ [⟨(i : Int), s, newH w64th⟩] by unfold joinTH; rw [HJ0.out, if_pos rfl]; rfl)
     go_upto_region 18 with (go_at_call 45; refine (tjoin_calls HT.out (by omega) i s ⟨1, 64⟩ HWF.out).mono ?_; rw [HJ0.out, HJH.out]; rintro e w5 ⟨rfl, hT, hk⟩; have HT5 := Aside0.mk hT; have HB5 := Aside0.mk (below_kt HB.out HWR.out hk); have HR5 := Aside0.mk (R_kt HT.out hk HR.out); have HO5 := Aside0.mk (mblk_kt HT.out hk HO.out (by decide)); clear hT hk)
     have HSM5 := Aside0.mk (HSM.out.next s)
     have HW5 := Aside0.mk (HST.out.way ⟨(i : Int), s, newH w64th⟩)
     clear HT HB HR HO HJ0 HJH HSM
     obtain ⟨H', hH'⟩ : ∃ H', H' = H ++ [⟨(i : Int), s, newH w64th⟩] := ⟨_, rfl⟩
     rw [← hH'] at HT5 HSM5 HW5
     have HH := Aside0.mk hH'
     clear hH'
     go_wp2_with fail
     go_loopw [13] (fun v13 wq => ∃ (x : Int) (oq : List Int), v13 = .int .i64 x ∧ Aside0 (inR sv.length x) ∧ Aside0 (TH wq M sv al H' (i + 1)) ∧ Aside0 (OnWay sv H' x (cnt sv H (-1)) oq) ∧ Aside0 (MBlk wq bo 73 (oq.map fun x => Value.int .i64 x).toArray) ∧ Aside0 (Kd.R k71 71 wq w.heap.size (fun _ => True) (.slice A sv.length c) sv) ∧ Aside0 (Below w.heap.size w wq)) (fun v _ => (intOf v + 1).toNat)
     case atStart => exact ⟨s, os, rfl, HSI, HT5, HW5, HO5, HR5, HB5⟩
     case round =>
      clear HT5 HW5 HO5 HR5 HB5
      obtain ⟨x, oq, rfl, HX, HT, HW, HO, HR, HB⟩ := hrel
      by_cases hx : 0 ≤ x
      case pos =>
       obtain ⟨k, rfl⟩ : ∃ k : Nat, x = (k : Int) := ⟨x.toNat, by omega⟩
       have hk : k < sv.length := by have := HX.out.2; omega
       have hbd := HW.out.bd (by rw [HSM5.out.len]; omega) hx (by omega)
       have HWS := Aside0.mk (HW.out.step HSV.out.good h6 hx (by omega))
       have hkk : ((k : Int) + 1).toNat = k + 1 := by omega
       rw [hkk] at hbd HWS
       obtain ⟨v, hv⟩ : ∃ v, v = oq.getD (k + 1) 0 := ⟨_, rfl⟩
       have z := mblk_at HO.out (k + 1) (by rw [HW.out.len]; omega)
       rw [← hv] at hbd HWS z
       obtain ⟨ad3, hA3, z3, _⟩ := at_T71 (Kd.R_reads' HR.out).2.2 (k : Int) hx (by omega)
       have HRL := Aside0.mk (Kd.R_reads' HR.out).2.1
       have hpar := HSV.out.good (k : Int) hx (by omega)
       obtain ⟨pk, hpk⟩ : ∃ pk, pk = par sv (k : Int) := ⟨_, rfl⟩
       have z3' : wr.cell? (ad3.add ((k : Int).toNat * 3)) = some (.int .i64 pk) := by rw [z3, hpk]; rfl
       rw [← hpk] at hpar HWS
       rw [Int.toNat_natCast] at z3'
       have d1 : decide ((k : Int) ≥ 0) = true := decide_eq_true (by omega)
       have d2 : decide (0 ≤ (k : Int)) = true := decide_eq_true (by omega)
       have hk6 : k < 6 := by omega
       have f1 : ((k : Int) + 1 < 7) = True := eq_true (by omega)
       have f2 : (0 ≤ (k : Int) + 1) = True := eq_true (by omega)
       have f3 : ((k : Int) < (sv.length : Int)) = True := eq_true (by omega)
       have f4 : (0 ≤ (k : Int)) = True := eq_true (by omega)
       have HPR := Aside0.mk hpar
       have HBD := Aside0.mk (show wrap64 (v + 1) = v + 1 from w64 (by omega) (by omega))
       have hfz := mblk_frozen HO.out (k + 1)
       clear hpar hv z3 hbd
       have HPK := Aside0.mk hpk
       clear hpk
       go_upto_region 20 with fail
       have hpk := HPK.out
       rw [HBD.out]
       have HO6 := Aside0.mk (mblk_put HO.out (k + 1) (v + 1))
       have HT6 := Aside0.mk (TH.put HT.out HO.out (by decide) (by decide) (by decide) (by decide) (noLimb_ints HO.out) (k + 1) (.int .i64 (v + 1)))
       have HR6 := Aside0.mk (R_put HR.out HO.out (by decide) (k + 1) (.int .i64 (v + 1)))
       have HB6 := Aside0.mk (HB.out.setCell (p := ⟨bo, k + 1, none⟩) HBO.out (.int .i64 (v + 1)))
       obtain ⟨ad4, hA4, z4, _⟩ := at_T71 (Kd.R_reads' HR6.out).2.2 (k : Int) hx (by omega)
       obtain rfl : ad3 = ad4 := by rw [hA3] at hA4; exact Option.some.inj hA4
       have z4' : (wr.setCell ⟨bo, k + 1, none⟩ (.int .i64 (v + 1))).cell? (ad3.add (k * 3)) = some (.int .i64 pk) := by
        rw [Int.toNat_natCast] at z4
        rw [z4, hpk]; rfl
       clear hpk z4
       generalize hwn : wr.setCell ⟨bo, k + 1, none⟩ (.int .i64 (v + 1)) = wn at HO6 HT6 HR6 HB6 z4' ⊢
       clear hwn z z3' hfz HT HR HB HO
       go_wp2_with fail
       exact ⟨⟨pk, _, rfl, ⟨HPR.out.1, by have := HPR.out.2; omega⟩, HT6, HWS, HO6, HR6, HB6⟩, by have := HPR.out; simp only [intOf]; omega⟩
      case neg =>
       have hx1 : x = -1 := by have := HX.out.1; omega
       subst hx1
       have z := mblk_at HO.out 0 (by rw [HW.out.len]; omega)
       have hrt := HW.out.root
       have hcl := cnt_le sv H (-1)
       have hln : H.length ≤ 20 := by have h1 := HSM5.out.len; rw [HH.out, List.length_append, List.length_singleton] at h1; omega
       have hfz := mblk_frozen HO.out 0
       obtain ⟨v, hv⟩ : ∃ v, v = oq.getD 0 0 := ⟨_, rfl⟩
       rw [← hv] at z hrt
       have HBD := Aside0.mk (show wrap64 (v + 1) = v + 1 from w64 (by omega) (by omega))
       have HWD : Aside0 (Stand sv H' (oq.set 0 (v + 1))) := ⟨by
        have h1 := HW.out
        rw [HH.out] at h1 ⊢
        rw [hv]
        exact OnWay.done (x := ⟨(i : Int), s, newH w64th⟩) HSV.out.good HSI.out h1⟩
       clear hv hrt hcl hln hx
       go_upto_region 14 with fail
       rw [HBD.out]
       have HO6 := Aside0.mk (mblk_put HO.out 0 (v + 1))
       have HT6 := Aside0.mk (TH.put HT.out HO.out (by decide) (by decide) (by decide) (by decide) (noLimb_ints HO.out) 0 (.int .i64 (v + 1)))
       have HR6 := Aside0.mk (R_put HR.out HO.out (by decide) 0 (.int .i64 (v + 1)))
       have HB6 := Aside0.mk (HB.out.setCell (p := ⟨bo, 0, none⟩) HBO.out (.int .i64 (v + 1)))
       generalize hwn : wr.setCell ⟨bo, 0, none⟩ (.int .i64 (v + 1)) = wn at HO6 HT6 HR6 HB6 ⊢
       clear hwn z hfz HT HR HB HO
       go_wp2_with fail
       exact ⟨⟨H', _, i + 1, _, _, by simp, rfl, rfl, by have := HJJ.out; omega, by have := HJJ.out; omega, HT6, HSM5, HWD, HO6, HR6, HB6⟩, by have := HJJ.out; simp only [intOf]; omega⟩
  case rest =>
   clear HT4 HO4 HR4 HB4
   obtain ⟨H, os, i, m, u, x, y, rfl, rfl, rfl, hm, HT, HSM, hi, HST, HO, HR, HB⟩ := hcut
   go_wp2_with fail
   go_loopw [14] (fun v14 wr => ∃ k : Nat, v14 = .int .i64 ((k : Int) - 1) ∧ k ≤ sv.length + 1 ∧ Aside0 (TH wr M sv al H m) ∧ Aside0 (MBlk wr bo 73 (os.map fun x => Value.int .i64 x).toArray) ∧ Aside0 (Below w.heap.size w wr)) (fun v _ => (sv.length - intOf v).toNat)
   case atStart => exact ⟨0, rfl, by omega, HT, HO, HB⟩
   case round =>
    clear HT HO HB HR
    obtain ⟨k, rfl, hk, HT, HO, HB⟩ := hrel
    by_cases hlt : k < sv.length + 1
    case neg =>
     have d1 : decide ((k : Int) - 1 < (sv.length : Int)) = false := decide_eq_false (by omega)
     clear hlt hk
     go_wp2_with fail
     go_ret
     exact ⟨rfl, HB.out⟩
    case pos =>
     have hk7 : k < 7 := by omega
     have d1 : decide ((k : Int) - 1 < (sv.length : Int)) = true := decide_eq_true (by omega)
     obtain ⟨s, hs⟩ : ∃ s, s = (k : Int) - 1 := ⟨_, rfl⟩
     have hsi : inR sv.length s := ⟨by omega, by omega⟩
     have hkk : (s + 1).toNat = k := by omega
     obtain ⟨cn, hcn⟩ : ∃ cn, cn = cnt sv H s := ⟨_, rfl⟩
     have hcl : cn ≤ 20 := by
      have h1 := cnt_le sv H s
      rw [HSM.out.len, ← hcn] at h1
      omega
     have z := mblk_at HO.out k (by rw [HST.out.len]; exact hk7)
     have hat := HST.out.at_ s hsi
     rw [hkk, ← hcn] at hat
     rw [hat] at z
     have hhd : heldH sv H s = mkRat (cn : Int) 64 := by rw [hcn]; exact HSM.out.held s
     obtain ⟨kc, hkc⟩ := tcmp HT.out (by omega) hsi cn 64 (by omega) (by decide) (by decide)
     rw [hhd, cmpR_self] at hkc
     obtain ⟨Q, hQ⟩ : ∃ Q : List Int × List Int, Q = L (mkRat (cn : Int) 64) := ⟨_, rfl⟩
     rw [← hQ] at hkc
     have HKC := Aside0.mk hkc
     have HHD := Aside0.mk (show L (heldA sv H s) = Q by rw [heldA_in hsi, hhd, hQ])
     have HS1 := Aside0.mk hs
     have g1 : (s + 1 : Int) = (k : Int) := by omega
     have f1 : wrap64 (s + 1) = (k : Int) := by rw [g1]; exact w64 (by omega) (by omega)
     have f1' : IntKind.i64.wrap (s + 1) = (k : Int) := by rw [i64_w]; exact f1
     have f2 : (0 : Int) ≤ (k : Int) := by omega
     have f3 : (k : Int) < 7 := by omega
     have f5 : (k : Int) ≤ 6 := by omega
     have f4 : IntKind.u64.wrap (cn : Int) = (cn : Int) := by rw [IntKind.wrap_u64]; omega
     rw [← hs] at d1 ⊢
     have HSK := Aside0.mk (And.intro hk hlt)
     have HCL := Aside0.mk hcl
     clear hs hkk hcn hat hhd hkc hQ g1 hlt hk hsi hcl
     go_upto_region 26 with fail
     have HM1 := Aside0.mk (HT.out.below (below_drew (Below.refl wr.heap.size wr)))
     have HZ := Aside0.mk (fun (w' : World) (h : Below wr.heap.size wr w') => (cell_blk (a := ⟨bo, k, none⟩) (h.block _ (mblk_lt HO.out))).trans z)
     go_region_held3 (fun w' => w'.cell? ⟨bo, k, none⟩ = some (.int .i64 (cn : Int)))
      (first | (exact z) | go_keep)
      (first
       | (go_at_call 46; refine (theldH HM1.out (by omega) s).mono ?_; rw [HHD.out]; rintro e w20 ⟨t, t', rfl, h, hb⟩; obtain ⟨R1, r1, R2, r2, rfl, rfl⟩ := h.shape; have hbb : Below wr.heap.size wr w20 := below_step (below_drew (Below.refl _ _)) hb; have HB20 := Aside0.mk hbb; have HR20 := Aside0.mk h; have z := HZ.out w20 hbb; clear h hb hbb HM1)
       | (go_at_call 44; refine (regattalaw13_one.calls 5 (cn : Int) ((64 : Nat) : Int) _ _ _ (one_f 5 cn 64 (by have := HCL.out; omega) (by decide) (Nat.le_refl _))).mono ?_; rintro e w21 ⟨v0, v1, rfl, h1, h2, hb⟩; have HV21 := Aside0.mk (RV.ofR h1 h2); obtain ⟨P3, p3, P4, p4, rfl, rfl⟩ := HV21.out.shape; have hbb : Below wr.heap.size wr w21 := below_step HB20.out hb; have HB21 := Aside0.mk hbb; have HR21 := Aside0.mk (HR20.out.below hb); have z := HZ.out w21 hbb; clear h1 h2 hb hbb HB20 HR20)
       | (go_at_call 19; refine (rcmp_rv HR21.out HV21.out HKC.out).mono ?_; rintro e w22 ⟨rfl, hb⟩; have hbb : Below wr.heap.size wr w22 := below_step HB21.out hb; have HB22 := Aside0.mk hbb; have z := HZ.out w22 hbb; clear hb hbb HR21 HV21 HB21))
     all_goals
      clear f1 f1' z d1 f2 f3 f4 f5
      have g5 : wrap64 (s + 1) = ((k + 1 : Nat) : Int) - 1 := by
       have h1 := HS1.out
       have h2 : s + 1 = ((k + 1 : Nat) : Int) - 1 := by omega
       have h3 : -9223372036854775808 ≤ s + 1 ∧ s + 1 ≤ 9223372036854775807 := by omega
       rw [w64 h3.1 h3.2, h2]
      have HG5 := Aside0.mk g5
      clear g5
      go_wp2_with fail
      rw [HG5.out]
      refine ⟨⟨k + 1, rfl, by have := HSK.out; omega, ⟨HT.out.below HB22.out⟩, ⟨(HB22.out.block _ (mblk_lt HO.out)).trans HO.out⟩, ⟨below_step HB.out HB22.out⟩⟩, ?_⟩
      have h1 := HS1.out
      have h2 := HSK.out
      simp only [intOf]
      omega
end Go.Proofs.Ytfldklimlcnnnaa.PureQuotaSums
end

section
namespace Go.Proofs.Ytfldklimlcnnnaa.XOpen13
open Go.RowKit Go.Proofs.Ytfldklimlcnnnaa.PHq Go.Proofs.Ytfldklimlcnnnaa.MOpen Go.Proofs.YtfldklimlcnnnaaW.PrintWords Go.Proofs.YtfldklimlcnnnaaW.PrintLast Go.Proofs.YtfldklimlcnnnaaW.PrintMore
end Go.Proofs.Ytfldklimlcnnnaa.XOpen13
end

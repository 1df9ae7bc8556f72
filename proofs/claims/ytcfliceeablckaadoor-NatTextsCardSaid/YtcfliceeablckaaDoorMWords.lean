/-
  Words of our own for memory: blocks that are known whole.
-/
import Derived.Test.YtcfliceeablckaaDoorWAll
import Derived.WalkMore
namespace Go.Proofs.YtcfliceeablckaaDoor.MWords
open Go.RowKit Go.Proofs.YtcfliceeablckaaDoorW.PrintWords Go.Proofs.YtcfliceeablckaaDoorW.PrintLast Go.Proofs.YtcfliceeablckaaDoorW.PrintMore
set_option linter.unusedVariables false

def MBlk (w : World) (g : Nat) (t : TypeId) (cs : Array Value) : Prop := w.heap[g]? = some (.cells cs t (0, 0))
theorem mblk_lt {w : World} {g : Nat} {t : TypeId} {cs : Array Value} (h : MBlk w g t cs) : g < w.heap.size := by
  rcases Nat.lt_or_ge g w.heap.size with hlt | hge
  · exact hlt
  · unfold MBlk at h; rw [Array.getElem?_eq_none hge] at h; cases h
theorem mblk_cell {w : World} {g : Nat} {t : TypeId} {cs : Array Value} (h : MBlk w g t cs) (i : Nat) : w.cell? ⟨g, i, none⟩ = cs[i]? := cell_of_row w g i cs t (0, 0) h
theorem mblk_frozen {w : World} {g : Nat} {t : TypeId} {cs : Array Value} (h : MBlk w g t cs) (i : Nat) : w.frozen? ⟨g, i, none⟩ = false := by
  unfold MBlk at h
  simp [World.frozen?, h]
theorem mblk_new (w : World) (t : TypeId) (cs : Array Value) : MBlk (w.alloc (.cells cs t)) w.heap.size t cs := heap_alloc_new w _
theorem mblk_drewN {w : World} {g : Nat} {t : TypeId} {cs : Array Value} (h : MBlk w g t cs) (n : Nat) : MBlk (w.drewN n) g t cs := h
theorem mblk_alloc {w : World} {g : Nat} {t : TypeId} {cs : Array Value} (h : MBlk w g t cs) (o : Obj) : MBlk (w.alloc o) g t cs := (Below.heap_alloc w o g (mblk_lt h)).trans h
theorem mblk_set {w : World} {g : Nat} {t : TypeId} {cs : Array Value} (h : MBlk w g t cs) (i : Nat) (u : Value) : MBlk (w.setCell ⟨g, i, none⟩ u) g t (cs.setIfInBounds i u) := by
  unfold MBlk at h ⊢
  simp [World.setCell, Array.getElem?_modify, h]
theorem mblk_far {w : World} {g : Nat} {t : TypeId} {cs : Array Value} (h : MBlk w g t cs) {p : Addr} (hp : g ≠ p.block) (u : Value) : MBlk (w.setCell p u) g t cs := (Below.heap_setCell w p u g hp).trans h
theorem mblk_ne {w : World} {g g' : Nat} {t t' : TypeId} {cs cs' : Array Value} (h : MBlk w g t cs) (h' : MBlk w g' t' cs') (hne : t ≠ t') : g ≠ g' := by
  rintro rfl
  unfold MBlk at h h'
  rw [h] at h'
  injection h' with h'
  injection h' with _ ht
  exact hne ht

/-! short names, for long texts -/
section
variable {α : Type} {d : Kd α} {e base : Nat} {ok : Nat → Prop} {W : World} {v : Value} {xs : List α}
theorem MRa (h : d.R e W base ok v xs) (o : Obj) : d.R e (W.alloc o) base ok v xs := Kd.R_alloc h o
theorem MRn (h : d.R e W base ok v xs) (m : Nat) : d.R e (W.drewN m) base ok v xs := Kd.R_drewN h m
theorem MRd (h : d.R e W base ok v xs) : d.R e W.drew base ok v xs := Kd.R_drew h
theorem MVa (h : Kd.V d e W base ok v xs) (o : Obj) : Kd.V d e (W.alloc o) base ok v xs := Kd.V_alloc h o
theorem MVn (h : Kd.V d e W base ok v xs) (m : Nat) : Kd.V d e (W.drewN m) base ok v xs := Kd.V_drewN h m
theorem MVd (h : Kd.V d e W base ok v xs) : Kd.V d e W.drew base ok v xs := Kd.V_drew h
theorem MSa (h : Kd.S d e W base ok v xs) (o : Obj) : Kd.S d e (W.alloc o) base ok v xs := Kd.S_alloc h o
theorem MSn (h : Kd.S d e W base ok v xs) (m : Nat) : Kd.S d e (W.drewN m) base ok v xs := Kd.S_drewN h m
theorem MSd (h : Kd.S d e W base ok v xs) : Kd.S d e W.drew base ok v xs := Kd.S_drew h
theorem MBa {w W : World} (h : Below w.heap.size w W) (o : Obj) : Below w.heap.size w (W.alloc o) := below_alloc h o
theorem MBn {B : Nat} {w W : World} (h : Below B w W) (n : Nat) : Below B w (W.drewN n) := pw_below_drewN h n
theorem MBd {B : Nat} {w W : World} (h : Below B w W) : Below B w W.drew := below_drew h
theorem MBs {w W : World} {g j : Nat} {v : Value} (h : Below w.heap.size w W) (hg : w.heap.size ≤ g) : Below w.heap.size w (W.setCell ⟨g, j, none⟩ v) := below_set h hg
theorem Mba {w : World} {g : Nat} {o : Obj} (h : w.heap[g]? = some o) (o' : Obj) : (w.alloc o').heap[g]? = some o := blk_alloc h o'
theorem Mbd {w : World} {g : Nat} {o : Obj} (h : w.heap[g]? = some o) : w.drew.heap[g]? = some o := h
theorem Mbn {w : World} {g : Nat} {o : Obj} (h : w.heap[g]? = some o) (n : Nat) : (w.drewN n).heap[g]? = some o := h
end

theorem noGoto_exit_i {Q : Exit → Act → World → Prop} {a : Act} {w : World} {id : Nat} (h : Q (.exit id) a w) : Exit.noGoto Q (.exit id) a w := h
theorem noGoto_normal_i {Q : Exit → Act → World → Prop} {a : Act} {w : World} (h : Q .normal a w) : Exit.noGoto Q .normal a w := h
theorem noGoto_ret_i {Q : Exit → Act → World → Prop} {a : Act} {w : World} (h : Q .ret a w) : Exit.noGoto Q .ret a w := h


theorem mblk_F {W : World} {b e : Nat} {k : IntKind} {ok : Nat → Prop} {xs : List Int} (h : MBlk W b e (nums k xs).toArray) (hx : xs.length ≤ 9223372036854775807) (hok : ok b) : Kd.F (Kd.int k) W ok (some ⟨b, 0, none⟩) xs.length xs := by
  intro W' hW
  have h' : MBlk W' b e (nums k xs).toArray := (hW b hok (mblk_lt h)).trans h
  refine Kd.C_of_reads (d := (0 : Int)) ⟨rfl, hx, fun _ => ⟨_, rfl, fun j hj => ?_⟩⟩
  have e1 : (⟨b, 0, none⟩ : Addr).add j = ⟨b, j, none⟩ := by unfold Addr.add; split <;> simp_all
  rw [e1, mblk_cell h']
  simp [nums, List.getD, List.getElem?_eq_getElem hj]
theorem mblk_V {W : World} {b e e' base m : Nat} {k : IntKind} {ok : Nat → Prop} {xs : List Int} (h : MBlk W b e (nums k xs).toArray) (hx : xs.length ≤ 9223372036854775807) (hok : ok b) (hm : m ≤ xs.length) :
    Kd.V (Kd.int k) e' W base ok (.slice (some ⟨b, 0, none⟩) m m) (xs.take m) := by
  have h1 := Kd.F_take (m := m) (mblk_F h hx hok) hm
  have h2 : (xs.take m).length = m := by rw [List.length_take]; omega
  exact ⟨_, m, by rw [h2], by omega, h1⟩
theorem mblk_reads {W : World} {b e : Nat} {k : IntKind} {xs : List Int} (h : MBlk W b e (nums k xs).toArray) (hx : xs.length ≤ 9223372036854775807) : ReadsInt W k (some ⟨b, 0, none⟩) xs.length xs :=
  Kd.reads_of_C (d := (0 : Int)) (h1 := fun _ => rfl) (Kd.F_now (mblk_F (ok := fun _ => True) h hx trivial))
theorem made_nums (k : IntKind) (m : Nat) : madeCells #[Value.int k 0] m = (nums k (List.replicate m 0)).toArray := by
  apply Array.ext
  · simp [nums, size_madeCells]
  · intro i h1 h2
    simp [nums, madeCells, Nat.mod_one]

end Go.Proofs.YtcfliceeablckaaDoor.MWords

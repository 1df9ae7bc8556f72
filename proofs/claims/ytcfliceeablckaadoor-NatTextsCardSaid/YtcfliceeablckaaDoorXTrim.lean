/- The library's function laid at this program: the contract of the shelf. -/
import Derived.Test.YtcfliceeablckaaDoorProg
import Derived.WalkKit
import Derived.Ground.NamesProg
import Derived.Shelf.Lay
import Derived.Shelf.Strings.SlTrimAscii
namespace Go.Proofs.YtcfliceeablckaaDoor.XTrim
open Go.Shelf Go.RowKit
def ren : Go.Shelf.Ren :=
  {
    f := fun x =>
      match x with
      | 160 => 18
      | 232 => 31
      | 231 => 30
      | 227 => 32
      | 234 => 34
      | 233 => 33
      | 236 => 36
      | 235 => 35
      | 228 => 44
      | 271 => 47
      | 151 => 46
      | 197 => 45
      | 120 => 50
      | 152 => 49
      | 260 => 48
      | 137 => 51
      | 119 => 52
      | 224 => 53
      | 225 => 54
      | 217 => 55
      | 266 => 56
      | n => n,
    t := fun x =>
      match x with
      | 9 => 9
      | 4 => 4
      | 3 => 3
      | 5 => 5
      | 117 => 56
      | 116 => 55
      | 0 => 0
      | 124 => 59
      | 21 => 21
      | 105 => 68
      | 46 => 42
      | 119 => 72
      | 139 => 75
      | 138 => 74
      | n => n,
    g := fun x =>
      match x with
      | 3 => 0
      | 4 => 1
      | n => n }
theorem lays : Go.Proofs.Lays.n160 Go.Proofs.Tryd.prog ren :=
  { mixed := by kernel_rfl,
    f119 := Go.Proofs.Tryd.func52.trans (congrArg some (by kernel_rfl)),
    f120 := Go.Proofs.Tryd.func50.trans (congrArg some (by kernel_rfl)),
    f137 := Go.Proofs.Tryd.func51.trans (congrArg some (by kernel_rfl)),
    f151 := Go.Proofs.Tryd.func46.trans (congrArg some (by kernel_rfl)),
    f152 := Go.Proofs.Tryd.func49.trans (congrArg some (by kernel_rfl)),
    f160 := Go.Proofs.Tryd.func18.trans (congrArg some (by kernel_rfl)),
    f197 := Go.Proofs.Tryd.func45.trans (congrArg some (by kernel_rfl)),
    f217 := Go.Proofs.Tryd.func55.trans (congrArg some (by kernel_rfl)),
    f224 := Go.Proofs.Tryd.func53.trans (congrArg some (by kernel_rfl)),
    f225 := Go.Proofs.Tryd.func54.trans (congrArg some (by kernel_rfl)),
    f227 := Go.Proofs.Tryd.func32.trans (congrArg some (by kernel_rfl)),
    f228 := Go.Proofs.Tryd.func44.trans (congrArg some (by kernel_rfl)),
    f231 := Go.Proofs.Tryd.func30.trans (congrArg some (by kernel_rfl)),
    f232 := Go.Proofs.Tryd.func31.trans (congrArg some (by kernel_rfl)),
    f233 := Go.Proofs.Tryd.func33.trans (congrArg some (by kernel_rfl)),
    f234 := Go.Proofs.Tryd.func34.trans (congrArg some (by kernel_rfl)),
    f235 := Go.Proofs.Tryd.func35.trans (congrArg some (by kernel_rfl)),
    f236 := Go.Proofs.Tryd.func36.trans (congrArg some (by kernel_rfl)),
    f260 := Go.Proofs.Tryd.func48.trans (congrArg some (by kernel_rfl)),
    f266 := Go.Proofs.Tryd.func56.trans (congrArg some (by kernel_rfl)),
    f271 := Go.Proofs.Tryd.func47.trans (congrArg some (by kernel_rfl)),
    t0 := Go.Proofs.Tryd.underlying0, a0 := Go.Proofs.Tryd.isAgg0, z0 := Go.Proofs.Tryd.sizeOf0,
    v0 := Go.Proofs.Tryd.zeroValue0, t3 := Go.Proofs.Tryd.underlying3, a3 := Go.Proofs.Tryd.isAgg3,
    z3 := Go.Proofs.Tryd.sizeOf3, v3 := Go.Proofs.Tryd.zeroValue3, t4 := Go.Proofs.Tryd.underlying4,
    a4 := Go.Proofs.Tryd.isAgg4, z4 := Go.Proofs.Tryd.sizeOf4, v4 := Go.Proofs.Tryd.zeroValue4,
    t5 := Go.Proofs.Tryd.underlying5, a5 := Go.Proofs.Tryd.isAgg5, z5 := Go.Proofs.Tryd.sizeOf5,
    v5 := Go.Proofs.Tryd.zeroValue5, t9 := Go.Proofs.Tryd.underlying9, a9 := Go.Proofs.Tryd.isAgg9,
    z9 := Go.Proofs.Tryd.sizeOf9, v9 := Go.Proofs.Tryd.zeroValue9, t21 := Go.Proofs.Tryd.underlying21,
    a21 := Go.Proofs.Tryd.isAgg21, z21 := Go.Proofs.Tryd.sizeOf21, v21 := Go.Proofs.Tryd.zeroValue21,
    t46 := Go.Proofs.Tryd.underlying42, a46 := Go.Proofs.Tryd.isAgg42, z46 := Go.Proofs.Tryd.sizeOf42,
    v46 := Go.Proofs.Tryd.zeroValue42, t105 := Go.Proofs.Tryd.underlying68, a105 := Go.Proofs.Tryd.isAgg68,
    z105 := Go.Proofs.Tryd.sizeOf68, v105 := Go.Proofs.Tryd.zeroValue68, t116 := Go.Proofs.Tryd.underlying55,
    a116 := Go.Proofs.Tryd.isAgg55, z116 := Go.Proofs.Tryd.sizeOf55, t117 := Go.Proofs.Tryd.underlying56,
    a117 := Go.Proofs.Tryd.isAgg56, z117 := Go.Proofs.Tryd.sizeOf56, v117 := Go.Proofs.Tryd.zeroValue56,
    t119 := Go.Proofs.Tryd.underlying72, a119 := Go.Proofs.Tryd.isAgg72, z119 := Go.Proofs.Tryd.sizeOf72,
    t124 := Go.Proofs.Tryd.underlying59, a124 := Go.Proofs.Tryd.isAgg59, z124 := Go.Proofs.Tryd.sizeOf59,
    v124 := Go.Proofs.Tryd.zeroValue59, t138 := Go.Proofs.Tryd.underlying74, a138 := Go.Proofs.Tryd.isAgg74,
    z138 := Go.Proofs.Tryd.sizeOf74, v138 := Go.Proofs.Tryd.zeroValue74, t139 := Go.Proofs.Tryd.underlying75,
    a139 := Go.Proofs.Tryd.isAgg75, z139 := Go.Proofs.Tryd.sizeOf75, v139 := Go.Proofs.Tryd.zeroValue75,
    g3 := by kernel_rfl, g4 := by kernel_rfl }
set_option maxRecDepth 100000 in
theorem trim_calls (s : ByteArray) (w : World) (hs : s.size ≤ 9223372036854775807) :
    Calls Go.Proofs.Tryd.prog (ren.f 160) #[.string s, .string ⟨#[48, 49, 50, 51, 52, 53, 54, 55, 56, 57]⟩] w fun e w' => e = .returned (.string ⟨(Lib.trimS s.data.toList [48, 49, 50, 51, 52, 53, 54, 55, 56, 57]).toArray⟩) ∧ Below w.heap.size w w' :=
  Any.strings_Trim_laid lays (by kernel_rfl) s ⟨#[48, 49, 50, 51, 52, 53, 54, 55, 56, 57]⟩ w hs (by decide) (ascii_of_all (by decide))
end Go.Proofs.YtcfliceeablckaaDoor.XTrim

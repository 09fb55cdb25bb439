/- strings.Trim at a cutset of ASCII bytes, laid for this translation. -/
import Derived.Shelf.Strings.Builder1
import Derived.Shelf.Strings.Builder2
import Derived.Shelf.Strings.OnBuilder
import Derived.Shelf.Strings.Trim
import Derived.Shelf.Small.Strs
import Derived.Shelf.Small.Wraps
import Derived.Shelf.Strconv.Itoa0
import Derived.Shelf.Strconv.Itoa1
import Derived.Shelf.LaysM
import Derived.Shelf.Strconv.Itoa2
import Derived.Shelf.Strconv.Itoa3
import Derived.Shelf.Strings.Search1
import Derived.Shelf.Strings.Search2
import Derived.Shelf.Strings.Search3
import Derived.Shelf.Strings.Cut
import Derived.Shelf.Strings.Count
import Derived.Shelf.Strings.Shaped
import Derived.Shelf.Strings.Prefix
import Derived.Shelf.Strings.Split
import Derived.Shelf.Strings.SplitShaped
import Derived.Shelf.Strings.Runes
import Derived.Shelf.Strings.AsciiSet
import Derived.Test.YtbafofldgkigmaaGreatDoorProg
import Derived.Test.YtbafofldgkigmaaGreatDoorShelf
import Derived.Shelf.Strings.SlTrimAscii
namespace Go.Proofs
open Go.RowKit
open Go.Shelf
def Tryz.lays160_ren : Go.Shelf.Ren := ⟨fun | 160 => 124 | 232 => 151 | 231 => 150 | 227 => 152 | 234 => 154 | 233 => 153 | 236 => 156 | 235 => 155 | 228 => 187 | 271 => 190 | 151 => 189 | 197 => 188 | 120 => 210 | 152 => 209 | 260 => 208 | 137 => 82 | 119 => 215 | 224 => 130 | 225 => 129 | 217 => 108 | 266 => 132 | n => n, fun | 9 => 9 | 4 => 4 | 3 => 3 | 5 => 5 | 117 => 205 | 116 => 204 | 0 => 0 | 124 => 208 | 21 => 21 | 105 => 232 | 46 => 173 | 119 => 248 | 139 => 251 | 138 => 250 | n => n, fun | 3 => 2 | 4 => 3 | n => n⟩
theorem Tryz.lays160 : Go.Proofs.Lays.n160 Tryz.prog Tryz.lays160_ren := {
  mixed := by kernel_rfl
  f119 := Tryz.func215.trans (congrArg some (by kernel_rfl))
  f120 := Tryz.func210.trans (congrArg some (by kernel_rfl))
  f137 := Tryz.func82.trans (congrArg some (by kernel_rfl))
  f151 := Tryz.func189.trans (congrArg some (by kernel_rfl))
  f152 := Tryz.func209.trans (congrArg some (by kernel_rfl))
  f160 := Tryz.func124.trans (congrArg some (by kernel_rfl))
  f197 := Tryz.func188.trans (congrArg some (by kernel_rfl))
  f217 := Tryz.func108.trans (congrArg some (by kernel_rfl))
  f224 := Tryz.func130.trans (congrArg some (by kernel_rfl))
  f225 := Tryz.func129.trans (congrArg some (by kernel_rfl))
  f227 := Tryz.func152.trans (congrArg some (by kernel_rfl))
  f228 := Tryz.func187.trans (congrArg some (by kernel_rfl))
  f231 := Tryz.func150.trans (congrArg some (by kernel_rfl))
  f232 := Tryz.func151.trans (congrArg some (by kernel_rfl))
  f233 := Tryz.func153.trans (congrArg some (by kernel_rfl))
  f234 := Tryz.func154.trans (congrArg some (by kernel_rfl))
  f235 := Tryz.func155.trans (congrArg some (by kernel_rfl))
  f236 := Tryz.func156.trans (congrArg some (by kernel_rfl))
  f260 := Tryz.func208.trans (congrArg some (by kernel_rfl))
  f266 := Tryz.func132.trans (congrArg some (by kernel_rfl))
  f271 := Tryz.func190.trans (congrArg some (by kernel_rfl))
  t0 := Tryz.underlying0
  a0 := Tryz.isAgg0
  z0 := Tryz.sizeOf0
  v0 := Tryz.zeroValue0
  t3 := Tryz.underlying3
  a3 := Tryz.isAgg3
  z3 := Tryz.sizeOf3
  v3 := Tryz.zeroValue3
  t4 := Tryz.underlying4
  a4 := Tryz.isAgg4
  z4 := Tryz.sizeOf4
  v4 := Tryz.zeroValue4
  t5 := Tryz.underlying5
  a5 := Tryz.isAgg5
  z5 := Tryz.sizeOf5
  v5 := Tryz.zeroValue5
  t9 := Tryz.underlying9
  a9 := Tryz.isAgg9
  z9 := Tryz.sizeOf9
  v9 := Tryz.zeroValue9
  t21 := Tryz.underlying21
  a21 := Tryz.isAgg21
  z21 := Tryz.sizeOf21
  v21 := Tryz.zeroValue21
  t46 := Tryz.underlying173
  a46 := Tryz.isAgg173
  z46 := Tryz.sizeOf173
  v46 := Tryz.zeroValue173
  t105 := Tryz.underlying232
  a105 := Tryz.isAgg232
  z105 := Tryz.sizeOf232
  v105 := Tryz.zeroValue232
  t116 := Tryz.underlying204
  a116 := Tryz.isAgg204
  z116 := Tryz.sizeOf204
  t117 := Tryz.underlying205
  a117 := Tryz.isAgg205
  z117 := Tryz.sizeOf205
  v117 := Tryz.zeroValue205
  t119 := Tryz.underlying248
  a119 := Tryz.isAgg248
  z119 := Tryz.sizeOf248
  t124 := Tryz.underlying208
  a124 := Tryz.isAgg208
  z124 := Tryz.sizeOf208
  v124 := Tryz.zeroValue208
  t138 := Tryz.underlying250
  a138 := Tryz.isAgg250
  z138 := Tryz.sizeOf250
  v138 := Tryz.zeroValue250
  t139 := Tryz.underlying251
  a139 := Tryz.isAgg251
  z139 := Tryz.sizeOf251
  v139 := Tryz.zeroValue251
  g3 := by kernel_rfl
  g4 := by kernel_rfl }
open Go.RowKit in
theorem Tryz.strings_Trim_one (s : ByteArray) (c : UInt8) (hc : c.toNat < 128) (w : World) (hs : s.size ≤ 9223372036854775807) :
    Calls Tryz.prog 124 #[.string s, .string ⟨#[c]⟩] w fun e w' => e = .returned (.string ⟨(Lib.trimB s.data.toList c).toArray⟩) ∧ (w' = w ∨ w' = w.drew) := Any.strings_Trim_one Tryz.lays160 s c hc w hs
theorem Tryz.strings_Trim (s cutset : ByteArray) (w : World) (hs : s.size ≤ 9223372036854775807) (hcs : cutset.size < 4294967281) (hascii : ∀ (j : Nat) b, cutset.data.toList[j]? = some b → b.toNat < 128) :
    Calls Tryz.prog 124 #[.string s, .string cutset] w fun e w' => e = .returned (.string ⟨(Lib.trimS s.data.toList cutset.data.toList).toArray⟩) ∧ Below w.heap.size w w' := Any.strings_Trim_laid Tryz.lays160 (by kernel_rfl) s cutset w hs hcs hascii
end Go.Proofs

/-
  DERIVED: THE SHELF's CONTRACTS AT THIS DUMP, IN PLAIN WORDS (tools/lay-plain.mjs out of 'YtmccomeihnaanaaDoorShelf.lean', which tools/lay-shelf.mjs wrote): THE SAME DECLARATIONS UNDER THE SAME NAMES: 'import', 'namespace', 'open', 'def', 'theorem' AND NOTHING ELSE: no command of the shelf's: FOR A HAND-IN. Each laying: the table of numbers ('.._ren') and one theorem, a field a fact of the dump's own or the kernel's comparison; each contract: ONE APPLICATION.
-/
import Derived.Shelf.Strings.Fields
import Derived.Test.YtmccomeihnaanaaDoorProg
namespace Go.Proofs
open Go.Shelf
def Tryd.lays157_ren : Go.Shelf.Ren := ⟨fun | 157 => 130 | 229 => 143 | 199 => 144 | 261 => 150 | 311 => 151 | 312 => 152 | n => n, fun | 9 => 9 | 31 => 24 | 3 => 3 | 5 => 5 | 4 => 4 | 119 => 193 | 0 => 0 | 40 => 195 | 152 => 202 | 21 => 21 | 154 => 204 | 51 => 205 | 141 => 207 | 196 => 211 | 193 => 208 | 198 => 214 | 49 => 212 | 194 => 209 | 201 => 217 | 226 => 219 | 46 => 220 | 227 => 221 | n => n, fun | 0 => 1 | 6 => 2 | n => n⟩
theorem Tryd.lays157 : Go.Proofs.Lays.n157 Tryd.prog Tryd.lays157_ren := {
  mixed := by kernel_rfl
  f157 := Tryd.func130.trans (congrArg some (by kernel_rfl))
  f199 := Tryd.func144.trans (congrArg some (by kernel_rfl))
  f229 := Tryd.func143.trans (congrArg some (by kernel_rfl))
  f261 := Tryd.func150.trans (congrArg some (by kernel_rfl))
  f311 := Tryd.func151.trans (congrArg some (by kernel_rfl))
  f312 := Tryd.func152.trans (congrArg some (by kernel_rfl))
  t0 := Tryd.underlying0
  a0 := Tryd.isAgg0
  z0 := Tryd.sizeOf0
  v0 := Tryd.zeroValue0
  t3 := Tryd.underlying3
  a3 := Tryd.isAgg3
  z3 := Tryd.sizeOf3
  v3 := Tryd.zeroValue3
  t4 := Tryd.underlying4
  a4 := Tryd.isAgg4
  z4 := Tryd.sizeOf4
  v4 := Tryd.zeroValue4
  t5 := Tryd.underlying5
  a5 := Tryd.isAgg5
  z5 := Tryd.sizeOf5
  v5 := Tryd.zeroValue5
  t9 := Tryd.underlying9
  a9 := Tryd.isAgg9
  z9 := Tryd.sizeOf9
  v9 := Tryd.zeroValue9
  t21 := Tryd.underlying21
  a21 := Tryd.isAgg21
  z21 := Tryd.sizeOf21
  v21 := Tryd.zeroValue21
  t31 := Tryd.underlying24
  a31 := Tryd.isAgg24
  z31 := Tryd.sizeOf24
  v31 := Tryd.zeroValue24
  t40 := Tryd.underlying195
  a40 := Tryd.isAgg195
  z40 := Tryd.sizeOf195
  v40 := Tryd.zeroValue195
  t46 := Tryd.underlying220
  a46 := Tryd.isAgg220
  z46 := Tryd.sizeOf220
  v46 := Tryd.zeroValue220
  t49 := Tryd.underlying212
  a49 := Tryd.isAgg212
  z49 := Tryd.sizeOf212
  v49 := Tryd.zeroValue212
  t51 := Tryd.underlying205
  a51 := Tryd.isAgg205
  z51 := Tryd.sizeOf205
  v51 := Tryd.zeroValue205
  t119 := Tryd.underlying193
  a119 := Tryd.isAgg193
  z119 := Tryd.sizeOf193
  t141 := Tryd.underlying207
  a141 := Tryd.isAgg207
  z141 := Tryd.sizeOf207
  v141 := Tryd.zeroValue207
  t152 := Tryd.underlying202
  a152 := Tryd.isAgg202
  z152 := Tryd.sizeOf202
  v152 := Tryd.zeroValue202
  t154 := Tryd.underlying204
  a154 := Tryd.isAgg204
  z154 := Tryd.sizeOf204
  v154 := Tryd.zeroValue204
  t193 := Tryd.underlying208
  a193 := Tryd.isAgg208
  z193 := Tryd.sizeOf208
  v193 := Tryd.zeroValue208
  t194 := Tryd.underlying209
  a194 := Tryd.isAgg209
  z194 := Tryd.sizeOf209
  v194 := Tryd.zeroValue209
  t196 := Tryd.underlying211
  a196 := Tryd.isAgg211
  z196 := Tryd.sizeOf211
  v196 := Tryd.zeroValue211
  t198 := Tryd.underlying214
  a198 := Tryd.isAgg214
  z198 := Tryd.sizeOf214
  v198 := Tryd.zeroValue214
  t201 := Tryd.underlying217
  a201 := Tryd.isAgg217
  z201 := Tryd.sizeOf217
  v201 := Tryd.zeroValue217
  t226 := Tryd.underlying219
  a226 := Tryd.isAgg219
  z226 := Tryd.sizeOf219
  v226 := Tryd.zeroValue219
  t227 := Tryd.underlying221
  a227 := Tryd.isAgg221
  z227 := Tryd.sizeOf221
  v227 := Tryd.zeroValue221
  g0 := by kernel_rfl
  g6 := by kernel_rfl }
open Go.RowKit Go.Lib in
/-- strings.Fields, the table by 'Lib.TabIs' (as strings.TrimSpace's contract). 'hg': the table's number, by its name: at a dump 'by kernel_rfl'. (LAID: no walk: one application.) -/
theorem Tryd.strings_Fields (s : ByteArray) (w : World) (hs : s.size < 4294967281) (hascii : ∀ (j : Nat) b, s.data.toList[j]? = some b → b.toNat < 128) (htab : Lib.TabIs Tryd.prog w "strings.asciiSpace" .u8 Lib.asciiSpaceTab) :
    Calls Tryd.prog 130 #[.string s] w fun e w' =>
      e = .returned (.slice (some ⟨w.heap.size, 0, none⟩) (Lib.fields s.data.toList).length (Lib.fields s.data.toList).length) ∧ w' = w.alloc (.cells ((Lib.fields s.data.toList).map fun l => Value.string ⟨l.toArray⟩).toArray 9) := Any.strings_Fields Tryd.lays157 (by kernel_rfl) (by kernel_rfl) s w hs hascii htab
end Go.Proofs

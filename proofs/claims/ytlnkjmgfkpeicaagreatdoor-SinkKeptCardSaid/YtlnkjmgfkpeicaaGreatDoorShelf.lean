/-
  DERIVED: THE SHELF's CONTRACTS AT THIS DUMP, IN PLAIN WORDS (tools/lay-plain.mjs out of 'YtlnkjmgfkpeicaaGreatDoorShelf.lean', which tools/lay-shelf.mjs wrote): THE SAME DECLARATIONS UNDER THE SAME NAMES: 'import', 'namespace', 'open', 'def', 'theorem' AND NOTHING ELSE: no command of the shelf's: FOR A HAND-IN. Each laying: the table of numbers ('.._ren') and one theorem, a field a fact of the dump's own or the kernel's comparison; each contract: ONE APPLICATION.
-/
import Derived.Shelf.Strings.Fields
import Derived.Shelf.Unicode.Latin
import Derived.Shelf.Unicode.Is16White
import Derived.Shelf.Unicode.IsSpaceAny
import Derived.Shelf.Unicode.Is16Any
import Derived.Shelf.Unicode.Is32Any
import Derived.Shelf.Unicode.ExclAny
import Derived.Test.YtlnkjmgfkpeicaaGreatDoorProg
namespace Go.Proofs
open Go.Shelf
def Tryz.lays157_ren : Go.Shelf.Ren := ⟨fun | 157 => 65 | 229 => 88 | 199 => 89 | 261 => 101 | 311 => 104 | 312 => 105 | n => n, fun | 9 => 9 | 31 => 24 | 3 => 3 | 5 => 5 | 4 => 4 | 119 => 156 | 0 => 0 | 40 => 158 | 152 => 171 | 21 => 21 | 154 => 173 | 51 => 154 | 141 => 175 | 196 => 183 | 193 => 180 | 198 => 186 | 49 => 184 | 194 => 181 | 201 => 189 | 226 => 191 | 46 => 130 | 227 => 192 | n => n, fun | 0 => 0 | 6 => 2 | n => n⟩
theorem Tryz.lays157 : Go.Proofs.Lays.n157 Tryz.prog Tryz.lays157_ren := {
  mixed := by kernel_rfl
  f157 := Tryz.func65.trans (congrArg some (by kernel_rfl))
  f199 := Tryz.func89.trans (congrArg some (by kernel_rfl))
  f229 := Tryz.func88.trans (congrArg some (by kernel_rfl))
  f261 := Tryz.func101.trans (congrArg some (by kernel_rfl))
  f311 := Tryz.func104.trans (congrArg some (by kernel_rfl))
  f312 := Tryz.func105.trans (congrArg some (by kernel_rfl))
  t0 := Tryz.underlying0
  a0 := Tryz.isAgg0
  z0 := Tryz.sizeOf0
  v0 := Tryz.zeroValue0
  t3 := Tryz.underlying3
  a3 := Tryz.isAgg3
  z3 := Tryz.sizeOf3
  v3 := Tryz.zeroValue3
  t4 := Tryz.underlying4
  a4 := Tryz.isAgg4
  z4 := Tryz.sizeOf4
  v4 := Tryz.zeroValue4
  t5 := Tryz.underlying5
  a5 := Tryz.isAgg5
  z5 := Tryz.sizeOf5
  v5 := Tryz.zeroValue5
  t9 := Tryz.underlying9
  a9 := Tryz.isAgg9
  z9 := Tryz.sizeOf9
  v9 := Tryz.zeroValue9
  t21 := Tryz.underlying21
  a21 := Tryz.isAgg21
  z21 := Tryz.sizeOf21
  v21 := Tryz.zeroValue21
  t31 := Tryz.underlying24
  a31 := Tryz.isAgg24
  z31 := Tryz.sizeOf24
  v31 := Tryz.zeroValue24
  t40 := Tryz.underlying158
  a40 := Tryz.isAgg158
  z40 := Tryz.sizeOf158
  v40 := Tryz.zeroValue158
  t46 := Tryz.underlying130
  a46 := Tryz.isAgg130
  z46 := Tryz.sizeOf130
  v46 := Tryz.zeroValue130
  t49 := Tryz.underlying184
  a49 := Tryz.isAgg184
  z49 := Tryz.sizeOf184
  v49 := Tryz.zeroValue184
  t51 := Tryz.underlying154
  a51 := Tryz.isAgg154
  z51 := Tryz.sizeOf154
  v51 := Tryz.zeroValue154
  t119 := Tryz.underlying156
  a119 := Tryz.isAgg156
  z119 := Tryz.sizeOf156
  t141 := Tryz.underlying175
  a141 := Tryz.isAgg175
  z141 := Tryz.sizeOf175
  v141 := Tryz.zeroValue175
  t152 := Tryz.underlying171
  a152 := Tryz.isAgg171
  z152 := Tryz.sizeOf171
  v152 := Tryz.zeroValue171
  t154 := Tryz.underlying173
  a154 := Tryz.isAgg173
  z154 := Tryz.sizeOf173
  v154 := Tryz.zeroValue173
  t193 := Tryz.underlying180
  a193 := Tryz.isAgg180
  z193 := Tryz.sizeOf180
  v193 := Tryz.zeroValue180
  t194 := Tryz.underlying181
  a194 := Tryz.isAgg181
  z194 := Tryz.sizeOf181
  v194 := Tryz.zeroValue181
  t196 := Tryz.underlying183
  a196 := Tryz.isAgg183
  z196 := Tryz.sizeOf183
  v196 := Tryz.zeroValue183
  t198 := Tryz.underlying186
  a198 := Tryz.isAgg186
  z198 := Tryz.sizeOf186
  v198 := Tryz.zeroValue186
  t201 := Tryz.underlying189
  a201 := Tryz.isAgg189
  z201 := Tryz.sizeOf189
  v201 := Tryz.zeroValue189
  t226 := Tryz.underlying191
  a226 := Tryz.isAgg191
  z226 := Tryz.sizeOf191
  v226 := Tryz.zeroValue191
  t227 := Tryz.underlying192
  a227 := Tryz.isAgg192
  z227 := Tryz.sizeOf192
  v227 := Tryz.zeroValue192
  g0 := by kernel_rfl
  g6 := by kernel_rfl }
open Go.RowKit Go.Lib in
/-- strings.Fields, the table by 'Lib.TabIs' (as strings.TrimSpace's contract). 'hg': the table's number, by its name: at a dump 'by kernel_rfl'. (LAID: no walk: one application.) -/
theorem Tryz.strings_Fields (s : ByteArray) (w : World) (hs : s.size < 4294967281) (hascii : ∀ (j : Nat) b, s.data.toList[j]? = some b → b.toNat < 128) (htab : Lib.TabIs Tryz.prog w "strings.asciiSpace" .u8 Lib.asciiSpaceTab) :
    Calls Tryz.prog 65 #[.string s] w fun e w' =>
      e = .returned (.slice (some ⟨w.heap.size, 0, none⟩) (Lib.fields s.data.toList).length (Lib.fields s.data.toList).length) ∧ w' = w.alloc (.cells ((Lib.fields s.data.toList).map fun l => Value.string ⟨l.toArray⟩).toArray 9) := Any.strings_Fields Tryz.lays157 (by kernel_rfl) (by kernel_rfl) s w hs hascii htab
def Tryz.lays199_ren : Go.Shelf.Ren := ⟨fun | 199 => 89 | 261 => 101 | 311 => 104 | 312 => 105 | n => n, fun | 21 => 21 | 4 => 4 | 51 => 154 | 141 => 175 | 0 => 0 | 196 => 183 | 193 => 180 | 3 => 3 | 198 => 186 | 49 => 184 | 194 => 181 | 201 => 189 | 226 => 191 | 46 => 130 | 227 => 192 | n => n, fun | 6 => 2 | n => n⟩
theorem Tryz.lays199 : Go.Proofs.Lays.n199 Tryz.prog Tryz.lays199_ren := {
  mixed := by kernel_rfl
  f199 := Tryz.func89.trans (congrArg some (by kernel_rfl))
  f261 := Tryz.func101.trans (congrArg some (by kernel_rfl))
  f311 := Tryz.func104.trans (congrArg some (by kernel_rfl))
  f312 := Tryz.func105.trans (congrArg some (by kernel_rfl))
  t0 := Tryz.underlying0
  a0 := Tryz.isAgg0
  z0 := Tryz.sizeOf0
  v0 := Tryz.zeroValue0
  t3 := Tryz.underlying3
  a3 := Tryz.isAgg3
  z3 := Tryz.sizeOf3
  v3 := Tryz.zeroValue3
  t4 := Tryz.underlying4
  a4 := Tryz.isAgg4
  z4 := Tryz.sizeOf4
  v4 := Tryz.zeroValue4
  t21 := Tryz.underlying21
  a21 := Tryz.isAgg21
  z21 := Tryz.sizeOf21
  v21 := Tryz.zeroValue21
  t46 := Tryz.underlying130
  a46 := Tryz.isAgg130
  z46 := Tryz.sizeOf130
  v46 := Tryz.zeroValue130
  t49 := Tryz.underlying184
  a49 := Tryz.isAgg184
  z49 := Tryz.sizeOf184
  v49 := Tryz.zeroValue184
  t51 := Tryz.underlying154
  a51 := Tryz.isAgg154
  z51 := Tryz.sizeOf154
  v51 := Tryz.zeroValue154
  t141 := Tryz.underlying175
  a141 := Tryz.isAgg175
  z141 := Tryz.sizeOf175
  v141 := Tryz.zeroValue175
  t193 := Tryz.underlying180
  a193 := Tryz.isAgg180
  z193 := Tryz.sizeOf180
  v193 := Tryz.zeroValue180
  t194 := Tryz.underlying181
  a194 := Tryz.isAgg181
  z194 := Tryz.sizeOf181
  v194 := Tryz.zeroValue181
  t196 := Tryz.underlying183
  a196 := Tryz.isAgg183
  z196 := Tryz.sizeOf183
  v196 := Tryz.zeroValue183
  t198 := Tryz.underlying186
  a198 := Tryz.isAgg186
  z198 := Tryz.sizeOf186
  v198 := Tryz.zeroValue186
  t201 := Tryz.underlying189
  a201 := Tryz.isAgg189
  z201 := Tryz.sizeOf189
  v201 := Tryz.zeroValue189
  t226 := Tryz.underlying191
  a226 := Tryz.isAgg191
  z226 := Tryz.sizeOf191
  v226 := Tryz.zeroValue191
  t227 := Tryz.underlying192
  a227 := Tryz.isAgg192
  z227 := Tryz.sizeOf192
  v227 := Tryz.zeroValue192
  g6 := by kernel_rfl }
open Go.RowKit Go.Lib in
theorem Tryz.unicode_IsSpace (r : Int) (w : World) (h0 : 0 ≤ r) (h : r ≤ 255) :
    Calls Tryz.prog 89 #[.int .i32 r] w fun e w' => e = .returned (.bool (Lib.isSpaceL r)) ∧ w' = w := Any.unicode_IsSpace Tryz.lays199 r w h0 h
def Tryz.lays311_ren : Go.Shelf.Ren := ⟨fun | 311 => 104 | n => n, fun | 193 => 180 | 49 => 184 | 4 => 4 | 3 => 3 | 0 => 0 | 226 => 191 | 198 => 186 | 46 => 130 | n => n, fun | n => n⟩
theorem Tryz.lays311 : Go.Proofs.Lays.n311 Tryz.prog Tryz.lays311_ren := {
  mixed := by kernel_rfl
  f311 := Tryz.func104.trans (congrArg some (by kernel_rfl))
  t0 := Tryz.underlying0
  a0 := Tryz.isAgg0
  z0 := Tryz.sizeOf0
  v0 := Tryz.zeroValue0
  t3 := Tryz.underlying3
  a3 := Tryz.isAgg3
  z3 := Tryz.sizeOf3
  v3 := Tryz.zeroValue3
  t4 := Tryz.underlying4
  a4 := Tryz.isAgg4
  z4 := Tryz.sizeOf4
  v4 := Tryz.zeroValue4
  t46 := Tryz.underlying130
  a46 := Tryz.isAgg130
  z46 := Tryz.sizeOf130
  v46 := Tryz.zeroValue130
  t49 := Tryz.underlying184
  a49 := Tryz.isAgg184
  z49 := Tryz.sizeOf184
  v49 := Tryz.zeroValue184
  t193 := Tryz.underlying180
  a193 := Tryz.isAgg180
  z193 := Tryz.sizeOf180
  v193 := Tryz.zeroValue180
  t198 := Tryz.underlying186
  a198 := Tryz.isAgg186
  z198 := Tryz.sizeOf186
  v198 := Tryz.zeroValue186
  t226 := Tryz.underlying191
  a226 := Tryz.isAgg191
  z226 := Tryz.sizeOf191
  v226 := Tryz.zeroValue191 }
open Go.RowKit Go.Lib in
theorem Tryz.unicode_is16_white (R oR : Nat) (z : Nat) (w : World) (hz : z < 65536) (hz0 : 255 < z) (c6 : w.cell? ⟨R, oR + 6, none⟩ = some (.int .u16 160)) (c7 : w.cell? ⟨R, oR + 7, none⟩ = some (.int .u16 5760)) (c8 : w.cell? ⟨R, oR + 8, none⟩ = some (.int .u16 5600)) (c9 : w.cell? ⟨R, oR + 9, none⟩ = some (.int .u16 8192)) (c10 : w.cell? ⟨R, oR + 10, none⟩ = some (.int .u16 8202)) (c11 : w.cell? ⟨R, oR + 11, none⟩ = some (.int .u16 1)) (c12 : w.cell? ⟨R, oR + 12, none⟩ = some (.int .u16 8232)) (c13 : w.cell? ⟨R, oR + 13, none⟩ = some (.int .u16 8233)) (c14 : w.cell? ⟨R, oR + 14, none⟩ = some (.int .u16 1)) (c15 : w.cell? ⟨R, oR + 15, none⟩ = some (.int .u16 8239)) (c16 : w.cell? ⟨R, oR + 16, none⟩ = some (.int .u16 8287)) (c17 : w.cell? ⟨R, oR + 17, none⟩ = some (.int .u16 48)) (c18 : w.cell? ⟨R, oR + 18, none⟩ = some (.int .u16 12288)) (c19 : w.cell? ⟨R, oR + 19, none⟩ = some (.int .u16 12288)) (c20 : w.cell? ⟨R, oR + 20, none⟩ = some (.int .u16 1)) :
    Calls Tryz.prog 104 #[.slice (some ⟨R, oR + 6, none⟩) 5 5, .int .u16 z] w fun e w' => e = .returned (.bool (Lib.isSpaceR z)) ∧ Below w.heap.size w w' := Any.unicode_is16_white Tryz.lays311 R oR z w hz hz0 c6 c7 c8 c9 c10 c11 c12 c13 c14 c15 c16 c17 c18 c19 c20
def Tryz.lays261_ren : Go.Shelf.Ren := ⟨fun | 261 => 101 | 311 => 104 | 312 => 105 | n => n, fun | 141 => 175 | 21 => 21 | 4 => 4 | 0 => 0 | 196 => 183 | 193 => 180 | 3 => 3 | 51 => 154 | 198 => 186 | 49 => 184 | 194 => 181 | 201 => 189 | 226 => 191 | 46 => 130 | 227 => 192 | n => n, fun | n => n⟩
theorem Tryz.lays261 : Go.Proofs.Lays.n261 Tryz.prog Tryz.lays261_ren := {
  mixed := by kernel_rfl
  f261 := Tryz.func101.trans (congrArg some (by kernel_rfl))
  f311 := Tryz.func104.trans (congrArg some (by kernel_rfl))
  f312 := Tryz.func105.trans (congrArg some (by kernel_rfl))
  t0 := Tryz.underlying0
  a0 := Tryz.isAgg0
  z0 := Tryz.sizeOf0
  v0 := Tryz.zeroValue0
  t3 := Tryz.underlying3
  a3 := Tryz.isAgg3
  z3 := Tryz.sizeOf3
  v3 := Tryz.zeroValue3
  t4 := Tryz.underlying4
  a4 := Tryz.isAgg4
  z4 := Tryz.sizeOf4
  v4 := Tryz.zeroValue4
  t21 := Tryz.underlying21
  a21 := Tryz.isAgg21
  z21 := Tryz.sizeOf21
  v21 := Tryz.zeroValue21
  t46 := Tryz.underlying130
  a46 := Tryz.isAgg130
  z46 := Tryz.sizeOf130
  v46 := Tryz.zeroValue130
  t49 := Tryz.underlying184
  a49 := Tryz.isAgg184
  z49 := Tryz.sizeOf184
  v49 := Tryz.zeroValue184
  t51 := Tryz.underlying154
  a51 := Tryz.isAgg154
  z51 := Tryz.sizeOf154
  v51 := Tryz.zeroValue154
  t141 := Tryz.underlying175
  a141 := Tryz.isAgg175
  z141 := Tryz.sizeOf175
  v141 := Tryz.zeroValue175
  t193 := Tryz.underlying180
  a193 := Tryz.isAgg180
  z193 := Tryz.sizeOf180
  v193 := Tryz.zeroValue180
  t194 := Tryz.underlying181
  a194 := Tryz.isAgg181
  z194 := Tryz.sizeOf181
  v194 := Tryz.zeroValue181
  t196 := Tryz.underlying183
  a196 := Tryz.isAgg183
  z196 := Tryz.sizeOf183
  v196 := Tryz.zeroValue183
  t198 := Tryz.underlying186
  a198 := Tryz.isAgg186
  z198 := Tryz.sizeOf186
  v198 := Tryz.zeroValue186
  t201 := Tryz.underlying189
  a201 := Tryz.isAgg189
  z201 := Tryz.sizeOf189
  v201 := Tryz.zeroValue189
  t226 := Tryz.underlying191
  a226 := Tryz.isAgg191
  z226 := Tryz.sizeOf191
  v226 := Tryz.zeroValue191
  t227 := Tryz.underlying192
  a227 := Tryz.isAgg192
  z227 := Tryz.sizeOf192
  v227 := Tryz.zeroValue192 }
open Go.RowKit Go.Lib in
/-- unicode.isExcludingLatin(White_Space, r), r beyond U+00FF or negative. (LAID: no walk: one application.) -/
theorem Tryz.unicode_isExcludingLatin_white (T oT R oR : Nat) (r : Int) (w : World) (hlo : -2147483648 ≤ r) (hhi : r ≤ 2147483647) (hr : r < 0 ∨ 255 < r) (h2 : w.cell? ⟨T, oT, none⟩ = some (.slice (some ⟨R, oR, none⟩) 7 7)) (h3 : w.cell? ⟨T, oT + 1, none⟩ = some (.slice none 0 0)) (h4 : w.cell? ⟨T, oT + 2, none⟩ = some (.int .i64 2)) (h5 : ∀ i, i < 21 → w.cell? ⟨R, oR + i, none⟩ = some (.int .u16 (whiteT.getD i 0))) :
    Calls Tryz.prog 101 #[.pointer (some ⟨T, oT, none⟩), .int .i32 r] w fun e w' => e = .returned (.bool (Lib.isSpaceZ r)) ∧ Below w.heap.size w w' := Any.unicode_isExcludingLatin_white Tryz.lays261 T oT R oR r w hlo hhi hr h2 h3 h4 h5
open Go.RowKit Go.Lib in
/-- **unicode.IsSpace AT EVERY int32.** (LAID: no walk: one application.) -/
theorem Tryz.unicode_IsSpace_any (r : Int) (w : World) (hlo : -2147483648 ≤ r) (hhi : r ≤ 2147483647) (hW : Lib.WhiteTab 2 w) :
    Calls Tryz.prog 89 #[.int .i32 r] w fun e w' => e = .returned (.bool (Lib.isSpaceZ r)) ∧ Below w.heap.size w w' := Any.unicode_IsSpace_any Tryz.lays199 r w hlo hhi hW
open Go.RowKit Go.Lib in
theorem Tryz.unicode_is16_any (T : Array Rg) (R oR cap : Nat) (z : Nat) (w : World) (hz : z < 65536) (hT : RgTab .u16 R oR T w) (hok : RgOk 65536 T) (hn : T.size ≤ 1000000000) :
    Calls Tryz.prog 104 #[.slice (some ⟨R, oR, none⟩) T.size cap, .int .u16 z] w fun e w' => e = .returned (.bool (is16Go T z)) ∧ ∃ q, w' = w.drewN q := Any.unicode_is16_any Tryz.lays311 T R oR cap z w hz hT hok hn
def Tryz.lays312_ren : Go.Shelf.Ren := ⟨fun | 312 => 105 | n => n, fun | 194 => 181 | 51 => 154 | 4 => 4 | 3 => 3 | 0 => 0 | 227 => 192 | 201 => 189 | 46 => 130 | n => n, fun | n => n⟩
theorem Tryz.lays312 : Go.Proofs.Lays.n312 Tryz.prog Tryz.lays312_ren := {
  mixed := by kernel_rfl
  f312 := Tryz.func105.trans (congrArg some (by kernel_rfl))
  t0 := Tryz.underlying0
  a0 := Tryz.isAgg0
  z0 := Tryz.sizeOf0
  v0 := Tryz.zeroValue0
  t3 := Tryz.underlying3
  a3 := Tryz.isAgg3
  z3 := Tryz.sizeOf3
  v3 := Tryz.zeroValue3
  t4 := Tryz.underlying4
  a4 := Tryz.isAgg4
  z4 := Tryz.sizeOf4
  v4 := Tryz.zeroValue4
  t46 := Tryz.underlying130
  a46 := Tryz.isAgg130
  z46 := Tryz.sizeOf130
  v46 := Tryz.zeroValue130
  t51 := Tryz.underlying154
  a51 := Tryz.isAgg154
  z51 := Tryz.sizeOf154
  v51 := Tryz.zeroValue154
  t194 := Tryz.underlying181
  a194 := Tryz.isAgg181
  z194 := Tryz.sizeOf181
  v194 := Tryz.zeroValue181
  t201 := Tryz.underlying189
  a201 := Tryz.isAgg189
  z201 := Tryz.sizeOf189
  v201 := Tryz.zeroValue189
  t227 := Tryz.underlying192
  a227 := Tryz.isAgg192
  z227 := Tryz.sizeOf192
  v227 := Tryz.zeroValue192 }
open Go.RowKit Go.Lib in
theorem Tryz.unicode_is32_any (T : Array Rg) (R oR cap : Nat) (z : Nat) (w : World) (hz : z < 4294967296) (hT : RgTab .u32 R oR T w) (hok : RgOk 4294967296 T) (hn : T.size ≤ 1000000000) :
    Calls Tryz.prog 105 #[.slice (some ⟨R, oR, none⟩) T.size cap, .int .u32 z] w fun e w' => e = .returned (.bool (is32Go T z)) ∧ Below w.heap.size w w' := Any.unicode_is32_any Tryz.lays312 T R oR cap z w hz hT hok hn
open Go.RowKit Go.Lib in
theorem Tryz.unicode_isExcludingLatin_any (Tb oT : Nat) (T : RTab) (r : Int) (w : World) (hlo : -2147483648 ≤ r) (hhi : r ≤ 2147483647) (hA : RTabAt Tb oT T w) (hok : RTabOk T) :
    Calls Tryz.prog 101 #[.pointer (some ⟨Tb, oT, none⟩), .int .i32 r] w fun e w' => e = .returned (.bool (exclGo T r)) ∧ Below w.heap.size w w' := Any.unicode_isExcludingLatin_any Tryz.lays261 Tb oT T r w hlo hhi hA hok
end Go.Proofs

/-
  DERIVED: THE SHELF's CONTRACTS AT THIS DUMP, IN PLAIN WORDS (tools/lay-plain.mjs out of 'TryzShelf.lean', which tools/lay-shelf.mjs wrote): THE SAME DECLARATIONS UNDER THE SAME NAMES: 'import', 'namespace', 'open', 'def', 'theorem' AND NOTHING ELSE: no command of the shelf's: FOR A HAND-IN. Each laying: the table of numbers ('.._ren') and one theorem, a field a fact of the dump's own or the kernel's comparison; each contract: ONE APPLICATION.
-/
import Derived.Shelf.Strings.Fields
import Derived.Shelf.LaysM
import Derived.Shelf.Strings.SplitShaped
import Derived.Shelf.Unicode.Latin
import Derived.Shelf.Unicode.Is16White
import Derived.Shelf.Unicode.IsSpaceAny
import Derived.Shelf.Unicode.Is16Any
import Derived.Shelf.Unicode.Is32Any
import Derived.Shelf.Unicode.ExclAny
import Derived.Ground.SlgnProg
import Derived.Shelf.SlicesE.Clone
import Derived.Test.YtbfbabbcdochjaaGreatDoorProg
namespace Go.Proofs
open Go.Shelf
def Tryz.lays157_ren : Go.Shelf.Ren := ⟨fun | 157 => 173 | 229 => 178 | 199 => 179 | 261 => 185 | 311 => 187 | 312 => 188 | n => n, fun | 9 => 9 | 31 => 118 | 3 => 3 | 5 => 5 | 4 => 4 | 119 => 227 | 0 => 0 | 40 => 229 | 152 => 233 | 21 => 21 | 154 => 235 | 51 => 236 | 141 => 238 | 196 => 243 | 193 => 240 | 198 => 246 | 49 => 244 | 194 => 241 | 201 => 249 | 226 => 251 | 46 => 252 | 227 => 253 | n => n, fun | 0 => 1 | 6 => 3 | n => n⟩
theorem Tryz.lays157 : Go.Proofs.Lays.n157 Tryz.prog Tryz.lays157_ren := {
  mixed := by kernel_rfl
  f157 := Tryz.func173.trans (congrArg some (by kernel_rfl))
  f199 := Tryz.func179.trans (congrArg some (by kernel_rfl))
  f229 := Tryz.func178.trans (congrArg some (by kernel_rfl))
  f261 := Tryz.func185.trans (congrArg some (by kernel_rfl))
  f311 := Tryz.func187.trans (congrArg some (by kernel_rfl))
  f312 := Tryz.func188.trans (congrArg some (by kernel_rfl))
  t0 := Tryz.underlying0
  a0 := Tryz.isAgg0
  z0 := Tryz.sizeOf0
  v0 := Tryz.zeroValue0
  t3 := Tryz.underlying3
  a3 := Tryz.isAgg3
  z3 := Tryz.sizeOf3
  v3 := Tryz.zeroValue3
  t4 := Tryz.underlying4
  a4 := Tryz.isAgg4
  z4 := Tryz.sizeOf4
  v4 := Tryz.zeroValue4
  t5 := Tryz.underlying5
  a5 := Tryz.isAgg5
  z5 := Tryz.sizeOf5
  v5 := Tryz.zeroValue5
  t9 := Tryz.underlying9
  a9 := Tryz.isAgg9
  z9 := Tryz.sizeOf9
  v9 := Tryz.zeroValue9
  t21 := Tryz.underlying21
  a21 := Tryz.isAgg21
  z21 := Tryz.sizeOf21
  v21 := Tryz.zeroValue21
  t31 := Tryz.underlying118
  a31 := Tryz.isAgg118
  z31 := Tryz.sizeOf118
  v31 := Tryz.zeroValue118
  t40 := Tryz.underlying229
  a40 := Tryz.isAgg229
  z40 := Tryz.sizeOf229
  v40 := Tryz.zeroValue229
  t46 := Tryz.underlying252
  a46 := Tryz.isAgg252
  z46 := Tryz.sizeOf252
  v46 := Tryz.zeroValue252
  t49 := Tryz.underlying244
  a49 := Tryz.isAgg244
  z49 := Tryz.sizeOf244
  v49 := Tryz.zeroValue244
  t51 := Tryz.underlying236
  a51 := Tryz.isAgg236
  z51 := Tryz.sizeOf236
  v51 := Tryz.zeroValue236
  t119 := Tryz.underlying227
  a119 := Tryz.isAgg227
  z119 := Tryz.sizeOf227
  t141 := Tryz.underlying238
  a141 := Tryz.isAgg238
  z141 := Tryz.sizeOf238
  v141 := Tryz.zeroValue238
  t152 := Tryz.underlying233
  a152 := Tryz.isAgg233
  z152 := Tryz.sizeOf233
  v152 := Tryz.zeroValue233
  t154 := Tryz.underlying235
  a154 := Tryz.isAgg235
  z154 := Tryz.sizeOf235
  v154 := Tryz.zeroValue235
  t193 := Tryz.underlying240
  a193 := Tryz.isAgg240
  z193 := Tryz.sizeOf240
  v193 := Tryz.zeroValue240
  t194 := Tryz.underlying241
  a194 := Tryz.isAgg241
  z194 := Tryz.sizeOf241
  v194 := Tryz.zeroValue241
  t196 := Tryz.underlying243
  a196 := Tryz.isAgg243
  z196 := Tryz.sizeOf243
  v196 := Tryz.zeroValue243
  t198 := Tryz.underlying246
  a198 := Tryz.isAgg246
  z198 := Tryz.sizeOf246
  v198 := Tryz.zeroValue246
  t201 := Tryz.underlying249
  a201 := Tryz.isAgg249
  z201 := Tryz.sizeOf249
  v201 := Tryz.zeroValue249
  t226 := Tryz.underlying251
  a226 := Tryz.isAgg251
  z226 := Tryz.sizeOf251
  v226 := Tryz.zeroValue251
  t227 := Tryz.underlying253
  a227 := Tryz.isAgg253
  z227 := Tryz.sizeOf253
  v227 := Tryz.zeroValue253
  g0 := by kernel_rfl
  g6 := by kernel_rfl }
open Go.RowKit Go.Lib in
/-- strings.Fields, the table by 'Lib.TabIs' (as strings.TrimSpace's contract). 'hg': the table's number, by its name: at a dump 'by kernel_rfl'. (LAID: no walk: one application.) -/
theorem Tryz.strings_Fields (s : ByteArray) (w : World) (hs : s.size < 4294967281) (hascii : ∀ (j : Nat) b, s.data.toList[j]? = some b → b.toNat < 128) (htab : Lib.TabIs Tryz.prog w "strings.asciiSpace" .u8 Lib.asciiSpaceTab) :
    Calls Tryz.prog 173 #[.string s] w fun e w' =>
      e = .returned (.slice (some ⟨w.heap.size, 0, none⟩) (Lib.fields s.data.toList).length (Lib.fields s.data.toList).length) ∧ w' = w.alloc (.cells ((Lib.fields s.data.toList).map fun l => Value.string ⟨l.toArray⟩).toArray 9) := Any.strings_Fields Tryz.lays157 (by kernel_rfl) (by kernel_rfl) s w hs hascii htab
def Tryz.laysM157_ren : Go.Shelf.Ren := ⟨fun | 157 => 173 | 229 => 178 | 199 => 179 | 261 => 185 | 311 => 187 | 312 => 188 | n => n, fun | 9 => 9 | 31 => 118 | 3 => 3 | 5 => 5 | 4 => 4 | 119 => 227 | 0 => 0 | 40 => 229 | 152 => 233 | 21 => 21 | 154 => 235 | 51 => 236 | 141 => 238 | 196 => 243 | 193 => 240 | 198 => 246 | 49 => 244 | 194 => 241 | 201 => 249 | 226 => 251 | 46 => 252 | 227 => 253 | n => n, fun | 0 => 1 | 6 => 3 | n => n⟩
theorem Tryz.laysM157 : Go.Proofs.LaysM.n157 Tryz.prog Tryz.laysM157_ren := {
  mixed := by kernel_rfl
  f157 := Tryz.func173.trans (congrArg some (by kernel_rfl))
  f199 := Tryz.func179.trans (congrArg some (by kernel_rfl))
  f229 := Tryz.func178.trans (congrArg some (by kernel_rfl))
  f261 := Tryz.func185.trans (congrArg some (by kernel_rfl))
  f311 := Tryz.func187.trans (congrArg some (by kernel_rfl))
  f312 := Tryz.func188.trans (congrArg some (by kernel_rfl))
  t0 := Tryz.underlying0
  a0 := Tryz.isAgg0
  z0 := Tryz.sizeOf0
  v0 := Tryz.zeroValue0
  t3 := Tryz.underlying3
  a3 := Tryz.isAgg3
  z3 := Tryz.sizeOf3
  v3 := Tryz.zeroValue3
  t4 := Tryz.underlying4
  a4 := Tryz.isAgg4
  z4 := Tryz.sizeOf4
  v4 := Tryz.zeroValue4
  t5 := Tryz.underlying5
  a5 := Tryz.isAgg5
  z5 := Tryz.sizeOf5
  v5 := Tryz.zeroValue5
  t9 := Tryz.underlying9
  a9 := Tryz.isAgg9
  z9 := Tryz.sizeOf9
  v9 := Tryz.zeroValue9
  t21 := Tryz.underlying21
  a21 := Tryz.isAgg21
  z21 := Tryz.sizeOf21
  v21 := Tryz.zeroValue21
  t31 := Tryz.underlying118
  a31 := Tryz.isAgg118
  z31 := Tryz.sizeOf118
  v31 := Tryz.zeroValue118
  t40 := Tryz.underlying229
  a40 := Tryz.isAgg229
  z40 := Tryz.sizeOf229
  v40 := Tryz.zeroValue229
  t46 := Tryz.underlying252
  a46 := Tryz.isAgg252
  z46 := Tryz.sizeOf252
  v46 := Tryz.zeroValue252
  t49 := Tryz.underlying244
  a49 := Tryz.isAgg244
  z49 := Tryz.sizeOf244
  v49 := Tryz.zeroValue244
  t51 := Tryz.underlying236
  a51 := Tryz.isAgg236
  z51 := Tryz.sizeOf236
  v51 := Tryz.zeroValue236
  t119 := Tryz.underlying227
  a119 := Tryz.isAgg227
  z119 := Tryz.sizeOf227
  t141 := Tryz.underlying238
  a141 := Tryz.isAgg238
  z141 := Tryz.sizeOf238
  v141 := Tryz.zeroValue238
  t152 := Tryz.underlying233
  a152 := Tryz.isAgg233
  z152 := Tryz.sizeOf233
  v152 := Tryz.zeroValue233
  t154 := Tryz.underlying235
  a154 := Tryz.isAgg235
  z154 := Tryz.sizeOf235
  v154 := Tryz.zeroValue235
  t193 := Tryz.underlying240
  a193 := Tryz.isAgg240
  z193 := Tryz.sizeOf240
  v193 := Tryz.zeroValue240
  t194 := Tryz.underlying241
  a194 := Tryz.isAgg241
  z194 := Tryz.sizeOf241
  v194 := Tryz.zeroValue241
  t196 := Tryz.underlying243
  a196 := Tryz.isAgg243
  z196 := Tryz.sizeOf243
  v196 := Tryz.zeroValue243
  t198 := Tryz.underlying246
  a198 := Tryz.isAgg246
  z198 := Tryz.sizeOf246
  v198 := Tryz.zeroValue246
  t201 := Tryz.underlying249
  a201 := Tryz.isAgg249
  z201 := Tryz.sizeOf249
  v201 := Tryz.zeroValue249
  t226 := Tryz.underlying251
  a226 := Tryz.isAgg251
  z226 := Tryz.sizeOf251
  v226 := Tryz.zeroValue251
  t227 := Tryz.underlying253
  a227 := Tryz.isAgg253
  z227 := Tryz.sizeOf253
  v227 := Tryz.zeroValue253
  g0 := by kernel_rfl
  g6 := by kernel_rfl
  i0 := by kernel_rfl
  i3 := by kernel_rfl
  i4 := by kernel_rfl
  i5 := by kernel_rfl
  i9 := by kernel_rfl
  i21 := by kernel_rfl
  i31 := by kernel_rfl
  i40 := by kernel_rfl
  i46 := by kernel_rfl
  i49 := by kernel_rfl
  i51 := by kernel_rfl
  i141 := by kernel_rfl
  i152 := by kernel_rfl
  i154 := by kernel_rfl
  i193 := by kernel_rfl
  i194 := by kernel_rfl
  i196 := by kernel_rfl
  i198 := by kernel_rfl
  i201 := by kernel_rfl
  i226 := by kernel_rfl
  i227 := by kernel_rfl
  m0 := by kernel_rfl
  m6 := by kernel_rfl }
open Go.RowKit Go.Lib in
/-- strings.Fields on ASCII bytes. (The table: 'Lib.TabIs', as strings.TrimSpace's contract asks it.) (LAID: no walk: one application.) -/
theorem Tryz.strings_Fields_laid (s : ByteArray) (w : World) (hs : s.size < 4294967281) (hascii : ∀ (j : Nat) b, s.data.toList[j]? = some b → b.toNat < 128) (htab : Lib.TabIs Tryz.prog w "strings.asciiSpace" .u8 Lib.asciiSpaceTab) :
    Calls Tryz.prog 173 #[.string s] w fun e w' =>
      e = .returned (.slice (some ⟨w.heap.size, 0, none⟩) (Lib.fields s.data.toList).length (Lib.fields s.data.toList).length) ∧ w' = w.alloc (.cells ((Lib.fields s.data.toList).map fun l => Value.string ⟨l.toArray⟩).toArray 9) := Any.strings_Fields_laid Tryz.laysM157 s w hs hascii htab
def Tryz.lays199_ren : Go.Shelf.Ren := ⟨fun | 199 => 179 | 261 => 185 | 311 => 187 | 312 => 188 | n => n, fun | 21 => 21 | 4 => 4 | 51 => 236 | 141 => 238 | 0 => 0 | 196 => 243 | 193 => 240 | 3 => 3 | 198 => 246 | 49 => 244 | 194 => 241 | 201 => 249 | 226 => 251 | 46 => 252 | 227 => 253 | n => n, fun | 6 => 3 | n => n⟩
theorem Tryz.lays199 : Go.Proofs.Lays.n199 Tryz.prog Tryz.lays199_ren := {
  mixed := by kernel_rfl
  f199 := Tryz.func179.trans (congrArg some (by kernel_rfl))
  f261 := Tryz.func185.trans (congrArg some (by kernel_rfl))
  f311 := Tryz.func187.trans (congrArg some (by kernel_rfl))
  f312 := Tryz.func188.trans (congrArg some (by kernel_rfl))
  t0 := Tryz.underlying0
  a0 := Tryz.isAgg0
  z0 := Tryz.sizeOf0
  v0 := Tryz.zeroValue0
  t3 := Tryz.underlying3
  a3 := Tryz.isAgg3
  z3 := Tryz.sizeOf3
  v3 := Tryz.zeroValue3
  t4 := Tryz.underlying4
  a4 := Tryz.isAgg4
  z4 := Tryz.sizeOf4
  v4 := Tryz.zeroValue4
  t21 := Tryz.underlying21
  a21 := Tryz.isAgg21
  z21 := Tryz.sizeOf21
  v21 := Tryz.zeroValue21
  t46 := Tryz.underlying252
  a46 := Tryz.isAgg252
  z46 := Tryz.sizeOf252
  v46 := Tryz.zeroValue252
  t49 := Tryz.underlying244
  a49 := Tryz.isAgg244
  z49 := Tryz.sizeOf244
  v49 := Tryz.zeroValue244
  t51 := Tryz.underlying236
  a51 := Tryz.isAgg236
  z51 := Tryz.sizeOf236
  v51 := Tryz.zeroValue236
  t141 := Tryz.underlying238
  a141 := Tryz.isAgg238
  z141 := Tryz.sizeOf238
  v141 := Tryz.zeroValue238
  t193 := Tryz.underlying240
  a193 := Tryz.isAgg240
  z193 := Tryz.sizeOf240
  v193 := Tryz.zeroValue240
  t194 := Tryz.underlying241
  a194 := Tryz.isAgg241
  z194 := Tryz.sizeOf241
  v194 := Tryz.zeroValue241
  t196 := Tryz.underlying243
  a196 := Tryz.isAgg243
  z196 := Tryz.sizeOf243
  v196 := Tryz.zeroValue243
  t198 := Tryz.underlying246
  a198 := Tryz.isAgg246
  z198 := Tryz.sizeOf246
  v198 := Tryz.zeroValue246
  t201 := Tryz.underlying249
  a201 := Tryz.isAgg249
  z201 := Tryz.sizeOf249
  v201 := Tryz.zeroValue249
  t226 := Tryz.underlying251
  a226 := Tryz.isAgg251
  z226 := Tryz.sizeOf251
  v226 := Tryz.zeroValue251
  t227 := Tryz.underlying253
  a227 := Tryz.isAgg253
  z227 := Tryz.sizeOf253
  v227 := Tryz.zeroValue253
  g6 := by kernel_rfl }
open Go.RowKit Go.Lib in
theorem Tryz.unicode_IsSpace (r : Int) (w : World) (h0 : 0 ≤ r) (h : r ≤ 255) :
    Calls Tryz.prog 179 #[.int .i32 r] w fun e w' => e = .returned (.bool (Lib.isSpaceL r)) ∧ w' = w := Any.unicode_IsSpace Tryz.lays199 r w h0 h
def Tryz.lays311_ren : Go.Shelf.Ren := ⟨fun | 311 => 187 | n => n, fun | 193 => 240 | 49 => 244 | 4 => 4 | 3 => 3 | 0 => 0 | 226 => 251 | 198 => 246 | 46 => 252 | n => n, fun | n => n⟩
theorem Tryz.lays311 : Go.Proofs.Lays.n311 Tryz.prog Tryz.lays311_ren := {
  mixed := by kernel_rfl
  f311 := Tryz.func187.trans (congrArg some (by kernel_rfl))
  t0 := Tryz.underlying0
  a0 := Tryz.isAgg0
  z0 := Tryz.sizeOf0
  v0 := Tryz.zeroValue0
  t3 := Tryz.underlying3
  a3 := Tryz.isAgg3
  z3 := Tryz.sizeOf3
  v3 := Tryz.zeroValue3
  t4 := Tryz.underlying4
  a4 := Tryz.isAgg4
  z4 := Tryz.sizeOf4
  v4 := Tryz.zeroValue4
  t46 := Tryz.underlying252
  a46 := Tryz.isAgg252
  z46 := Tryz.sizeOf252
  v46 := Tryz.zeroValue252
  t49 := Tryz.underlying244
  a49 := Tryz.isAgg244
  z49 := Tryz.sizeOf244
  v49 := Tryz.zeroValue244
  t193 := Tryz.underlying240
  a193 := Tryz.isAgg240
  z193 := Tryz.sizeOf240
  v193 := Tryz.zeroValue240
  t198 := Tryz.underlying246
  a198 := Tryz.isAgg246
  z198 := Tryz.sizeOf246
  v198 := Tryz.zeroValue246
  t226 := Tryz.underlying251
  a226 := Tryz.isAgg251
  z226 := Tryz.sizeOf251
  v226 := Tryz.zeroValue251 }
open Go.RowKit Go.Lib in
theorem Tryz.unicode_is16_white (R oR : Nat) (z : Nat) (w : World) (hz : z < 65536) (hz0 : 255 < z) (c6 : w.cell? ⟨R, oR + 6, none⟩ = some (.int .u16 160)) (c7 : w.cell? ⟨R, oR + 7, none⟩ = some (.int .u16 5760)) (c8 : w.cell? ⟨R, oR + 8, none⟩ = some (.int .u16 5600)) (c9 : w.cell? ⟨R, oR + 9, none⟩ = some (.int .u16 8192)) (c10 : w.cell? ⟨R, oR + 10, none⟩ = some (.int .u16 8202)) (c11 : w.cell? ⟨R, oR + 11, none⟩ = some (.int .u16 1)) (c12 : w.cell? ⟨R, oR + 12, none⟩ = some (.int .u16 8232)) (c13 : w.cell? ⟨R, oR + 13, none⟩ = some (.int .u16 8233)) (c14 : w.cell? ⟨R, oR + 14, none⟩ = some (.int .u16 1)) (c15 : w.cell? ⟨R, oR + 15, none⟩ = some (.int .u16 8239)) (c16 : w.cell? ⟨R, oR + 16, none⟩ = some (.int .u16 8287)) (c17 : w.cell? ⟨R, oR + 17, none⟩ = some (.int .u16 48)) (c18 : w.cell? ⟨R, oR + 18, none⟩ = some (.int .u16 12288)) (c19 : w.cell? ⟨R, oR + 19, none⟩ = some (.int .u16 12288)) (c20 : w.cell? ⟨R, oR + 20, none⟩ = some (.int .u16 1)) :
    Calls Tryz.prog 187 #[.slice (some ⟨R, oR + 6, none⟩) 5 5, .int .u16 z] w fun e w' => e = .returned (.bool (Lib.isSpaceR z)) ∧ Below w.heap.size w w' := Any.unicode_is16_white Tryz.lays311 R oR z w hz hz0 c6 c7 c8 c9 c10 c11 c12 c13 c14 c15 c16 c17 c18 c19 c20
def Tryz.lays261_ren : Go.Shelf.Ren := ⟨fun | 261 => 185 | 311 => 187 | 312 => 188 | n => n, fun | 141 => 238 | 21 => 21 | 4 => 4 | 0 => 0 | 196 => 243 | 193 => 240 | 3 => 3 | 51 => 236 | 198 => 246 | 49 => 244 | 194 => 241 | 201 => 249 | 226 => 251 | 46 => 252 | 227 => 253 | n => n, fun | n => n⟩
theorem Tryz.lays261 : Go.Proofs.Lays.n261 Tryz.prog Tryz.lays261_ren := {
  mixed := by kernel_rfl
  f261 := Tryz.func185.trans (congrArg some (by kernel_rfl))
  f311 := Tryz.func187.trans (congrArg some (by kernel_rfl))
  f312 := Tryz.func188.trans (congrArg some (by kernel_rfl))
  t0 := Tryz.underlying0
  a0 := Tryz.isAgg0
  z0 := Tryz.sizeOf0
  v0 := Tryz.zeroValue0
  t3 := Tryz.underlying3
  a3 := Tryz.isAgg3
  z3 := Tryz.sizeOf3
  v3 := Tryz.zeroValue3
  t4 := Tryz.underlying4
  a4 := Tryz.isAgg4
  z4 := Tryz.sizeOf4
  v4 := Tryz.zeroValue4
  t21 := Tryz.underlying21
  a21 := Tryz.isAgg21
  z21 := Tryz.sizeOf21
  v21 := Tryz.zeroValue21
  t46 := Tryz.underlying252
  a46 := Tryz.isAgg252
  z46 := Tryz.sizeOf252
  v46 := Tryz.zeroValue252
  t49 := Tryz.underlying244
  a49 := Tryz.isAgg244
  z49 := Tryz.sizeOf244
  v49 := Tryz.zeroValue244
  t51 := Tryz.underlying236
  a51 := Tryz.isAgg236
  z51 := Tryz.sizeOf236
  v51 := Tryz.zeroValue236
  t141 := Tryz.underlying238
  a141 := Tryz.isAgg238
  z141 := Tryz.sizeOf238
  v141 := Tryz.zeroValue238
  t193 := Tryz.underlying240
  a193 := Tryz.isAgg240
  z193 := Tryz.sizeOf240
  v193 := Tryz.zeroValue240
  t194 := Tryz.underlying241
  a194 := Tryz.isAgg241
  z194 := Tryz.sizeOf241
  v194 := Tryz.zeroValue241
  t196 := Tryz.underlying243
  a196 := Tryz.isAgg243
  z196 := Tryz.sizeOf243
  v196 := Tryz.zeroValue243
  t198 := Tryz.underlying246
  a198 := Tryz.isAgg246
  z198 := Tryz.sizeOf246
  v198 := Tryz.zeroValue246
  t201 := Tryz.underlying249
  a201 := Tryz.isAgg249
  z201 := Tryz.sizeOf249
  v201 := Tryz.zeroValue249
  t226 := Tryz.underlying251
  a226 := Tryz.isAgg251
  z226 := Tryz.sizeOf251
  v226 := Tryz.zeroValue251
  t227 := Tryz.underlying253
  a227 := Tryz.isAgg253
  z227 := Tryz.sizeOf253
  v227 := Tryz.zeroValue253 }
open Go.RowKit Go.Lib in
/-- unicode.isExcludingLatin(White_Space, r), r beyond U+00FF or negative. (LAID: no walk: one application.) -/
theorem Tryz.unicode_isExcludingLatin_white (T oT R oR : Nat) (r : Int) (w : World) (hlo : -2147483648 ≤ r) (hhi : r ≤ 2147483647) (hr : r < 0 ∨ 255 < r) (h2 : w.cell? ⟨T, oT, none⟩ = some (.slice (some ⟨R, oR, none⟩) 7 7)) (h3 : w.cell? ⟨T, oT + 1, none⟩ = some (.slice none 0 0)) (h4 : w.cell? ⟨T, oT + 2, none⟩ = some (.int .i64 2)) (h5 : ∀ i, i < 21 → w.cell? ⟨R, oR + i, none⟩ = some (.int .u16 (whiteT.getD i 0))) :
    Calls Tryz.prog 185 #[.pointer (some ⟨T, oT, none⟩), .int .i32 r] w fun e w' => e = .returned (.bool (Lib.isSpaceZ r)) ∧ Below w.heap.size w w' := Any.unicode_isExcludingLatin_white Tryz.lays261 T oT R oR r w hlo hhi hr h2 h3 h4 h5
open Go.RowKit Go.Lib in
/-- **unicode.IsSpace AT EVERY int32.** (LAID: no walk: one application.) -/
theorem Tryz.unicode_IsSpace_any (r : Int) (w : World) (hlo : -2147483648 ≤ r) (hhi : r ≤ 2147483647) (hW : Lib.WhiteTab 3 w) :
    Calls Tryz.prog 179 #[.int .i32 r] w fun e w' => e = .returned (.bool (Lib.isSpaceZ r)) ∧ Below w.heap.size w w' := Any.unicode_IsSpace_any Tryz.lays199 r w hlo hhi hW
open Go.RowKit Go.Lib in
theorem Tryz.unicode_is16_any (T : Array Rg) (R oR cap : Nat) (z : Nat) (w : World) (hz : z < 65536) (hT : RgTab .u16 R oR T w) (hok : RgOk 65536 T) (hn : T.size ≤ 1000000000) :
    Calls Tryz.prog 187 #[.slice (some ⟨R, oR, none⟩) T.size cap, .int .u16 z] w fun e w' => e = .returned (.bool (is16Go T z)) ∧ ∃ q, w' = w.drewN q := Any.unicode_is16_any Tryz.lays311 T R oR cap z w hz hT hok hn
def Tryz.lays312_ren : Go.Shelf.Ren := ⟨fun | 312 => 188 | n => n, fun | 194 => 241 | 51 => 236 | 4 => 4 | 3 => 3 | 0 => 0 | 227 => 253 | 201 => 249 | 46 => 252 | n => n, fun | n => n⟩
theorem Tryz.lays312 : Go.Proofs.Lays.n312 Tryz.prog Tryz.lays312_ren := {
  mixed := by kernel_rfl
  f312 := Tryz.func188.trans (congrArg some (by kernel_rfl))
  t0 := Tryz.underlying0
  a0 := Tryz.isAgg0
  z0 := Tryz.sizeOf0
  v0 := Tryz.zeroValue0
  t3 := Tryz.underlying3
  a3 := Tryz.isAgg3
  z3 := Tryz.sizeOf3
  v3 := Tryz.zeroValue3
  t4 := Tryz.underlying4
  a4 := Tryz.isAgg4
  z4 := Tryz.sizeOf4
  v4 := Tryz.zeroValue4
  t46 := Tryz.underlying252
  a46 := Tryz.isAgg252
  z46 := Tryz.sizeOf252
  v46 := Tryz.zeroValue252
  t51 := Tryz.underlying236
  a51 := Tryz.isAgg236
  z51 := Tryz.sizeOf236
  v51 := Tryz.zeroValue236
  t194 := Tryz.underlying241
  a194 := Tryz.isAgg241
  z194 := Tryz.sizeOf241
  v194 := Tryz.zeroValue241
  t201 := Tryz.underlying249
  a201 := Tryz.isAgg249
  z201 := Tryz.sizeOf249
  v201 := Tryz.zeroValue249
  t227 := Tryz.underlying253
  a227 := Tryz.isAgg253
  z227 := Tryz.sizeOf253
  v227 := Tryz.zeroValue253 }
open Go.RowKit Go.Lib in
theorem Tryz.unicode_is32_any (T : Array Rg) (R oR cap : Nat) (z : Nat) (w : World) (hz : z < 4294967296) (hT : RgTab .u32 R oR T w) (hok : RgOk 4294967296 T) (hn : T.size ≤ 1000000000) :
    Calls Tryz.prog 188 #[.slice (some ⟨R, oR, none⟩) T.size cap, .int .u32 z] w fun e w' => e = .returned (.bool (is32Go T z)) ∧ Below w.heap.size w w' := Any.unicode_is32_any Tryz.lays312 T R oR cap z w hz hT hok hn
open Go.RowKit Go.Lib in
theorem Tryz.unicode_isExcludingLatin_any (Tb oT : Nat) (T : RTab) (r : Int) (w : World) (hlo : -2147483648 ≤ r) (hhi : r ≤ 2147483647) (hA : RTabAt Tb oT T w) (hok : RTabOk T) :
    Calls Tryz.prog 185 #[.pointer (some ⟨Tb, oT, none⟩), .int .i32 r] w fun e w' => e = .returned (.bool (exclGo T r)) ∧ Below w.heap.size w w' := Any.unicode_isExcludingLatin_any Tryz.lays261 Tb oT T r w hlo hhi hA hok
def Tryz.laysSlE041_f66_ren : Go.Shelf.Ren := ⟨fun | 41 => 66 | n => n, fun | 22 => 27 | 23 => 21 | 4 => 4 | n => n, fun | n => n⟩
theorem Tryz.laysSlE041_f66 : Go.Proofs.SlLaysE0.n41 Tryz.prog Tryz.laysSlE041_f66_ren := {
  mixed := by kernel_rfl
  f41 := ⟨Tryz.f66.name, by decide, Tryz.func66.trans (congrArg some (by kernel_rfl))⟩
  t4 := Tryz.underlying4
  a4 := Tryz.isAgg4
  z4 := Tryz.sizeOf4
  v4 := Tryz.zeroValue4
  t22 := Tryz.underlying27
  a22 := Tryz.isAgg27
  z22 := Tryz.sizeOf27
  v22 := Tryz.zeroValue27 }
open Go.RowKit Go.Lib in
/-- slices.Clone: "Clone returns a copy of the slice. The elements are copied using assignment, so this is a shallow clone. The result may have additional unused capacity. The result preserves the nilness of s.": OF A SLICE THAT IS NOT nil IT RETURNS A SLICE THAT IS NOT nil, OF THE SAME CELLS, IN MEMORY OF THE CALL's OWN ('ownsRow': the how-to's 6f); below the heap's size at the call all is as it was. (LAID AT THE INSTANCE 'slices.Clone[[]int32,int32]': no walk: one application.) -/
theorem Tryz.slices_Clone (i0 : TypeInfo) (z : Value) (size bytes : Nat) (hi : Tryz.prog.info? 21 = some i0) (hz0 : i0.zero = some z) (hz1 : i0.size = size) (hz2 : i0.bytes = bytes) (hzs : z.cells.size = size) (hsz : 0 < size) (z23 : ∀ w, (Go.sizeOf 21).run Tryz.prog w = .ok size w) (b off n c : Nat) (news : List Value) (w : World) (hl : news.length = n * size) (hn : n ≤ maxLen) (hbig : n * bytes ≤ 140737488355328) (hc : ∀ j u, news[j]? = some u → w.cell? ⟨b, off + j, none⟩ = some u) (h1 : ∀ u ∈ news, u.oneCell' = true) :
    Calls Tryz.prog 66 #[.slice (some ⟨b, off, none⟩) n c] w fun e w' => ∃ v', e = .returned v' ∧ w'.ownsRow w.heap.size 21 size v' n news ∧ v' ≠ .slice none 0 0 ∧ Below w.heap.size w w' := AnyE.slices_Clone Tryz.laysSlE041_f66 i0 z size bytes hi hz0 hz1 hz2 hzs hsz z23 b off n c news w hl hn hbig hc h1
open Go.RowKit Go.Lib in
/-- The same at nil: nil comes back; the world is as it was; nothing is asked of the element's type. (LAID AT THE INSTANCE 'slices.Clone[[]int32,int32]': no walk: one application.) -/
theorem Tryz.slices_Clone_nil (n c : Nat) (w : World) :
    Calls Tryz.prog 66 #[.slice none n c] w fun e w' => e = .returned (.slice none 0 0) ∧ w' = w := AnyE.slices_Clone_nil Tryz.laysSlE041_f66 n c w
end Go.Proofs

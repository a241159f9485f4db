import Derived.Shelf.Strings.Fields
import Derived.Shelf.LaysM
import Derived.Shelf.Strings.SplitShaped
import Derived.Shelf.Unicode.Latin
import Derived.Shelf.Unicode.Is16White
import Derived.Shelf.Unicode.IsSpaceAny
import Derived.Shelf.Unicode.Is16Any
import Derived.Shelf.Unicode.Is32Any
import Derived.Shelf.Unicode.ExclAny
import Derived.Ground.SlgnProg
import Derived.Shelf.SlicesE.Clone
import Derived.Test.YtbfbabbcdochjaaGreatDoorProg
namespace Go.Proofs
open Go.Shelf
def Tryz.lays157_ren : Go.Shelf.Ren := ⟨fun | 157 => 173 | 229 => 178 | 199 => 179 | 261 => 185 | 311 => 187 | 312 => 188 | n => n, fun | 9 => 9 | 31 => 118 | 3 => 3 | 5 => 5 | 4 => 4 | 119 => 227 | 0 => 0 | 40 => 229 | 152 => 233 | 21 => 21 | 154 => 235 | 51 => 236 | 141 => 238 | 196 => 243 | 193 => 240 | 198 => 246 | 49 => 244 | 194 => 241 | 201 => 249 | 226 => 251 | 46 => 252 | 227 => 253 | n => n, fun | 0 => 1 | 6 => 3 | n => n⟩
theorem Tryz.lays157 : Go.Proofs.Lays.n157 Tryz.prog Tryz.lays157_ren := {
  mixed := by kernel_rfl
  f157 := Tryz.func173.trans (congrArg some (by kernel_rfl))
  f199 := Tryz.func179.trans (congrArg some (by kernel_rfl))
  f229 := Tryz.func178.trans (congrArg some (by kernel_rfl))
  f261 := Tryz.func185.trans (congrArg some (by kernel_rfl))
  f311 := Tryz.func187.trans (congrArg some (by kernel_rfl))
  f312 := Tryz.func188.trans (congrArg some (by kernel_rfl))
  t0 := Tryz.underlying0
  a0 := Tryz.isAgg0
  z0 := Tryz.sizeOf0
  v0 := Tryz.zeroValue0
  t3 := Tryz.underlying3
  a3 := Tryz.isAgg3
  z3 := Tryz.sizeOf3
  v3 := Tryz.zeroValue3
  t4 := Tryz.underlying4
  a4 := Tryz.isAgg4
  z4 := Tryz.sizeOf4
  v4 := Tryz.zeroValue4
  t5 := Tryz.underlying5
  a5 := Tryz.isAgg5
  z5 := Tryz.sizeOf5
  v5 := Tryz.zeroValue5
  t9 := Tryz.underlying9
  a9 := Tryz.isAgg9
  z9 := Tryz.sizeOf9
  v9 := Tryz.zeroValue9
  t21 := Tryz.underlying21
  a21 := Tryz.isAgg21
  z21 := Tryz.sizeOf21
  v21 := Tryz.zeroValue21
  t31 := Tryz.underlying118
  a31 := Tryz.isAgg118
  z31 := Tryz.sizeOf118
  v31 := Tryz.zeroValue118
  t40 := Tryz.underlying229
  a40 := Tryz.isAgg229
  z40 := Tryz.sizeOf229
  v40 := Tryz.zeroValue229
  t46 := Tryz.underlying252
  a46 := Tryz.isAgg252
  z46 := Tryz.sizeOf252
  v46 := Tryz.zeroValue252
  t49 := Tryz.underlying244
  a49 := Tryz.isAgg244
  z49 := Tryz.sizeOf244
  v49 := Tryz.zeroValue244
  t51 := Tryz.underlying236
  a51 := Tryz.isAgg236
  z51 := Tryz.sizeOf236
  v51 := Tryz.zeroValue236
  t119 := Tryz.underlying227
  a119 := Tryz.isAgg227
  z119 := Tryz.sizeOf227
  t141 := Tryz.underlying238
  a141 := Tryz.isAgg238
  z141 := Tryz.sizeOf238
  v141 := Tryz.zeroValue238
  t152 := Tryz.underlying233
  a152 := Tryz.isAgg233
  z152 := Tryz.sizeOf233
  v152 := Tryz.zeroValue233
  t154 := Tryz.underlying235
  a154 := Tryz.isAgg235
  z154 := Tryz.sizeOf235
  v154 := Tryz.zeroValue235
  t193 := Tryz.underlying240
  a193 := Tryz.isAgg240
  z193 := Tryz.sizeOf240
  v193 := Tryz.zeroValue240
  t194 := Tryz.underlying241
  a194 := Tryz.isAgg241
  z194 := Tryz.sizeOf241
  v194 := Tryz.zeroValue241
  t196 := Tryz.underlying243
  a196 := Tryz.isAgg243
  z196 := Tryz.sizeOf243
  v196 := Tryz.zeroValue243
  t198 := Tryz.underlying246
  a198 := Tryz.isAgg246
  z198 := Tryz.sizeOf246
  v198 := Tryz.zeroValue246
  t201 := Tryz.underlying249
  a201 := Tryz.isAgg249
  z201 := Tryz.sizeOf249
  v201 := Tryz.zeroValue249
  t226 := Tryz.underlying251
  a226 := Tryz.isAgg251
  z226 := Tryz.sizeOf251
  v226 := Tryz.zeroValue251
  t227 := Tryz.underlying253
  a227 := Tryz.isAgg253
  z227 := Tryz.sizeOf253
  v227 := Tryz.zeroValue253
  g0 := by kernel_rfl
  g6 := by kernel_rfl }
open Go.RowKit Go.Lib in
theorem Tryz.strings_Fields (s : ByteArray) (w : World) (hs : s.size < 4294967281) (hascii : ∀ (j : Nat) b, s.data.toList[j]? = some b → b.toNat < 128) (htab : Lib.TabIs Tryz.prog w "strings.asciiSpace" .u8 Lib.asciiSpaceTab) :
    Calls Tryz.prog 173 #[.string s] w fun e w' =>
      e = .returned (.slice (some ⟨w.heap.size, 0, none⟩) (Lib.fields s.data.toList).length (Lib.fields s.data.toList).length) ∧ w' = w.alloc (.cells ((Lib.fields s.data.toList).map fun l => Value.string ⟨l.toArray⟩).toArray 9) := Any.strings_Fields Tryz.lays157 (by kernel_rfl) (by kernel_rfl) s w hs hascii htab
end Go.Proofs

import Derived.Shelf.Small.Bits
import Derived.Shelf.Small.Wraps
import Derived.Shelf.Strconv.Itoa0
import Derived.Shelf.Strconv.Itoa1
import Derived.Shelf.LaysM
import Derived.Shelf.Strconv.Itoa2
import Derived.Shelf.Strconv.Itoa3
import Derived.Shelf.Sort.Plain
import Derived.Shelf.Strings.Prefix
import Derived.Shelf.Strings.Fields
import Derived.Shelf.Strings.SplitShaped
import Derived.Shelf.Unicode.Latin
import Derived.Shelf.Unicode.Is16White
import Derived.Shelf.Unicode.IsSpaceAny
import Derived.Shelf.Unicode.Is16WhiteD
import Derived.Shelf.Unicode.Is16Any
import Derived.Shelf.Unicode.Is32Any
import Derived.Shelf.Unicode.ExclAny
import Derived.Shelf.Slices.Turned
import Derived.Shelf.Slices.Equal
import Derived.Ground.Names2Prog
import Derived.Shelf.Slices.SearchI
import Derived.Shelf.Slices.In.SortNone
import Derived.Shelf.Slices.Empties2
import Derived.Ground.SlgnProg
import Derived.Shelf.SlicesE.Clone
import Derived.Test.YtnhelcmddjbafaaGreatDoorProg
namespace Go.Proofs
open Go.Shelf Tryz
def Tryz.lays125_ren:Ren:=⟨fun |125=>230|128=>290|129=>106|n=>n,fun |46=>209|3=>3|51=>265|53=>27|4=>4|5=>5|9=>9|n=>n,fun |n=>n⟩
theorem Tryz.lays125:Lays.n125 prog lays125_ren:=by constructor<;>intros<;>kernel_rfl
theorem Tryz.bits_Len (x:Int) (w:World) (h0:0<=x) (h1:x<=18446744073709551615) :
 Calls prog 230 #[.int .u64 x] w fun e w'=>e=.returned (.int .i64 (Lib.bitLen x.toNat))/\w'=w:=Any.bits_Len lays125 x w h0 h1
def Tryz.lays129_ren:Ren:=⟨fun |129=>106|n=>n,fun |53=>27|3=>3|4=>4|46=>209|5=>5|9=>9|n=>n,fun |n=>n⟩
theorem Tryz.lays129:Lays.n129 prog lays129_ren:=by constructor<;>intros<;>kernel_rfl
theorem Tryz.bits_Len64 (x:Int) (w:World) (h0:0<=x) (h1:x<=18446744073709551615) :
 Calls prog 106 #[.int .u64 x] w fun e w'=>e=.returned (.int .i64 (Lib.bitLen x.toNat))/\w'=w:=Any.bits_Len64 lays129 x w h0 h1
def Tryz.lays189_ren:Ren:=⟨fun |189=>164|125=>230|257=>229|128=>290|129=>106|294=>281|295=>282|296=>283|297=>284|298=>285|299=>286|216=>287|300=>288|301=>289|328=>311|329=>312|330=>313|331=>314|332=>315|215=>316|343=>328|n=>n,fun |28=>35|3=>3|46=>209|0=>0|51=>265|53=>27|4=>4|183=>367|182=>366|131=>201|5=>5|9=>9|218=>384|222=>388|228=>402|229=>403|n=>n,fun |n=>n⟩
theorem Tryz.lays189:Lays.n189 prog lays189_ren:=by constructor<;>intros<;>kernel_rfl
open Go.Sort Go.RowKit in
theorem Tryz.slices_Sort_int (blk off cap:Nat) (zs:List Int) (w:World) (hH:Holds (Value.int .i64) w blk off zs.toArray) (hblk:blk<w.heap.size) (hsz:zs.length<4611686018427387904) :
 Calls prog 164 #[.slice (some ⟨blk,off,none⟩) zs.length cap] w fun e w' =>
 e=.returned (.tuple #[])/\∃ n os,w'=grow (putRow (Value.int .i64) (Sort.ahead w n) blk off (zs.mergeSort fun x y=>decide (x<=y)).toArray) os:=Any.slices_Sort_int lays189 blk off cap zs w hH hblk hsz
def Tryz.lays99_ren:Ren:=⟨fun |99=>227|206=>280|n=>n,fun |9=>9|4=>4|3=>3|n=>n,fun |n=>n⟩
theorem Tryz.lays99:Lays.n99 prog lays99_ren:=by constructor<;>intros<;>kernel_rfl
open Go.RowKit Go.Lib in
theorem Tryz.strings_HasPrefix (s p:ByteArray) (w:World) :
 Calls prog 227 #[.string s,.string p] w fun e w'=>e=.returned (.bool (Lib.hasPrefix s.data.toList p.data.toList))/\w'=w:=Any.strings_HasPrefix lays99 s p w
def Tryz.lays157_ren:Ren:=⟨fun |157=>317|229=>329|199=>330|261=>340|311=>344|312=>345|n=>n,fun |9=>9|31=>241|3=>3|5=>5|4=>4|119=>405|0=>0|40=>407|152=>414|21=>21|154=>416|51=>265|141=>418|196=>423|193=>420|198=>425|49=>28|194=>421|201=>428|226=>432|46=>209|227=>433|n=>n,fun |0=>1|6=>4|n=>n⟩
theorem Tryz.lays157:Lays.n157 prog lays157_ren:=by constructor<;>intros<;>kernel_rfl
open Go.RowKit Go.Lib in
theorem Tryz.strings_Fields (s:ByteArray) (w:World) (hs:s.size<4294967281) (hascii:∀ (j:Nat) b,s.data.toList[j]?=some b → b.toNat<128) (htab:Lib.TabIs prog w "strings.asciiSpace" .u8 Lib.asciiSpaceTab) :
 Calls prog 317 #[.string s] w fun e w' =>
 e=.returned (.slice (some ⟨w.heap.size,0,none⟩) (Lib.fields s.data.toList).length (Lib.fields s.data.toList).length)/\w'=w.alloc (.cells ((Lib.fields s.data.toList).map fun l=>Value.string ⟨l.toArray⟩).toArray 9):=Any.strings_Fields lays157 (by kernel_rfl) (by kernel_rfl) s w hs hascii htab
def Tryz.lays107_ren:Ren:=⟨fun |107=>163|108=>228|n=>n,fun |28=>35|3=>3|4=>4|0=>0|n=>n,fun |n=>n⟩
theorem Tryz.lays107:Lays.n107 prog lays107_ren:=by constructor<;>intros<;>kernel_rfl
open Go.Lib in
theorem Tryz.slices_Contains_int (b off n c:Nat) (zs:List Int) (x:Int) (w:World) (hz:n<=zs.length) (hbig:n<=9223372036854775807) (hc:∀ j,j<zs.length → w.cell? ⟨b,off+j,none⟩=some (.int .i64 (zs.getD j 0))) :
 Calls prog 163 #[.slice (some ⟨b,off,none⟩) n c,.int .i64 x] w fun e w'=>e=.returned (.bool ((zs.take n).contains x))/\w'=w:=Any.slices_Contains_int lays107 b off n c zs x w hz hbig hc
open Go.Lib in
theorem Tryz.slices_Contains_int_empty (a:Option Addr) (c:Nat) (x:Int) (w:World) :
 Calls prog 163 #[.slice a 0 c,.int .i64 x] w fun e w'=>e=.returned (.bool false)/\w'=w:=Any.slices_Contains_int_empty lays107 a c x w
def Tryz.lays111_ren:Ren:=⟨fun |111=>240|n=>n,fun |28=>35|3=>3|4=>4|0=>0|n=>n,fun |n=>n⟩
theorem Tryz.lays111:Lays.n111 prog lays111_ren:=by constructor<;>intros<;>kernel_rfl
open Go.RowKit Go.Lib in
theorem Tryz.slices_Equal_int (b1 o1 n c b2 o2 m d:Nat) (xs ys:List Int) (w:World) (hx:n<=xs.length) (hy:m<=ys.length) (hbig:n<=9223372036854775807) (hbig2:m<=9223372036854775807) (hc1:∀ j,j<xs.length → w.cell? ⟨b1,o1+j,none⟩=some (.int .i64 (xs.getD j 0))) (hc2:∀ j,j<ys.length → w.cell? ⟨b2,o2+j,none⟩=some (.int .i64 (ys.getD j 0))) :
 Calls prog 240 #[.slice (some ⟨b1,o1,none⟩) n c,.slice (some ⟨b2,o2,none⟩) m d] w fun e w'=>e=.returned (.bool (xs.take n == ys.take m))/\∃ q,w'=w.drewN q:=Any.slices_Equal_int lays111 b1 o1 n c b2 o2 m d xs ys w hx hy hbig hbig2 hc1 hc2
open Go.RowKit Go.Lib in
theorem Tryz.slices_Equal_int_empty (a1 a2:Option Addr) (c m d:Nat) (w:World) (hbig2:m<=9223372036854775807) :
 Calls prog 240 #[.slice a1 0 c,.slice a2 m d] w fun e w'=>e=.returned (.bool (decide (m=0)))/\w'=w:=Any.slices_Equal_int_empty lays111 a1 a2 c m d w hbig2
open Go.RowKit Go.Sort in
theorem Tryz.slices_Sort_int_none (p:Option Addr) (cap:Nat) (w:World) :
 Calls prog 164 #[.slice p 0 cap] w fun e w'=>e=.returned (.tuple #[])/\w'=w:=Any.slices_Sort_int_none lays189 p cap w
end Go.Proofs

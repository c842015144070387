/- A part of the proof. -/
import Derived.Test.YtkmjcombhjombaaGreatDoorJ00
set_option maxRecDepth 100000
set_option maxHeartbeats 20000000
namespace Go.Proofs
open Go.Shelf
def Tryz.lays169_ren:Go.Shelf.Ren:=⟨fun | 169=>190 | n=>n,fun | 70=>276 | 9=>9 | 0=>0 | 72=>278 | 37=>106 | 127=>322 | 3=>3 | 5=>5 | n=>n,fun | n=>n⟩
theorem Tryz.lays169:Go.Proofs.Lays.n169 Tryz.prog Tryz.lays169_ren:=by constructor<;>first|kernel_rfl|(intro _;kernel_rfl)|decide
theorem Tryz.Builder_Extra_169:Builder.Extra Tryz.prog Tryz.lays169_ren:={
 sizeBuilder:=by kernel_rfl
 liesBuilder:=by kernel_rfl
 t5:=Tryz.underlying5
 a5:=Tryz.isAgg5
 z5:=Tryz.sizeOf5
 v5:=Tryz.zeroValue5
 infoByte:=by kernel_rfl
 cellsByte:=by kernel_rfl
 sizeByte:=by kernel_rfl
 neB5:=by decide }
open Go.RowKit in
theorem Tryz.Builder_String_any (B b:Nat)(l:List UInt8)(w:World)(h:Lib.IsBuilder 278 5 B b (Lib.byteCells l) w)(z:B<=w.heap.size):Calls Tryz.prog 190 #[.pointer (some ⟨b,0,none⟩)] w fun e w'=>e=.returned (.string ⟨l.toArray⟩)/\Below B w w':=Any.Builder_String_any Tryz.lays169 Tryz.Builder_Extra_169 B b l w h z
def Tryz.lays156_ren:Go.Shelf.Ren:=⟨fun | 156=>193 | 165=>238 | 166=>188 | 169=>190 | 240=>235 | 241=>272 | 276=>268 | 277=>282 | n=>n,fun | 31=>33 | 9=>9 | 3=>3 | 4=>4 | 0=>0 | 20=>20 | 72=>278 | 76=>279 | 70=>276 | 37=>106 | 75=>191 | 127=>322 | 164=>295 | 5=>5 | 80=>282 | n=>n,fun | n=>n⟩
theorem Tryz.lays156:Go.Proofs.Lays.n156 Tryz.prog Tryz.lays156_ren:=by constructor<;>first|kernel_rfl|(intro _;kernel_rfl)|decide
theorem Tryz.Builder_Extra_156:Builder.Extra Tryz.prog Tryz.lays156_ren:={
 sizeBuilder:=by kernel_rfl
 liesBuilder:=by kernel_rfl
 t5:=Tryz.underlying5
 a5:=Tryz.isAgg5
 z5:=Tryz.sizeOf5
 v5:=Tryz.zeroValue5
 infoByte:=by kernel_rfl
 cellsByte:=by kernel_rfl
 sizeByte:=by kernel_rfl
 neB5:=by decide }
open Go.RowKit in
theorem Tryz.strings_Join_none (a:Option Addr)(c:Nat)(z:ByteArray)(w:World):Calls Tryz.prog 193 #[.slice a 0 c,.string z] w fun e w'=>e=.returned (.string ⟨#[]⟩)/\w'=w:=Any.strings_Join_none Tryz.lays156 Tryz.Builder_Extra_156 a c z w
open Go.RowKit in
theorem Tryz.strings_Join (J o c:Nat)(F:List ByteArray)(z:ByteArray)(w:World)(D:∀ (j:Nat) x,F[j]?=some x->w.cell? ⟨J,o+j,none⟩=some (.string x))(K:J<w.heap.size)(M:F.length<=140737488355328)(H:F.length<=c)(I:(Lib.join (F.map (·.data.toList)) z.data.toList).length<=140737488355328):Calls Tryz.prog 193 #[.slice (some ⟨J,o,none⟩) F.length c,.string z] w fun e w'=>e=.returned (.string ⟨(Lib.join (F.map (·.data.toList)) z.data.toList).toArray⟩)/\Below w.heap.size w w':=Any.strings_Join Tryz.lays156 Tryz.Builder_Extra_156 J o c F z w D K M H I
def Tryz.lays161_ren:Go.Shelf.Ren:=⟨fun | 161=>279 | 231=>123 | 227=>125 | 233=>126 | 235=>128 | 228=>180 | 197=>181 | 151=>182 | 260=>229 | 152=>203 | 137=>142 | 119=>253 | 224=>251 | 225=>250 | 217=>197 | 266=>243 | n=>n,fun | 9=>9 | 4=>4 | 3=>3 | 5=>5 | 117=>220 | 116=>219 | 0=>0 | 124=>223 | 105=>270 | 21=>21 | 119=>358 | 46=>216 | 139=>361 | 138=>360 | n=>n,fun | 3=>7 | 4=>8 | n=>n⟩
theorem Tryz.lays161:Go.Proofs.Lays.n161 Tryz.prog Tryz.lays161_ren:=by constructor<;>first|kernel_rfl|(intro _;kernel_rfl)|decide
open Go.RowKit in
theorem Tryz.strings_TrimLeft_one (s:ByteArray)(c:UInt8)(z:c.toNat<128)(w:World):Calls Tryz.prog 279 #[.string s,.string ⟨#[c]⟩] w fun e w'=>e=.returned (.string ⟨(Lib.trimLeftB s.data.toList c).toArray⟩)/\w'=w:=Any.strings_TrimLeft_one Tryz.lays161 s c z w
def Tryz.lays160_ren:Go.Shelf.Ren:=⟨fun | 160=>78 | 232=>124 | 231=>123 | 227=>125 | 234=>127 | 233=>126 | 236=>129 | 235=>128 | 228=>180 | 271=>183 | 151=>182 | 197=>181 | 120=>230 | 152=>203 | 260=>229 | 137=>142 | 119=>253 | 224=>251 | 225=>250 | 217=>197 | 266=>243 | n=>n,fun | 9=>9 | 4=>4 | 3=>3 | 5=>5 | 117=>220 | 116=>219 | 0=>0 | 124=>223 | 21=>21 | 105=>270 | 46=>216 | 119=>358 | 139=>361 | 138=>360 | n=>n,fun | 3=>7 | 4=>8 | n=>n⟩
theorem Tryz.lays160:Go.Proofs.Lays.n160 Tryz.prog Tryz.lays160_ren:=by constructor<;>first|kernel_rfl|(intro _;kernel_rfl)|decide
def Tryz.lays119_ren:Go.Shelf.Ren:=⟨fun | 119=>253 | n=>n,fun | 21=>21 | 4=>4 | n=>n,fun | n=>n⟩
theorem Tryz.lays119:Go.Proofs.Lays.n119 Tryz.prog Tryz.lays119_ren:=by constructor<;>first|kernel_rfl|(intro _;kernel_rfl)|decide
theorem Tryz.utf8_ValidRune (r:Int)(w:World):Calls Tryz.prog 253 #[.int .i32 r] w fun e w'=>e=.returned (.bool (Lib.validRune r))/\w'=w:=Any.utf8_ValidRune Tryz.lays119 r w
def Tryz.lays106_ren:Go.Shelf.Ren:=⟨fun | 106=>276 | 213=>284 | 265=>290 | n=>n,fun | 9=>9 | 3=>3 | n=>n,fun | n=>n⟩
theorem Tryz.lays106:Go.Proofs.Lays.n106 Tryz.prog Tryz.lays106_ren:=by constructor<;>first|kernel_rfl|(intro _;kernel_rfl)|decide
open Go.RowKit in
theorem Tryz.strings_Compare (a b:ByteArray)(w:World):Calls Tryz.prog 276 #[.string a,.string b] w fun e w'=>e=.returned (.int .i64 (Lib.compareBytes a.data.toList b.data.toList))/\w'=w:=Any.strings_Compare Tryz.lays106 a b w
def Tryz.lays137_ren:Go.Shelf.Ren:=⟨fun | 137=>142 | 217=>197 | 266=>243 | n=>n,fun | 9=>9 | 5=>5 | 3=>3 | n=>n,fun | n=>n⟩
theorem Tryz.lays137:Go.Proofs.Lays.n137 Tryz.prog Tryz.lays137_ren:=by constructor<;>first|kernel_rfl|(intro _;kernel_rfl)|decide
open Go.RowKit in
theorem Tryz.strings_IndexByte (s:ByteArray)(c:Int)(w:World):Calls Tryz.prog 142 #[.string s,.int .u8 c] w fun e w'=>e=.returned (.int .i64 (Lib.indexByte s.data.toList c.toNat.toUInt8))/\w'=w:=Any.strings_IndexByte Tryz.lays137 s c w
def Tryz.lays103_ren:Go.Shelf.Ren:=⟨fun | 103=>131 | 210=>184 | 206=>231 | n=>n,fun | 9=>9 | 4=>4 | 24=>209 | 3=>3 | n=>n,fun | n=>n⟩
theorem Tryz.lays103:Go.Proofs.Lays.n103 Tryz.prog Tryz.lays103_ren:=by constructor<;>first|kernel_rfl|(intro _;kernel_rfl)|decide
open Go.RowKit in
theorem Tryz.strings_CutPrefix (s p:ByteArray)(w:World):Calls Tryz.prog 131 #[.string s,.string p] w fun e w'=>e=.returned (.tuple #[.string ⟨(Lib.trimPrefix s.data.toList p.data.toList).toArray⟩,.bool (Lib.hasPrefix s.data.toList p.data.toList)])/\w'=w:=Any.strings_CutPrefix Tryz.lays103 s p w
def Tryz.lays122_ren:Go.Shelf.Ren:=⟨fun | 122=>275 | 215=>283 | n=>n,fun | 3=>3 | 4=>4 | n=>n,fun | n=>n⟩
theorem Tryz.lays122:Go.Proofs.Lays.n122 Tryz.prog Tryz.lays122_ren:=by constructor<;>first|kernel_rfl|(intro _;kernel_rfl)|decide
open Go.RowKit in
theorem Tryz.cmp_Compare_int (x y:Int)(w:World):Calls Tryz.prog 275 #[.int .i64 x,.int .i64 y] w fun e w'=>e=.returned (.int .i64 (Lib.compareInt x y))/\w'=w:=Any.cmp_Compare_int Tryz.lays122 x y w
def Tryz.laysM171_ren:Go.Shelf.Ren:=⟨fun | 171=>236 | 243=>269 | 246=>280 | 283=>286 | 284=>287 | 285=>288 | 286=>289 | 129=>179 | 317=>291 | 318=>292 | 319=>293 | 320=>294 | 337=>295 | 338=>296 | n=>n,fun | 3=>3 | 9=>9 | 2=>2 | 4=>4 | 171=>372 | 0=>0 | 53=>269 | 37=>106 | 5=>5 | 173=>374 | 212=>377 | 51=>267 | 20=>20 | 213=>378 | 46=>216 | 232=>379 | 233=>380 | n=>n,fun | 17=>10 | 18=>11 | 19=>12 | n=>n⟩
theorem Tryz.laysM171:Go.Proofs.LaysM.n171 Tryz.prog Tryz.laysM171_ren:=by constructor<;>first|kernel_rfl|(intro _;kernel_rfl)|(constructor<;>first|kernel_rfl|(intro _;kernel_rfl))
open Go.RowKit Go.Sort Go.Lib in
theorem Tryz.strconv_Itoa (n : Int) (F : -9223372036854775808 <= n) (D : n <= 9223372036854775807) (w : World) (z : Lib.TabIs Tryz.prog w "internal/strconv.uint64pow10" .u64 Lib.pow10Tab) :Calls Tryz.prog 236 #[.int .i64 n] w fun e w'=>e=.returned (.string ⟨(Lib.itoa n).toArray⟩)/\∃ k os,w'=grow (w.drewN k) os:=Any.strconv_Itoa Tryz.laysM171 n F D w z
def Tryz.lays144_ren:Go.Shelf.Ren:=⟨fun | 144=>119 | 143=>168 | 219=>202 | 217=>197 | 225=>250 | 224=>251 | 267=>252 | 266=>243 | 314=>274 | n=>n,fun | 9=>9 | 4=>4 | 3=>3 | 5=>5 | 46=>216 | 146=>367 | 51=>267 | n=>n,fun | 1=>5 | n=>n⟩
theorem Tryz.lays144:Go.Proofs.Lays.n144 Tryz.prog Tryz.lays144_ren:=by constructor<;>first|kernel_rfl|(intro _;kernel_rfl)|decide
open Go.RowKit Go.Lib in
theorem Tryz.strings_Contains_one (s:ByteArray)(c:UInt8)(w:World):Calls Tryz.prog 119 #[.string s,.string ⟨#[c]⟩] w fun e w'=>e=.returned (.bool (decide (0<=Lib.indexByte s.data.toList c)))/\w'=w:=Any.strings_Contains_one Tryz.lays144 s c w
def Tryz.lays145_ren:Go.Shelf.Ren:=⟨fun | 145=>96 | 220=>150 | 219=>202 | 217=>197 | 225=>250 | 224=>251 | 267=>252 | 266=>243 | 314=>274 | n=>n,fun | 9=>9 | 4=>4 | 59=>188 | 3=>3 | 5=>5 | 46=>216 | 146=>367 | 51=>267 | n=>n,fun | 1=>5 | n=>n⟩
theorem Tryz.lays145:Go.Proofs.Lays.n145 Tryz.prog Tryz.lays145_ren:=by constructor<;>first|kernel_rfl|(intro _;kernel_rfl)|decide
open Go.RowKit Go.Lib in
theorem Tryz.strings_Cut (s z:ByteArray)(m:Int)(w:World)(D:s.size<4294967281)(F:w.cell? ⟨5,0,none⟩=some (.int .i64 m)):Calls Tryz.prog 96 #[.string s,.string z] w fun e w'=>e=.returned (.tuple #[.string ⟨(Lib.cut s.data.toList z.data.toList).1.toArray⟩,.string ⟨(Lib.cut s.data.toList z.data.toList).2.1.toArray⟩,.bool (Lib.cut s.data.toList z.data.toList).2.2])/\∃ n,w'=w.drewN n:=Any.strings_Cut Tryz.lays145 s z m w D F
def Tryz.lays149_ren:Go.Shelf.Ren:=⟨fun | 149=>165 | 222=>222 | n=>n,fun | 9=>9 | 5=>5 | 3=>3 | 4=>4 | n=>n,fun | n=>n⟩
theorem Tryz.lays149:Go.Proofs.Lays.n149 Tryz.prog Tryz.lays149_ren:=by constructor<;>first|kernel_rfl|(intro _;kernel_rfl)|decide
open Go.RowKit Go.Lib in
theorem Tryz.strings_LastIndexByte (s:ByteArray)(c:Int)(z:s.size<4611686018427387904)(w:World):Calls Tryz.prog 165 #[.string s,.int .u8 c] w fun e w'=>e=.returned (.int .i64 (Lib.lastIndexByte s c))/\w'=w:=Any.strings_LastIndexByte Tryz.lays149 s c z w
def Tryz.lays99_ren:Go.Shelf.Ren:=⟨fun | 99=>210 | 206=>231 | n=>n,fun | 9=>9 | 4=>4 | 3=>3 | n=>n,fun | n=>n⟩
theorem Tryz.lays99:Go.Proofs.Lays.n99 Tryz.prog Tryz.lays99_ren:=by constructor<;>first|kernel_rfl|(intro _;kernel_rfl)|decide
open Go.RowKit Go.Lib in
theorem Tryz.strings_HasPrefix (s p:ByteArray)(w:World):Calls Tryz.prog 210 #[.string s,.string p] w fun e w'=>e=.returned (.bool (Lib.hasPrefix s.data.toList p.data.toList))/\w'=w:=Any.strings_HasPrefix Tryz.lays99 s p w
def Tryz.lays101_ren:Go.Shelf.Ren:=⟨fun | 101=>271 | 208=>281 | 206=>231 | n=>n,fun | 9=>9 | 4=>4 | 3=>3 | n=>n,fun | n=>n⟩
theorem Tryz.lays101:Go.Proofs.Lays.n101 Tryz.prog Tryz.lays101_ren:=by constructor<;>first|kernel_rfl|(intro _;kernel_rfl)|decide
open Go.RowKit Go.Lib in
theorem Tryz.strings_TrimPrefix (s p:ByteArray)(w:World):Calls Tryz.prog 271 #[.string s,.string p] w fun e w'=>e=.returned (.string ⟨(Lib.trimPrefix s.data.toList p.data.toList).toArray⟩)/\w'=w:=Any.strings_TrimPrefix Tryz.lays101 s p w
def Tryz.lays146_ren:Go.Shelf.Ren:=⟨fun | 146=>133 | 221=>185 | 268=>232 | 138=>233 | 143=>168 | 195=>266 | 197=>181 | 218=>267 | 219=>202 | 260=>229 | 217=>197 | 225=>250 | 224=>251 | 267=>252 | 266=>243 | 314=>274 | n=>n,fun | 9=>9 | 31=>33 | 3=>3 | 4=>4 | 0=>0 | 105=>270 | 21=>21 | 5=>5 | 46=>216 | 119=>358 | 139=>361 | 138=>360 | 146=>367 | 51=>267 | n=>n,fun | 1=>5 | 3=>7 | 4=>8 | n=>n⟩
theorem Tryz.lays146:Go.Proofs.Lays.n146 Tryz.prog Tryz.lays146_ren:=by constructor<;>first|kernel_rfl|(intro _;kernel_rfl)|decide
open Go.RowKit Go.Lib in
theorem Tryz.strings_Split (s z:ByteArray)(m:Int)(w:World)(F:s.size<4294967281)(H:w.cell? ⟨5,0,none⟩=some (.int .i64 m))(D:1<=z.size):Calls Tryz.prog 133 #[.string s,.string z] w fun e w'=>
   e=.returned (.slice (some ⟨w.heap.size,0,none⟩) (Lib.countB s z+1) (Lib.countB s z+1))/\w'=w.alloc (.cells ((Lib.splitB z 0 (Lib.countB s z) s).map Value.string).toArray 9):=Any.strings_Split Tryz.lays146 (by kernel_rfl) s z m w F H D
def Tryz.lays152_ren:Go.Shelf.Ren:=⟨fun | 152=>203 | 137=>142 | 119=>253 | 224=>251 | 225=>250 | 217=>197 | 266=>243 | n=>n,fun | 9=>9 | 21=>21 | 3=>3 | 4=>4 | 5=>5 | 0=>0 | 46=>216 | n=>n,fun | n=>n⟩
theorem Tryz.lays152:Go.Proofs.Lays.n152 Tryz.prog Tryz.lays152_ren:=by constructor<;>first|kernel_rfl|(intro _;kernel_rfl)|decide
open Go.RowKit Go.Lib in
theorem Tryz.strings_IndexRune_ascii (s:ByteArray)(r:Int)(w:World)(D:0<=r)(z:r<128):Calls Tryz.prog 203 #[.string s,.int .i32 r] w fun e w'=>e=.returned (.int .i64 (Lib.indexByte s.data.toList r.toNat.toUInt8))/\w'=w:=Any.strings_IndexRune_ascii Tryz.lays152 s r w D z
def Tryz.lays226_ren:Go.Shelf.Ren:=⟨fun | 226=>204 | n=>n,fun | 3=>3 | 4=>4 | n=>n,fun | n=>n⟩
theorem Tryz.lays226:Go.Proofs.Lays.n226 Tryz.prog Tryz.lays226_ren:=by constructor<;>first|kernel_rfl|(intro _;kernel_rfl)|decide
open Go.RowKit Go.Lib in
theorem Tryz.strings_shouldUseASCIISet (n:Int)(w:World):Calls Tryz.prog 204 #[.int .i64 n] w fun e w'=>e=.returned (.bool (decide (8<n)))/\w'=w:=Any.strings_shouldUseASCIISet Tryz.lays226 n w
def Tryz.lays153_ren:Go.Shelf.Ren:=⟨fun | 153=>151 | 152=>203 | 226=>204 | 227=>125 | 228=>180 | 137=>142 | 119=>253 | 224=>251 | 225=>250 | 217=>197 | 266=>243 | n=>n,fun | 9=>9 | 3=>3 | 4=>4 | 5=>5 | 21=>21 | 117=>220 | 116=>219 | 0=>0 | 46=>216 | 124=>223 | n=>n,fun | n=>n⟩
theorem Tryz.lays153:Go.Proofs.Lays.n153 Tryz.prog Tryz.lays153_ren:=by constructor<;>first|kernel_rfl|(intro _;kernel_rfl)|decide
open Go.RowKit Go.Lib in
theorem Tryz.strings_IndexAny_long (F:∀ w,(zeroValue 219).run Tryz.prog w=.ok (.agg (Array.replicate 256 (.bool false))) w)(s z:ByteArray)(w:World)(J:2<=z.size)(I:8<s.size)(K:s.size<4294967281)(H:z.size<4294967281)(D:∀ (j:Nat) b,z.data.toList[j]?=some b->b.toNat<128):Calls Tryz.prog 151 #[.string s,.string z] w fun e w'=>e=.returned (.int .i64 (Lib.indexAny s.data.toList z.data.toList))/\w'=((w.alloc (.cells (Lib.setCells z.data.toList) 219)).alloc (.cells (Lib.setCells z.data.toList) 219)):=Any.strings_IndexAny_long Tryz.lays153 F (by kernel_rfl) s z w J I K H D
def Tryz.lays110_ren:Go.Shelf.Ren:=⟨fun | 110=>67 | 109=>109 | n=>n,fun | 31=>33 | 9=>9 | 4=>4 | 3=>3 | 0=>0 | n=>n,fun | n=>n⟩
theorem Tryz.lays110:Go.Proofs.Lays.n110 Tryz.prog Tryz.lays110_ren:=by constructor<;>first|kernel_rfl|(intro _;kernel_rfl)|decide
open Go.Lib in
theorem Tryz.slices_Contains_string (b off n c:Nat)(zs:List ByteArray)(x:ByteArray)(w:World)(F:n<=zs.length)(z:n<=9223372036854775807)(D:∀ j,j<zs.length->w.cell? ⟨b,off+j,none⟩=some (.string (zs.getD j ByteArray.empty))):Calls Tryz.prog 67 #[.slice (some ⟨b,off,none⟩) n c,.string x] w fun e w'=>e=.returned (.bool (Lib.containsS (zs.take n) x))/\w'=w:=Any.slices_Contains_string Tryz.lays110 b off n c zs x w F z D
end Go.Proofs

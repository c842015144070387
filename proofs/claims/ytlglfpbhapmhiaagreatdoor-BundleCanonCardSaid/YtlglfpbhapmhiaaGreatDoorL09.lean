/- A part of the proof. -/
import Derived.Test.YtlglfpbhapmhiaaGreatDoorProg
import Derived.Shelf.LaysM
import Derived.Shelf.Slices.Equal
import Derived.Shelf.Slices.Turned
import Derived.Shelf.Small.Bits
import Derived.Shelf.Small.Strs
import Derived.Shelf.Small.Utf8
import Derived.Shelf.Small.Wraps
import Derived.Shelf.Strconv.Itoa0
import Derived.Shelf.Strings.AsciiSet
import Derived.Shelf.Strings.Builder1
import Derived.Shelf.Strings.Builder2
import Derived.Shelf.Strings.BuilderF
import Derived.Shelf.Strings.Count
import Derived.Shelf.Strings.Cut
import Derived.Shelf.Strings.IndexAny
import Derived.Shelf.Strings.IndexAnyAll
import Derived.Shelf.Strings.LastIndex
import Derived.Shelf.Strings.OnBuilder
import Derived.Shelf.Strings.Prefix
import Derived.Shelf.Strings.Runes
import Derived.Shelf.Strings.Search1
import Derived.Shelf.Strings.Search2
import Derived.Shelf.Strings.Search3
import Derived.Shelf.Strings.Split
import Derived.Shelf.Strings.SplitShaped
import Derived.Shelf.Strings.Trim
import Derived.Shelf.Unicode.Decode
import Derived.Test.YtlglfpbhapmhiaaGreatDoorL00
set_option maxRecDepth 100000
set_option maxHeartbeats 20000000
set_option linter.unusedVariables false
set_option linter.unusedSimpArgs false
namespace Go.Proofs
open Go.Shelf
def Tryz.lays156_ren:Go.Shelf.Ren:=⟨fun | 156=>174 | 165=>207 | 166=>208 | 169=>209 | 240=>237 | 241=>238 | 276=>263 | 277=>264 | n=>n,fun | 31=>22 | 9=>9 | 3=>3 | 4=>4 | 0=>0 | 20=>20 | 72=>253 | 76=>255 | 70=>251 | 37=>33 | 75=>228 | 127=>282 | 164=>290 | 5=>5 | 80=>257 | n=>n,fun | n=>n⟩
theorem Tryz.lays156:Go.Proofs.Lays.n156 Tryz.prog Tryz.lays156_ren:={
 mixed:=by kernel_rfl
 f156:=Tryz.func174.trans (congrArg some (by kernel_rfl))
 f165:=Tryz.func207.trans (congrArg some (by kernel_rfl))
 f166:=Tryz.func208.trans (congrArg some (by kernel_rfl))
 f169:=Tryz.func209.trans (congrArg some (by kernel_rfl))
 f240:=Tryz.func237.trans (congrArg some (by kernel_rfl))
 f241:=Tryz.func238.trans (congrArg some (by kernel_rfl))
 f276:=Tryz.func263.trans (congrArg some (by kernel_rfl))
 f277:=Tryz.func264.trans (congrArg some (by kernel_rfl))
 t0:=Tryz.underlying0
 a0:=Tryz.isAgg0
 z0:=Tryz.sizeOf0
 v0:=Tryz.zeroValue0
 t3:=Tryz.underlying3
 a3:=Tryz.isAgg3
 z3:=Tryz.sizeOf3
 v3:=Tryz.zeroValue3
 t4:=Tryz.underlying4
 a4:=Tryz.isAgg4
 z4:=Tryz.sizeOf4
 v4:=Tryz.zeroValue4
 t9:=Tryz.underlying9
 a9:=Tryz.isAgg9
 z9:=Tryz.sizeOf9
 v9:=Tryz.zeroValue9
 t20:=Tryz.underlying20
 a20:=Tryz.isAgg20
 z20:=Tryz.sizeOf20
 v20:=Tryz.zeroValue20
 t31:=Tryz.underlying22
 a31:=Tryz.isAgg22
 z31:=Tryz.sizeOf22
 v31:=Tryz.zeroValue22
 t37:=Tryz.underlying33
 a37:=Tryz.isAgg33
 z37:=Tryz.sizeOf33
 v37:=Tryz.zeroValue33
 t70:=Tryz.underlying251
 a70:=Tryz.isAgg251
 z70:=Tryz.sizeOf251
 v70:=Tryz.zeroValue251
 t72:=Tryz.underlying253
 a72:=Tryz.isAgg253
 z72:=Tryz.sizeOf253
 v72:=Tryz.zeroValue253
 t75:=Tryz.underlying228
 a75:=Tryz.isAgg228
 z75:=Tryz.sizeOf228
 v75:=Tryz.zeroValue228
 t76:=Tryz.underlying255
 a76:=Tryz.isAgg255
 z76:=Tryz.sizeOf255
 v76:=Tryz.zeroValue255
 t127:=Tryz.underlying282
 a127:=Tryz.isAgg282
 z127:=Tryz.sizeOf282
 v127:=Tryz.zeroValue282
 t164:=Tryz.underlying290
 a164:=Tryz.isAgg290
 z164:=Tryz.sizeOf290
 v164:=Tryz.zeroValue290 }
theorem Tryz.Builder_Extra_156:Builder.Extra Tryz.prog Tryz.lays156_ren:={
 sizeBuilder:=by kernel_rfl
 liesBuilder:=by kernel_rfl
 t5:=Tryz.underlying5
 a5:=Tryz.isAgg5
 z5:=Tryz.sizeOf5
 v5:=Tryz.zeroValue5
 infoByte:=by kernel_rfl
 cellsByte:=by kernel_rfl
 sizeByte:=by kernel_rfl
 neB5:=by decide }
open Go.RowKit in
theorem Tryz.strings_Join_none (a:Option Addr)(c:Nat)(sep:ByteArray)(w:World):Calls Tryz.prog 174 #[.slice a 0 c,.string sep] w fun e w'=>e=.returned (.string ⟨#[]⟩)/\w'=w:=Any.strings_Join_none Tryz.lays156 Tryz.Builder_Extra_156 a c sep w
open Go.RowKit in
theorem Tryz.strings_Join (bk o c:Nat)(xs:List ByteArray)(sep:ByteArray)(w:World)(hcells:∀ (j:Nat) x,xs[j]?=some x->w.cell? ⟨bk,o+j,none⟩=some (.string x))(hbk:bk<w.heap.size)(hN:xs.length<=140737488355328)(hcap:xs.length<=c)(hlen:(Lib.join (xs.map (·.data.toList)) sep.data.toList).length<=140737488355328):Calls Tryz.prog 174 #[.slice (some ⟨bk,o,none⟩) xs.length c,.string sep] w fun e w'=>e=.returned (.string ⟨(Lib.join (xs.map (·.data.toList)) sep.data.toList).toArray⟩)/\Below w.heap.size w w':=Any.strings_Join Tryz.lays156 Tryz.Builder_Extra_156 bk o c xs sep w hcells hbk hN hcap hlen
def Tryz.lays160_ren:Go.Shelf.Ren:=⟨fun | 160=>187 | 232=>224 | 231=>223 | 227=>225 | 234=>227 | 233=>226 | 236=>229 | 235=>228 | 228=>246 | 271=>255 | 151=>254 | 197=>252 | 120=>270 | 152=>244 | 260=>269 | 137=>119 | 119=>265 | 224=>231 | 225=>230 | 217=>159 | 266=>197 | n=>n,fun | 9=>9 | 4=>4 | 3=>3 | 5=>5 | 117=>275 | 116=>274 | 0=>0 | 124=>278 | 21=>21 | 105=>302 | 46=>94 | 119=>330 | 139=>333 | 138=>332 | n=>n,fun | 3=>10 | 4=>11 | n=>n⟩
theorem Tryz.lays160:Go.Proofs.Lays.n160 Tryz.prog Tryz.lays160_ren:={
 mixed:=by kernel_rfl
 f119:=Tryz.func265.trans (congrArg some (by kernel_rfl))
 f120:=Tryz.func270.trans (congrArg some (by kernel_rfl))
 f137:=Tryz.func119.trans (congrArg some (by kernel_rfl))
 f151:=Tryz.func254.trans (congrArg some (by kernel_rfl))
 f152:=Tryz.func244.trans (congrArg some (by kernel_rfl))
 f160:=Tryz.func187.trans (congrArg some (by kernel_rfl))
 f197:=Tryz.func252.trans (congrArg some (by kernel_rfl))
 f217:=Tryz.func159.trans (congrArg some (by kernel_rfl))
 f224:=Tryz.func231.trans (congrArg some (by kernel_rfl))
 f225:=Tryz.func230.trans (congrArg some (by kernel_rfl))
 f227:=Tryz.func225.trans (congrArg some (by kernel_rfl))
 f228:=Tryz.func246.trans (congrArg some (by kernel_rfl))
 f231:=Tryz.func223.trans (congrArg some (by kernel_rfl))
 f232:=Tryz.func224.trans (congrArg some (by kernel_rfl))
 f233:=Tryz.func226.trans (congrArg some (by kernel_rfl))
 f234:=Tryz.func227.trans (congrArg some (by kernel_rfl))
 f235:=Tryz.func228.trans (congrArg some (by kernel_rfl))
 f236:=Tryz.func229.trans (congrArg some (by kernel_rfl))
 f260:=Tryz.func269.trans (congrArg some (by kernel_rfl))
 f266:=Tryz.func197.trans (congrArg some (by kernel_rfl))
 f271:=Tryz.func255.trans (congrArg some (by kernel_rfl))
 t0:=Tryz.underlying0
 a0:=Tryz.isAgg0
 z0:=Tryz.sizeOf0
 v0:=Tryz.zeroValue0
 t3:=Tryz.underlying3
 a3:=Tryz.isAgg3
 z3:=Tryz.sizeOf3
 v3:=Tryz.zeroValue3
 t4:=Tryz.underlying4
 a4:=Tryz.isAgg4
 z4:=Tryz.sizeOf4
 v4:=Tryz.zeroValue4
 t5:=Tryz.underlying5
 a5:=Tryz.isAgg5
 z5:=Tryz.sizeOf5
 v5:=Tryz.zeroValue5
 t9:=Tryz.underlying9
 a9:=Tryz.isAgg9
 z9:=Tryz.sizeOf9
 v9:=Tryz.zeroValue9
 t21:=Tryz.underlying21
 a21:=Tryz.isAgg21
 z21:=Tryz.sizeOf21
 v21:=Tryz.zeroValue21
 t46:=Tryz.underlying94
 a46:=Tryz.isAgg94
 z46:=Tryz.sizeOf94
 v46:=Tryz.zeroValue94
 t105:=Tryz.underlying302
 a105:=Tryz.isAgg302
 z105:=Tryz.sizeOf302
 v105:=Tryz.zeroValue302
 t116:=Tryz.underlying274
 a116:=Tryz.isAgg274
 z116:=Tryz.sizeOf274
 t117:=Tryz.underlying275
 a117:=Tryz.isAgg275
 z117:=Tryz.sizeOf275
 v117:=Tryz.zeroValue275
 t119:=Tryz.underlying330
 a119:=Tryz.isAgg330
 z119:=Tryz.sizeOf330
 t124:=Tryz.underlying278
 a124:=Tryz.isAgg278
 z124:=Tryz.sizeOf278
 v124:=Tryz.zeroValue278
 t138:=Tryz.underlying332
 a138:=Tryz.isAgg332
 z138:=Tryz.sizeOf332
 v138:=Tryz.zeroValue332
 t139:=Tryz.underlying333
 a139:=Tryz.isAgg333
 z139:=Tryz.sizeOf333
 v139:=Tryz.zeroValue333
 g3:=by kernel_rfl
 g4:=by kernel_rfl }
def Tryz.lays119_ren:Go.Shelf.Ren:=⟨fun | 119=>265 | n=>n,fun | 21=>21 | 4=>4 | n=>n,fun | n=>n⟩
theorem Tryz.lays119:Go.Proofs.Lays.n119 Tryz.prog Tryz.lays119_ren:={
 mixed:=by kernel_rfl
 f119:=Tryz.func265.trans (congrArg some (by kernel_rfl))
 t4:=Tryz.underlying4
 a4:=Tryz.isAgg4
 z4:=Tryz.sizeOf4
 v4:=Tryz.zeroValue4
 t21:=Tryz.underlying21
 a21:=Tryz.isAgg21
 z21:=Tryz.sizeOf21
 v21:=Tryz.zeroValue21 }
theorem Tryz.utf8_ValidRune (r:Int)(w:World):Calls Tryz.prog 265 #[.int .i32 r] w fun e w'=>e=.returned (.bool (Lib.validRune r))/\w'=w:=Any.utf8_ValidRune Tryz.lays119 r w
def Tryz.lays106_ren:Go.Shelf.Ren:=⟨fun | 106=>26 | 213=>60 | 265=>111 | n=>n,fun | 9=>9 | 3=>3 | n=>n,fun | n=>n⟩
theorem Tryz.lays106:Go.Proofs.Lays.n106 Tryz.prog Tryz.lays106_ren:={
 mixed:=by kernel_rfl
 f106:=Tryz.func26.trans (congrArg some (by kernel_rfl))
 f213:=Tryz.func60.trans (congrArg some (by kernel_rfl))
 f265:=Tryz.func111.trans (congrArg some (by kernel_rfl))
 t3:=Tryz.underlying3
 a3:=Tryz.isAgg3
 z3:=Tryz.sizeOf3
 v3:=Tryz.zeroValue3
 t9:=Tryz.underlying9
 a9:=Tryz.isAgg9
 z9:=Tryz.sizeOf9
 v9:=Tryz.zeroValue9 }
open Go.RowKit in
theorem Tryz.strings_Compare (a b:ByteArray)(w:World):Calls Tryz.prog 26 #[.string a,.string b] w fun e w'=>e=.returned (.int .i64 (Lib.compareBytes a.data.toList b.data.toList))/\w'=w:=Any.strings_Compare Tryz.lays106 a b w
def Tryz.lays137_ren:Go.Shelf.Ren:=⟨fun | 137=>119 | 217=>159 | 266=>197 | n=>n,fun | 9=>9 | 5=>5 | 3=>3 | n=>n,fun | n=>n⟩
theorem Tryz.lays137:Go.Proofs.Lays.n137 Tryz.prog Tryz.lays137_ren:={
 mixed:=by kernel_rfl
 f137:=Tryz.func119.trans (congrArg some (by kernel_rfl))
 f217:=Tryz.func159.trans (congrArg some (by kernel_rfl))
 f266:=Tryz.func197.trans (congrArg some (by kernel_rfl))
 t3:=Tryz.underlying3
 a3:=Tryz.isAgg3
 z3:=Tryz.sizeOf3
 v3:=Tryz.zeroValue3
 t5:=Tryz.underlying5
 a5:=Tryz.isAgg5
 z5:=Tryz.sizeOf5
 v5:=Tryz.zeroValue5
 t9:=Tryz.underlying9
 a9:=Tryz.isAgg9
 z9:=Tryz.sizeOf9
 v9:=Tryz.zeroValue9 }
open Go.RowKit in
theorem Tryz.strings_IndexByte (s:ByteArray)(c:Int)(w:World):Calls Tryz.prog 119 #[.string s,.int .u8 c] w fun e w'=>e=.returned (.int .i64 (Lib.indexByte s.data.toList c.toNat.toUInt8))/\w'=w:=Any.strings_IndexByte Tryz.lays137 s c w
def Tryz.lays103_ren:Go.Shelf.Ren:=⟨fun | 103=>167 | 210=>201 | 206=>202 | n=>n,fun | 9=>9 | 4=>4 | 24=>129 | 3=>3 | n=>n,fun | n=>n⟩
theorem Tryz.lays103:Go.Proofs.Lays.n103 Tryz.prog Tryz.lays103_ren:={
 mixed:=by kernel_rfl
 f103:=Tryz.func167.trans (congrArg some (by kernel_rfl))
 f206:=Tryz.func202.trans (congrArg some (by kernel_rfl))
 f210:=Tryz.func201.trans (congrArg some (by kernel_rfl))
 t3:=Tryz.underlying3
 a3:=Tryz.isAgg3
 z3:=Tryz.sizeOf3
 v3:=Tryz.zeroValue3
 t4:=Tryz.underlying4
 a4:=Tryz.isAgg4
 z4:=Tryz.sizeOf4
 v4:=Tryz.zeroValue4
 t9:=Tryz.underlying9
 a9:=Tryz.isAgg9
 z9:=Tryz.sizeOf9
 v9:=Tryz.zeroValue9
 t24:=Tryz.underlying129
 a24:=Tryz.isAgg129
 z24:=Tryz.sizeOf129
 v24:=Tryz.zeroValue129 }
open Go.RowKit in
theorem Tryz.strings_CutPrefix (s p:ByteArray)(w:World):Calls Tryz.prog 167 #[.string s,.string p] w fun e w'=>e=.returned (.tuple #[.string ⟨(Lib.trimPrefix s.data.toList p.data.toList).toArray⟩,.bool (Lib.hasPrefix s.data.toList p.data.toList)])/\w'=w:=Any.strings_CutPrefix Tryz.lays103 s p w
def Tryz.lays144_ren:Go.Shelf.Ren:=⟨fun | 144=>91 | 143=>135 | 219=>188 | 217=>159 | 225=>230 | 224=>231 | 267=>232 | 266=>197 | 314=>256 | n=>n,fun | 9=>9 | 4=>4 | 3=>3 | 5=>5 | 46=>94 | 146=>305 | 51=>137 | n=>n,fun | 1=>0 | n=>n⟩
theorem Tryz.lays144:Go.Proofs.Lays.n144 Tryz.prog Tryz.lays144_ren:={
 mixed:=by kernel_rfl
 f143:=Tryz.func135.trans (congrArg some (by kernel_rfl))
 f144:=Tryz.func91.trans (congrArg some (by kernel_rfl))
 f217:=Tryz.func159.trans (congrArg some (by kernel_rfl))
 f219:=Tryz.func188.trans (congrArg some (by kernel_rfl))
 f224:=Tryz.func231.trans (congrArg some (by kernel_rfl))
 f225:=Tryz.func230.trans (congrArg some (by kernel_rfl))
 f266:=Tryz.func197.trans (congrArg some (by kernel_rfl))
 f267:=Tryz.func232.trans (congrArg some (by kernel_rfl))
 f314:=Tryz.func256.trans (congrArg some (by kernel_rfl))
 t3:=Tryz.underlying3
 a3:=Tryz.isAgg3
 z3:=Tryz.sizeOf3
 v3:=Tryz.zeroValue3
 t4:=Tryz.underlying4
 a4:=Tryz.isAgg4
 z4:=Tryz.sizeOf4
 v4:=Tryz.zeroValue4
 t5:=Tryz.underlying5
 a5:=Tryz.isAgg5
 z5:=Tryz.sizeOf5
 v5:=Tryz.zeroValue5
 t9:=Tryz.underlying9
 a9:=Tryz.isAgg9
 z9:=Tryz.sizeOf9
 v9:=Tryz.zeroValue9
 t46:=Tryz.underlying94
 a46:=Tryz.isAgg94
 z46:=Tryz.sizeOf94
 v46:=Tryz.zeroValue94
 t51:=Tryz.underlying137
 a51:=Tryz.isAgg137
 z51:=Tryz.sizeOf137
 v51:=Tryz.zeroValue137
 t146:=Tryz.underlying305
 a146:=Tryz.isAgg305
 z146:=Tryz.sizeOf305
 v146:=Tryz.zeroValue305
 g1:=by kernel_rfl }
open Go.RowKit Go.Lib in
theorem Tryz.strings_Contains_one (s:ByteArray)(c:UInt8)(w:World):Calls Tryz.prog 91 #[.string s,.string ⟨#[c]⟩] w fun e w'=>e=.returned (.bool (decide (0<=Lib.indexByte s.data.toList c)))/\w'=w:=Any.strings_Contains_one Tryz.lays144 s c w
def Tryz.lays145_ren:Go.Shelf.Ren:=⟨fun | 145=>160 | 220=>198 | 219=>188 | 217=>159 | 225=>230 | 224=>231 | 267=>232 | 266=>197 | 314=>256 | n=>n,fun | 9=>9 | 4=>4 | 59=>194 | 3=>3 | 5=>5 | 46=>94 | 146=>305 | 51=>137 | n=>n,fun | 1=>0 | n=>n⟩
theorem Tryz.lays145:Go.Proofs.Lays.n145 Tryz.prog Tryz.lays145_ren:={
 mixed:=by kernel_rfl
 f145:=Tryz.func160.trans (congrArg some (by kernel_rfl))
 f217:=Tryz.func159.trans (congrArg some (by kernel_rfl))
 f219:=Tryz.func188.trans (congrArg some (by kernel_rfl))
 f220:=Tryz.func198.trans (congrArg some (by kernel_rfl))
 f224:=Tryz.func231.trans (congrArg some (by kernel_rfl))
 f225:=Tryz.func230.trans (congrArg some (by kernel_rfl))
 f266:=Tryz.func197.trans (congrArg some (by kernel_rfl))
 f267:=Tryz.func232.trans (congrArg some (by kernel_rfl))
 f314:=Tryz.func256.trans (congrArg some (by kernel_rfl))
 t3:=Tryz.underlying3
 a3:=Tryz.isAgg3
 z3:=Tryz.sizeOf3
 v3:=Tryz.zeroValue3
 t4:=Tryz.underlying4
 a4:=Tryz.isAgg4
 z4:=Tryz.sizeOf4
 v4:=Tryz.zeroValue4
 t5:=Tryz.underlying5
 a5:=Tryz.isAgg5
 z5:=Tryz.sizeOf5
 v5:=Tryz.zeroValue5
 t9:=Tryz.underlying9
 a9:=Tryz.isAgg9
 z9:=Tryz.sizeOf9
 v9:=Tryz.zeroValue9
 t46:=Tryz.underlying94
 a46:=Tryz.isAgg94
 z46:=Tryz.sizeOf94
 v46:=Tryz.zeroValue94
 t51:=Tryz.underlying137
 a51:=Tryz.isAgg137
 z51:=Tryz.sizeOf137
 v51:=Tryz.zeroValue137
 t59:=Tryz.underlying194
 a59:=Tryz.isAgg194
 z59:=Tryz.sizeOf194
 v59:=Tryz.zeroValue194
 t146:=Tryz.underlying305
 a146:=Tryz.isAgg305
 z146:=Tryz.sizeOf305
 v146:=Tryz.zeroValue305
 g1:=by kernel_rfl }
open Go.RowKit Go.Lib in
theorem Tryz.strings_Cut (s sep:ByteArray)(m:Int)(w:World)(hs:s.size<4294967281)(hm:w.cell? ⟨0,0,none⟩=some (.int .i64 m)):Calls Tryz.prog 160 #[.string s,.string sep] w fun e w'=>e=.returned (.tuple #[.string ⟨(Lib.cut s.data.toList sep.data.toList).1.toArray⟩,.string ⟨(Lib.cut s.data.toList sep.data.toList).2.1.toArray⟩,.bool (Lib.cut s.data.toList sep.data.toList).2.2])/\∃ n,w'=w.drewN n:=Any.strings_Cut Tryz.lays145 s sep m w hs hm
def Tryz.lays149_ren:Go.Shelf.Ren:=⟨fun | 149=>131 | 222=>185 | n=>n,fun | 9=>9 | 5=>5 | 3=>3 | 4=>4 | n=>n,fun | n=>n⟩
theorem Tryz.lays149:Go.Proofs.Lays.n149 Tryz.prog Tryz.lays149_ren:={
 mixed:=by kernel_rfl
 f149:=Tryz.func131.trans (congrArg some (by kernel_rfl))
 f222:=Tryz.func185.trans (congrArg some (by kernel_rfl))
 t3:=Tryz.underlying3
 a3:=Tryz.isAgg3
 z3:=Tryz.sizeOf3
 v3:=Tryz.zeroValue3
 t4:=Tryz.underlying4
 a4:=Tryz.isAgg4
 z4:=Tryz.sizeOf4
 v4:=Tryz.zeroValue4
 t5:=Tryz.underlying5
 a5:=Tryz.isAgg5
 z5:=Tryz.sizeOf5
 v5:=Tryz.zeroValue5
 t9:=Tryz.underlying9
 a9:=Tryz.isAgg9
 z9:=Tryz.sizeOf9
 v9:=Tryz.zeroValue9 }
open Go.RowKit Go.Lib in
theorem Tryz.strings_LastIndexByte (s:ByteArray)(c:Int)(hs:s.size<4611686018427387904)(w:World):Calls Tryz.prog 131 #[.string s,.int .u8 c] w fun e w'=>e=.returned (.int .i64 (Lib.lastIndexByte s c))/\w'=w:=Any.strings_LastIndexByte Tryz.lays149 s c hs w
def Tryz.lays99_ren:Go.Shelf.Ren:=⟨fun | 99=>169 | 206=>202 | n=>n,fun | 9=>9 | 4=>4 | 3=>3 | n=>n,fun | n=>n⟩
theorem Tryz.lays99:Go.Proofs.Lays.n99 Tryz.prog Tryz.lays99_ren:={
 mixed:=by kernel_rfl
 f99:=Tryz.func169.trans (congrArg some (by kernel_rfl))
 f206:=Tryz.func202.trans (congrArg some (by kernel_rfl))
 t3:=Tryz.underlying3
 a3:=Tryz.isAgg3
 z3:=Tryz.sizeOf3
 v3:=Tryz.zeroValue3
 t4:=Tryz.underlying4
 a4:=Tryz.isAgg4
 z4:=Tryz.sizeOf4
 v4:=Tryz.zeroValue4
 t9:=Tryz.underlying9
 a9:=Tryz.isAgg9
 z9:=Tryz.sizeOf9
 v9:=Tryz.zeroValue9 }
open Go.RowKit Go.Lib in
theorem Tryz.strings_HasPrefix (s p:ByteArray)(w:World):Calls Tryz.prog 169 #[.string s,.string p] w fun e w'=>e=.returned (.bool (Lib.hasPrefix s.data.toList p.data.toList))/\w'=w:=Any.strings_HasPrefix Tryz.lays99 s p w
def Tryz.lays101_ren:Go.Shelf.Ren:=⟨fun | 101=>236 | 208=>262 | 206=>202 | n=>n,fun | 9=>9 | 4=>4 | 3=>3 | n=>n,fun | n=>n⟩
theorem Tryz.lays101:Go.Proofs.Lays.n101 Tryz.prog Tryz.lays101_ren:={
 mixed:=by kernel_rfl
 f101:=Tryz.func236.trans (congrArg some (by kernel_rfl))
 f206:=Tryz.func202.trans (congrArg some (by kernel_rfl))
 f208:=Tryz.func262.trans (congrArg some (by kernel_rfl))
 t3:=Tryz.underlying3
 a3:=Tryz.isAgg3
 z3:=Tryz.sizeOf3
 v3:=Tryz.zeroValue3
 t4:=Tryz.underlying4
 a4:=Tryz.isAgg4
 z4:=Tryz.sizeOf4
 v4:=Tryz.zeroValue4
 t9:=Tryz.underlying9
 a9:=Tryz.isAgg9
 z9:=Tryz.sizeOf9
 v9:=Tryz.zeroValue9 }
open Go.RowKit Go.Lib in
theorem Tryz.strings_TrimPrefix (s p:ByteArray)(w:World):Calls Tryz.prog 236 #[.string s,.string p] w fun e w'=>e=.returned (.string ⟨(Lib.trimPrefix s.data.toList p.data.toList).toArray⟩)/\w'=w:=Any.strings_TrimPrefix Tryz.lays101 s p w
def Tryz.lays146_ren:Go.Shelf.Ren:=⟨fun | 146=>132 | 221=>186 | 268=>221 | 138=>222 | 143=>135 | 195=>251 | 197=>252 | 218=>253 | 219=>188 | 260=>269 | 217=>159 | 225=>230 | 224=>231 | 267=>232 | 266=>197 | 314=>256 | n=>n,fun | 9=>9 | 31=>22 | 3=>3 | 4=>4 | 0=>0 | 105=>302 | 21=>21 | 5=>5 | 46=>94 | 119=>330 | 139=>333 | 138=>332 | 146=>305 | 51=>137 | n=>n,fun | 1=>0 | 3=>10 | 4=>11 | n=>n⟩
theorem Tryz.lays146:Go.Proofs.Lays.n146 Tryz.prog Tryz.lays146_ren:={
 mixed:=by kernel_rfl
 f138:=Tryz.func222.trans (congrArg some (by kernel_rfl))
 f143:=Tryz.func135.trans (congrArg some (by kernel_rfl))
 f146:=Tryz.func132.trans (congrArg some (by kernel_rfl))
 f195:=Tryz.func251.trans (congrArg some (by kernel_rfl))
 f197:=Tryz.func252.trans (congrArg some (by kernel_rfl))
 f217:=Tryz.func159.trans (congrArg some (by kernel_rfl))
 f218:=Tryz.func253.trans (congrArg some (by kernel_rfl))
 f219:=Tryz.func188.trans (congrArg some (by kernel_rfl))
 f221:=Tryz.func186.trans (congrArg some (by kernel_rfl))
 f224:=Tryz.func231.trans (congrArg some (by kernel_rfl))
 f225:=Tryz.func230.trans (congrArg some (by kernel_rfl))
 f260:=Tryz.func269.trans (congrArg some (by kernel_rfl))
 f266:=Tryz.func197.trans (congrArg some (by kernel_rfl))
 f267:=Tryz.func232.trans (congrArg some (by kernel_rfl))
 f268:=Tryz.func221.trans (congrArg some (by kernel_rfl))
 f314:=Tryz.func256.trans (congrArg some (by kernel_rfl))
 t0:=Tryz.underlying0
 a0:=Tryz.isAgg0
 z0:=Tryz.sizeOf0
 v0:=Tryz.zeroValue0
 t3:=Tryz.underlying3
 a3:=Tryz.isAgg3
 z3:=Tryz.sizeOf3
 v3:=Tryz.zeroValue3
 t4:=Tryz.underlying4
 a4:=Tryz.isAgg4
 z4:=Tryz.sizeOf4
 v4:=Tryz.zeroValue4
 t5:=Tryz.underlying5
 a5:=Tryz.isAgg5
 z5:=Tryz.sizeOf5
 v5:=Tryz.zeroValue5
 t9:=Tryz.underlying9
 a9:=Tryz.isAgg9
 z9:=Tryz.sizeOf9
 v9:=Tryz.zeroValue9
 t21:=Tryz.underlying21
 a21:=Tryz.isAgg21
 z21:=Tryz.sizeOf21
 v21:=Tryz.zeroValue21
 t31:=Tryz.underlying22
 a31:=Tryz.isAgg22
 z31:=Tryz.sizeOf22
 v31:=Tryz.zeroValue22
 t46:=Tryz.underlying94
 a46:=Tryz.isAgg94
 z46:=Tryz.sizeOf94
 v46:=Tryz.zeroValue94
 t51:=Tryz.underlying137
 a51:=Tryz.isAgg137
 z51:=Tryz.sizeOf137
 v51:=Tryz.zeroValue137
 t105:=Tryz.underlying302
 a105:=Tryz.isAgg302
 z105:=Tryz.sizeOf302
 v105:=Tryz.zeroValue302
 t119:=Tryz.underlying330
 a119:=Tryz.isAgg330
 z119:=Tryz.sizeOf330
 t138:=Tryz.underlying332
 a138:=Tryz.isAgg332
 z138:=Tryz.sizeOf332
 v138:=Tryz.zeroValue332
 t139:=Tryz.underlying333
 a139:=Tryz.isAgg333
 z139:=Tryz.sizeOf333
 v139:=Tryz.zeroValue333
 t146:=Tryz.underlying305
 a146:=Tryz.isAgg305
 z146:=Tryz.sizeOf305
 v146:=Tryz.zeroValue305
 g1:=by kernel_rfl
 g3:=by kernel_rfl
 g4:=by kernel_rfl }
open Go.RowKit Go.Lib in
theorem Tryz.strings_Split (s sep:ByteArray)(m:Int)(w:World)(hs:s.size<4294967281)(hm:w.cell? ⟨0,0,none⟩=some (.int .i64 m))(h1:1<=sep.size):Calls Tryz.prog 132 #[.string s,.string sep] w fun e w'=>
   e=.returned (.slice (some ⟨w.heap.size,0,none⟩) (Lib.countB s sep+1) (Lib.countB s sep+1))/\w'=w.alloc (.cells ((Lib.splitB sep 0 (Lib.countB s sep) s).map Value.string).toArray 9):=Any.strings_Split Tryz.lays146 (by kernel_rfl) s sep m w hs hm h1
def Tryz.lays152_ren:Go.Shelf.Ren:=⟨fun | 152=>244 | 137=>119 | 119=>265 | 224=>231 | 225=>230 | 217=>159 | 266=>197 | n=>n,fun | 9=>9 | 21=>21 | 3=>3 | 4=>4 | 5=>5 | 0=>0 | 46=>94 | n=>n,fun | n=>n⟩
theorem Tryz.lays152:Go.Proofs.Lays.n152 Tryz.prog Tryz.lays152_ren:={
 mixed:=by kernel_rfl
 f119:=Tryz.func265.trans (congrArg some (by kernel_rfl))
 f137:=Tryz.func119.trans (congrArg some (by kernel_rfl))
 f152:=Tryz.func244.trans (congrArg some (by kernel_rfl))
 f217:=Tryz.func159.trans (congrArg some (by kernel_rfl))
 f224:=Tryz.func231.trans (congrArg some (by kernel_rfl))
 f225:=Tryz.func230.trans (congrArg some (by kernel_rfl))
 f266:=Tryz.func197.trans (congrArg some (by kernel_rfl))
 t0:=Tryz.underlying0
 a0:=Tryz.isAgg0
 z0:=Tryz.sizeOf0
 v0:=Tryz.zeroValue0
 t3:=Tryz.underlying3
 a3:=Tryz.isAgg3
 z3:=Tryz.sizeOf3
 v3:=Tryz.zeroValue3
 t4:=Tryz.underlying4
 a4:=Tryz.isAgg4
 z4:=Tryz.sizeOf4
 v4:=Tryz.zeroValue4
 t5:=Tryz.underlying5
 a5:=Tryz.isAgg5
 z5:=Tryz.sizeOf5
 v5:=Tryz.zeroValue5
 t9:=Tryz.underlying9
 a9:=Tryz.isAgg9
 z9:=Tryz.sizeOf9
 v9:=Tryz.zeroValue9
 t21:=Tryz.underlying21
 a21:=Tryz.isAgg21
 z21:=Tryz.sizeOf21
 v21:=Tryz.zeroValue21
 t46:=Tryz.underlying94
 a46:=Tryz.isAgg94
 z46:=Tryz.sizeOf94
 v46:=Tryz.zeroValue94 }
open Go.RowKit Go.Lib in
theorem Tryz.strings_IndexRune_ascii (s:ByteArray)(r:Int)(w:World)(h0:0<=r)(h1:r<128):Calls Tryz.prog 244 #[.string s,.int .i32 r] w fun e w'=>e=.returned (.int .i64 (Lib.indexByte s.data.toList r.toNat.toUInt8))/\w'=w:=Any.strings_IndexRune_ascii Tryz.lays152 s r w h0 h1
def Tryz.lays226_ren:Go.Shelf.Ren:=⟨fun | 226=>245 | n=>n,fun | 3=>3 | 4=>4 | n=>n,fun | n=>n⟩
theorem Tryz.lays226:Go.Proofs.Lays.n226 Tryz.prog Tryz.lays226_ren:={
 mixed:=by kernel_rfl
 f226:=Tryz.func245.trans (congrArg some (by kernel_rfl))
 t3:=Tryz.underlying3
 a3:=Tryz.isAgg3
 z3:=Tryz.sizeOf3
 v3:=Tryz.zeroValue3
 t4:=Tryz.underlying4
 a4:=Tryz.isAgg4
 z4:=Tryz.sizeOf4
 v4:=Tryz.zeroValue4 }
open Go.RowKit Go.Lib in
theorem Tryz.strings_shouldUseASCIISet (n:Int)(w:World):Calls Tryz.prog 245 #[.int .i64 n] w fun e w'=>e=.returned (.bool (decide (8<n)))/\w'=w:=Any.strings_shouldUseASCIISet Tryz.lays226 n w
def Tryz.lays153_ren:Go.Shelf.Ren:=⟨fun | 153=>217 | 152=>244 | 226=>245 | 227=>225 | 228=>246 | 137=>119 | 119=>265 | 224=>231 | 225=>230 | 217=>159 | 266=>197 | n=>n,fun | 9=>9 | 3=>3 | 4=>4 | 5=>5 | 21=>21 | 117=>275 | 116=>274 | 0=>0 | 46=>94 | 124=>278 | n=>n,fun | n=>n⟩
theorem Tryz.lays153:Go.Proofs.Lays.n153 Tryz.prog Tryz.lays153_ren:={
 mixed:=by kernel_rfl
 f119:=Tryz.func265.trans (congrArg some (by kernel_rfl))
 f137:=Tryz.func119.trans (congrArg some (by kernel_rfl))
 f152:=Tryz.func244.trans (congrArg some (by kernel_rfl))
 f153:=Tryz.func217.trans (congrArg some (by kernel_rfl))
 f217:=Tryz.func159.trans (congrArg some (by kernel_rfl))
 f224:=Tryz.func231.trans (congrArg some (by kernel_rfl))
 f225:=Tryz.func230.trans (congrArg some (by kernel_rfl))
 f226:=Tryz.func245.trans (congrArg some (by kernel_rfl))
 f227:=Tryz.func225.trans (congrArg some (by kernel_rfl))
 f228:=Tryz.func246.trans (congrArg some (by kernel_rfl))
 f266:=Tryz.func197.trans (congrArg some (by kernel_rfl))
 t0:=Tryz.underlying0
 a0:=Tryz.isAgg0
 z0:=Tryz.sizeOf0
 v0:=Tryz.zeroValue0
 t3:=Tryz.underlying3
 a3:=Tryz.isAgg3
 z3:=Tryz.sizeOf3
 v3:=Tryz.zeroValue3
 t4:=Tryz.underlying4
 a4:=Tryz.isAgg4
 z4:=Tryz.sizeOf4
 v4:=Tryz.zeroValue4
 t5:=Tryz.underlying5
 a5:=Tryz.isAgg5
 z5:=Tryz.sizeOf5
 v5:=Tryz.zeroValue5
 t9:=Tryz.underlying9
 a9:=Tryz.isAgg9
 z9:=Tryz.sizeOf9
 v9:=Tryz.zeroValue9
 t21:=Tryz.underlying21
 a21:=Tryz.isAgg21
 z21:=Tryz.sizeOf21
 v21:=Tryz.zeroValue21
 t46:=Tryz.underlying94
 a46:=Tryz.isAgg94
 z46:=Tryz.sizeOf94
 v46:=Tryz.zeroValue94
 t116:=Tryz.underlying274
 a116:=Tryz.isAgg274
 z116:=Tryz.sizeOf274
 t117:=Tryz.underlying275
 a117:=Tryz.isAgg275
 z117:=Tryz.sizeOf275
 v117:=Tryz.zeroValue275
 t124:=Tryz.underlying278
 a124:=Tryz.isAgg278
 z124:=Tryz.sizeOf278
 v124:=Tryz.zeroValue278 }
open Go.RowKit Go.Lib in
theorem Tryz.strings_IndexAny_long (hv116:∀ w,(zeroValue 274).run Tryz.prog w=.ok (.agg (Array.replicate 256 (.bool false))) w)(s chars:ByteArray)(w:World)(h2:2<=chars.size)(h8:8<s.size)(hs:s.size<4294967281)(hcs:chars.size<4294967281)(hascii:∀ (j:Nat) b,chars.data.toList[j]?=some b->b.toNat<128):Calls Tryz.prog 217 #[.string s,.string chars] w fun e w'=>e=.returned (.int .i64 (Lib.indexAny s.data.toList chars.data.toList))/\w'=((w.alloc (.cells (Lib.setCells chars.data.toList) 274)).alloc (.cells (Lib.setCells chars.data.toList) 274)):=Any.strings_IndexAny_long Tryz.lays153 hv116 (by kernel_rfl) s chars w h2 h8 hs hcs hascii
def Tryz.lays110_ren:Go.Shelf.Ren:=⟨fun | 110=>45 | 109=>83 | n=>n,fun | 31=>22 | 9=>9 | 4=>4 | 3=>3 | 0=>0 | n=>n,fun | n=>n⟩
theorem Tryz.lays110:Go.Proofs.Lays.n110 Tryz.prog Tryz.lays110_ren:={
 mixed:=by kernel_rfl
 f109:=Tryz.func83.trans (congrArg some (by kernel_rfl))
 f110:=Tryz.func45.trans (congrArg some (by kernel_rfl))
 t0:=Tryz.underlying0
 a0:=Tryz.isAgg0
 z0:=Tryz.sizeOf0
 v0:=Tryz.zeroValue0
 t3:=Tryz.underlying3
 a3:=Tryz.isAgg3
 z3:=Tryz.sizeOf3
 v3:=Tryz.zeroValue3
 t4:=Tryz.underlying4
 a4:=Tryz.isAgg4
 z4:=Tryz.sizeOf4
 v4:=Tryz.zeroValue4
 t9:=Tryz.underlying9
 a9:=Tryz.isAgg9
 z9:=Tryz.sizeOf9
 v9:=Tryz.zeroValue9
 t31:=Tryz.underlying22
 a31:=Tryz.isAgg22
 z31:=Tryz.sizeOf22
 v31:=Tryz.zeroValue22 }
open Go.Lib in
theorem Tryz.slices_Contains_string (b off n c:Nat)(zs:List ByteArray)(x:ByteArray)(w:World)(hz:n<=zs.length)(hbig:n<=9223372036854775807)(hc:∀ j,j<zs.length->w.cell? ⟨b,off+j,none⟩=some (.string (zs.getD j ByteArray.empty))):Calls Tryz.prog 45 #[.slice (some ⟨b,off,none⟩) n c,.string x] w fun e w'=>e=.returned (.bool (Lib.containsS (zs.take n) x))/\w'=w:=Any.slices_Contains_string Tryz.lays110 b off n c zs x w hz hbig hc
end Go.Proofs

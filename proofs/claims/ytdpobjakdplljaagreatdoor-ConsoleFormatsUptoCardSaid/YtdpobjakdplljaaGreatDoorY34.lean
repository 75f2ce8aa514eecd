import Derived.Test.YtdpobjakdplljaaGreatDoorY33
import Derived.Shelf.Strings.Search2
import Derived.Shelf.Strconv.Itoa3
import Derived.Shelf.Bytes.SlEqualAll
import Derived.Shelf.Strings.OnBuilder
import Derived.Test.YtdpobjakdplljaaGreatDoorY7
import Derived.Test.YtdpobjakdplljaaGreatDoorY8
import Derived.RangeFuncIn
import Derived.RangeFuncRecord
import Derived.RangeFuncCalls
import Derived.TacticsIn
import Derived.CallsIn
import Derived.OrdersIn
/- Contracts of the library, laid at this dump by the kit's tools (lay-shelf.mjs, lay-plain.mjs). Their numbers are of this seat alone. -/
set_option linter.unusedSimpArgs false
set_option linter.unusedVariables false
set_option maxRecDepth 100000
set_option maxHeartbeats 8000000
namespace Go.Proofs.YtdpobjakdplljaaGreatDoor
open Go.Shelf
def Xgu:Go.Shelf.Ren:=⟨fun|156=>113|165=>151|166=>33|169=>37|240=>64|241=>177|276=>101|277=>193|n=>n,fun|31=>25|9=>9|3=>3|4=>4|0=>0|20=>20|72=>74|76=>82|70=>72|37=>39|75=>81|127=>133|164=>153|5=>5|80=>87|n=>n,fun|n=>n⟩
theorem Xor:Go.Proofs.Lays.n156 Tryz.prog Xgu:={
 mixed:=by kernel_rfl
 f156:=Tryz.func113.trans (congrArg some (by kernel_rfl))
 f165:=Tryz.func151.trans (congrArg some (by kernel_rfl))
 f166:=Tryz.func33.trans (congrArg some (by kernel_rfl))
 f169:=Tryz.func37.trans (congrArg some (by kernel_rfl))
 f240:=Tryz.func64.trans (congrArg some (by kernel_rfl))
 f241:=Tryz.func177.trans (congrArg some (by kernel_rfl))
 f276:=Tryz.func101.trans (congrArg some (by kernel_rfl))
 f277:=Tryz.func193.trans (congrArg some (by kernel_rfl))
 t0:=Tryz.underlying0
 a0:=Tryz.isAgg0
 z0:=Tryz.sizeOf0
 v0:=Tryz.zeroValue0
 t3:=Tryz.underlying3
 a3:=Tryz.isAgg3
 z3:=Tryz.sizeOf3
 v3:=Tryz.zeroValue3
 t4:=Tryz.underlying4
 a4:=Tryz.isAgg4
 z4:=Tryz.sizeOf4
 v4:=Tryz.zeroValue4
 t9:=Tryz.underlying9
 a9:=Tryz.isAgg9
 z9:=Tryz.sizeOf9
 v9:=Tryz.zeroValue9
 t20:=Tryz.underlying20
 a20:=Tryz.isAgg20
 z20:=Tryz.sizeOf20
 v20:=Tryz.zeroValue20
 t31:=Tryz.underlying25
 a31:=Tryz.isAgg25
 z31:=Tryz.sizeOf25
 v31:=Tryz.zeroValue25
 t37:=Tryz.underlying39
 a37:=Tryz.isAgg39
 z37:=Tryz.sizeOf39
 v37:=Tryz.zeroValue39
 t70:=Tryz.underlying72
 a70:=Tryz.isAgg72
 z70:=Tryz.sizeOf72
 v70:=Tryz.zeroValue72
 t72:=Tryz.underlying74
 a72:=Tryz.isAgg74
 z72:=Tryz.sizeOf74
 v72:=Tryz.zeroValue74
 t75:=Tryz.underlying81
 a75:=Tryz.isAgg81
 z75:=Tryz.sizeOf81
 v75:=Tryz.zeroValue81
 t76:=Tryz.underlying82
 a76:=Tryz.isAgg82
 z76:=Tryz.sizeOf82
 v76:=Tryz.zeroValue82
 t127:=Tryz.underlying133
 a127:=Tryz.isAgg133
 z127:=Tryz.sizeOf133
 v127:=Tryz.zeroValue133
 t164:=Tryz.underlying153
 a164:=Tryz.isAgg153
 z164:=Tryz.sizeOf153
 v164:=Tryz.zeroValue153 }
theorem Xdo:Builder.Extra Tryz.prog Xgu:={
 sizeBuilder:=by kernel_rfl
 liesBuilder:=by kernel_rfl
 t5:=Tryz.underlying5
 a5:=Tryz.isAgg5
 z5:=Tryz.sizeOf5
 v5:=Tryz.zeroValue5
 infoByte:=by kernel_rfl
 cellsByte:=by kernel_rfl
 sizeByte:=by kernel_rfl
 neB5:=by decide }
open Go.RowKit in
theorem strings_Join_none (a:Option Addr) (c:Nat) (sep:ByteArray) (w:World) :
  Calls Tryz.prog 113 #[.slice a 0 c,.string sep] w fun e w'=>e=.returned (.string ⟨#[]⟩)∧w'=w:=Any.strings_Join_none Xor Xdo a c sep w
open Go.RowKit in
theorem strings_Join (bk o c:Nat) (xs:List ByteArray) (sep:ByteArray) (w:World) (hcells:∀(j:Nat) x,xs[j]?=some x→w.cell? ⟨bk,o+j,none⟩=some (.string x)) (hbk:bk < w.heap.size) (hN:xs.length≤140737488355328) (hcap:xs.length≤c) (hlen:(Lib.join (xs.map (·.data.toList)) sep.data.toList).length≤140737488355328) :
  Calls Tryz.prog 113 #[.slice (some ⟨bk,o,none⟩) xs.length c,.string sep] w fun e w'=>e=.returned (.string ⟨(Lib.join (xs.map (·.data.toList)) sep.data.toList).toArray⟩)∧Below w.heap.size w w':=Any.strings_Join Xor Xdo bk o c xs sep w hcells hbk hN hcap hlen
def Xkt:Go.Shelf.Ren:=⟨fun|283=>136|n=>n,fun|3=>3|9=>9|4=>4|n=>n,fun|n=>n⟩
theorem Xsz:Go.Proofs.Lays.n283 Tryz.prog Xkt:={
 mixed:=by kernel_rfl
 f283:=Tryz.func136.trans (congrArg some (by kernel_rfl))
 t3:=Tryz.underlying3
 a3:=Tryz.isAgg3
 z3:=Tryz.sizeOf3
 v3:=Tryz.zeroValue3
 t4:=Tryz.underlying4
 a4:=Tryz.isAgg4
 z4:=Tryz.sizeOf4
 v4:=Tryz.zeroValue4
 t9:=Tryz.underlying9
 a9:=Tryz.isAgg9
 z9:=Tryz.sizeOf9
 v9:=Tryz.zeroValue9 }
open Go.Lib in
theorem internal_strconv_small (i:Nat) (h:i < 100) (w:World) :
  Calls Tryz.prog 136 #[.int .i64 i] w fun e w'=>e=.returned (.string ⟨(Lib.decDigits i).toArray⟩)∧w'=w:=Any.internal_strconv_small Xsz i h w
def Xja:Go.Shelf.Ren:=⟨fun|284=>137|129=>170|317=>169|318=>171|n=>n,fun|53=>38|3=>3|212=>236|0=>0|4=>4|46=>178|5=>5|9=>9|n=>n,fun|17=>3|n=>n⟩
theorem Xqn:Go.Proofs.LaysM.n284 Tryz.prog Xja:={
 mixed:=by kernel_rfl
 f129:=Tryz.func170.trans (congrArg some (by kernel_rfl))
 f284:=Tryz.func137.trans (congrArg some (by kernel_rfl))
 f317:=Tryz.func169.trans (congrArg some (by kernel_rfl))
 f318:=Tryz.func171.trans (congrArg some (by kernel_rfl))
 t0:=Tryz.underlying0
 a0:=Tryz.isAgg0
 z0:=Tryz.sizeOf0
 v0:=Tryz.zeroValue0
 t3:=Tryz.underlying3
 a3:=Tryz.isAgg3
 z3:=Tryz.sizeOf3
 v3:=Tryz.zeroValue3
 t4:=Tryz.underlying4
 a4:=Tryz.isAgg4
 z4:=Tryz.sizeOf4
 v4:=Tryz.zeroValue4
 t5:=Tryz.underlying5
 a5:=Tryz.isAgg5
 z5:=Tryz.sizeOf5
 v5:=Tryz.zeroValue5
 t9:=Tryz.underlying9
 a9:=Tryz.isAgg9
 z9:=Tryz.sizeOf9
 v9:=Tryz.zeroValue9
 t46:=Tryz.underlying178
 a46:=Tryz.isAgg178
 z46:=Tryz.sizeOf178
 v46:=Tryz.zeroValue178
 t53:=Tryz.underlying38
 a53:=Tryz.isAgg38
 z53:=Tryz.sizeOf38
 v53:=Tryz.zeroValue38
 t212:=Tryz.underlying236
 a212:=Tryz.isAgg236
 z212:=Tryz.sizeOf236
 v212:=Tryz.zeroValue236
 g17:=by kernel_rfl
 i0:=by kernel_rfl
 i3:=by kernel_rfl
 i4:=by kernel_rfl
 i5:=by kernel_rfl
 i9:=by kernel_rfl
 i46:=by kernel_rfl
 i53:=by kernel_rfl
 i212:=by kernel_rfl
 m17:=by kernel_rfl }
open Go.Lib in
theorem internal_strconv_numDigits (u:Nat) (h1:1≤u) (h2:u < 18446744073709551616) (w:World) (htab:Lib.TabIs Tryz.prog w "internal/strconv.uint64pow10" .u64 Lib.pow10Tab) :
  Calls Tryz.prog 137 #[.int .u64 u] w fun e w'=>e=.returned (.int .i64 (Lib.nDigits u))∧w'=w:=Any.internal_strconv_numDigits Xqn u h1 h2 w htab
def Xku:Go.Shelf.Ren:=⟨fun|285=>138|n=>n,fun|37=>39|53=>38|3=>3|4=>4|51=>237|9=>9|5=>5|0=>0|n=>n,fun|n=>n⟩
theorem XsA:Go.Proofs.Lays.n285 Tryz.prog Xku:={
 mixed:=by kernel_rfl
 f285:=Tryz.func138.trans (congrArg some (by kernel_rfl))
 t0:=Tryz.underlying0
 a0:=Tryz.isAgg0
 z0:=Tryz.sizeOf0
 v0:=Tryz.zeroValue0
 t3:=Tryz.underlying3
 a3:=Tryz.isAgg3
 z3:=Tryz.sizeOf3
 v3:=Tryz.zeroValue3
 t4:=Tryz.underlying4
 a4:=Tryz.isAgg4
 z4:=Tryz.sizeOf4
 v4:=Tryz.zeroValue4
 t5:=Tryz.underlying5
 a5:=Tryz.isAgg5
 z5:=Tryz.sizeOf5
 v5:=Tryz.zeroValue5
 t9:=Tryz.underlying9
 a9:=Tryz.isAgg9
 z9:=Tryz.sizeOf9
 v9:=Tryz.zeroValue9
 t37:=Tryz.underlying39
 a37:=Tryz.isAgg39
 z37:=Tryz.sizeOf39
 v37:=Tryz.zeroValue39
 t51:=Tryz.underlying237
 a51:=Tryz.isAgg237
 z51:=Tryz.sizeOf237
 v51:=Tryz.zeroValue237
 t53:=Tryz.underlying38
 a53:=Tryz.isAgg38
 z53:=Tryz.sizeOf38
 v53:=Tryz.zeroValue38 }
open Go.RowKit Go.Sort Go.Lib in
theorem internal_strconv_formatBase10 (blk off cap:Nat) (u:Nat) (d:Array UInt8) (w:World) (hH:Holds (fun (b:UInt8)=>Value.int .u8 (b.toNat:Int)) w blk off d) (hu:u < 10 ^ d.size) (hu64:u < 18446744073709551616) (hsz:d.size < 4611686018427387904) :
  Calls Tryz.prog 138 #[.slice (some ⟨blk,off,none⟩) d.size cap,.int .u64 u] w fun e w'=>
   e=.returned (.tuple #[])∧∃(n v':Nat) (dk:Array UInt8),w'=(putRow (fun (b:UInt8)=>Value.int .u8 (b.toNat:Int)) w blk off dk).drewN n∧FmtInv d.size u 0 v' dk:=Any.internal_strconv_formatBase10 XsA blk off cap u d w hH hu hu64 hsz
def Xi9:Go.Shelf.Ren:=⟨fun|171=>65|243=>102|246=>135|283=>136|284=>137|285=>138|286=>139|129=>170|317=>169|318=>171|319=>172|320=>173|337=>190|338=>191|n=>n,fun|3=>3|9=>9|2=>2|4=>4|171=>214|0=>0|53=>38|37=>39|5=>5|173=>217|212=>236|51=>237|20=>20|213=>238|46=>178|232=>263|233=>264|n=>n,fun|17=>3|18=>6|19=>7|n=>n⟩
theorem Xqm:Go.Proofs.LaysM.n171 Tryz.prog Xi9:={
 mixed:=by kernel_rfl
 f129:=Tryz.func170.trans (congrArg some (by kernel_rfl))
 f171:=Tryz.func65.trans (congrArg some (by kernel_rfl))
 f243:=Tryz.func102.trans (congrArg some (by kernel_rfl))
 f246:=Tryz.func135.trans (congrArg some (by kernel_rfl))
 f283:=Tryz.func136.trans (congrArg some (by kernel_rfl))
 f284:=Tryz.func137.trans (congrArg some (by kernel_rfl))
 f285:=Tryz.func138.trans (congrArg some (by kernel_rfl))
 f286:=Tryz.func139.trans (congrArg some (by kernel_rfl))
 f317:=Tryz.func169.trans (congrArg some (by kernel_rfl))
 f318:=Tryz.func171.trans (congrArg some (by kernel_rfl))
 f319:=Tryz.func172.trans (congrArg some (by kernel_rfl))
 f320:=Tryz.func173.trans (congrArg some (by kernel_rfl))
 f337:=Tryz.func190.trans (congrArg some (by kernel_rfl))
 f338:=Tryz.func191.trans (congrArg some (by kernel_rfl))
 t0:=Tryz.underlying0
 a0:=Tryz.isAgg0
 z0:=Tryz.sizeOf0
 v0:=Tryz.zeroValue0
 t2:=Tryz.underlying2
 a2:=Tryz.isAgg2
 z2:=Tryz.sizeOf2
 v2:=Tryz.zeroValue2
 t3:=Tryz.underlying3
 a3:=Tryz.isAgg3
 z3:=Tryz.sizeOf3
 v3:=Tryz.zeroValue3
 t4:=Tryz.underlying4
 a4:=Tryz.isAgg4
 z4:=Tryz.sizeOf4
 v4:=Tryz.zeroValue4
 t5:=Tryz.underlying5
 a5:=Tryz.isAgg5
 z5:=Tryz.sizeOf5
 v5:=Tryz.zeroValue5
 t9:=Tryz.underlying9
 a9:=Tryz.isAgg9
 z9:=Tryz.sizeOf9
 v9:=Tryz.zeroValue9
 t20:=Tryz.underlying20
 a20:=Tryz.isAgg20
 z20:=Tryz.sizeOf20
 v20:=Tryz.zeroValue20
 t37:=Tryz.underlying39
 a37:=Tryz.isAgg39
 z37:=Tryz.sizeOf39
 v37:=Tryz.zeroValue39
 t46:=Tryz.underlying178
 a46:=Tryz.isAgg178
 z46:=Tryz.sizeOf178
 v46:=Tryz.zeroValue178
 t51:=Tryz.underlying237
 a51:=Tryz.isAgg237
 z51:=Tryz.sizeOf237
 v51:=Tryz.zeroValue237
 t53:=Tryz.underlying38
 a53:=Tryz.isAgg38
 z53:=Tryz.sizeOf38
 v53:=Tryz.zeroValue38
 t171:=Tryz.underlying214
 a171:=Tryz.isAgg214
 z171:=Tryz.sizeOf214
 v171:=Tryz.zeroValue214
 t173:=Tryz.underlying217
 a173:=Tryz.isAgg217
 z173:=Tryz.sizeOf217
 v173:=Tryz.zeroValue217
 t212:=Tryz.underlying236
 a212:=Tryz.isAgg236
 z212:=Tryz.sizeOf236
 v212:=Tryz.zeroValue236
 t213:=Tryz.underlying238
 a213:=Tryz.isAgg238
 z213:=Tryz.sizeOf238
 t232:=Tryz.underlying263
 a232:=Tryz.isAgg263
 z232:=Tryz.sizeOf263
 v232:=Tryz.zeroValue263
 t233:=Tryz.underlying264
 a233:=Tryz.isAgg264
 z233:=Tryz.sizeOf264
 v233:=Tryz.zeroValue264
 g17:=by kernel_rfl
 g18:=by kernel_rfl
 g19:=by kernel_rfl
 i0:=by kernel_rfl
 i2:=by kernel_rfl
 i3:=by kernel_rfl
 i4:=by kernel_rfl
 i5:=by kernel_rfl
 i9:=by kernel_rfl
 i20:=by kernel_rfl
 i37:=by kernel_rfl
 i46:=by kernel_rfl
 i51:=by kernel_rfl
 i53:=by kernel_rfl
 i171:=by kernel_rfl
 i173:=by kernel_rfl
 i212:=by kernel_rfl
 i232:=by kernel_rfl
 i233:=by kernel_rfl
 m17:=by kernel_rfl
 m18:=by kernel_rfl
 m19:=by kernel_rfl }
open Go.RowKit Go.Sort Go.Lib in
theorem strconv_Itoa (n:Int) (h0 : -9223372036854775808≤n) (h1:n≤9223372036854775807) (w:World) (htab:Lib.TabIs Tryz.prog w "internal/strconv.uint64pow10" .u64 Lib.pow10Tab) :
  Calls Tryz.prog 65 #[.int .i64 n] w fun e w'=>e=.returned (.string ⟨(Lib.itoa n).toArray⟩)∧∃k os,w'=grow (w.drewN k) os:=Any.strconv_Itoa Xqm n h0 h1 w htab
def Xkq:Go.Shelf.Ren:=⟨fun|171=>65|243=>102|246=>135|283=>136|284=>137|285=>138|286=>139|129=>170|317=>169|318=>171|319=>172|320=>173|337=>190|338=>191|n=>n,fun|3=>3|9=>9|2=>2|4=>4|171=>214|0=>0|53=>38|37=>39|5=>5|173=>217|212=>236|51=>237|20=>20|213=>238|46=>178|232=>263|233=>264|n=>n,fun|17=>3|18=>6|19=>7|n=>n⟩
theorem Xsx:Go.Proofs.Lays.n171 Tryz.prog Xkq:={
 mixed:=by kernel_rfl
 f129:=Tryz.func170.trans (congrArg some (by kernel_rfl))
 f171:=Tryz.func65.trans (congrArg some (by kernel_rfl))
 f243:=Tryz.func102.trans (congrArg some (by kernel_rfl))
 f246:=Tryz.func135.trans (congrArg some (by kernel_rfl))
 f283:=Tryz.func136.trans (congrArg some (by kernel_rfl))
 f284:=Tryz.func137.trans (congrArg some (by kernel_rfl))
 f285:=Tryz.func138.trans (congrArg some (by kernel_rfl))
 f286:=Tryz.func139.trans (congrArg some (by kernel_rfl))
 f317:=Tryz.func169.trans (congrArg some (by kernel_rfl))
 f318:=Tryz.func171.trans (congrArg some (by kernel_rfl))
 f319:=Tryz.func172.trans (congrArg some (by kernel_rfl))
 f320:=Tryz.func173.trans (congrArg some (by kernel_rfl))
 f337:=Tryz.func190.trans (congrArg some (by kernel_rfl))
 f338:=Tryz.func191.trans (congrArg some (by kernel_rfl))
 t0:=Tryz.underlying0
 a0:=Tryz.isAgg0
 z0:=Tryz.sizeOf0
 v0:=Tryz.zeroValue0
 t2:=Tryz.underlying2
 a2:=Tryz.isAgg2
 z2:=Tryz.sizeOf2
 v2:=Tryz.zeroValue2
 t3:=Tryz.underlying3
 a3:=Tryz.isAgg3
 z3:=Tryz.sizeOf3
 v3:=Tryz.zeroValue3
 t4:=Tryz.underlying4
 a4:=Tryz.isAgg4
 z4:=Tryz.sizeOf4
 v4:=Tryz.zeroValue4
 t5:=Tryz.underlying5
 a5:=Tryz.isAgg5
 z5:=Tryz.sizeOf5
 v5:=Tryz.zeroValue5
 t9:=Tryz.underlying9
 a9:=Tryz.isAgg9
 z9:=Tryz.sizeOf9
 v9:=Tryz.zeroValue9
 t20:=Tryz.underlying20
 a20:=Tryz.isAgg20
 z20:=Tryz.sizeOf20
 v20:=Tryz.zeroValue20
 t37:=Tryz.underlying39
 a37:=Tryz.isAgg39
 z37:=Tryz.sizeOf39
 v37:=Tryz.zeroValue39
 t46:=Tryz.underlying178
 a46:=Tryz.isAgg178
 z46:=Tryz.sizeOf178
 v46:=Tryz.zeroValue178
 t51:=Tryz.underlying237
 a51:=Tryz.isAgg237
 z51:=Tryz.sizeOf237
 v51:=Tryz.zeroValue237
 t53:=Tryz.underlying38
 a53:=Tryz.isAgg38
 z53:=Tryz.sizeOf38
 v53:=Tryz.zeroValue38
 t171:=Tryz.underlying214
 a171:=Tryz.isAgg214
 z171:=Tryz.sizeOf214
 v171:=Tryz.zeroValue214
 t173:=Tryz.underlying217
 a173:=Tryz.isAgg217
 z173:=Tryz.sizeOf217
 v173:=Tryz.zeroValue217
 t212:=Tryz.underlying236
 a212:=Tryz.isAgg236
 z212:=Tryz.sizeOf236
 v212:=Tryz.zeroValue236
 t213:=Tryz.underlying238
 a213:=Tryz.isAgg238
 z213:=Tryz.sizeOf238
 t232:=Tryz.underlying263
 a232:=Tryz.isAgg263
 z232:=Tryz.sizeOf263
 v232:=Tryz.zeroValue263
 t233:=Tryz.underlying264
 a233:=Tryz.isAgg264
 z233:=Tryz.sizeOf264
 v233:=Tryz.zeroValue264
 g17:=by kernel_rfl
 g18:=by kernel_rfl
 g19:=by kernel_rfl }
open Go.RowKit Go.Sort Go.Lib in
theorem strconv_Itoa_small (i:Nat) (hi:i < 100) (w:World) :
  Calls Tryz.prog 65 #[.int .i64 i] w fun e w'=>e=.returned (.string ⟨(Lib.decDigits i).toArray⟩)∧w'=w:=Any.strconv_Itoa_small Xsx i hi w
def Xks:Go.Shelf.Ren:=⟨fun|219=>119|217=>153|225=>154|224=>155|267=>156|266=>181|314=>182|n=>n,fun|9=>9|3=>3|4=>4|5=>5|46=>178|146=>244|51=>237|n=>n,fun|1=>2|n=>n⟩
theorem Xsy:Go.Proofs.Lays.n219 Tryz.prog Xks:={
 mixed:=by kernel_rfl
 f217:=Tryz.func153.trans (congrArg some (by kernel_rfl))
 f219:=Tryz.func119.trans (congrArg some (by kernel_rfl))
 f224:=Tryz.func155.trans (congrArg some (by kernel_rfl))
 f225:=Tryz.func154.trans (congrArg some (by kernel_rfl))
 f266:=Tryz.func181.trans (congrArg some (by kernel_rfl))
 f267:=Tryz.func156.trans (congrArg some (by kernel_rfl))
 f314:=Tryz.func182.trans (congrArg some (by kernel_rfl))
 t3:=Tryz.underlying3
 a3:=Tryz.isAgg3
 z3:=Tryz.sizeOf3
 v3:=Tryz.zeroValue3
 t4:=Tryz.underlying4
 a4:=Tryz.isAgg4
 z4:=Tryz.sizeOf4
 v4:=Tryz.zeroValue4
 t5:=Tryz.underlying5
 a5:=Tryz.isAgg5
 z5:=Tryz.sizeOf5
 v5:=Tryz.zeroValue5
 t9:=Tryz.underlying9
 a9:=Tryz.isAgg9
 z9:=Tryz.sizeOf9
 v9:=Tryz.zeroValue9
 t46:=Tryz.underlying178
 a46:=Tryz.isAgg178
 z46:=Tryz.sizeOf178
 v46:=Tryz.zeroValue178
 t51:=Tryz.underlying237
 a51:=Tryz.isAgg237
 z51:=Tryz.sizeOf237
 v51:=Tryz.zeroValue237
 t146:=Tryz.underlying244
 a146:=Tryz.isAgg244
 z146:=Tryz.sizeOf244
 v146:=Tryz.zeroValue244
 g1:=by kernel_rfl }
open Go.RowKit Go.Lib in
theorem stringslite_Index_one (s:ByteArray) (c:UInt8) (w:World) :
  Calls Tryz.prog 119 #[.string s,.string ⟨#[c]⟩] w fun e w'=>e=.returned (.int .i64 (Lib.indexByte s.data.toList c))∧w'=w:=Any.stringslite_Index_one Xsy s c w
open Go.RowKit
section
variable {P:Program} {Δ:List Deferred} {V O:Nat→Prop} {w0 w w':World} {H H' D:List Hp} {T T':List AV} {a:Act} {o:Oper} {K:List AV→List Hp→Prop} {Q:XcR}
theorem Xme {l:List Oper} (hc:XmN l=true) (h:dr P H l.toArray l T fun T'=>Q .normal T' H) (rel:Rel Δ V O w0 H T a w):wpAny P .any l.toArray (lift Δ V O w0 Q) l.toArray.size (Array.replicate l.toArray.size false) a w:=by
 have hr:=Xih hc
 obtain ⟨es,-,hE,hfin⟩:=Xr1 (ops:=l.toArray) l T l 0 (fun _=>.top) rfl h
 have hfin':Q .normal (Xfa l es T l.length) H:=hfin
 have key:∀(fuel:Nat) (listed:Array Bool) (a:Act) (w:World),listed.size=l.length →
   (∀j q,l[j]?=some q→listed.getD j false=true→∀e∈q.after,listed.getD e.on false=true)→cnt (fun j=>listed.getD j false) l.length≤fuel →
   Rel Δ V O w0 H (Xc4 l es T (fun j=>listed.getD j false) l.length) a w→wpAny P .any l.toArray (lift Δ V O w0 Q) fuel listed a w:=by
  intro fuel
  induction fuel with
  | zero=>
    intro listed a w hsz hcl hcnt rel
    have hall:=XfW _ _ (Nat.le_zero.1 hcnt)
    refine ⟨?_,_,H,rel,?_⟩
    ·unfold Region.ready
     rw [List.filter_eq_nil_iff]
     intro i hi
     simp only [List.size_toArray,List.mem_range] at hi
     have:=hall i hi
     have hi':i < listed.size:=by omega
     simp [Array.getD,hi'] at this ⊢
     simp [this]
    ·rw [XdG l es T _ _ hall];exact hfin'
  | succ fuel ih=>
    intro listed a w hsz hcl hcnt rel
    have hget:∀i,i < l.length→listed.getD i true=listed.getD i false:=fun i hi=>by
     have hi':i < listed.size:=by omega
     simp [Array.getD,hi']
    refine ⟨fun hnil=>?_,fun i hi=>?_⟩
    ·-- all are listed
     have hall:∀j,j < l.length→listed.getD j false=true:=by
      intro j
      induction j using Nat.strongRecOn with
      | _ j ihj=>
        intro hj
        cases hs:listed.getD j false with
        | true=>rfl
        | false=>
          exfalso
          unfold Region.ready at hnil
          rw [List.filter_eq_nil_iff] at hnil
          have:=hnil j (by simpa using hj)
          apply this
          have hlj:l[j]?=some l[j]:=by simp [hj]
          rw [hget j hj,hs]
          simp only [Bool.not_false,Bool.true_and,List.getElem?_toArray,hlj,Option.map_some,Option.getD_some]
          rw [Array.all_eq_true_iff_forall_mem]
          intro e he
          have h1:=hr.after j _ hlj e he
          rw [ihj e.on h1.2 (by omega)]
          simp
     exact ⟨_,H,rel,by rw [XdG l es T _ _ hall];exact hfin'⟩
    ·unfold Region.ready at hi
     rw [List.mem_filter] at hi
     obtain ⟨hil,hrd⟩:=hi
     simp only [List.size_toArray,List.mem_range] at hil
     have hli:l[i]?=some l[i]:=by simp [hil]
     rw [hget i hil] at hrd
     simp only [List.getElem?_toArray,hli,Option.map_some,Option.getD_some,Bool.and_eq_true,Bool.not_eq_true',Array.all_eq_true_iff_forall_mem] at hrd
     obtain ⟨hSi,haf⟩:=hrd
     have haf':∀e∈l[i].after,listed.getD e.on false=true:=fun e he=>by
      have h1:=haf e he
      have h2:=hr.after i _ hli e he
      simpa [h2.1] using h1
     generalize ho:l[i]=o at hli haf'
     have hlook:=Xou hr es T (fun j=>listed.getD j false) hcl i o hli hSi haf'
     have hops:OK V H (ev (Xfa l es T i)) o a w:=by
      have h0:=rel.oks o
      refine ⟨h0.hok,fun x hx=>?_,h0.vlt,h0.gw⟩
      have:=h0.ops x hx
      rw [Xr5 (T2:=Xfa l es T i) (fun t ht=>hlook t (List.mem_append_left _ (List.mem_filterMap.2 ⟨x,by simpa using hx,by rw [ht]⟩)))] at this
      exact this
     have hnext:∀w' a',Rel Δ V O w0 H (Xb7 (Xc4 l es T (fun j=>listed.getD j false) l.length) o.dst (es i)) a' w'→wpAny P .any l.toArray (lift Δ V O w0 Q) fuel (listed.setIfInBounds i true) a' w':=by
      intro w' a' hrel
      have h1:(listed.setIfInBounds i true).getD i false=true:=by
       have:i < listed.size:=by omega
       simp [Array.getD,this]
      have h2:∀j,j≠i→(listed.setIfInBounds i true).getD j false=listed.getD j false:=fun j hj=>by
       simp only [Array.getD_eq_getD_getElem?]
       rw [Array.getElem?_setIfInBounds_ne (fun e=>hj e.symm)]
      refine ih _ _ _ (by simpa using hsz) (fun j q hj hs e he=>?_) ?_ ?_
      ·by_cases hji:j=i
       ·subst hji
        rw [hli] at hj;cases hj
        have h3:=(hr.after j _ hli e he).2
        rw [h2 _ (by omega)];exact haf' e he
       ·rw [h2 j hji] at hs
        have h3:=hcl j q hj hs e he
        by_cases hei:e.on=i
        ·rw [hei];exact h1
        ·rw [h2 _ hei];exact h3
      ·have:=XnF (fun j=>listed.getD j false) (fun j=>(listed.setIfInBounds i true).getD j false) (fun j hj=>by
        by_cases hji:j=i
        ·subst hji;exact h1
        ·show (listed.setIfInBounds i true).getD j false=true
         rw [h2 j hji];exact hj) i hSi h1 l.length hil
       omega
      ·rw [←Xgx hr es T _ (fun j=>(listed.setIfInBounds i true).getD j false) i o hli hSi h1 h2];exact hrel
     unfold wpOp
     simp only [List.getElem?_toArray,hli]
     rcases hE i o (Nat.zero_le _) hli with ⟨hg,he⟩|⟨j,want,t,p,av,hg,hd,hp,he0,he⟩
     ·rw [if_pos (by simp [Region.wanted,hg])]
      exact .inl (he V a w _ _ hops fun v w' hE' hd=>hnext _ _ ((rel.quiet hE').put _ hd))
     ·have htl:t∈looks l o:=by
       refine List.mem_append_right _ ?_
       rw [hg]
       simp only [List.getElem?_toArray] at hd
       simp only [hd];simp
      have hgd:(Xc4 l es T (fun j=>listed.getD j false) l.length).getD t .top=(Xfa l es T i).getD t .top:=by
       simp only [List.getD,hlook t htl]
      rw [Xe8 rel hg hd (by rw [hgd];exact hp)]
      cases hpb:p with
      | true=>
        rw [if_pos rfl]
        exact .inl (he hpb V a w _ _ hops.strip fun v w' hE' hd=>hnext _ _ ((rel.quiet hE').put _ (by rw [he0,Den];exact ⟨fun _=>hd,(fun h=>by rw [hpb] at h;cases h)⟩)))
      | false=>
        rw [if_neg (by simp)]
        exact hnext _ _ (rel.put _ (by rw [he0,Den];exact ⟨(fun h=>by rw [hpb] at h;cases h),fun _=>rfl⟩))
 have hrep:∀j,(Array.replicate l.length false).getD j false=false:=fun j=>by simp [Array.getD]
 refine key _ _ a w (by simp) (fun j q _ hs=>?_) ?_ ?_
 ·rw [List.size_toArray,hrep j] at hs;cases hs
 ·have:∀k,cnt (fun j=>(Array.replicate l.toArray.size false).getD j false) k≤k:=fun k=>by
   induction k with
   | zero=>simp [cnt]
   | succ k ih=>simp only [cnt];split<;>omega
  simpa using this l.length
 ·have:Xc4 l es T (fun j=>(Array.replicate l.toArray.size false).getD j false) l.length=T:=by
   have:∀k,Xc4 l es T (fun j=>(Array.replicate l.toArray.size false).getD j false) k=T:=fun k=>by
    induction k with
    | zero=>rfl
    | succ k ih=>simp only [Xc4];rw [if_neg (by rw [List.size_toArray,hrep];simp)];exact ih
   exact this _
  rw [this];exact rel
def Xe6 (o:Oper):Oper:={ o with after:=o.after.filter (Region.binds .any) }
theorem XgG (l:List Oper) (listed:Array Bool):Region.ready .any (l.map Xe6).toArray listed=Region.ready .any l.toArray listed:=by
 unfold Region.ready
 simp only [List.size_toArray,List.length_map,List.getElem?_toArray,List.getElem?_map,Option.map_map]
 congr 1
 funext i
 cases hi:l[i]? with
 | none=>rfl
 | some o=>
   simp only [Option.map_some,Option.getD_some,Function.comp,Xe6]
   congr 1
   rw [Bool.eq_iff_iff]
   simp only [Array.all_eq_true_iff_forall_mem,Array.mem_filter]
   constructor
   ·intro h e he
    cases hb:Region.binds .any e with
    | false=>rfl
    | true=>have:=h e ⟨he,hb⟩;rw [hb] at this;exact this
   ·intro h e he
    exact h e he.1
theorem Xiu (l:List Oper) (tmps:Array Value):yielded (l.map Xe6).toArray tmps=yielded l.toArray tmps:=by
 funext j
 unfold yielded
 simp only [List.getElem?_toArray,List.getElem?_map]
 cases l[j]?<;>rfl
theorem XdI {Q:Exit→Act→World→Prop} (l:List Oper):∀(fuel:Nat) (listed:Array Bool) (a:Act) (w:World),wpAny P .any (l.map Xe6).toArray Q fuel listed a w→wpAny P .any l.toArray Q fuel listed a w
 | 0,listed,a,w,h=>by
   unfold wpAny at h ⊢
   rw [XgG] at h;exact h
 | fuel+1,listed,a,w,h=>by
   unfold wpAny at h ⊢
   rw [XgG] at h
   refine ⟨h.1,fun i hi=>?_⟩
   have h2:=h.2 i hi
   unfold wpOp at h2 ⊢
   rw [Xiu] at h2
   simp only [List.getElem?_toArray,List.getElem?_map] at h2 ⊢
   cases hi2:l[i]? with
   | none=>rw [hi2] at h2;exact XdI l fuel _ _ _ h2
   | some o=>
     rw [hi2] at h2
     simp only [Option.map_some] at h2 ⊢
     have hw:Region.wanted (Xe6 o) (yielded l.toArray a.tmps)=Region.wanted o (yielded l.toArray a.tmps):=rfl
     rw [hw] at h2
     split at h2
     ·rename_i hc
      rw [if_pos hc]
      rcases h2 with h2|h2
      ·exact .inl (Oper.wp_mono (fun a w h=>XdI l fuel _ a w h) h2)
      ·exact .inr h2
     ·rename_i hc
      rw [if_neg hc]
      exact XdI l fuel _ _ _ h2
theorem Xi0 {ρ:Operand→AV} {av:AV} (h:Evl P o ρ H av):Evl P (Xe6 o) ρ H av:=fun V a w Kc Q ok hK=>h V a w Kc Q ⟨ok.hok,ok.ops,ok.vlt,ok.gw⟩ hK
theorem Xlb (l:List Oper):∀(rest:List Oper) (T:List AV) (fin:List AV→Prop),dr P H l.toArray rest T fin→dr P H (l.map Xe6).toArray (rest.map Xe6) T fin
 | [],T,fin,h=>h
 | o :: rest,T,fin,h=>by
   obtain ⟨e,he,hr⟩:=h
   refine ⟨e,?_,Xlb l rest _ fin hr⟩
   rcases he with h1|⟨j,want,t,p,av,g1,g2,g3,g4,g5⟩
   ·exact .inl ⟨h1.1,Xi0 h1.2⟩
   ·refine .inr ⟨j,want,t,p,av,g1,?_,g3,g4,fun hp=>Xi0 (g5 hp)⟩
    rw [←g2]
    simp only [List.getElem?_toArray,List.getElem?_map]
    cases l[j]?<;>rfl
theorem Xl3 {id:Nat} {l:List Oper} (hm:P.follows .mixedOrders=true) (hc:XmN (l.map Xe6)=true) (h:dr P H l.toArray l T fun T'=>Q .normal T' H):awp P (.region id l.toArray true) Q T H:=by
 refine Xgh hm fun Δ V O w0 a w rel=>?_
 have:=XdI l _ _ _ _ (Xme (Q:=Q) hc (Xlb l l T _ h) rel)
 simpa only [List.size_toArray,List.length_map] using this
end
open Go.RowKit
theorem ixb (l:List UInt8):(Lib.indexByte l 10 = -1∧cmt l=l.length)∨(Lib.indexByte l 10=cmt l∧cmt l < l.length):=by
 induction l with
 | nil=>exact .inl ⟨rfl,rfl⟩
 | cons c r ih=>
   by_cases h:c.toNat=10
   ·have e:c=10:=UInt8.toNat_inj.1 h
    subst e
    right
    simp [cmt,Lib.indexByte]
   ·have e:(c == 10)=false:=by
     rw [XvM]
     intro e;subst e;exact h rfl
    have ec:cmt (c :: r)=cmt r+1:=by simp [cmt,h]
    rw [ec]
    unfold Lib.indexByte
    rw [e]
    simp only [Bool.false_eq_true,if_false,Xvy]
    rcases ih with ⟨h1,h2⟩|⟨h1,h2⟩
    ·left;simp [h1,h2]
    ·right
     rw [h1]
     have:((cmt r:Int) == -1)=false:=by rw [XvM];omega
     rw [this]
     simp;omega
theorem Xhf:∀(l cur:List UInt8),l≠[]∨cur≠[]→Xcg cur l=(cur++l.take (cmt l)) :: Xcg [] (l.drop (cmt l+1))
 | [],cur,h=>by
   have hc:cur≠[]:=h.resolve_left (fun q=>q rfl)
   simp [Xcg,hc]
 | c :: r,cur,_=>by
   rw [Xcg]
   by_cases h:c.toNat=10
   ·rw [if_pos h]
    simp [cmt,h]
   ·rw [if_neg h,Xhf r (cur++[c]) (.inr (by simp))]
    simp [cmt,h]
theorem Xl6 {l:List UInt8} (h:l≠[]):Xb2 l=l.take (cmt l) :: Xb2 (l.drop (cmt l+1)):=by
 have:=Xhf l [] (.inl h)
 simpa [Xb2] using this
theorem Xlh (l:List UInt8):Xa3 Tryz.prog 119 [] [.x (.string (bs l)),.x (.string (bs [10]))] (fun r H'=>r=.x (.int .i64 (Lib.indexByte l 10))∧H'=[]):=
 Xb9 (args:=[.string (bs l),.string (bs [10])]) (fun w=>(stringslite_Index_one (bs l) 10 w).mono fun e w' ⟨h1,h2⟩=>⟨by rw [h1];simp [bs],h2▸Below.refl _ _⟩) []
def Xrp (l:List UInt8):AV:=.tup [.x (.string (bs (l.take (cmt l)))),.x (.string (bs (l.drop (cmt l+1)))),.x (.bool (decide (cmt l < l.length)))]
theorem XtD (l:List UInt8) (hl:l.length≤1000000) (h1:Lib.indexByte l 10 = -1) (h2:cmt l=l.length):Xa3 Tryz.prog 82 [] [.x (.string (bs l)),.x (.string (bs [10]))] (fun r H'=>r=Xrp l∧H'=[]):=by
 have hi:=Xlh l
 rw [h1] at hi
 refine XaD Tryz.func82 rfl ?_
 simp only [Tryz.ntmps82,Xvy,XvB,XvC,XvD,XvG,XvF,Nat.reduceAdd,Nat.reduceSub]
 (repeat' (first|with_reducible (first|refine Xag ?_|refine Xac ?_|refine Xar ?_|refine Xau ?_|refine Xae ?_|refine Xaa ?_)|(refine Xak _ rfl (fun h=>?_) (fun h=>?_)<;>first|(exact absurd h (by decide))|((try (simp only [] at h));skip))|((apply Xad rfl);(case h=>(first|(apply Xab 0 rfl;(first|exact Xap _ rfl|exact Xan _ rfl))|(apply Xab 11 rfl;(exact Xay 119 Tryz.f119 _ _ rfl rfl Tryz.func119 (by decide) rfl (VwL.refl _ _) (hi)))|(apply XaC;(case hs=>(intro _ _ h;cases h));(case hx=>rfl);(case hrun=>(intro w;simp [wtb,AV.val,go_sem];skip;rfl)))));(case hT=>((try simp only [wtn]);rfl)))|fail))
 refine Xaf _ _ (Xm2 rfl (RV.tmp _) (RV.tmp _) (RV.tmp _) (XaH.mk' [] _ (Xvv _) (XaB.refl _ _) (VwL.refl _ _))) ?_
 refine ⟨?_,rfl⟩
 unfold Xrp
 rw [h2,List.take_length,List.drop_of_length_le (by omega),show decide (l.length < l.length)=false from decide_eq_false (by omega)]
 rfl
theorem XtE (l:List UInt8) (hl:l.length≤1000000) (h1:Lib.indexByte l 10=cmt l) (h2:cmt l < l.length):Xa3 Tryz.prog 82 [] [.x (.string (bs l)),.x (.string (bs [10]))] (fun r H'=>r=Xrp l∧H'=[]):=by
 have hi:=Xlh l
 rw [h1] at hi
 generalize hk:cmt l=k at *
 clear h1
 have hk':=Lib.hid hk
 clear hk
 refine XaD Tryz.func82 rfl ?_
 simp only [Tryz.ntmps82,Xvy,XvB,XvC,XvD,XvG,XvF,Nat.reduceAdd,Nat.reduceSub]
 (repeat' (first|with_reducible (first|refine Xag ?_|refine Xac ?_|refine Xae ?_|refine Xaa ?_)|(refine Xak _ rfl (fun h=>?_) (fun h=>?_)<;>first|(exact absurd h (by decide))|((try (simp only [] at h));skip))|((apply Xad rfl);(case h=>(first|(apply Xab 0 rfl;(first|exact Xap _ rfl|exact Xan _ rfl))|(apply Xab 11 rfl;(exact Xay 119 Tryz.f119 _ _ rfl rfl Tryz.func119 (by decide) rfl (VwL.refl _ _) (hi)))|(apply XaC;(case hs=>(intro _ _ h;cases h));(case hx=>rfl);(case hrun=>(intro w;simp [wtb,AV.val,go_sem];skip;rfl)))));(case hT=>((try simp only [wtn]);rfl)))|fail))
 refine Xl3 mixed (by decide +kernel) ?_
 have hk1:(k:Int)+1=((k+1:Nat):Int):=by omega
 (repeat' (first|with_reducible (first|refine Xar ?_|refine Xch ?_|refine Xaa ?_|refine Xax ?_)|((apply XbO rfl);(case h=>(first|(apply Xab 0 rfl;(first|exact Xap _ rfl|exact Xan _ rfl))|(apply Xab 9 rfl;(exact Xbn _ _ _ _ _ _ _ rfl rfl (by kernel_rfl) (by first|exact .inl ⟨rfl,rfl⟩|exact .inr ⟨_,_,rfl,rfl⟩|fail) (by first|exact .inl ⟨rfl,rfl⟩|exact .inr ⟨_,_,rfl,rfl⟩|fail) (by omega) (by omega)))|(apply XaC;(case hs=>(intro _ _ h;cases h));(case hx=>rfl);(case hrun=>(intro w;simp [wtb,AV.val,go_sem];(try go_bits);rfl)))));(case hT=>((try simp (disch:=omega) only [wtn,hk1,Xvz,Xvw,Xvx,XvA,XvE,Nat.reduceAdd,Nat.reduceMul,Nat.reduceSub,↓reduceIte,Nat.reduceEqDiff]);rfl)))|fail))
 refine Xaf _ _ (Xm2 rfl (RV.tmp _) (RV.tmp _) (RV.tmp _) (XaH.mk' [] _ (Xvv _) (XaB.refl _ _) (VwL.refl _ _))) ?_
 refine ⟨?_,rfl⟩
 unfold Xrp
 rw [hk'.out,show decide (k < l.length)=true from decide_eq_true h2]
 simp only [List.take_length]
 rfl
theorem XtF (l:List UInt8) (hl:l.length≤1000000):Xa3 Tryz.prog 82 [] [.x (.string (bs l)),.x (.string (bs [10]))] (fun r H'=>r=Xrp l∧H'=[]):=by
 rcases ixb l with ⟨h1,h2⟩|⟨h1,h2⟩
 ·exact XtD l hl h1 h2
 ·exact XtE l hl h1 h2
theorem XuM (l:List UInt8) (hl:l.length≤1000000):Xa3 Tryz.prog 49 [] [.x (.string (bs l)),.x (.string (bs [10]))] (fun r H'=>r=Xrp l∧H'=[]):=by
 have hi:=XtF l hl
 unfold Xrp at hi ⊢
 refine XaD Tryz.func49 rfl ?_
 simp only [Tryz.ntmps49,Xvy,XvB,XvC,XvD,XvG,XvF,Nat.reduceAdd,Nat.reduceSub]
 (repeat' (first|with_reducible (first|refine Xag ?_|refine Xac ?_|refine Xar ?_|refine Xae ?_|refine Xaa ?_)|((apply Xad rfl);(case h=>(first|(apply Xab 0 rfl;(first|exact Xap _ rfl|exact Xan _ rfl))|(apply Xab 2 rfl;(exact XaM _ _ _ _ rfl rfl rfl))|(apply Xab 11 rfl;(exact Xay 82 Tryz.f82 _ _ rfl rfl Tryz.func82 (by decide) rfl (VwL.refl _ _) (hi)))));(case hT=>((try simp only [wtn]);rfl)))|fail))
 refine Xaf _ _ (Xm2 rfl (RV.tmp _) (RV.tmp _) (RV.tmp _) (XaH.mk' [] _ (Xvv _) (XaB.refl _ _) (VwL.refl _ _))) ?_
 exact ⟨rfl,rfl⟩
section
variable {P:Program} {Δ:List Deferred} {V O:Nat→Prop} {w0 w w':World} {B H H' D:List Hp} {T T':List AV} {a a':Act} {o:Oper} {ops:Array Oper} {n:Nat}
def Xkn:Op→Bool
 | .defer ..=>true
 | _=>false
theorem Xrb (l:Nat) {K:Act→World→Prop} {Q:Exit→Act→World→Prop} (hd:Xkn o.op=false) (h:o.wp P a w K Q):o.wpIn (Fence.wide.inRound l) n P a w K Q:=by
 refine ⟨fun _ _=>trivial,?_⟩
 rw [show (Fence.wide.inRound l).round=some l from rfl,Oper.semAt_some l _ _ (by rintro c e;rw [e] at hd;cases hd)]
 unfold Oper.wp at h
 generalize (execOp a.eval o).run P w=r at h
 cases r with
 | halt k w'=>cases k<;>first|exact h|exact h.elim
 | ok x w'=>
   cases x
   case value v=>exact h
   case skip=>exact h
   case defer d=>exact h
   case enter f args=>exact ⟨fun e=>(by cases e),CallsIn.inRound l (callsIn_wide.2 h)⟩
   case row r args=>exact ⟨fun e=>(by cases e),fun c cs _=>by
    obtain ⟨v,w2,hR,hs⟩:=h c cs
    exact ⟨v,w2,hR,stepsIn_wide.2 hs⟩⟩
   all_goals exact h.elim
theorem Xd6 (l:Nat) {Q:Exit→Act→World→Prop} (hQ:¬LetsOut Q):∀(L:List Oper) (a:Act) (w:World),(∀o∈L,Xkn o.op=false)→wpList P ops Q L a w→wpListIn (Fence.wide.inRound l) n P ops Q L a w
 | [],a,w,_,h=>h
 | o :: L,a,w,hd,h=>by
   unfold wpList at h
   unfold wpListIn
   split
   ·rename_i hw
    rw [if_pos hw] at h
    rcases h with h|h
    ·exact Oper.wpIn_mono (fun a w h=>Xd6 l hQ L a w (fun o ho=>hd o (List.mem_cons_of_mem _ ho)) h) (Xrb l (hd o (List.mem_cons_self ..)) h)
    ·exact absurd h.2 hQ
   ·rename_i hw
    rw [if_neg hw] at h
    exact ⟨fun _ _=>trivial,Xd6 l hQ L _ w (fun o ho=>hd o (List.mem_cons_of_mem _ ho)) h⟩
def Xiv (P:Program) (c:Code) (Q:XcR) (T:List AV) (H:List Hp):Prop:=
 ∀l n Δ V O w0 a w,Rel Δ V O w0 H T a w→c.wpIn (Fence.wide.inRound l) n P (lift Δ V O w0 Q) a w
def XrG (Q:XcR):Prop:=∀T H,¬Q .outgrown T H
theorem XrG.lift {Q:XcR} (h:XrG Q):¬LetsOut (lift Δ V O w0 Q):=fun ⟨a,w,T,H,_,q⟩=>h T H q
variable {Q:XcR} {x y:Code} {K:List AV→List Hp→Prop}
theorem XcG (hQ:XrG Q) {id:Nat} {L:List Oper} (hd:(L.all fun o=>!Xkn o.op)=true) (h:XiL P L.toArray Q L T H):Xiv P (.region id L.toArray false) Q T H:=fun l n Δ V O w0 a w r=>
 wpIn_region_lit (Xd6 l hQ.lift L a w (fun o ho=>by have:=List.all_eq_true.1 hd o ho;simpa using this) (h Δ V O w0 a w r))
theorem XeP (h:Xiv P x (XaO (Xiv P y Q) Q) T H):Xiv P (.seq x y) Q T H:=fun l n Δ V O w0 a w r=>
 wpIn_seq (wpIn_mono (h l n Δ V O w0 a w r) fun e a w ⟨T,H,r,q⟩=>by
  cases e with
  | normal=>exact q l n Δ V O w0 a w r
  | _=>exact ⟨T,H,r,q⟩)
theorem XeO {c:Operand} (b:Bool) (hc:ev T c=.x (.bool b)) (h1:b=true→Xiv P x Q T H) (h2:b=false→Xiv P y Q T H):Xiv P (.cond c x y) Q T H:=
 fun l n Δ V O w0 a w r=>wpIn_cond_split (r.evx hc) (fun hb=>h1 hb l n Δ V O w0 a w r) (fun hb=>h2 hb l n Δ V O w0 a w r)
theorem Xea {id:Nat} {c:Code} (h:Xiv P c (Xat id Q) T H):Xiv P (.block id c) Q T H:=fun l n Δ V O w0 a w r=>
 wpIn_block (wpIn_mono (h l n Δ V O w0 a w r) fun e a w ⟨T,H,r,q⟩=>by
  cases e with
  | exit id'=>
    simp only [Xat] at q
    simp only [Exit.inBlock]
    split
    ·rename_i he;rw [if_pos he] at q;exact ⟨T,H,r,q⟩
    ·rename_i he;rw [if_neg he] at q;exact ⟨T,H,r,q⟩
  | _=>exact ⟨T,H,r,q⟩)
theorem Xgf (h:Q .normal T H):Xiv P .skip Q T H:=fun l n Δ V O w0 a w r=>wpIn_skip ⟨T,H,r,h⟩
theorem XhM (h:Q .ret T H):Xiv P .ret Q T H:=fun l n Δ V O w0 a w r=>wpIn_ret ⟨T,H,r,h⟩
theorem Xnh {id:Nat} (h:Q (.exit id) T H):Xiv P (.exit id) Q T H:=fun l n Δ V O w0 a w r=>wpIn_exit ⟨T,H,r,h⟩
end
end Go.Proofs.YtdpobjakdplljaaGreatDoor

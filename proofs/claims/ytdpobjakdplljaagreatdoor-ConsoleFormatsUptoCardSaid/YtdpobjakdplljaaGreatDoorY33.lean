import Derived.Test.YtdpobjakdplljaaGreatDoorY30
import Derived.Test.YtdpobjakdplljaaGreatDoorY32
import Derived.Test.YtdpobjakdplljaaGreatDoorY12
import Derived.Shelf.Strings.Builder1
import Derived.Shelf.Small.Strs
import Derived.Shelf.Pu.ParseUintPublic10
import Derived.Shelf.Slices.Turned
import Derived.Shelf.Slices.Equal
import Derived.Test.YtdpobjakdplljaaGreatDoorY17
/- The laws of scripts: made events, their text, spoilt. -/
set_option linter.unusedSimpArgs false
set_option linter.unusedVariables false
set_option maxRecDepth 100000
set_option maxHeartbeats 8000000
namespace Go.Proofs.YtdpobjakdplljaaGreatDoor
open Go.RowKit
theorem SK.fld {m k:Nat} {e:EF} (h:SK m k e):e.job.length≤1∧(-1≤e.code∧e.code≤1)∧e.data.length≤m∧(0≤e.time∧e.time≤18446744073709551615)∧(0≤e.client∧e.client≤3)∧(-5≤e.num∧e.num≤294):=by
 refine ⟨?_,?_,?_,?_,?_,?_⟩
 ·have:=h.job;split at this
  ·exact Nat.le_of_eq this.2
  ·rw [this];simp
 ·have:=h.code;split at this<;>omega
 ·have:=h.data;split at this
  ·exact this
  ·rw [this];simp
 ·have:=h.time;split at this<;>omega
 ·have:=h.client;split at this<;>omega
 ·have:=h.num;split at this<;>omega
theorem SE.fld {m:Nat} {e:EF} (h:SE m e):e.job.length≤1∧(-1≤e.code∧e.code≤1)∧e.data.length≤m∧(0≤e.time∧e.time≤18446744073709551615)∧(0≤e.client∧e.client≤3)∧(-5≤e.num∧e.num≤294):=by
 obtain ⟨k,-,h⟩:=h
 exact h.fld
theorem Xow {n:Int} (h1 : -999≤n) (h2:n≤999):0≤m0 n∧m0 n≤999:=by unfold m0;split<;>omega
theorem Xlk (n:Int):(if 0 < n then n else 0)=max 0 n:=by omega
structure MEs (l:List EF):Prop where
 len:l.length≤28
 good:∀e∈l,XfI e∧(XdO e).length≤8192
 ok:∀e∈l,EOk e
 text:(Xby l).length≤65536
theorem SE.ok {e:EF} (h:SE 1111 e):EOk (clE e):=by
 obtain ⟨h1,h2,h3,h4,h5,h6⟩:=h.fld
 have q1:=Xow (n:=e.code) (by omega) (by omega)
 have q2:=Xow (n:=e.client) (by omega) (by omega)
 have q3:=Xow (n:=e.num) (by omega) (by omega)
 refine ⟨by simp only [clE];omega,?_,by simp only [clE];omega,by simp only [clE];split<;>omega,by simp only [clE];omega,by simp only [clE];omega⟩
 simp only [clE]
 split
 ·simp
 ·omega
theorem MEs.of {out:List EF} (h1:out.length≤28) (h2:∀e∈out,SE 1111 e) (h3:sw out≤64400):MEs (out.map clE) where
 len:=by simpa using h1
 good:=fun e he=>by
  obtain ⟨d,hd,rfl⟩:=List.mem_map.1 he
  have q1:=(h2 d hd).good
  have q2:=(h2 d hd).fld.2.2.1
  exact ⟨q1.1,by omega⟩
 ok:=fun e he=>by
  obtain ⟨d,hd,rfl⟩:=List.mem_map.1 he
  exact (h2 d hd).ok
 text:=by
  have:=Xpi out fun e he=>⟨1111,h2 e he⟩
  omega
open Go.Shelf
def Xgv:Go.Shelf.Ren:=⟨fun|169=>37|n=>n,fun|70=>72|9=>9|0=>0|72=>74|37=>39|127=>133|3=>3|5=>5|n=>n,fun|n=>n⟩
theorem Xh6:Go.Proofs.Lays.n169 Tryz.prog Xgv:={
 mixed:=by kernel_rfl
 f169:=Tryz.func37.trans (congrArg some (by kernel_rfl))
 t0:=Tryz.underlying0
 a0:=Tryz.isAgg0
 z0:=Tryz.sizeOf0
 v0:=Tryz.zeroValue0
 t3:=Tryz.underlying3
 a3:=Tryz.isAgg3
 z3:=Tryz.sizeOf3
 v3:=Tryz.zeroValue3
 t9:=Tryz.underlying9
 a9:=Tryz.isAgg9
 z9:=Tryz.sizeOf9
 v9:=Tryz.zeroValue9
 t37:=Tryz.underlying39
 a37:=Tryz.isAgg39
 z37:=Tryz.sizeOf39
 v37:=Tryz.zeroValue39
 t70:=Tryz.underlying72
 a70:=Tryz.isAgg72
 z70:=Tryz.sizeOf72
 v70:=Tryz.zeroValue72
 t72:=Tryz.underlying74
 a72:=Tryz.isAgg74
 z72:=Tryz.sizeOf74
 v72:=Tryz.zeroValue74
 t127:=Tryz.underlying133
 a127:=Tryz.isAgg133
 z127:=Tryz.sizeOf133
 v127:=Tryz.zeroValue133 }
theorem Xa7:Builder.Extra Tryz.prog Xgv:={
 sizeBuilder:=by kernel_rfl
 liesBuilder:=by kernel_rfl
 t5:=Tryz.underlying5
 a5:=Tryz.isAgg5
 z5:=Tryz.sizeOf5
 v5:=Tryz.zeroValue5
 infoByte:=by kernel_rfl
 cellsByte:=by kernel_rfl
 sizeByte:=by kernel_rfl
 neB5:=by decide }
open Go.RowKit in
theorem Builder_String (B b:Nat) (l:List UInt8) (w:World) (h:Lib.IsBuilder 74 5 B b (Lib.byteCells l) w) (h0:l≠[]) :
  Calls Tryz.prog 37 #[.pointer (some ⟨b,0,none⟩)] w fun e w'=>e=.returned (.string ⟨l.toArray⟩)∧Below B w w':=Any.Builder_String Xh6 Xa7 B b l w h h0
open Go.RowKit in
theorem Builder_String_empty (B b:Nat) (w:World) (h:Lib.IsBuilder 74 5 B b [] w) (hBw:B≤w.heap.size) :
  Calls Tryz.prog 37 #[.pointer (some ⟨b,0,none⟩)] w fun e w'=>e=.returned (.string ⟨#[]⟩)∧Below B w w':=Any.Builder_String_empty Xh6 Xa7 B b w h hBw
open Go.RowKit in
theorem Builder_String_any (B b:Nat) (l:List UInt8) (w:World) (h:Lib.IsBuilder 74 5 B b (Lib.byteCells l) w) (hBw:B≤w.heap.size) :
  Calls Tryz.prog 37 #[.pointer (some ⟨b,0,none⟩)] w fun e w'=>e=.returned (.string ⟨l.toArray⟩)∧Below B w w':=Any.Builder_String_any Xh6 Xa7 B b l w h hBw
def Xkp:Go.Shelf.Ren:=⟨fun|137=>120|217=>153|266=>181|n=>n,fun|9=>9|5=>5|3=>3|n=>n,fun|n=>n⟩
theorem Xsw:Go.Proofs.Lays.n137 Tryz.prog Xkp:={
 mixed:=by kernel_rfl
 f137:=Tryz.func120.trans (congrArg some (by kernel_rfl))
 f217:=Tryz.func153.trans (congrArg some (by kernel_rfl))
 f266:=Tryz.func181.trans (congrArg some (by kernel_rfl))
 t3:=Tryz.underlying3
 a3:=Tryz.isAgg3
 z3:=Tryz.sizeOf3
 v3:=Tryz.zeroValue3
 t5:=Tryz.underlying5
 a5:=Tryz.isAgg5
 z5:=Tryz.sizeOf5
 v5:=Tryz.zeroValue5
 t9:=Tryz.underlying9
 a9:=Tryz.isAgg9
 z9:=Tryz.sizeOf9
 v9:=Tryz.zeroValue9 }
open Go.RowKit in
theorem strings_IndexByte (s:ByteArray) (c:Int) (w:World) :
  Calls Tryz.prog 120 #[.string s,.int .u8 c] w fun e w'=>e=.returned (.int .i64 (Lib.indexByte s.data.toList c.toNat.toUInt8))∧w'=w:=Any.strings_IndexByte Xsw s c w
def Xjb:Go.Shelf.Ren:=⟨fun|14=>90|16=>130|17=>131|19=>158|20=>159|21=>160|22=>161|23=>162|24=>163|25=>184|27=>65|26=>185|28=>102|29=>135|30=>136|31=>137|32=>138|33=>139|35=>170|34=>169|36=>171|37=>172|38=>173|39=>190|40=>191|n=>n,fun|9=>9|3=>3|22=>38|24=>81|25=>165|4=>4|34=>225|5=>5|36=>178|37=>39|0=>0|39=>227|21=>21|44=>248|47=>133|50=>260|48=>258|2=>2|52=>214|55=>217|59=>236|60=>237|20=>20|61=>238|65=>263|66=>264|67=>87|n=>n,fun|0=>4|1=>5|2=>3|3=>6|4=>7|n=>n⟩
theorem Xh7:Go.Proofs.LaysPu.n14 Tryz.prog Xjb:={
 mixed:=by kernel_rfl
 f14:=Tryz.func90.trans (congrArg some (by kernel_rfl))
 f16:=Tryz.func130.trans (congrArg some (by kernel_rfl))
 f17:=Tryz.func131.trans (congrArg some (by kernel_rfl))
 f19:=Tryz.func158.trans (congrArg some (by kernel_rfl))
 f20:=Tryz.func159.trans (congrArg some (by kernel_rfl))
 f21:=Tryz.func160.trans (congrArg some (by kernel_rfl))
 f22:=Tryz.func161.trans (congrArg some (by kernel_rfl))
 f23:=Tryz.func162.trans (congrArg some (by kernel_rfl))
 f24:=Tryz.func163.trans (congrArg some (by kernel_rfl))
 f25:=Tryz.func184.trans (congrArg some (by kernel_rfl))
 f26:=Tryz.func185.trans (congrArg some (by kernel_rfl))
 f27:=Tryz.func65.trans (congrArg some (by kernel_rfl))
 f28:=Tryz.func102.trans (congrArg some (by kernel_rfl))
 f29:=Tryz.func135.trans (congrArg some (by kernel_rfl))
 f30:=Tryz.func136.trans (congrArg some (by kernel_rfl))
 f31:=Tryz.func137.trans (congrArg some (by kernel_rfl))
 f32:=Tryz.func138.trans (congrArg some (by kernel_rfl))
 f33:=Tryz.func139.trans (congrArg some (by kernel_rfl))
 f34:=Tryz.func169.trans (congrArg some (by kernel_rfl))
 f35:=Tryz.func170.trans (congrArg some (by kernel_rfl))
 f36:=Tryz.func171.trans (congrArg some (by kernel_rfl))
 f37:=Tryz.func172.trans (congrArg some (by kernel_rfl))
 f38:=Tryz.func173.trans (congrArg some (by kernel_rfl))
 f39:=Tryz.func190.trans (congrArg some (by kernel_rfl))
 f40:=Tryz.func191.trans (congrArg some (by kernel_rfl))
 t0:=Tryz.underlying0
 a0:=Tryz.isAgg0
 z0:=Tryz.sizeOf0
 v0:=Tryz.zeroValue0
 i0:=by kernel_rfl
 t2:=Tryz.underlying2
 a2:=Tryz.isAgg2
 z2:=Tryz.sizeOf2
 v2:=Tryz.zeroValue2
 i2:=by kernel_rfl
 t3:=Tryz.underlying3
 a3:=Tryz.isAgg3
 z3:=Tryz.sizeOf3
 v3:=Tryz.zeroValue3
 i3:=by kernel_rfl
 t4:=Tryz.underlying4
 a4:=Tryz.isAgg4
 z4:=Tryz.sizeOf4
 v4:=Tryz.zeroValue4
 i4:=by kernel_rfl
 t5:=Tryz.underlying5
 a5:=Tryz.isAgg5
 z5:=Tryz.sizeOf5
 v5:=Tryz.zeroValue5
 i5:=by kernel_rfl
 t9:=Tryz.underlying9
 a9:=Tryz.isAgg9
 z9:=Tryz.sizeOf9
 v9:=Tryz.zeroValue9
 i9:=by kernel_rfl
 t20:=Tryz.underlying20
 a20:=Tryz.isAgg20
 z20:=Tryz.sizeOf20
 v20:=Tryz.zeroValue20
 i20:=by kernel_rfl
 t21:=Tryz.underlying21
 a21:=Tryz.isAgg21
 z21:=Tryz.sizeOf21
 v21:=Tryz.zeroValue21
 i21:=by kernel_rfl
 t22:=Tryz.underlying38
 a22:=Tryz.isAgg38
 z22:=Tryz.sizeOf38
 v22:=Tryz.zeroValue38
 i22:=by kernel_rfl
 t24:=Tryz.underlying81
 a24:=Tryz.isAgg81
 z24:=Tryz.sizeOf81
 v24:=Tryz.zeroValue81
 i24:=by kernel_rfl
 t25:=Tryz.underlying165
 a25:=Tryz.isAgg165
 z25:=Tryz.sizeOf165
 v25:=Tryz.zeroValue165
 i25:=by kernel_rfl
 t34:=Tryz.underlying225
 a34:=Tryz.isAgg225
 z34:=Tryz.sizeOf225
 v34:=Tryz.zeroValue225
 i34:=by kernel_rfl
 c34:=by kernel_rfl
 t36:=Tryz.underlying178
 a36:=Tryz.isAgg178
 z36:=Tryz.sizeOf178
 v36:=Tryz.zeroValue178
 i36:=by kernel_rfl
 t37:=Tryz.underlying39
 a37:=Tryz.isAgg39
 z37:=Tryz.sizeOf39
 v37:=Tryz.zeroValue39
 i37:=by kernel_rfl
 t39:=Tryz.underlying227
 a39:=Tryz.isAgg227
 z39:=Tryz.sizeOf227
 v39:=Tryz.zeroValue227
 i39:=by kernel_rfl
 t44:=Tryz.underlying248
 a44:=Tryz.isAgg248
 z44:=Tryz.sizeOf248
 v44:=Tryz.zeroValue248
 i44:=by kernel_rfl
 t47:=Tryz.underlying133
 a47:=Tryz.isAgg133
 z47:=Tryz.sizeOf133
 v47:=Tryz.zeroValue133
 i47:=by kernel_rfl
 t48:=Tryz.underlying258
 a48:=Tryz.isAgg258
 z48:=Tryz.sizeOf258
 v48:=Tryz.zeroValue258
 i48:=by kernel_rfl
 t50:=Tryz.underlying260
 a50:=Tryz.isAgg260
 z50:=Tryz.sizeOf260
 v50:=Tryz.zeroValue260
 i50:=by kernel_rfl
 t52:=Tryz.underlying214
 a52:=Tryz.isAgg214
 z52:=Tryz.sizeOf214
 v52:=Tryz.zeroValue214
 i52:=by kernel_rfl
 t55:=Tryz.underlying217
 a55:=Tryz.isAgg217
 z55:=Tryz.sizeOf217
 v55:=Tryz.zeroValue217
 i55:=by kernel_rfl
 t59:=Tryz.underlying236
 a59:=Tryz.isAgg236
 z59:=Tryz.sizeOf236
 v59:=Tryz.zeroValue236
 i59:=by kernel_rfl
 t60:=Tryz.underlying237
 a60:=Tryz.isAgg237
 z60:=Tryz.sizeOf237
 v60:=Tryz.zeroValue237
 i60:=by kernel_rfl
 t61:=Tryz.underlying238
 a61:=Tryz.isAgg238
 z61:=Tryz.sizeOf238
 t65:=Tryz.underlying263
 a65:=Tryz.isAgg263
 z65:=Tryz.sizeOf263
 v65:=Tryz.zeroValue263
 i65:=by kernel_rfl
 t66:=Tryz.underlying264
 a66:=Tryz.isAgg264
 z66:=Tryz.sizeOf264
 v66:=Tryz.zeroValue264
 i66:=by kernel_rfl
 t67:=Tryz.underlying87
 a67:=Tryz.isAgg87
 z67:=Tryz.sizeOf87
 v67:=Tryz.zeroValue87
 i67:=by kernel_rfl
 g0:=by kernel_rfl
 m0:=by kernel_rfl
 g1:=by kernel_rfl
 m1:=by kernel_rfl
 g2:=by kernel_rfl
 m2:=by kernel_rfl
 g3:=by kernel_rfl
 m3:=by kernel_rfl
 g4:=by kernel_rfl
 m4:=by kernel_rfl }
open Go.RowKit in
theorem strconv_ParseUint_10_at64_ok (s:ByteArray) (hmax:s.size≤9223372036854775806) (u:Nat) (h:Lib.parseUintB 64 s.data.toList=.ok u) (w:World) :
  Calls Tryz.prog 90 #[.string s,.int .i64 10,.int .i64 64] w fun e w'=>e=.returned (.tuple #[.int .u64 u,.nilIface])∧(w'=w∨w'=Lib.bytesWorld w 5 s):=Any.strconv_ParseUint_10_at64_ok Xh7 s hmax u h w
open Go.RowKit in
theorem strconv_ParseUint_10_at64_syntax (s:ByteArray) (hlim:s.size≤281474976710656) (h:Lib.parseUintB 64 s.data.toList=.«syntax») (ev:Value) (w:World) (hv:w.cell? ⟨4,0,none⟩=some ev) (hev:ev=.nilIface∨∃te pe,ev=.iface te pe) :
  Calls Tryz.prog 90 #[.string s,.int .i64 10,.int .i64 64] w fun e w'=>∃N,e=.returned (.tuple #[.int .u64 0,.iface 227 (.pointer (some ⟨N,0,none⟩))])∧w.heap.size≤N∧w'.heap[N]?=some (.cells #[.string ⟨#[80,97,114,115,101,85,105,110,116]⟩,.string s,ev] 248 (0,0))∧Below w.heap.size w w':=Any.strconv_ParseUint_10_at64_syntax Xh7 s hlim h ev w hv hev
open Go.RowKit in
theorem strconv_ParseUint_10_at64_range (s:ByteArray) (hlim:s.size≤281474976710656) (h:Lib.parseUintB 64 s.data.toList=.range) (ev:Value) (w:World) (hv:w.cell? ⟨5,0,none⟩=some ev) (hev:ev=.nilIface∨∃te pe,ev=.iface te pe) :
  Calls Tryz.prog 90 #[.string s,.int .i64 10,.int .i64 64] w fun e w'=>∃N,e=.returned (.tuple #[.int .u64 18446744073709551615,.iface 227 (.pointer (some ⟨N,0,none⟩))])∧w.heap.size≤N∧w'.heap[N]?=some (.cells #[.string ⟨#[80,97,114,115,101,85,105,110,116]⟩,.string s,ev] 248 (0,0))∧Below w.heap.size w w':=Any.strconv_ParseUint_10_at64_range Xh7 s hlim h ev w hv hev
def Xko:Go.Shelf.Ren:=⟨fun|110=>110|109=>140|n=>n,fun|31=>25|9=>9|4=>4|3=>3|0=>0|n=>n,fun|n=>n⟩
theorem Xoq:Go.Proofs.Lays.n110 Tryz.prog Xko:={
 mixed:=by kernel_rfl
 f109:=Tryz.func140.trans (congrArg some (by kernel_rfl))
 f110:=Tryz.func110.trans (congrArg some (by kernel_rfl))
 t0:=Tryz.underlying0
 a0:=Tryz.isAgg0
 z0:=Tryz.sizeOf0
 v0:=Tryz.zeroValue0
 t3:=Tryz.underlying3
 a3:=Tryz.isAgg3
 z3:=Tryz.sizeOf3
 v3:=Tryz.zeroValue3
 t4:=Tryz.underlying4
 a4:=Tryz.isAgg4
 z4:=Tryz.sizeOf4
 v4:=Tryz.zeroValue4
 t9:=Tryz.underlying9
 a9:=Tryz.isAgg9
 z9:=Tryz.sizeOf9
 v9:=Tryz.zeroValue9
 t31:=Tryz.underlying25
 a31:=Tryz.isAgg25
 z31:=Tryz.sizeOf25
 v31:=Tryz.zeroValue25 }
open Go.Lib in
theorem slices_Contains_string (b off n c:Nat) (zs:List ByteArray) (x:ByteArray) (w:World) (hz:n≤zs.length) (hbig:n≤9223372036854775807) (hc:∀j,j < zs.length→w.cell? ⟨b,off+j,none⟩=some (.string (zs.getD j ByteArray.empty))) :
  Calls Tryz.prog 110 #[.slice (some ⟨b,off,none⟩) n c,.string x] w fun e w'=>e=.returned (.bool (Lib.containsS (zs.take n) x))∧w'=w:=Any.slices_Contains_string Xoq b off n c zs x w hz hbig hc
open Go.Lib in
theorem slices_Contains_string_empty (a:Option Addr) (c:Nat) (x:ByteArray) (w:World) :
  Calls Tryz.prog 110 #[.slice a 0 c,.string x] w fun e w'=>e=.returned (.bool false)∧w'=w:=Any.slices_Contains_string_empty Xoq a c x w
def Xkr:Go.Shelf.Ren:=⟨fun|193=>79|n=>n,fun|31=>25|9=>9|4=>4|3=>3|0=>0|n=>n,fun|n=>n⟩
theorem Xos:Go.Proofs.Lays.n193 Tryz.prog Xkr:={
 mixed:=by kernel_rfl
 f193:=Tryz.func79.trans (congrArg some (by kernel_rfl))
 t0:=Tryz.underlying0
 a0:=Tryz.isAgg0
 z0:=Tryz.sizeOf0
 v0:=Tryz.zeroValue0
 t3:=Tryz.underlying3
 a3:=Tryz.isAgg3
 z3:=Tryz.sizeOf3
 v3:=Tryz.zeroValue3
 t4:=Tryz.underlying4
 a4:=Tryz.isAgg4
 z4:=Tryz.sizeOf4
 v4:=Tryz.zeroValue4
 t9:=Tryz.underlying9
 a9:=Tryz.isAgg9
 z9:=Tryz.sizeOf9
 v9:=Tryz.zeroValue9
 t31:=Tryz.underlying25
 a31:=Tryz.isAgg25
 z31:=Tryz.sizeOf25
 v31:=Tryz.zeroValue25 }
open Go.RowKit Go.Lib in
theorem slices_Equal_string (b1 o1 n c b2 o2 m d:Nat) (xs ys:List ByteArray) (w:World) (hx:n≤xs.length) (hy:m≤ys.length) (hbig:n≤9223372036854775807) (hbig2:m≤9223372036854775807) (hc1:∀j,j < xs.length→w.cell? ⟨b1,o1+j,none⟩=some (.string (xs.getD j ByteArray.empty))) (hc2:∀j,j < ys.length→w.cell? ⟨b2,o2+j,none⟩=some (.string (ys.getD j ByteArray.empty))) :
  Calls Tryz.prog 79 #[.slice (some ⟨b1,o1,none⟩) n c,.slice (some ⟨b2,o2,none⟩) m d] w fun e w'=>e=.returned (.bool (decide (xs.take n=ys.take m)))∧∃q,w'=w.drewN q:=Any.slices_Equal_string Xos b1 o1 n c b2 o2 m d xs ys w hx hy hbig hbig2 hc1 hc2
open Go.RowKit Go.Lib in
theorem slices_Equal_string_empty (a1 a2:Option Addr) (c m d:Nat) (w:World) (hbig2:m≤9223372036854775807) :
  Calls Tryz.prog 79 #[.slice a1 0 c,.slice a2 m d] w fun e w'=>e=.returned (.bool (decide (m=0)))∧w'=w:=Any.slices_Equal_string_empty Xos a1 a2 c m d w hbig2
theorem Xer {P:Program} {f:FuncId} {args:List Value} {Q:Value→Prop} (h:∀w,Gw w→Calls P f args.toArray w fun e w'=>∃v,e=.returned v∧Q v∧Ext w w') (H:List Hp):Xa3 P f H (args.map .x) fun r H'=>∃v,Q v∧r=.x v∧H'=H:=by
 intro V w vs hV hH hd hgl
 rw [hd.exact']
 refine (h w hgl.2).mono ?_
 rintro e w' ⟨v,rfl,hq,hE⟩
 exact ⟨.x v,H,v,⟨v,hq,rfl,rfl⟩,rfl,by rw [Den],⟨fun x hx=>(hH.ok x hx).conv (fun k hk=>.inl hk) (fun k hk _=>hE.block k hk) hE.size (fun k hk=>hE.block k (hH.lt x hx k hk).1),hH.apart,fun x hx k hk=>⟨Nat.lt_of_lt_of_le (hH.lt x hx k hk).1 hE.size,(hH.lt x hx k hk).2⟩⟩,hE.fr _,fun x hx k hk=>.inl ⟨x,hx,hk⟩⟩
theorem Xe3 (M:Nat):∀(l:List UInt8) (acc u:Nat),acc≤M→Lib.parseUintM M acc l=.ok u→u≤M
 | [],acc,u,h,e=>by rw [Lib.parseUintM] at e;cases e;exact h
 | c :: r,acc,u,h,e=>by
   rw [Lib.parseUintM] at e
   split at e
   ·split at e
    ·cases e
    ·split at e
     ·cases e
     ·exact Xe3 M r _ u (by omega) e
   ·cases e
theorem Xic (s:List UInt8) (hl:s.length≤100000):Xa3 Tryz.prog 90 [] [.x (.string (bs s)),.x (.int .i64 10),.x (.int .i64 64)] (fun r H'=>∃v,(∃(n:Int) (ev:Value),v=.tuple #[.int .u64 n,ev]∧0≤n∧n≤18446744073709551615)∧r=.x v∧H'=[]):=by
 refine Xer (args:=[.string (bs s),.int .i64 10,.int .i64 64]) (fun w hg=>?_) []
 cases h:Lib.parseUintB 64 (bs s).data.toList with
 | ok u=>
   refine (strconv_ParseUint_10_at64_ok (bs s) (by simp [bs,ByteArray.size];omega) u h w).mono ?_
   have hu:u≤2 ^ 64 - 1:=by
    unfold Lib.parseUintB at h
    split at h
    ·cases h
    ·exact Xe3 _ _ 0 u (Nat.zero_le _) h
   rintro e w' ⟨rfl,rfl|rfl⟩
   ·exact ⟨_,rfl,⟨u,.nilIface,rfl,by omega,by omega⟩,Below.refl _ _⟩
   ·exact ⟨_,rfl,⟨u,.nilIface,rfl,by omega,by omega⟩,by rw [XcM];exact Ext.ext _ _ _⟩
 | «syntax»=>
   obtain ⟨t,v,hv⟩:=hg.syn
   refine (strconv_ParseUint_10_at64_syntax (bs s) (by simp [bs,ByteArray.size];omega) h _ w hv (.inr ⟨_,_,rfl⟩)).mono ?_
   rintro e w' ⟨N,rfl,-,-,hE⟩
   exact ⟨_,rfl,⟨0,_,rfl,by omega,by omega⟩,hE⟩
 | range=>
   obtain ⟨t,v,hv⟩:=hg.rng
   refine (strconv_ParseUint_10_at64_range (bs s) (by simp [bs,ByteArray.size];omega) h _ w hv (.inr ⟨_,_,rfl⟩)).mono ?_
   rintro e w' ⟨N,rfl,-,-,hE⟩
   exact ⟨_,rfl,⟨18446744073709551615,_,rfl,by omega,by omega⟩,hE⟩
def XoG (acc:Nat) (l:List UInt8):Nat:=l.foldl (fun n c=>n*10+(c.toNat - 48)) acc
theorem XmB (l:List UInt8) (hd:Xel l):∀acc,(acc+1)*10 ^ l.length≤1000000000000000000→Lib.parseUintM (2 ^ 64 - 1) acc l=.ok (XoG acc l):=by
 induction l with
 | nil=>intro acc _;rfl
 | cons c r ih=>
   intro acc h
   have hc:=hd c (List.mem_cons_self ..)
   have h10:1≤10 ^ r.length:=Nat.pow_pos (by decide)
   rw [Xvy,Nat.pow_succ] at h
   have h2:(acc+1)*10≤1000000000000000000:=by
    calc (acc+1)*10=(acc+1)*(1*10):=by omega
     _≤(acc+1)*(10 ^ r.length*10):=Nat.mul_le_mul_left _ (Nat.mul_le_mul_right _ h10)
     _≤_:=h
   have h3:(acc*10+(c.toNat - 48)+1)*10 ^ r.length≤1000000000000000000:=by
    calc (acc*10+(c.toNat - 48)+1)*10 ^ r.length≤((acc+1)*10)*10 ^ r.length:=Nat.mul_le_mul_right _ (by omega)
     _=(acc+1)*(10 ^ r.length*10):=by rw [Nat.mul_assoc,Nat.mul_comm 10]
     _≤_:=h
   rw [Lib.parseUintM,if_pos hc,if_neg (by omega),if_neg (by omega),ih (fun x hx=>hd x (List.mem_cons_of_mem _ hx)) _ h3]
   rfl
theorem Xmy (l:List UInt8) (hd:Xel l):∀acc:Nat,((XoG acc l:Nat):Int)=l.foldl (fun n c=>10*n+((c.toNat:Int) - 48)) (acc:Int):=by
 induction l with
 | nil=>intro acc;rfl
 | cons c r ih=>
   intro acc
   have hc:=hd c (List.mem_cons_self ..)
   have:=ih (fun x hx=>hd x (List.mem_cons_of_mem _ hx)) (acc*10+(c.toNat - 48))
   simp only [XoG,Xvw] at this ⊢
   rw [this]
   congr 1
   omega
theorem XmE (l:List UInt8) (hd:Xel l) (h1:1≤l.length) (h18:l.length≤18):Lib.parseUintB 64 l=.ok (XoG 0 l):=by
 unfold Lib.parseUintB
 rw [if_neg (by intro h;rw [h] at h1;simp at h1)]
 refine XmB l hd 0 ?_
 have:=Nat.pow_le_pow_right (n:=10) (by decide) h18
 simpa using this
theorem Xjl (s:List UInt8) (hd:Xel s) (h1:1≤s.length) (h18:s.length≤18):Xa3 Tryz.prog 90 [] [.x (.string (bs s)),.x (.int .i64 10),.x (.int .i64 64)] (fun r H'=>r=.x (.tuple #[.int .u64 (Xdm s),.nilIface])∧H'=[]):=by
 have e:Xdm s=((XoG 0 s:Nat):Int):=(Xmy s hd 0).symm
 rw [e]
 refine Xb9 (args:=[.string (bs s),.int .i64 10,.int .i64 64]) (fun w=>(strconv_ParseUint_10_at64_ok (bs s) (by simp [bs,ByteArray.size];omega) _ (by simpa [bs] using XmE s hd h1 h18) w).mono ?_) []
 rintro e w' ⟨rfl,rfl|rfl⟩
 ·exact ⟨rfl,Below.refl _ _⟩
 ·exact ⟨rfl,by rw [XcM];exact Ext.ext _ _ _⟩
def XbE (a:Int):UInt8:=if a=106 then 78 else if a=119 then 75 else if a=100 then 68 else if a=97 then 84 else if a=99 then 67 else if a=108 then 76 else 77
theorem Xuj (be:Nat) (e:EF) (a:Int) (t:Tok) (hlen:t.text.length≤70000) (hk:¬t.kind=2) (ha:a=106∨a=119∨a=100∨a=97∨a=99∨a=108∨a=110):Xa3 Tryz.prog 53 [.box be e.cells] [.x (.pointer (some ⟨be,0,none⟩)),.x (.int .i32 a),t.av] (fun r H'=>∃e':EF,r=.x (.bool (XbH (XbE a) t))∧H'=[.box be e'.cells]∧(XbH (XbE a) t=true→e'=XgU e (XbE a) t)):=by
 have q1:=Xic t.text (by omega)
 unfold Tok.av
 have he:e.cells=[.x (.int .i64 e.kind),.x (.string (bs e.job)),.x (.bool e.ok),.x (.int .i64 e.code),.sq e.data.length (u8a e.data),.x (.int .u64 e.time),.x (.int .i64 e.client),.x (.int .i64 e.num)]:=rfl
 rw [he]
 have hb2:(t.kind != 2)=true:=bne_iff_ne.2 hk
 have hb2':(t.kind == 2)=false:=XvM.2 hk
 refine XaD Tryz.func53 rfl ?_
 simp only [Tryz.ntmps53,Xvy,XvB,XvC,XvD,XvG,XvF,Nat.reduceAdd,Nat.reduceSub]
 (repeat' (first|with_reducible (first|refine Xag ?_|refine Xac ?_|refine Xao ?_|refine Xar ?_|refine Xau ?_|refine Xae ?_|refine Xaa ?_|refine Xax ?_|refine Xaj ?_|refine Xav ?_)|(refine Xak _ rfl (fun h=>?_) (fun h=>?_)<;>first|(exact absurd h (by decide))|((try (simp only [whn] at h));skip))|((apply Xfe rfl rfl rfl);(case hT=>((try simp (disch:=omega) only [wtn,hb2,hb2',Xvz,Xvw,Xvx,XvA,XvE,Nat.reduceAdd,Nat.reduceMul,Nat.reduceSub,↓reduceIte,Nat.reduceEqDiff]);rfl)))|((first|apply Xad rfl|apply Xa8 _ _ rfl rfl rfl);(case h=>((try (intro (hp:(_:Bool)=true);((try simp only [Bool.and_eq_true,Bool.not_eq_true'] at hp);(try simp only [hp,wte]);(try simp only [whn] at hp))));(first|(apply Xab 0 rfl;(first|exact Xap _ rfl|exact Xan _ rfl))|(apply Xab 1 rfl;(first|exact XcQ _ _ _ rfl rfl|exact XbC _ _ _ _ _ rfl rfl rfl rfl|exact Xf7 _ _ _ _ _ rfl rfl rfl rfl))|(apply Xab 4 rfl;(exact Xbl _ rfl (by first|exact .inl ⟨_,rfl⟩|fail)))|(apply Xab 5 rfl;(exact Xal _ _ _ _ _ _ rfl rfl Xa5.out))|(apply Xab 6 rfl;(exact Xaz _ _ _ _ _ _ _ _ rfl rfl XaS.out XaN.out (by first|exact Xvu rfl|fail) (by first|exact Xvu rfl|fail)))|(apply Xab 12 rfl;(exact XcP _ _ 5 _ _ rfl (by kernel_rfl) (by kernel_rfl) (by kernel_rfl) (by kernel_rfl) rfl (by omega)))|(apply XaC;(case hs=>(intro _ _ h;cases h));(case hx=>rfl);(case hrun=>(intro w;simp [wtb,AV.val,go_sem];skip;rfl))))));(case hT=>((try simp (disch:=omega) only [wtn,hb2,hb2',Xvz,Xvw,Xvx,XvA,XvE,Nat.reduceAdd,Nat.reduceMul,Nat.reduceSub,↓reduceIte,Nat.reduceEqDiff]);rfl)))|(refine Xai rfl ?_;((first|(refine Xas 11 rfl ?_;(refine Xam 90 Tryz.f90 ([]) _ _ _ rfl rfl Tryz.func90 (by decide) rfl (Xvv _) (VwL.refl _ _) (q1) ?_;rintro _ _ ⟨_,⟨n,ev,rfl,hn1,hn2⟩,rfl,rfl⟩))|(refine Xas 15 rfl ?_;(refine Xbo _ _ rfl (by first|rfl|fail) (fun b=>?_)))|(refine Xas 16 rfl ?_;(refine Xaw _ _ _ _ _ _ _ rfl rfl XaS.out XaR.out (by first|rfl|fail) (by first|exact Xvu rfl|fail) ?_)));apply Xah;(case hT=>((try simp (disch:=omega) only [wtn,hb2,hb2',Xvz,Xvw,Xvx,XvA,XvE,Nat.reduceAdd,Nat.reduceMul,Nat.reduceSub,↓reduceIte,Nat.reduceEqDiff]);rfl));(case hH=>((try simp (disch:=omega) only [wtn,hb2,hb2',Xvz,Xvw,Xvx,XvA,XvE,Nat.reduceAdd,Nat.reduceMul,Nat.reduceSub,↓reduceIte,Nat.reduceEqDiff]);rfl))))|fail))
 ·subst h
  refine Xaf _ _ (Xbh rfl (RV.tmp _) (XaH.mk' [_] [_] (Xvv _) (XaB.refl _ _) (VwL.refl _ _))) ?_
  exact ⟨{ e with job:=t.text },by simp [ev,XbH,XbE];rfl,rfl,fun _=>by simp [XgU,XbE]⟩
 ·subst h
  refine Xaf _ _ (Xbh rfl (RV.tmp _) (XaH.mk' [_] [_] (Xvv _) (XaB.refl _ _) (VwL.refl _ _))) ?_
  have hq:(t.text == [111,107])=decide (t.text=wOk):=by by_cases hq:t.text=[111,107]<;>simp [hq,wOk]
  refine ⟨{ e with ok:=decide (t.text=wOk) },?_,by rw [←hq];rfl,fun _=>by simp [XgU,XbE]⟩
  simp [ev,XbH,XbE,wOk,Xdb]
  by_cases p1:t.kind=1<;>by_cases p2:t.text=[111,107]<;>by_cases p3:t.text=[102,97,105,108,101,100]<;>simp [p1,p2,p3]
 ·subst h
  refine Xaf _ _ (Xbh rfl (RV.tmp _) (XaH.mk' [_] [_] (Xvv _) (XaB.refl _ _) (VwL.refl _ _))) ?_
  exact ⟨{ e with data:=t.text },by simp [ev,XbH,XbE];rfl,rfl,fun _=>by simp [XgU,XbE]⟩
 ·refine Xaf _ _ (Xbh rfl (RV.tmp _) (XaH.mk' [_] [_] (Xvv _) (XaB.refl _ _) (VwL.refl _ _))) ?_
  have hno:XbH (XbE a) t=false:=by
   rcases ha with rfl|rfl|rfl|rfl|rfl|rfl|rfl<;>first|(exfalso;omega)|simp [XbH,XbE,hk]|fail
  rw [hno]
  exact ⟨e,rfl,rfl,fun h=>by cases h⟩
theorem Xuk (be:Nat) (e:EF) (a:Int) (t:Tok) (hlen:t.text.length≤70000) (hN:Xpr t) (h1t:1≤t.text.length) (hk:t.kind=2) (ha:a=106∨a=119∨a=100∨a=97∨a=99∨a=108∨a=110):Xa3 Tryz.prog 53 [.box be e.cells] [.x (.pointer (some ⟨be,0,none⟩)),.x (.int .i32 a),t.av] (fun r H'=>∃e':EF,r=.x (.bool (XbH (XbE a) t))∧H'=[.box be e'.cells]∧(XbH (XbE a) t=true→e'=XgU e (XbE a) t)):=by
 obtain ⟨n1,n2⟩:=hN hk
 have q1:=Xjl t.text n2 h1t n1
 obtain ⟨b1,b2⟩:=Xlp hN hk
 unfold Tok.av
 have he:e.cells=[.x (.int .i64 e.kind),.x (.string (bs e.job)),.x (.bool e.ok),.x (.int .i64 e.code),.sq e.data.length (u8a e.data),.x (.int .u64 e.time),.x (.int .i64 e.client),.x (.int .i64 e.num)]:=rfl
 rw [he]
 generalize hnv:Xdm t.text=nv at *
 have hnv':=Lib.hid hnv
 have n2':=Lib.hid n2
 clear hnv n2 hN
 have hb2:(t.kind != 2)=false:=by rw [hk];rfl
 refine XaD Tryz.func53 rfl ?_
 simp only [Tryz.ntmps53,Xvy,XvB,XvC,XvD,XvG,XvF,Nat.reduceAdd,Nat.reduceSub]
 (repeat' (first|with_reducible (first|refine Xag ?_|refine Xac ?_|refine Xao ?_|refine Xar ?_|refine Xau ?_|refine Xae ?_|refine Xaa ?_|refine Xax ?_|refine Xaj ?_|refine Xav ?_)|(refine Xak _ rfl (fun h=>?_) (fun h=>?_)<;>first|(exact absurd h (by decide))|((try (simp only [whn] at h));first|(exfalso;omega;done)|skip))|((first|apply Xad rfl|apply Xa8 _ _ rfl rfl rfl);(case h=>((try (intro (hp:(_:Bool)=true);((try simp only [Bool.and_eq_true,Bool.not_eq_true'] at hp);(try simp only [hp,wte]);(try simp only [whn] at hp))));(first|(apply Xab 0 rfl;(first|exact Xap _ rfl|exact Xan _ rfl))|(apply Xab 1 rfl;(first|exact Xcs _ _ _ rfl rfl|exact XbC _ _ _ _ _ rfl rfl rfl rfl|exact Xf7 _ _ _ _ _ rfl rfl rfl rfl))|(apply Xab 4 rfl;(exact Xbl _ rfl (by first|exact .inl ⟨_,rfl⟩|fail)))|(apply Xab 5 rfl;(exact Xal _ _ _ _ _ _ rfl rfl Xa5.out))|(apply Xab 6 rfl;(exact Xaz _ _ _ _ _ _ _ _ rfl rfl XaS.out XaN.out (by first|exact Xvu rfl|fail) (by first|exact Xvu rfl|fail)))|(apply Xab 12 rfl;(exact XcP _ _ 5 _ _ rfl (by kernel_rfl) (by kernel_rfl) (by kernel_rfl) (by kernel_rfl) rfl (by omega)))|(apply XaC;(case hs=>(intro _ _ h;cases h));(case hx=>rfl);(case hrun=>(intro w;simp [wtb,AV.val,go_sem];(try go_bits);rfl))))));(case hT=>((try simp (disch:=omega) only [wtn,hb2,Xvz,Xvw,Xvx,XvA,XvE,Nat.reduceAdd,Nat.reduceMul,Nat.reduceSub,↓reduceIte,Nat.reduceEqDiff]);rfl)))|(refine Xai rfl ?_;((first|(refine Xas 11 rfl ?_;(refine Xam 90 Tryz.f90 ([]) _ _ _ rfl rfl Tryz.func90 (by decide) rfl (Xvv _) (VwL.refl _ _) (q1) ?_;rintro _ _ ⟨rfl,rfl⟩))|(refine Xas 15 rfl ?_;(refine Xbo _ _ rfl (by first|rfl|fail) (fun b=>?_)))|(refine Xas 16 rfl ?_;(refine Xaw _ _ _ _ _ _ _ rfl rfl XaS.out XaR.out (by first|rfl|fail) (by first|exact Xvu rfl|fail) ?_)));apply Xah;(case hT=>((try simp (disch:=omega) only [wtn,hb2,Xvz,Xvw,Xvx,XvA,XvE,Nat.reduceAdd,Nat.reduceMul,Nat.reduceSub,↓reduceIte,Nat.reduceEqDiff]);rfl));(case hH=>((try simp (disch:=omega) only [wtn,hb2,Xvz,Xvw,Xvx,XvA,XvE,Nat.reduceAdd,Nat.reduceMul,Nat.reduceSub,↓reduceIte,Nat.reduceEqDiff]);rfl))))|fail))
 ·subst h
  refine Xaf _ _ (Xbh rfl (RV.tmp _) (XaH.mk' [_] [_] (Xvv _) (XaB.refl _ _) (VwL.refl _ _))) ?_
  exact ⟨{ e with job:=t.text },by simp [ev,XbH,XbE];rfl,rfl,fun _=>by simp [XgU,XbE]⟩
 ·subst h
  refine Xaf _ _ (Xbh rfl (RV.tmp _) (XaH.mk' [_] [_] (Xvv _) (XaB.refl _ _) (VwL.refl _ _))) ?_
  have hq:(t.text == [111,107])=decide (t.text=wOk):=by by_cases hq:t.text=[111,107]<;>simp [hq,wOk]
  refine ⟨{ e with ok:=decide (t.text=wOk) },?_,by rw [←hq];rfl,fun _=>by simp [XgU,XbE]⟩
  simp [ev,XbH,XbE,wOk,Xdb]
  by_cases p1:t.kind=1<;>by_cases p2:t.text=[111,107]<;>by_cases p3:t.text=[102,97,105,108,101,100]<;>simp [p1,p2,p3]
 ·subst h
  refine Xaf _ _ (Xbh rfl (RV.tmp _) (XaH.mk' [_] [_] (Xvv _) (XaB.refl _ _) (VwL.refl _ _))) ?_
  exact ⟨{ e with data:=t.text },by simp [ev,XbH,XbE];rfl,rfl,fun _=>by simp [XgU,XbE]⟩
 ·subst h
  refine Xaf _ _ (Xbh rfl (RV.tmp _) (XaH.mk' [_] [_] (Xvv _) (XaB.refl _ _) (VwL.refl _ _))) ?_
  have hnv:=hnv'.out
  exact ⟨{ e with time:=nv },by simp [ev,XbH,XbE,hk],rfl,fun _=>by simp [XgU,XbE,hk,hnv]⟩
 ·subst h
  refine Xaf _ _ (Xbh rfl (RV.tmp _) (XaH.mk' [_] [_] (Xvv _) (XaB.refl _ _) (VwL.refl _ _))) ?_
  have hnv:=hnv'.out
  refine ⟨{ e with code:=min nv 999999999 },by simp [ev,XbH,XbE,hk,hnv],?_,fun hh=>?_⟩
  ·rfl
  ·have h9:nv≤999999999:=by simpa [XbH,XbE,hk,hnv] using hh
   simp [XgU,XbE,hk,hnv];omega
 ·subst h
  refine Xaf _ _ (Xbh rfl (RV.tmp _) (XaH.mk' [_] [_] (Xvv _) (XaB.refl _ _) (VwL.refl _ _))) ?_
  have hnv:=hnv'.out
  refine ⟨{ e with client:=min nv 999999999 },by simp [ev,XbH,XbE,hk,hnv],?_,fun hh=>?_⟩
  ·rfl
  ·have h9:nv≤999999999:=by simpa [XbH,XbE,hk,hnv] using hh
   simp [XgU,XbE,hk,hnv];omega
 ·subst h
  refine Xaf _ _ (Xbh rfl (RV.tmp _) (XaH.mk' [_] [_] (Xvv _) (XaB.refl _ _) (VwL.refl _ _))) ?_
  have hnv:=hnv'.out
  refine ⟨{ e with num:=min nv 999999999 },by simp [ev,XbH,XbE,hk,hnv],?_,fun hh=>?_⟩
  ·rfl
  ·have h9:nv≤999999999:=by simpa [XbH,XbE,hk,hnv] using hh
   simp [XgU,XbE,hk,hnv];omega
end Go.Proofs.YtdpobjakdplljaaGreatDoor

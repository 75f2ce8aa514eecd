import Derived.Test.YtdlblokjfoggpaaGreatDoorW12
import Derived.Shelf.Strings.Builder1
import Derived.Shelf.Small.Strs
import Derived.Shelf.Pu.ParseUintPublic10
import Derived.Shelf.Slices.Turned
import Derived.Shelf.Slices.Equal
import Derived.Test.YtdlblokjfoggpaaGreatDoorW27
/- Contracts of the library, laid at this dump by the kit's tools (lay-shelf.mjs, lay-plain.mjs). Their numbers are of this seat alone. -/
set_option linter.unusedSimpArgs false
set_option linter.unusedVariables false
set_option maxRecDepth 100000
set_option maxHeartbeats 8000000
namespace Go.Proofs.YtdlblokjfoggpaaGreatDoor
open Go.Shelf
def Xgt:Go.Shelf.Ren:=⟨fun|169=>171|n=>n,fun|70=>263|9=>9|0=>0|72=>265|37=>22|127=>276|3=>3|5=>5|n=>n,fun|n=>n⟩
theorem Xj3:Go.Proofs.Lays.n169 Tryz.prog Xgt:={
 mixed:=by kernel_rfl
 f169:=Tryz.func171.trans (congrArg some (by kernel_rfl))
 t0:=Tryz.underlying0
 a0:=Tryz.isAgg0
 z0:=Tryz.sizeOf0
 v0:=Tryz.zeroValue0
 t3:=Tryz.underlying3
 a3:=Tryz.isAgg3
 z3:=Tryz.sizeOf3
 v3:=Tryz.zeroValue3
 t9:=Tryz.underlying9
 a9:=Tryz.isAgg9
 z9:=Tryz.sizeOf9
 v9:=Tryz.zeroValue9
 t37:=Tryz.underlying22
 a37:=Tryz.isAgg22
 z37:=Tryz.sizeOf22
 v37:=Tryz.zeroValue22
 t70:=Tryz.underlying263
 a70:=Tryz.isAgg263
 z70:=Tryz.sizeOf263
 v70:=Tryz.zeroValue263
 t72:=Tryz.underlying265
 a72:=Tryz.isAgg265
 z72:=Tryz.sizeOf265
 v72:=Tryz.zeroValue265
 t127:=Tryz.underlying276
 a127:=Tryz.isAgg276
 z127:=Tryz.sizeOf276
 v127:=Tryz.zeroValue276 }
theorem Xa0:Builder.Extra Tryz.prog Xgt:={
 sizeBuilder:=by kernel_rfl
 liesBuilder:=by kernel_rfl
 t5:=Tryz.underlying5
 a5:=Tryz.isAgg5
 z5:=Tryz.sizeOf5
 v5:=Tryz.zeroValue5
 infoByte:=by kernel_rfl
 cellsByte:=by kernel_rfl
 sizeByte:=by kernel_rfl
 neB5:=by decide }
open Go.RowKit in
theorem Builder_String (B b:Nat) (l:List UInt8) (w:World) (h:Lib.IsBuilder 265 5 B b (Lib.byteCells l) w) (h0:l≠[]) :
  Calls Tryz.prog 171 #[.pointer (some ⟨b,0,none⟩)] w fun e w'=>e=.returned (.string ⟨l.toArray⟩)∧Below B w w':=Any.Builder_String Xj3 Xa0 B b l w h h0
open Go.RowKit in
theorem Builder_String_empty (B b:Nat) (w:World) (h:Lib.IsBuilder 265 5 B b [] w) (hBw:B≤w.heap.size) :
  Calls Tryz.prog 171 #[.pointer (some ⟨b,0,none⟩)] w fun e w'=>e=.returned (.string ⟨#[]⟩)∧Below B w w':=Any.Builder_String_empty Xj3 Xa0 B b w h hBw
open Go.RowKit in
theorem Builder_String_any (B b:Nat) (l:List UInt8) (w:World) (h:Lib.IsBuilder 265 5 B b (Lib.byteCells l) w) (hBw:B≤w.heap.size) :
  Calls Tryz.prog 171 #[.pointer (some ⟨b,0,none⟩)] w fun e w'=>e=.returned (.string ⟨l.toArray⟩)∧Below B w w':=Any.Builder_String_any Xj3 Xa0 B b l w h hBw
def Xj2:Go.Shelf.Ren:=⟨fun|137=>148|217=>170|266=>183|n=>n,fun|9=>9|5=>5|3=>3|n=>n,fun|n=>n⟩
theorem XtO:Go.Proofs.Lays.n137 Tryz.prog Xj2:={
 mixed:=by kernel_rfl
 f137:=Tryz.func148.trans (congrArg some (by kernel_rfl))
 f217:=Tryz.func170.trans (congrArg some (by kernel_rfl))
 f266:=Tryz.func183.trans (congrArg some (by kernel_rfl))
 t3:=Tryz.underlying3
 a3:=Tryz.isAgg3
 z3:=Tryz.sizeOf3
 v3:=Tryz.zeroValue3
 t5:=Tryz.underlying5
 a5:=Tryz.isAgg5
 z5:=Tryz.sizeOf5
 v5:=Tryz.zeroValue5
 t9:=Tryz.underlying9
 a9:=Tryz.isAgg9
 z9:=Tryz.sizeOf9
 v9:=Tryz.zeroValue9 }
open Go.RowKit in
theorem strings_IndexByte (s:ByteArray) (c:Int) (w:World) :
  Calls Tryz.prog 148 #[.string s,.int .u8 c] w fun e w'=>e=.returned (.int .i64 (Lib.indexByte s.data.toList c.toNat.toUInt8))∧w'=w:=Any.strings_IndexByte XtO s c w
def XiW:Go.Shelf.Ren:=⟨fun|14=>157|16=>175|17=>176|19=>186|20=>187|21=>188|22=>189|23=>190|24=>191|25=>194|27=>196|26=>195|28=>202|29=>206|30=>208|31=>209|32=>210|33=>211|35=>147|34=>212|36=>213|37=>214|38=>215|39=>216|40=>217|n=>n,fun|9=>9|3=>3|22=>24|24=>55|25=>251|4=>4|34=>278|5=>5|36=>207|37=>22|0=>0|39=>280|21=>21|44=>286|47=>276|50=>295|48=>293|2=>2|52=>297|55=>299|59=>302|60=>242|20=>20|61=>303|65=>304|66=>305|67=>266|n=>n,fun|0=>9|1=>10|2=>11|3=>12|4=>13|n=>n⟩
theorem XhR:Go.Proofs.LaysPu.n14 Tryz.prog XiW:={
 mixed:=by kernel_rfl
 f14:=Tryz.func157.trans (congrArg some (by kernel_rfl))
 f16:=Tryz.func175.trans (congrArg some (by kernel_rfl))
 f17:=Tryz.func176.trans (congrArg some (by kernel_rfl))
 f19:=Tryz.func186.trans (congrArg some (by kernel_rfl))
 f20:=Tryz.func187.trans (congrArg some (by kernel_rfl))
 f21:=Tryz.func188.trans (congrArg some (by kernel_rfl))
 f22:=Tryz.func189.trans (congrArg some (by kernel_rfl))
 f23:=Tryz.func190.trans (congrArg some (by kernel_rfl))
 f24:=Tryz.func191.trans (congrArg some (by kernel_rfl))
 f25:=Tryz.func194.trans (congrArg some (by kernel_rfl))
 f26:=Tryz.func195.trans (congrArg some (by kernel_rfl))
 f27:=Tryz.func196.trans (congrArg some (by kernel_rfl))
 f28:=Tryz.func202.trans (congrArg some (by kernel_rfl))
 f29:=Tryz.func206.trans (congrArg some (by kernel_rfl))
 f30:=Tryz.func208.trans (congrArg some (by kernel_rfl))
 f31:=Tryz.func209.trans (congrArg some (by kernel_rfl))
 f32:=Tryz.func210.trans (congrArg some (by kernel_rfl))
 f33:=Tryz.func211.trans (congrArg some (by kernel_rfl))
 f34:=Tryz.func212.trans (congrArg some (by kernel_rfl))
 f35:=Tryz.func147.trans (congrArg some (by kernel_rfl))
 f36:=Tryz.func213.trans (congrArg some (by kernel_rfl))
 f37:=Tryz.func214.trans (congrArg some (by kernel_rfl))
 f38:=Tryz.func215.trans (congrArg some (by kernel_rfl))
 f39:=Tryz.func216.trans (congrArg some (by kernel_rfl))
 f40:=Tryz.func217.trans (congrArg some (by kernel_rfl))
 t0:=Tryz.underlying0
 a0:=Tryz.isAgg0
 z0:=Tryz.sizeOf0
 v0:=Tryz.zeroValue0
 i0:=by kernel_rfl
 t2:=Tryz.underlying2
 a2:=Tryz.isAgg2
 z2:=Tryz.sizeOf2
 v2:=Tryz.zeroValue2
 i2:=by kernel_rfl
 t3:=Tryz.underlying3
 a3:=Tryz.isAgg3
 z3:=Tryz.sizeOf3
 v3:=Tryz.zeroValue3
 i3:=by kernel_rfl
 t4:=Tryz.underlying4
 a4:=Tryz.isAgg4
 z4:=Tryz.sizeOf4
 v4:=Tryz.zeroValue4
 i4:=by kernel_rfl
 t5:=Tryz.underlying5
 a5:=Tryz.isAgg5
 z5:=Tryz.sizeOf5
 v5:=Tryz.zeroValue5
 i5:=by kernel_rfl
 t9:=Tryz.underlying9
 a9:=Tryz.isAgg9
 z9:=Tryz.sizeOf9
 v9:=Tryz.zeroValue9
 i9:=by kernel_rfl
 t20:=Tryz.underlying20
 a20:=Tryz.isAgg20
 z20:=Tryz.sizeOf20
 v20:=Tryz.zeroValue20
 i20:=by kernel_rfl
 t21:=Tryz.underlying21
 a21:=Tryz.isAgg21
 z21:=Tryz.sizeOf21
 v21:=Tryz.zeroValue21
 i21:=by kernel_rfl
 t22:=Tryz.underlying24
 a22:=Tryz.isAgg24
 z22:=Tryz.sizeOf24
 v22:=Tryz.zeroValue24
 i22:=by kernel_rfl
 t24:=Tryz.underlying55
 a24:=Tryz.isAgg55
 z24:=Tryz.sizeOf55
 v24:=Tryz.zeroValue55
 i24:=by kernel_rfl
 t25:=Tryz.underlying251
 a25:=Tryz.isAgg251
 z25:=Tryz.sizeOf251
 v25:=Tryz.zeroValue251
 i25:=by kernel_rfl
 t34:=Tryz.underlying278
 a34:=Tryz.isAgg278
 z34:=Tryz.sizeOf278
 v34:=Tryz.zeroValue278
 i34:=by kernel_rfl
 c34:=by kernel_rfl
 t36:=Tryz.underlying207
 a36:=Tryz.isAgg207
 z36:=Tryz.sizeOf207
 v36:=Tryz.zeroValue207
 i36:=by kernel_rfl
 t37:=Tryz.underlying22
 a37:=Tryz.isAgg22
 z37:=Tryz.sizeOf22
 v37:=Tryz.zeroValue22
 i37:=by kernel_rfl
 t39:=Tryz.underlying280
 a39:=Tryz.isAgg280
 z39:=Tryz.sizeOf280
 v39:=Tryz.zeroValue280
 i39:=by kernel_rfl
 t44:=Tryz.underlying286
 a44:=Tryz.isAgg286
 z44:=Tryz.sizeOf286
 v44:=Tryz.zeroValue286
 i44:=by kernel_rfl
 t47:=Tryz.underlying276
 a47:=Tryz.isAgg276
 z47:=Tryz.sizeOf276
 v47:=Tryz.zeroValue276
 i47:=by kernel_rfl
 t48:=Tryz.underlying293
 a48:=Tryz.isAgg293
 z48:=Tryz.sizeOf293
 v48:=Tryz.zeroValue293
 i48:=by kernel_rfl
 t50:=Tryz.underlying295
 a50:=Tryz.isAgg295
 z50:=Tryz.sizeOf295
 v50:=Tryz.zeroValue295
 i50:=by kernel_rfl
 t52:=Tryz.underlying297
 a52:=Tryz.isAgg297
 z52:=Tryz.sizeOf297
 v52:=Tryz.zeroValue297
 i52:=by kernel_rfl
 t55:=Tryz.underlying299
 a55:=Tryz.isAgg299
 z55:=Tryz.sizeOf299
 v55:=Tryz.zeroValue299
 i55:=by kernel_rfl
 t59:=Tryz.underlying302
 a59:=Tryz.isAgg302
 z59:=Tryz.sizeOf302
 v59:=Tryz.zeroValue302
 i59:=by kernel_rfl
 t60:=Tryz.underlying242
 a60:=Tryz.isAgg242
 z60:=Tryz.sizeOf242
 v60:=Tryz.zeroValue242
 i60:=by kernel_rfl
 t61:=Tryz.underlying303
 a61:=Tryz.isAgg303
 z61:=Tryz.sizeOf303
 t65:=Tryz.underlying304
 a65:=Tryz.isAgg304
 z65:=Tryz.sizeOf304
 v65:=Tryz.zeroValue304
 i65:=by kernel_rfl
 t66:=Tryz.underlying305
 a66:=Tryz.isAgg305
 z66:=Tryz.sizeOf305
 v66:=Tryz.zeroValue305
 i66:=by kernel_rfl
 t67:=Tryz.underlying266
 a67:=Tryz.isAgg266
 z67:=Tryz.sizeOf266
 v67:=Tryz.zeroValue266
 i67:=by kernel_rfl
 g0:=by kernel_rfl
 m0:=by kernel_rfl
 g1:=by kernel_rfl
 m1:=by kernel_rfl
 g2:=by kernel_rfl
 m2:=by kernel_rfl
 g3:=by kernel_rfl
 m3:=by kernel_rfl
 g4:=by kernel_rfl
 m4:=by kernel_rfl }
open Go.RowKit in
theorem strconv_ParseUint_10_at64_ok (s:ByteArray) (hmax:s.size≤9223372036854775806) (u:Nat) (h:Lib.parseUintB 64 s.data.toList=.ok u) (w:World) :
  Calls Tryz.prog 157 #[.string s,.int .i64 10,.int .i64 64] w fun e w'=>e=.returned (.tuple #[.int .u64 u,.nilIface])∧(w'=w∨w'=Lib.bytesWorld w 5 s):=Any.strconv_ParseUint_10_at64_ok XhR s hmax u h w
open Go.RowKit in
theorem strconv_ParseUint_10_at64_syntax (s:ByteArray) (hlim:s.size≤281474976710656) (h:Lib.parseUintB 64 s.data.toList=.«syntax») (ev:Value) (w:World) (hv:w.cell? ⟨9,0,none⟩=some ev) (hev:ev=.nilIface∨∃te pe,ev=.iface te pe) :
  Calls Tryz.prog 157 #[.string s,.int .i64 10,.int .i64 64] w fun e w'=>∃N,e=.returned (.tuple #[.int .u64 0,.iface 280 (.pointer (some ⟨N,0,none⟩))])∧w.heap.size≤N∧w'.heap[N]?=some (.cells #[.string ⟨#[80,97,114,115,101,85,105,110,116]⟩,.string s,ev] 286 (0,0))∧Below w.heap.size w w':=Any.strconv_ParseUint_10_at64_syntax XhR s hlim h ev w hv hev
open Go.RowKit in
theorem strconv_ParseUint_10_at64_range (s:ByteArray) (hlim:s.size≤281474976710656) (h:Lib.parseUintB 64 s.data.toList=.range) (ev:Value) (w:World) (hv:w.cell? ⟨10,0,none⟩=some ev) (hev:ev=.nilIface∨∃te pe,ev=.iface te pe) :
  Calls Tryz.prog 157 #[.string s,.int .i64 10,.int .i64 64] w fun e w'=>∃N,e=.returned (.tuple #[.int .u64 18446744073709551615,.iface 280 (.pointer (some ⟨N,0,none⟩))])∧w.heap.size≤N∧w'.heap[N]?=some (.cells #[.string ⟨#[80,97,114,115,101,85,105,110,116]⟩,.string s,ev] 286 (0,0))∧Below w.heap.size w w':=Any.strconv_ParseUint_10_at64_range XhR s hlim h ev w hv hev
def Xj1:Go.Shelf.Ren:=⟨fun|110=>106|109=>119|n=>n,fun|31=>26|9=>9|4=>4|3=>3|0=>0|n=>n,fun|n=>n⟩
theorem Xoo:Go.Proofs.Lays.n110 Tryz.prog Xj1:={
 mixed:=by kernel_rfl
 f109:=Tryz.func119.trans (congrArg some (by kernel_rfl))
 f110:=Tryz.func106.trans (congrArg some (by kernel_rfl))
 t0:=Tryz.underlying0
 a0:=Tryz.isAgg0
 z0:=Tryz.sizeOf0
 v0:=Tryz.zeroValue0
 t3:=Tryz.underlying3
 a3:=Tryz.isAgg3
 z3:=Tryz.sizeOf3
 v3:=Tryz.zeroValue3
 t4:=Tryz.underlying4
 a4:=Tryz.isAgg4
 z4:=Tryz.sizeOf4
 v4:=Tryz.zeroValue4
 t9:=Tryz.underlying9
 a9:=Tryz.isAgg9
 z9:=Tryz.sizeOf9
 v9:=Tryz.zeroValue9
 t31:=Tryz.underlying26
 a31:=Tryz.isAgg26
 z31:=Tryz.sizeOf26
 v31:=Tryz.zeroValue26 }
open Go.Lib in
theorem slices_Contains_string (b off n c:Nat) (zs:List ByteArray) (x:ByteArray) (w:World) (hz:n≤zs.length) (hbig:n≤9223372036854775807) (hc:∀j,j < zs.length→w.cell? ⟨b,off+j,none⟩=some (.string (zs.getD j ByteArray.empty))) :
  Calls Tryz.prog 106 #[.slice (some ⟨b,off,none⟩) n c,.string x] w fun e w'=>e=.returned (.bool (Lib.containsS (zs.take n) x))∧w'=w:=Any.slices_Contains_string Xoo b off n c zs x w hz hbig hc
open Go.Lib in
theorem slices_Contains_string_empty (a:Option Addr) (c:Nat) (x:ByteArray) (w:World) :
  Calls Tryz.prog 106 #[.slice a 0 c,.string x] w fun e w'=>e=.returned (.bool false)∧w'=w:=Any.slices_Contains_string_empty Xoo a c x w
end Go.Proofs.YtdlblokjfoggpaaGreatDoor
--%old
namespace Go.Proofs.YtdlblokjfoggpaaGreatDoor
open Go.RowKit
structure XmX (ts:List Tok):Prop where
 len:ts.length≤1000000
 vt:VT ts
 num:∀t∈ts,t.kind=2→1≤t.text.length∧t.text.length≤18∧XeB t.text
 short:Xu5 ts
def Xv2 (acc:Nat) (l:List UInt8):Nat:=l.foldl (fun n c=>n*10+(c.toNat - 48)) acc
theorem XoL (l:List UInt8) (hd:XeB l):∀acc,(acc+1)*10 ^ l.length≤1000000000000000000→Lib.parseUintM (2 ^ 64 - 1) acc l=.ok (Xv2 acc l):=by
 induction l with
 | nil=>intro acc _;rfl
 | cons c r ih=>
   intro acc h
   have hc:=hd c (List.mem_cons_self ..)
   have h10:1≤10 ^ r.length:=Nat.pow_pos (by decide)
   rw [Xyr,Nat.pow_succ] at h
   have h2:(acc+1)*10≤1000000000000000000:=by
    calc (acc+1)*10=(acc+1)*(1*10):=by omega
     _≤(acc+1)*(10 ^ r.length*10):=Nat.mul_le_mul_left _ (Nat.mul_le_mul_right _ h10)
     _≤_:=h
   have h3:(acc*10+(c.toNat - 48)+1)*10 ^ r.length≤1000000000000000000:=by
    calc (acc*10+(c.toNat - 48)+1)*10 ^ r.length≤((acc+1)*10)*10 ^ r.length:=Nat.mul_le_mul_right _ (by omega)
     _=(acc+1)*(10 ^ r.length*10):=by rw [Nat.mul_assoc,Nat.mul_comm 10]
     _≤_:=h
   rw [Lib.parseUintM,if_pos hc,if_neg (by omega),if_neg (by omega),ih (fun x hx=>hd x (List.mem_cons_of_mem _ hx)) _ h3]
   rfl
theorem XoE (l:List UInt8) (hd:XeB l):∀acc:Nat,((Xv2 acc l:Nat):Int)=l.foldl (fun n c=>10*n+((c.toNat:Int) - 48)) (acc:Int):=by
 induction l with
 | nil=>intro acc;rfl
 | cons c r ih=>
   intro acc
   have hc:=hd c (List.mem_cons_self ..)
   have:=ih (fun x hx=>hd x (List.mem_cons_of_mem _ hx)) (acc*10+(c.toNat - 48))
   simp only [Xv2,Xyp] at this ⊢
   rw [this]
   congr 1
   omega
theorem XoN (l:List UInt8) (hd:XeB l) (h1:1≤l.length) (h18:l.length≤18):Lib.parseUintB 64 l=.ok (Xv2 0 l):=by
 unfold Lib.parseUintB
 rw [if_neg (by intro h;rw [h] at h1;simp at h1)]
 refine XoL l hd 0 ?_
 have:=Nat.pow_le_pow_right (n:=10) (by decide) h18
 simpa using this
theorem Xkc (s:List UInt8) (hd:XeB s) (h1:1≤s.length) (h18:s.length≤18):Xay Tryz.prog 157 [] [.x (.string (bs s)),.x (.int .i64 10),.x (.int .i64 64)] (fun r H'=>r=.x (.tuple #[.int .u64 (Xm0 s),.nilIface])∧H'=[]):=by
 have e:Xm0 s=((Xv2 0 s:Nat):Int):=(XoE s hd 0).symm
 rw [e]
 refine Xfb (args:=[.string (bs s),.int .i64 10,.int .i64 64]) (fun w=>(strconv_ParseUint_10_at64_ok (bs s) (by simp [bs,ByteArray.size];omega) _ (by simpa [bs] using XoN s hd h1 h18) w).mono ?_) []
 rintro e w' ⟨rfl,rfl|rfl⟩
 ·exact ⟨rfl,Below.refl _ _⟩
 ·exact ⟨rfl,by rw [Xeh];exact Ext.ext _ _ _⟩
theorem XpE (t:Tok) (hd:XeB t.text) (h1:1≤t.text.length) (h18:t.text.length≤18):Xay Tryz.prog 127 [] [t.av] (fun r H'=>r=.x (.int .u64 (Xm0 t.text))∧H'=[]):=by
 have hP:=Xkc t.text hd h1 h18
 unfold Tok.av
 have hd':=Lib.hid hd
 clear hd
 refine Xcx Tryz.func127 rfl ?_
 simp only [Tryz.ntmps127,Xyr,Xyu,Xyv,Xyw,Xyz,Xyy,Nat.reduceAdd,Nat.reduceSub]
 (repeat' (first|with_reducible (first|refine XaH ?_|refine Xal ?_|refine Xbj ?_|refine Xa4 ?_|refine Xat ?_|refine Xac ?_)|(refine XaR _ rfl (fun h=>?_) (fun h=>?_)<;>first|(exact absurd h (by decide))|((try (simp only [whn] at h));skip))|((apply Xar rfl);(case h=>((try (intro (hp:(_:Bool)=true);((try simp only [Bool.and_eq_true,Bool.not_eq_true',Bool.not_eq_true] at hp);(try simp only [hp,wte]);(try simp only [whn] at hp))));(first|(apply Xag 0 rfl;(first|exact XaW _ rfl|exact Xbo _ rfl))|(apply Xag 5 rfl;(exact Xaq _ _ _ _ _ _ rfl rfl Xbc.out))|(apply Xag 6 rfl;(exact XaK _ _ _ _ _ _ _ _ rfl rfl Xbt.out XaI.out (by first|exact Xyn rfl|fail) (by first|exact Xyn rfl|fail)))|(apply Xag 11 rfl;(exact Xby 157 Tryz.f157 _ _ rfl rfl Tryz.func157 (by decide) rfl (VwL.refl _ _) (hP)))|(apply XbI;(case hs=>(intro _ _ h;cases h));(case hx=>rfl);(case hrun=>(intro w;simp [wtb,AV.val,go_sem];(try go_bits);rfl))))));(case hT=>((try simp only [wtn,Xys,Xyp,Xyq,Xyt,Xyx,Nat.reduceAdd,Nat.reduceMul,Nat.reduceSub,↓reduceIte,Nat.reduceEqDiff]);rfl)))|(refine Xab rfl ?_;((refine XaQ 15 rfl ?_;(refine Xfc _ _ rfl (by first|rfl|fail) (fun b=>?_)));apply Xap;(case hT=>((try simp only [wtn,Xys,Xyp,Xyq,Xyt,Xyx,Nat.reduceAdd,Nat.reduceMul,Nat.reduceSub,↓reduceIte,Nat.reduceEqDiff]);rfl));(case hH=>((try simp only [wtn,Xys,Xyp,Xyq,Xyt,Xyx,Nat.reduceAdd,Nat.reduceMul,Nat.reduceSub,↓reduceIte,Nat.reduceEqDiff]);rfl))))|fail))
 refine Xaa _ _ (XaF rfl (RV.tmp _) (Xaj.mk' [_] [] (Xyo _) (Xak.refl _ _) (by first|exact VwL.refl _ _|fail))) ?_
 exact ⟨rfl,rfl⟩
theorem XiR (ts:List Tok) (k:Nat) (hk:k < ts.length) (hS:ts[k].text.length≤8192):XeA ts k=(Xdg ts k 2).map fun t=>Xm0 t.text:=by
 unfold XeA
 rw [XeO]
 cases h:Xdg ts k 2 with
 | error f=>rfl
 | ok t=>
   have e:t=ts[k]:=by
    unfold Xdg at h
    rw [XaN hk] at h
    split at h
    ·cases h;rfl
    ·cases h
   simp only [bind,Except.bind]
   rw [if_neg (by rw [e];omega)]
theorem XeW (pb:Nat) (ts:List Tok) (k:Nat) (hk:k < ts.length) (hT:XmX ts):XcH Tryz.prog 126 [.box pb (tc ts k)] [.x (.pointer (some ⟨pb,0,none⟩))] (fun r H'=>∃n,r=.x (.int .u64 n)∧H'=[.box pb (tc ts (k+1))]∧XeA ts k=.ok n∧ts[k].kind=2) (fun v _=>∃f,XeA ts k=.error f∧v=fv f):=by
 have hTk:=XfC pb ts k 2 hk hT.len
 rw [XiR ts k hk (hT.short ts[k] (List.getElem_mem hk))]
 have hV:ts[k].kind=2→Xay Tryz.prog 127 [] [ts[k].av] (fun r H'=>r=.x (.int .u64 (Xm0 ts[k].text))∧H'=[]):=fun h=>by
  obtain ⟨h1,h2,h3⟩:=hT.num ts[k] (List.getElem_mem hk) h
  exact XpE _ h3 h1 h2
 unfold Tok.av at hTk hV
 have hV':=Lib.hid hV
 clear hV
 refine XbE Tryz.func126 rfl ?_
 simp only [Tryz.ntmps126,Xyr,Xyu,Xyv,Xyw,Xyz,Xyy,Nat.reduceAdd,Nat.reduceSub]
 (repeat' (first|with_reducible (first|refine XaH ?_|refine Xal ?_|refine Xbj ?_|refine Xat ?_|refine Xac ?_|refine Xae ?_)|((apply Xar rfl);(case h=>((try (intro (hp:(_:Bool)=true);((try simp only [Bool.and_eq_true,Bool.not_eq_true',Bool.not_eq_true] at hp);(try simp only [hp,wte]);(try simp only [whn] at hp))));(first|(apply Xag 0 rfl;(first|exact XaW _ rfl|exact Xbo _ rfl))|(apply Xag 11 rfl;(exact Xby 127 Tryz.f127 _ _ rfl rfl Tryz.func127 (by decide) rfl (VwL.refl _ _) (hV'.out hk1))))));(case hT=>((try simp (disch:=omega) only [wtn,tc,Xys,Xyp,Xyq,Xyt,Xyx,Nat.reduceAdd,Nat.reduceMul,Nat.reduceSub,↓reduceIte,Nat.reduceEqDiff]);rfl)))|(refine Xav rfl ?_;refine Xas 100 Tryz.f100 [_] _ _ _ _ rfl rfl Tryz.func100 (by decide) rfl (Xyo _) (VwL.refl _ _) (hTk) ?_ ?_;(case' refine_1=>(rintro _ _ ⟨rfl,rfl,hp,hk1⟩;(apply Xap;(case hT=>((try simp (disch:=omega) only [wtn,tc,Xys,Xyp,Xyq,Xyt,Xyx,Nat.reduceAdd,Nat.reduceMul,Nat.reduceSub,↓reduceIte,Nat.reduceEqDiff]);rfl));(case hH=>((try simp (disch:=omega) only [wtn,tc,Xys,Xyp,Xyq,Xyt,Xyx,Nat.reduceAdd,Nat.reduceMul,Nat.reduceSub,↓reduceIte,Nat.reduceEqDiff]);rfl)))));(case' refine_2=>(rintro _ _ ⟨f,hp,rfl⟩)))|fail))
 ·(repeat (with_reducible first|refine Xae ?_|fail));refine Xan _ _ (Xaj.mk' [] _ (Xyo _) (Xak.refl _ _) VwL.nil) ?_
  exact ⟨f,by rw [hp];rfl,rfl⟩
 ·exact Xc5 _ _ (XaF rfl (RV.tmp _) (Xaj.mk' [] [.box pb (tc ts (k+1))] (Xyo _) (Xak.refl _ _) (VwL.refl _ _))) ⟨_,rfl,rfl,by rw [hp];rfl,hk1⟩
end Go.Proofs.YtdlblokjfoggpaaGreatDoor

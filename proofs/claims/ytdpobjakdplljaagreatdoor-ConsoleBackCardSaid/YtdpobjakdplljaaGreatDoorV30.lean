import Derived.Test.YtdpobjakdplljaaGreatDoorV28
import Derived.Test.YtdpobjakdplljaaGreatDoorV21
import Derived.Test.YtdpobjakdplljaaGreatDoorV29
import Derived.Test.YtdpobjakdplljaaGreatDoorV16
import Derived.Test.YtdpobjakdplljaaGreatDoorV12
import Derived.Shelf.Strings.Builder1
import Derived.Shelf.Small.Strs
import Derived.Shelf.Pu.ParseUintPublic10
import Derived.Shelf.Slices.Turned
import Derived.Shelf.Slices.Equal
/- The mill: a text with changed bytes; that it ends, and how long it is. -/
set_option linter.unusedSimpArgs false
set_option linter.unusedVariables false
set_option maxRecDepth 100000
set_option maxHeartbeats 8000000
namespace Go.Proofs.YtdpobjakdplljaaGreatDoor
open Go.RowKit
theorem Src.bytesOf {ρ:Operand→AV} {H:List Hp} {x:Operand} (q:Nat) {b n cap:Nat} (full:List UInt8) (hx:ρ x=.x (.slice (some ⟨b,0,none⟩) n cap)) (hq:H[q]?=some (.box b (u8a full))) (h1:n≤cap) (h2:cap≤maxLen) (h3:n≤full.length):Src ρ H x (full.take n).length (u8a (full.take n)):=by
 rw [List.length_take,Nat.min_eq_left h3]
 exact Src.part q hx hq h1 h2 (by simp [u8a,u8s])
attribute [local simp] XeF
theorem XuC (l:List Int) (H:List Hp):Xa8 Tryz.prog 19 H [.sq l.length (ia l)] (fun r H'=>∃b,r=.x (.pointer (some ⟨b,0,none⟩))∧H'=.box b [.sq l.length (ia l),.x (.int .i64 0)] :: H):=by
 refine XaE Tryz.func19 rfl ?_
 simp only [Tryz.ntmps19,Xu8,Xvb,Xvc,Xvd,Xvg,Xvf,Nat.reduceAdd,Nat.reduceSub]
 (repeat' (first|with_reducible (first|refine Xai ?_|refine Xac ?_|refine Xas ?_|refine Xae ?_|refine Xaa ?_)|((apply Xad rfl);(case h=>((try (intro (hp:(_:Bool)=true);((try simp only [Bool.and_eq_true,Bool.not_eq_true',Bool.not_eq_true] at hp);(try simp only [hp,wte]);(try simp only [whn] at hp))));(first|(apply Xab 0 rfl;(first|exact Xar _ rfl|exact Xap _ rfl))|(apply Xab 10 rfl;(exact XaY _ _ _ _ _ rfl HPl.out (by first|rfl|fail) rfl)))));(case hT=>((try simp only [wtn,Xu9,Xu6,Xu7,Xva,Xve,Nat.reduceAdd,Nat.reduceMul,Nat.reduceSub,↓reduceIte,Nat.reduceEqDiff]);rfl)))|(refine Xah rfl ?_;((refine Xaq 15 rfl ?_;(refine Xbx _ _ rfl (by first|rfl|fail) (fun b=>?_)));apply Xag;(case hT=>((try simp only [wtn,Xu9,Xu6,Xu7,Xva,Xve,Nat.reduceAdd,Nat.reduceMul,Nat.reduceSub,↓reduceIte,Nat.reduceEqDiff]);rfl));(case hH=>((try simp only [wtn,Xu9,Xu6,Xu7,Xva,Xve,Nat.reduceAdd,Nat.reduceMul,Nat.reduceSub,↓reduceIte,Nat.reduceEqDiff]);rfl))))|fail))
 refine Xaf _ _ (Xbi rfl (RV.tmp _) (XaH.mk' [] _ (Xu5 _) (XaB.refl _ _) (VwL.refl _ _))) ?_
 exact ⟨_,rfl,rfl⟩
theorem SK.fld {m k:Nat} {e:EF} (h:SK m k e):e.job.length≤1∧(-1≤e.code∧e.code≤1)∧e.data.length≤m∧(0≤e.time∧e.time≤18446744073709551615)∧(0≤e.client∧e.client≤3)∧(-5≤e.num∧e.num≤294):=by
 refine ⟨?_,?_,?_,?_,?_,?_⟩
 ·have:=h.job;split at this
  ·exact Nat.le_of_eq this.2
  ·rw [this];simp
 ·have:=h.code;split at this<;>omega
 ·have:=h.data;split at this
  ·exact this
  ·rw [this];simp
 ·have:=h.time;split at this<;>omega
 ·have:=h.client;split at this<;>omega
 ·have:=h.num;split at this<;>omega
theorem SE.fld {m:Nat} {e:EF} (h:SE m e):e.job.length≤1∧(-1≤e.code∧e.code≤1)∧e.data.length≤m∧(0≤e.time∧e.time≤18446744073709551615)∧(0≤e.client∧e.client≤3)∧(-5≤e.num∧e.num≤294):=by
 obtain ⟨k,-,h⟩:=h
 exact h.fld
theorem Xos {n:Int} (h1 : -999≤n) (h2:n≤999):0≤m0 n∧m0 n≤999:=by unfold m0;split<;>omega
theorem Xli (n:Int):(if 0 < n then n else 0)=max 0 n:=by omega
structure MEs (l:List EF):Prop where
 len:l.length≤28
 good:∀e∈l,Xc3 e∧(Xcr e).length≤8192
 ok:∀e∈l,EOk e
 text:(Xbr l).length≤65536
theorem SE.ok {e:EF} (h:SE 1111 e):EOk (clE e):=by
 obtain ⟨h1,h2,h3,h4,h5,h6⟩:=h.fld
 have q1:=Xos (n:=e.code) (by omega) (by omega)
 have q2:=Xos (n:=e.client) (by omega) (by omega)
 have q3:=Xos (n:=e.num) (by omega) (by omega)
 refine ⟨by simp only [clE];omega,?_,by simp only [clE];omega,by simp only [clE];split<;>omega,by simp only [clE];omega,by simp only [clE];omega⟩
 simp only [clE]
 split
 ·simp
 ·omega
theorem MEs.of {out:List EF} (h1:out.length≤28) (h2:∀e∈out,SE 1111 e) (h3:sw out≤64400):MEs (out.map clE) where
 len:=by simpa using h1
 good:=fun e he=>by
  obtain ⟨d,hd,rfl⟩:=List.mem_map.1 he
  have q1:=(h2 d hd).good
  have q2:=(h2 d hd).fld.2.2.1
  exact ⟨q1.1,by omega⟩
 ok:=fun e he=>by
  obtain ⟨d,hd,rfl⟩:=List.mem_map.1 he
  exact (h2 d hd).ok
 text:=by
  have:=Xpi out fun e he=>⟨1111,h2 e he⟩
  omega
theorem XpT (l:List Int) (hd:DK l):Xa8 Tryz.prog 13 [] [.sq l.length (ia l)] (fun r H'=>∃out:List EF,r=.sq (out.map clE).length (va (out.map clE))∧H'=[]∧out.length≤28∧(∀e∈out,SE 1111 e)∧sw out≤64400):=by
 refine XaE Tryz.func13 rfl ?_
 simp only [Tryz.ntmps13,Xu8,Xvb,Xvc,Xvd,Xvg,Xvf,Nat.reduceAdd,Nat.reduceSub]
 refine Xbw 41 8 ?_
 (repeat' (first|with_reducible (first|refine Xai ?_|refine Xac ?_|refine Xat ?_|refine Xae ?_|refine Xaa ?_)|((apply Xad rfl);(case h=>((try (intro (hp:(_:Bool)=true);((try simp only [Bool.and_eq_true,Bool.not_eq_true',Bool.not_eq_true] at hp);(try simp only [hp,wte]);(try simp only [whn] at hp))));(first|(apply Xab 0 rfl;(first|exact Xar _ rfl|exact Xap _ rfl))|(apply Xab 3 rfl;(exact Xa2 _ _ _ _ _ _ HEl.out rfl rfl)))));(case hT=>((try simp only [wtn,Xu9,Xu6,Xu7,Xva,Xve,Nat.reduceAdd,Nat.reduceMul,Nat.reduceSub,↓reduceIte,Nat.reduceEqDiff]);rfl)))|(refine Xah rfl ?_;((refine Xaq 11 rfl ?_;(first|(refine Xak 19 Tryz.f19 ([]) _ _ _ rfl rfl Tryz.func19 (by decide) rfl (Xu5 _) (VwL.refl _ _) (XuC l []) ?_;rintro _ _ ⟨bd,rfl,rfl⟩)|(refine Xak 30 Tryz.f30 [_] _ _ _ rfl rfl Tryz.func30 (by decide) rfl (Xu5 _) (VwL.refl _ _) (XsE _ l 0 14 hd (Nat.zero_le _) (by omega)) ?_;rintro _ _ ⟨src,k1,rfl,rfl,hk1,hs1,hs2,hs3⟩)));apply Xag;(case hT=>((try simp only [wtn,Xu9,Xu6,Xu7,Xva,Xve,Nat.reduceAdd,Nat.reduceMul,Nat.reduceSub,↓reduceIte,Nat.reduceEqDiff]);rfl));(case hH=>((try simp only [wtn,Xu9,Xu6,Xu7,Xva,Xve,Nat.reduceAdd,Nat.reduceMul,Nat.reduceSub,↓reduceIte,Nat.reduceEqDiff]);rfl))))|fail))
 have hme:=Lib.hid (And.intro hs1 (And.intro hs2 hs3))
 clear hs2 hs3
 apply XaW (S:=Nat × Option Addr × Nat) (fun q=>frm 41 [(3,.x (.slice q.2.1 q.1 q.2.2)),(8,.sq src.length (va src)),(9,.x (.int .i64 src.length)),(10,.x (.int .i64 q.1))]) (fun q=>[.row q.2.1 q.1 q.2.2 41 8 (va ((src.take q.1).map clE))]) (fun q=>q.1≤src.length) (fun q=>src.length - q.1) (0,none,0)
 case h0=>exact XaH.mk' [.box bd _] [.row _ _ _ _ _ _] (by (repeat' (first|exact Xu5 _|fail))) (XaB.refl _ _) (by (repeat' (first|exact VwL.nil|(refine VwL.cons ?_ ?_)|exact Vw.refl _|exact Vw.top _|fail)))
 case hi=>exact Nat.zero_le _
 rintro ⟨i,ad0,cap0⟩ hi
 simp only at hi
 simp only [frm,Xvc,Xvd,Xu6,Xu7,Xvj,Xvk]
 by_cases hlt:i < src.length
 ·have hdr:=Xeg src i hlt
  have hst:(src.take (i+1)).map clE=(src.take i).map clE++[clE src[i]]:=by rw [XaX src i hlt,List.map_append];rfl
  have hst':=Lib.hid hst
  clear hst
  have hln:((src.take i).map clE).length=i:=by simp;omega
  (repeat' (first|with_reducible (first|refine Xai ?_|refine Xac ?_|refine Xat ?_|refine Xaw ?_|refine Xae ?_|refine Xaa ?_|refine Xaj ?_)|(refine Xal _ rfl (fun h=>?_) (fun h=>?_)<;>((try (simp only [whn] at h));first|(exfalso;omega;done)|skip))|((apply Xad rfl);(case h=>((try (intro (hp:(_:Bool)=true);((try simp only [Bool.and_eq_true,Bool.not_eq_true',Bool.not_eq_true] at hp);(try simp only [hp,wte]);(try simp only [whn] at hp))));(first|(apply Xab 0 rfl;(first|exact Xar _ rfl|exact Xap _ rfl))|(apply Xab 5 rfl;(exact Xam _ _ _ _ _ _ rfl rfl Xa3.out))|(apply Xab 6 rfl;(first|exact XaG _ _ _ _ _ rfl rfl XaM.out (by first|exact Xu4 rfl|fail) (by first|exact Xu4 rfl|fail)|exact Xaz _ _ _ _ _ _ _ _ rfl rfl XaU.out XaM.out (by first|exact Xu4 rfl|fail) (by first|exact Xu4 rfl|fail)))|(apply Xab 7 rfl;(exact XaI _ _ _ _ _ _ _ _ _ _ rfl rfl rfl HEl.out rfl (by first|omega|fail) (by simp;first|omega|fail)))|(apply XaD;(case hs=>(intro _ _ h;cases h));(case hx=>rfl);(case hrun=>(intro w;simp [wtb,AV.val,go_sem];(try go_bits);rfl))))));(case hT=>((try simp (disch:=omega) only [wtn,hdr,Xu9,Xu6,Xu7,Xva,Xve,Nat.reduceAdd,Nat.reduceMul,Nat.reduceSub,↓reduceIte,Nat.reduceEqDiff]);rfl)))|(refine Xah rfl ?_;((first|(refine Xaq 13 rfl ?_;(refine XaP _ _ _ _ _ _ _ _ _ _ _ _ _ _ rfl rfl Xb9.out (Src.row _ rfl Xb9.out) XaZ.out (by first|rfl|fail) (Xei _ _ (by omega) (by decide)) (fun ad cap=>?_)))|(refine Xaq 14 rfl ?_;(refine XaJ _ _ rfl Xbl.out rfl (fun b=>?_)))|(refine Xaq 16 rfl ?_;(refine Xau _ _ _ _ _ _ _ rfl rfl XaU.out XaS.out (by first|rfl|fail) (by first|exact Xu4 rfl|fail) ?_))|(refine Xaq 17 rfl ?_;(refine XaF _ _ _ _ _ _ _ _ rfl XaZ.out (by first|rfl|fail) rfl (by decide) rfl (fun b=>?_))));apply Xag;(case hT=>((try simp (disch:=omega) only [wtn,hdr,Xu9,Xu6,Xu7,Xva,Xve,Nat.reduceAdd,Nat.reduceMul,Nat.reduceSub,↓reduceIte,Nat.reduceEqDiff]);rfl));(case hH=>((try simp (disch:=omega) only [wtn,hdr,Xu9,Xu6,Xu7,Xva,Xve,Nat.reduceAdd,Nat.reduceMul,Nat.reduceSub,↓reduceIte,Nat.reduceEqDiff]);rfl))))|fail))
  ·have hcl:clE src[i]=⟨src[i].kind,src[i].job,src[i].ok,m0 src[i].code,[],7,m0 src[i].client,m0 src[i].num⟩:=by unfold clE;rw [if_pos (by assumption),if_pos (by assumption)]
   refine ⟨(i+1,ad,cap),by simp only;omega,by simp only;omega,?_⟩
   rw [hst'.out,Xij,hcl]
   simp only [EF.cells,m0]
   try simp only [Xli]
   exact XaH.mk' [_,_] [.row ad _ cap _ _ _] (Xu5 _) (XaB.cons (VwH.row _ _ _ _ _ (VwL.appE (VwL.refl _ _) (by (repeat' (first|exact VwL.nil|(refine VwL.cons ?_ ?_)|exact Vw.refl _|exact Vw.nil|fail))))) XaB.nil) (by (repeat' (first|exact VwL.nil|(refine VwL.cons ?_ ?_)|exact Vw.refl _|exact Vw.top _|fail)))
  ·have hcl:clE src[i]=⟨src[i].kind,src[i].job,src[i].ok,m0 src[i].code,src[i].data,7,m0 src[i].client,m0 src[i].num⟩:=by unfold clE;rw [if_neg (by assumption),if_pos (by assumption)]
   refine ⟨(i+1,ad,cap),by simp only;omega,by simp only;omega,?_⟩
   rw [hst'.out,Xij,hcl]
   simp only [EF.cells,m0]
   try simp only [Xli]
   exact XaH.mk' [_,_] [.row ad _ cap _ _ _] (Xu5 _) (XaB.cons (VwH.row _ _ _ _ _ (VwL.appE (VwL.refl _ _) (by (repeat' (first|exact VwL.nil|(refine VwL.cons ?_ ?_)|exact Vw.refl _|fail))))) XaB.nil) (by (repeat' (first|exact VwL.nil|(refine VwL.cons ?_ ?_)|exact Vw.refl _|exact Vw.top _|fail)))
  ·have hcl:clE src[i]=⟨src[i].kind,src[i].job,src[i].ok,m0 src[i].code,[],src[i].time,m0 src[i].client,m0 src[i].num⟩:=by unfold clE;rw [if_pos (by assumption),if_neg (by assumption)]
   refine ⟨(i+1,ad,cap),by simp only;omega,by simp only;omega,?_⟩
   rw [hst'.out,Xij,hcl]
   simp only [EF.cells,m0]
   try simp only [Xli]
   exact XaH.mk' [_,_] [.row ad _ cap _ _ _] (Xu5 _) (XaB.cons (VwH.row _ _ _ _ _ (VwL.appE (VwL.refl _ _) (by (repeat' (first|exact VwL.nil|(refine VwL.cons ?_ ?_)|exact Vw.refl _|exact Vw.nil|fail))))) XaB.nil) (by (repeat' (first|exact VwL.nil|(refine VwL.cons ?_ ?_)|exact Vw.refl _|exact Vw.top _|fail)))
  ·have hcl:clE src[i]=⟨src[i].kind,src[i].job,src[i].ok,m0 src[i].code,src[i].data,src[i].time,m0 src[i].client,m0 src[i].num⟩:=by unfold clE;rw [if_neg (by assumption),if_neg (by assumption)]
   refine ⟨(i+1,ad,cap),by simp only;omega,by simp only;omega,?_⟩
   rw [hst'.out,Xij,hcl]
   simp only [EF.cells,m0]
   try simp only [Xli]
   exact XaH.mk' [_,_] [.row ad _ cap _ _ _] (Xu5 _) (XaB.cons (VwH.row _ _ _ _ _ (VwL.appE (VwL.refl _ _) (by (repeat' (first|exact VwL.nil|(refine VwL.cons ?_ ?_)|exact Vw.refl _|fail))))) XaB.nil) (by (repeat' (first|exact VwL.nil|(refine VwL.cons ?_ ?_)|exact Vw.refl _|exact Vw.top _|fail)))
 ·obtain rfl:i=src.length:=by omega
  (repeat' (first|with_reducible (first|refine Xai ?_|refine Xac ?_|refine Xas ?_|refine Xa4 ?_|refine Xae ?_|refine Xaa ?_|refine XaN ?_|refine XaK ?_)|(refine Xal _ rfl (fun h=>?_) (fun h=>?_)<;>first|(exact absurd h (by decide))|((try (simp only [whn] at h));skip))|((apply Xad rfl);(case h=>((try (intro (hp:(_:Bool)=true);((try simp only [Bool.and_eq_true,Bool.not_eq_true',Bool.not_eq_true] at hp);(try simp only [hp,wte]);(try simp only [whn] at hp))));(first|(apply Xab 0 rfl;(first|exact Xar _ rfl|exact Xap _ rfl))|(apply XaD;(case hs=>(intro _ _ h;cases h));(case hx=>rfl);(case hrun=>(intro w;simp [wtb,AV.val,go_sem];(try go_bits);rfl))))));(case hT=>((try simp only [wtn,Xu9,Xu6,Xu7,Xva,Xve,Nat.reduceAdd,Nat.reduceMul,Nat.reduceSub,↓reduceIte,Nat.reduceEqDiff]);rfl)))|fail))
  rw [List.take_length]
  refine Xaf _ _ (Xbi rfl (RV.tmp _) (XaH.mk' [.row _ _ _ _ _ _] [] (Xu5 _) XaB.nil (VwL.cons (Vw.row (List.Mem.head _) (VwL.refl _ _)) VwL.nil))) ⟨src,by simp,rfl,hme.out⟩
open Go.Shelf
def Xgw:Go.Shelf.Ren:=⟨fun|169=>37|n=>n,fun|70=>72|9=>9|0=>0|72=>74|37=>39|127=>133|3=>3|5=>5|n=>n,fun|n=>n⟩
theorem XhZ:Go.Proofs.Lays.n169 Tryz.prog Xgw:={
 mixed:=by kernel_rfl
 f169:=Tryz.func37.trans (congrArg some (by kernel_rfl))
 t0:=Tryz.underlying0
 a0:=Tryz.isAgg0
 z0:=Tryz.sizeOf0
 v0:=Tryz.zeroValue0
 t3:=Tryz.underlying3
 a3:=Tryz.isAgg3
 z3:=Tryz.sizeOf3
 v3:=Tryz.zeroValue3
 t9:=Tryz.underlying9
 a9:=Tryz.isAgg9
 z9:=Tryz.sizeOf9
 v9:=Tryz.zeroValue9
 t37:=Tryz.underlying39
 a37:=Tryz.isAgg39
 z37:=Tryz.sizeOf39
 v37:=Tryz.zeroValue39
 t70:=Tryz.underlying72
 a70:=Tryz.isAgg72
 z70:=Tryz.sizeOf72
 v70:=Tryz.zeroValue72
 t72:=Tryz.underlying74
 a72:=Tryz.isAgg74
 z72:=Tryz.sizeOf74
 v72:=Tryz.zeroValue74
 t127:=Tryz.underlying133
 a127:=Tryz.isAgg133
 z127:=Tryz.sizeOf133
 v127:=Tryz.zeroValue133 }
theorem Xa5:Builder.Extra Tryz.prog Xgw:={
 sizeBuilder:=by kernel_rfl
 liesBuilder:=by kernel_rfl
 t5:=Tryz.underlying5
 a5:=Tryz.isAgg5
 z5:=Tryz.sizeOf5
 v5:=Tryz.zeroValue5
 infoByte:=by kernel_rfl
 cellsByte:=by kernel_rfl
 sizeByte:=by kernel_rfl
 neB5:=by decide }
open Go.RowKit in
theorem Builder_String (B b:Nat) (l:List UInt8) (w:World) (h:Lib.IsBuilder 74 5 B b (Lib.byteCells l) w) (h0:l≠[]) :
  Calls Tryz.prog 37 #[.pointer (some ⟨b,0,none⟩)] w fun e w'=>e=.returned (.string ⟨l.toArray⟩)∧Below B w w':=Any.Builder_String XhZ Xa5 B b l w h h0
open Go.RowKit in
theorem Builder_String_empty (B b:Nat) (w:World) (h:Lib.IsBuilder 74 5 B b [] w) (hBw:B≤w.heap.size) :
  Calls Tryz.prog 37 #[.pointer (some ⟨b,0,none⟩)] w fun e w'=>e=.returned (.string ⟨#[]⟩)∧Below B w w':=Any.Builder_String_empty XhZ Xa5 B b w h hBw
open Go.RowKit in
theorem Builder_String_any (B b:Nat) (l:List UInt8) (w:World) (h:Lib.IsBuilder 74 5 B b (Lib.byteCells l) w) (hBw:B≤w.heap.size) :
  Calls Tryz.prog 37 #[.pointer (some ⟨b,0,none⟩)] w fun e w'=>e=.returned (.string ⟨l.toArray⟩)∧Below B w w':=Any.Builder_String_any XhZ Xa5 B b l w h hBw
def Xkp:Go.Shelf.Ren:=⟨fun|137=>120|217=>153|266=>181|n=>n,fun|9=>9|5=>5|3=>3|n=>n,fun|n=>n⟩
theorem Xr6:Go.Proofs.Lays.n137 Tryz.prog Xkp:={
 mixed:=by kernel_rfl
 f137:=Tryz.func120.trans (congrArg some (by kernel_rfl))
 f217:=Tryz.func153.trans (congrArg some (by kernel_rfl))
 f266:=Tryz.func181.trans (congrArg some (by kernel_rfl))
 t3:=Tryz.underlying3
 a3:=Tryz.isAgg3
 z3:=Tryz.sizeOf3
 v3:=Tryz.zeroValue3
 t5:=Tryz.underlying5
 a5:=Tryz.isAgg5
 z5:=Tryz.sizeOf5
 v5:=Tryz.zeroValue5
 t9:=Tryz.underlying9
 a9:=Tryz.isAgg9
 z9:=Tryz.sizeOf9
 v9:=Tryz.zeroValue9 }
open Go.RowKit in
theorem strings_IndexByte (s:ByteArray) (c:Int) (w:World) :
  Calls Tryz.prog 120 #[.string s,.int .u8 c] w fun e w'=>e=.returned (.int .i64 (Lib.indexByte s.data.toList c.toNat.toUInt8))∧w'=w:=Any.strings_IndexByte Xr6 s c w
def Xi7:Go.Shelf.Ren:=⟨fun|14=>90|16=>130|17=>131|19=>158|20=>159|21=>160|22=>161|23=>162|24=>163|25=>184|27=>65|26=>185|28=>102|29=>135|30=>136|31=>137|32=>138|33=>139|35=>170|34=>169|36=>171|37=>172|38=>173|39=>190|40=>191|n=>n,fun|9=>9|3=>3|22=>38|24=>81|25=>165|4=>4|34=>225|5=>5|36=>178|37=>39|0=>0|39=>227|21=>21|44=>248|47=>133|50=>260|48=>258|2=>2|52=>214|55=>217|59=>236|60=>237|20=>20|61=>238|65=>263|66=>264|67=>87|n=>n,fun|0=>4|1=>5|2=>3|3=>6|4=>7|n=>n⟩
theorem Xh0:Go.Proofs.LaysPu.n14 Tryz.prog Xi7:={
 mixed:=by kernel_rfl
 f14:=Tryz.func90.trans (congrArg some (by kernel_rfl))
 f16:=Tryz.func130.trans (congrArg some (by kernel_rfl))
 f17:=Tryz.func131.trans (congrArg some (by kernel_rfl))
 f19:=Tryz.func158.trans (congrArg some (by kernel_rfl))
 f20:=Tryz.func159.trans (congrArg some (by kernel_rfl))
 f21:=Tryz.func160.trans (congrArg some (by kernel_rfl))
 f22:=Tryz.func161.trans (congrArg some (by kernel_rfl))
 f23:=Tryz.func162.trans (congrArg some (by kernel_rfl))
 f24:=Tryz.func163.trans (congrArg some (by kernel_rfl))
 f25:=Tryz.func184.trans (congrArg some (by kernel_rfl))
 f26:=Tryz.func185.trans (congrArg some (by kernel_rfl))
 f27:=Tryz.func65.trans (congrArg some (by kernel_rfl))
 f28:=Tryz.func102.trans (congrArg some (by kernel_rfl))
 f29:=Tryz.func135.trans (congrArg some (by kernel_rfl))
 f30:=Tryz.func136.trans (congrArg some (by kernel_rfl))
 f31:=Tryz.func137.trans (congrArg some (by kernel_rfl))
 f32:=Tryz.func138.trans (congrArg some (by kernel_rfl))
 f33:=Tryz.func139.trans (congrArg some (by kernel_rfl))
 f34:=Tryz.func169.trans (congrArg some (by kernel_rfl))
 f35:=Tryz.func170.trans (congrArg some (by kernel_rfl))
 f36:=Tryz.func171.trans (congrArg some (by kernel_rfl))
 f37:=Tryz.func172.trans (congrArg some (by kernel_rfl))
 f38:=Tryz.func173.trans (congrArg some (by kernel_rfl))
 f39:=Tryz.func190.trans (congrArg some (by kernel_rfl))
 f40:=Tryz.func191.trans (congrArg some (by kernel_rfl))
 t0:=Tryz.underlying0
 a0:=Tryz.isAgg0
 z0:=Tryz.sizeOf0
 v0:=Tryz.zeroValue0
 i0:=by kernel_rfl
 t2:=Tryz.underlying2
 a2:=Tryz.isAgg2
 z2:=Tryz.sizeOf2
 v2:=Tryz.zeroValue2
 i2:=by kernel_rfl
 t3:=Tryz.underlying3
 a3:=Tryz.isAgg3
 z3:=Tryz.sizeOf3
 v3:=Tryz.zeroValue3
 i3:=by kernel_rfl
 t4:=Tryz.underlying4
 a4:=Tryz.isAgg4
 z4:=Tryz.sizeOf4
 v4:=Tryz.zeroValue4
 i4:=by kernel_rfl
 t5:=Tryz.underlying5
 a5:=Tryz.isAgg5
 z5:=Tryz.sizeOf5
 v5:=Tryz.zeroValue5
 i5:=by kernel_rfl
 t9:=Tryz.underlying9
 a9:=Tryz.isAgg9
 z9:=Tryz.sizeOf9
 v9:=Tryz.zeroValue9
 i9:=by kernel_rfl
 t20:=Tryz.underlying20
 a20:=Tryz.isAgg20
 z20:=Tryz.sizeOf20
 v20:=Tryz.zeroValue20
 i20:=by kernel_rfl
 t21:=Tryz.underlying21
 a21:=Tryz.isAgg21
 z21:=Tryz.sizeOf21
 v21:=Tryz.zeroValue21
 i21:=by kernel_rfl
 t22:=Tryz.underlying38
 a22:=Tryz.isAgg38
 z22:=Tryz.sizeOf38
 v22:=Tryz.zeroValue38
 i22:=by kernel_rfl
 t24:=Tryz.underlying81
 a24:=Tryz.isAgg81
 z24:=Tryz.sizeOf81
 v24:=Tryz.zeroValue81
 i24:=by kernel_rfl
 t25:=Tryz.underlying165
 a25:=Tryz.isAgg165
 z25:=Tryz.sizeOf165
 v25:=Tryz.zeroValue165
 i25:=by kernel_rfl
 t34:=Tryz.underlying225
 a34:=Tryz.isAgg225
 z34:=Tryz.sizeOf225
 v34:=Tryz.zeroValue225
 i34:=by kernel_rfl
 c34:=by kernel_rfl
 t36:=Tryz.underlying178
 a36:=Tryz.isAgg178
 z36:=Tryz.sizeOf178
 v36:=Tryz.zeroValue178
 i36:=by kernel_rfl
 t37:=Tryz.underlying39
 a37:=Tryz.isAgg39
 z37:=Tryz.sizeOf39
 v37:=Tryz.zeroValue39
 i37:=by kernel_rfl
 t39:=Tryz.underlying227
 a39:=Tryz.isAgg227
 z39:=Tryz.sizeOf227
 v39:=Tryz.zeroValue227
 i39:=by kernel_rfl
 t44:=Tryz.underlying248
 a44:=Tryz.isAgg248
 z44:=Tryz.sizeOf248
 v44:=Tryz.zeroValue248
 i44:=by kernel_rfl
 t47:=Tryz.underlying133
 a47:=Tryz.isAgg133
 z47:=Tryz.sizeOf133
 v47:=Tryz.zeroValue133
 i47:=by kernel_rfl
 t48:=Tryz.underlying258
 a48:=Tryz.isAgg258
 z48:=Tryz.sizeOf258
 v48:=Tryz.zeroValue258
 i48:=by kernel_rfl
 t50:=Tryz.underlying260
 a50:=Tryz.isAgg260
 z50:=Tryz.sizeOf260
 v50:=Tryz.zeroValue260
 i50:=by kernel_rfl
 t52:=Tryz.underlying214
 a52:=Tryz.isAgg214
 z52:=Tryz.sizeOf214
 v52:=Tryz.zeroValue214
 i52:=by kernel_rfl
 t55:=Tryz.underlying217
 a55:=Tryz.isAgg217
 z55:=Tryz.sizeOf217
 v55:=Tryz.zeroValue217
 i55:=by kernel_rfl
 t59:=Tryz.underlying236
 a59:=Tryz.isAgg236
 z59:=Tryz.sizeOf236
 v59:=Tryz.zeroValue236
 i59:=by kernel_rfl
 t60:=Tryz.underlying237
 a60:=Tryz.isAgg237
 z60:=Tryz.sizeOf237
 v60:=Tryz.zeroValue237
 i60:=by kernel_rfl
 t61:=Tryz.underlying238
 a61:=Tryz.isAgg238
 z61:=Tryz.sizeOf238
 t65:=Tryz.underlying263
 a65:=Tryz.isAgg263
 z65:=Tryz.sizeOf263
 v65:=Tryz.zeroValue263
 i65:=by kernel_rfl
 t66:=Tryz.underlying264
 a66:=Tryz.isAgg264
 z66:=Tryz.sizeOf264
 v66:=Tryz.zeroValue264
 i66:=by kernel_rfl
 t67:=Tryz.underlying87
 a67:=Tryz.isAgg87
 z67:=Tryz.sizeOf87
 v67:=Tryz.zeroValue87
 i67:=by kernel_rfl
 g0:=by kernel_rfl
 m0:=by kernel_rfl
 g1:=by kernel_rfl
 m1:=by kernel_rfl
 g2:=by kernel_rfl
 m2:=by kernel_rfl
 g3:=by kernel_rfl
 m3:=by kernel_rfl
 g4:=by kernel_rfl
 m4:=by kernel_rfl }
open Go.RowKit in
theorem strconv_ParseUint_10_at64_ok (s:ByteArray) (hmax:s.size≤9223372036854775806) (u:Nat) (h:Lib.parseUintB 64 s.data.toList=.ok u) (w:World) :
  Calls Tryz.prog 90 #[.string s,.int .i64 10,.int .i64 64] w fun e w'=>e=.returned (.tuple #[.int .u64 u,.nilIface])∧(w'=w∨w'=Lib.bytesWorld w 5 s):=Any.strconv_ParseUint_10_at64_ok Xh0 s hmax u h w
open Go.RowKit in
theorem strconv_ParseUint_10_at64_syntax (s:ByteArray) (hlim:s.size≤281474976710656) (h:Lib.parseUintB 64 s.data.toList=.«syntax») (ev:Value) (w:World) (hv:w.cell? ⟨4,0,none⟩=some ev) (hev:ev=.nilIface∨∃te pe,ev=.iface te pe) :
  Calls Tryz.prog 90 #[.string s,.int .i64 10,.int .i64 64] w fun e w'=>∃N,e=.returned (.tuple #[.int .u64 0,.iface 227 (.pointer (some ⟨N,0,none⟩))])∧w.heap.size≤N∧w'.heap[N]?=some (.cells #[.string ⟨#[80,97,114,115,101,85,105,110,116]⟩,.string s,ev] 248 (0,0))∧Below w.heap.size w w':=Any.strconv_ParseUint_10_at64_syntax Xh0 s hlim h ev w hv hev
open Go.RowKit in
theorem strconv_ParseUint_10_at64_range (s:ByteArray) (hlim:s.size≤281474976710656) (h:Lib.parseUintB 64 s.data.toList=.range) (ev:Value) (w:World) (hv:w.cell? ⟨5,0,none⟩=some ev) (hev:ev=.nilIface∨∃te pe,ev=.iface te pe) :
  Calls Tryz.prog 90 #[.string s,.int .i64 10,.int .i64 64] w fun e w'=>∃N,e=.returned (.tuple #[.int .u64 18446744073709551615,.iface 227 (.pointer (some ⟨N,0,none⟩))])∧w.heap.size≤N∧w'.heap[N]?=some (.cells #[.string ⟨#[80,97,114,115,101,85,105,110,116]⟩,.string s,ev] 248 (0,0))∧Below w.heap.size w w':=Any.strconv_ParseUint_10_at64_range Xh0 s hlim h ev w hv hev
def Xko:Go.Shelf.Ren:=⟨fun|110=>110|109=>140|n=>n,fun|31=>25|9=>9|4=>4|3=>3|0=>0|n=>n,fun|n=>n⟩
theorem Xol:Go.Proofs.Lays.n110 Tryz.prog Xko:={
 mixed:=by kernel_rfl
 f109:=Tryz.func140.trans (congrArg some (by kernel_rfl))
 f110:=Tryz.func110.trans (congrArg some (by kernel_rfl))
 t0:=Tryz.underlying0
 a0:=Tryz.isAgg0
 z0:=Tryz.sizeOf0
 v0:=Tryz.zeroValue0
 t3:=Tryz.underlying3
 a3:=Tryz.isAgg3
 z3:=Tryz.sizeOf3
 v3:=Tryz.zeroValue3
 t4:=Tryz.underlying4
 a4:=Tryz.isAgg4
 z4:=Tryz.sizeOf4
 v4:=Tryz.zeroValue4
 t9:=Tryz.underlying9
 a9:=Tryz.isAgg9
 z9:=Tryz.sizeOf9
 v9:=Tryz.zeroValue9
 t31:=Tryz.underlying25
 a31:=Tryz.isAgg25
 z31:=Tryz.sizeOf25
 v31:=Tryz.zeroValue25 }
open Go.Lib in
theorem slices_Contains_string (b off n c:Nat) (zs:List ByteArray) (x:ByteArray) (w:World) (hz:n≤zs.length) (hbig:n≤9223372036854775807) (hc:∀j,j < zs.length→w.cell? ⟨b,off+j,none⟩=some (.string (zs.getD j ByteArray.empty))) :
  Calls Tryz.prog 110 #[.slice (some ⟨b,off,none⟩) n c,.string x] w fun e w'=>e=.returned (.bool (Lib.containsS (zs.take n) x))∧w'=w:=Any.slices_Contains_string Xol b off n c zs x w hz hbig hc
open Go.Lib in
theorem slices_Contains_string_empty (a:Option Addr) (c:Nat) (x:ByteArray) (w:World) :
  Calls Tryz.prog 110 #[.slice a 0 c,.string x] w fun e w'=>e=.returned (.bool false)∧w'=w:=Any.slices_Contains_string_empty Xol a c x w
def Xkr:Go.Shelf.Ren:=⟨fun|193=>79|n=>n,fun|31=>25|9=>9|4=>4|3=>3|0=>0|n=>n,fun|n=>n⟩
theorem Xon:Go.Proofs.Lays.n193 Tryz.prog Xkr:={
 mixed:=by kernel_rfl
 f193:=Tryz.func79.trans (congrArg some (by kernel_rfl))
 t0:=Tryz.underlying0
 a0:=Tryz.isAgg0
 z0:=Tryz.sizeOf0
 v0:=Tryz.zeroValue0
 t3:=Tryz.underlying3
 a3:=Tryz.isAgg3
 z3:=Tryz.sizeOf3
 v3:=Tryz.zeroValue3
 t4:=Tryz.underlying4
 a4:=Tryz.isAgg4
 z4:=Tryz.sizeOf4
 v4:=Tryz.zeroValue4
 t9:=Tryz.underlying9
 a9:=Tryz.isAgg9
 z9:=Tryz.sizeOf9
 v9:=Tryz.zeroValue9
 t31:=Tryz.underlying25
 a31:=Tryz.isAgg25
 z31:=Tryz.sizeOf25
 v31:=Tryz.zeroValue25 }
open Go.RowKit Go.Lib in
theorem slices_Equal_string (b1 o1 n c b2 o2 m d:Nat) (xs ys:List ByteArray) (w:World) (hx:n≤xs.length) (hy:m≤ys.length) (hbig:n≤9223372036854775807) (hbig2:m≤9223372036854775807) (hc1:∀j,j < xs.length→w.cell? ⟨b1,o1+j,none⟩=some (.string (xs.getD j ByteArray.empty))) (hc2:∀j,j < ys.length→w.cell? ⟨b2,o2+j,none⟩=some (.string (ys.getD j ByteArray.empty))) :
  Calls Tryz.prog 79 #[.slice (some ⟨b1,o1,none⟩) n c,.slice (some ⟨b2,o2,none⟩) m d] w fun e w'=>e=.returned (.bool (decide (xs.take n=ys.take m)))∧∃q,w'=w.drewN q:=Any.slices_Equal_string Xon b1 o1 n c b2 o2 m d xs ys w hx hy hbig hbig2 hc1 hc2
open Go.RowKit Go.Lib in
theorem slices_Equal_string_empty (a1 a2:Option Addr) (c m d:Nat) (w:World) (hbig2:m≤9223372036854775807) :
  Calls Tryz.prog 79 #[.slice a1 0 c,.slice a2 m d] w fun e w'=>e=.returned (.bool (decide (m=0)))∧w'=w:=Any.slices_Equal_string_empty Xon a1 a2 c m d w hbig2
end Go.Proofs.YtdpobjakdplljaaGreatDoor

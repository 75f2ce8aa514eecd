import Derived.Test.YtdpobjakdplljaaGreatDoorY33
import Derived.Test.YtdpobjakdplljaaGreatDoorY42
import Derived.Test.YtdpobjakdplljaaGreatDoorY44
import Derived.Test.YtdpobjakdplljaaGreatDoorY0
import Derived.ProofKit
import Derived.OpenShut
import Derived.ShutString
import Derived.ChangeOld
import Derived.Lib.SmallJoins
import Derived.SizedLaws
import Derived.Test.YtdpobjakdplljaaGreatDoorY16
import Derived.Test.YtdpobjakdplljaaGreatDoorY6
import Derived.Test.YtdpobjakdplljaaGreatDoorRows
import Derived.Test.YtdpobjakdplljaaGreatDoorY8
import Derived.ChangeSame
import Derived.ChangeVars
import Derived.JoinedOf
import Derived.LaidLaws
import Derived.LaidHandle
import Derived.Stop.Joined
import Derived.Stop.LaidErr
import Derived.Deep.Strs
import Derived.Lay
import Derived.RowKit
import Derived.JoinedCond
/- The laws of scripts: ConsoleFormats. -/
set_option linter.unusedSimpArgs false
set_option linter.unusedVariables false
set_option maxRecDepth 100000
set_option maxHeartbeats 8000000
namespace Go.Proofs.YtdpobjakdplljaaGreatDoor
open Go.RowKit
theorem XpW (l:List Int) (hd:DK l):Xa3 Tryz.prog 13 [] [.sq l.length (ia l)] (fun r H'=>∃(x:List EF) (ad:Option Addr) (cap:Nat),r=.x (.slice ad x.length cap)∧H'=[.row ad x.length cap 41 8 (va x)]∧MEs x):=by
 refine XaD Tryz.func13 rfl ?_
 simp only [Tryz.ntmps13,Xvy,XvB,XvC,XvD,XvG,XvF,Nat.reduceAdd,Nat.reduceSub]
 refine Xbt 41 8 ?_
 (repeat' (first|with_reducible (first|refine Xag ?_|refine Xac ?_|refine Xao ?_|refine Xae ?_|refine Xaa ?_)|((apply Xad rfl);(case h=>((try (intro (hp:(_:Bool)=true);((try simp only [Bool.and_eq_true,Bool.not_eq_true',Bool.not_eq_true] at hp);(try simp only [hp,wte]);(try simp only [whn] at hp))));(first|(apply Xab 0 rfl;(first|exact Xap _ rfl|exact Xan _ rfl))|(apply Xab 3 rfl;(exact XaX _ _ _ _ _ _ HEl.out rfl rfl)))));(case hT=>((try simp only [wtn,Xvz,Xvw,Xvx,XvA,XvE,Nat.reduceAdd,Nat.reduceMul,Nat.reduceSub,↓reduceIte,Nat.reduceEqDiff]);rfl)))|(refine Xai rfl ?_;((refine Xas 11 rfl ?_;(first|(refine Xam 19 Tryz.f19 ([]) _ _ _ rfl rfl Tryz.func19 (by decide) rfl (Xvv _) (VwL.refl _ _) (Xu0 l []) ?_;rintro _ _ ⟨bd,rfl,rfl⟩)|(refine Xam 30 Tryz.f30 [_] _ _ _ rfl rfl Tryz.func30 (by decide) rfl (Xvv _) (VwL.refl _ _) (Xs5 _ l 0 14 hd (Nat.zero_le _) (by omega)) ?_;rintro _ _ ⟨src,k1,rfl,rfl,hk1,hs1,hs2,hs3⟩)));apply Xah;(case hT=>((try simp only [wtn,Xvz,Xvw,Xvx,XvA,XvE,Nat.reduceAdd,Nat.reduceMul,Nat.reduceSub,↓reduceIte,Nat.reduceEqDiff]);rfl));(case hH=>((try simp only [wtn,Xvz,Xvw,Xvx,XvA,XvE,Nat.reduceAdd,Nat.reduceMul,Nat.reduceSub,↓reduceIte,Nat.reduceEqDiff]);rfl))))|fail))
 have hme:=Lib.hid (And.intro hs1 (And.intro hs2 hs3))
 clear hs2 hs3
 apply XaQ (S:=Nat × Option Addr × Nat) (fun q=>frm 41 [(3,.x (.slice q.2.1 q.1 q.2.2)),(8,.sq src.length (va src)),(9,.x (.int .i64 src.length)),(10,.x (.int .i64 q.1))]) (fun q=>[.row q.2.1 q.1 q.2.2 41 8 (va ((src.take q.1).map clE))]) (fun q=>q.1≤src.length) (fun q=>src.length - q.1) (0,none,0)
 case h0=>exact XaH.mk' [.box bd _] [.row _ _ _ _ _ _] (by (repeat' (first|exact Xvv _|fail))) (XaB.refl _ _) (by (repeat' (first|exact VwL.nil|(refine VwL.cons ?_ ?_)|exact Vw.refl _|exact Vw.top _|fail)))
 case hi=>exact Nat.zero_le _
 rintro ⟨i,ad0,cap0⟩ hi
 simp only at hi
 simp only [frm,XvC,XvD,Xvw,Xvx,XvJ,XvK]
 by_cases hlt:i < src.length
 ·have hdr:=XdH src i hlt
  have hst:(src.take (i+1)).map clE=(src.take i).map clE++[clE src[i]]:=by rw [Xa0 src i hlt,List.map_append];rfl
  have hst':=Lib.hid hst
  clear hst
  have hln:((src.take i).map clE).length=i:=by simp;omega
  (repeat' (first|with_reducible (first|refine Xag ?_|refine Xac ?_|refine Xao ?_|refine Xau ?_|refine Xae ?_|refine Xaa ?_|refine Xaj ?_)|(refine Xak _ rfl (fun h=>?_) (fun h=>?_)<;>((try (simp only [whn] at h));first|(exfalso;omega;done)|skip))|((apply Xad rfl);(case h=>((try (intro (hp:(_:Bool)=true);((try simp only [Bool.and_eq_true,Bool.not_eq_true',Bool.not_eq_true] at hp);(try simp only [hp,wte]);(try simp only [whn] at hp))));(first|(apply Xab 0 rfl;(first|exact Xap _ rfl|exact Xan _ rfl))|(apply Xab 5 rfl;(exact Xal _ _ _ _ _ _ rfl rfl Xa5.out))|(apply Xab 6 rfl;(first|exact XaF _ _ _ _ _ rfl rfl XaN.out (by first|exact Xvu rfl|fail) (by first|exact Xvu rfl|fail)|exact Xaz _ _ _ _ _ _ _ _ rfl rfl XaS.out XaN.out (by first|exact Xvu rfl|fail) (by first|exact Xvu rfl|fail)))|(apply Xab 7 rfl;(exact XaG _ _ _ _ _ _ _ _ _ _ rfl rfl rfl HEl.out rfl (by first|omega|fail) (by simp;first|omega|fail)))|(apply XaC;(case hs=>(intro _ _ h;cases h));(case hx=>rfl);(case hrun=>(intro w;simp [wtb,AV.val,go_sem];(try go_bits);rfl))))));(case hT=>((try simp (disch:=omega) only [wtn,hdr,Xvz,Xvw,Xvx,XvA,XvE,Nat.reduceAdd,Nat.reduceMul,Nat.reduceSub,↓reduceIte,Nat.reduceEqDiff]);rfl)))|(refine Xai rfl ?_;((first|(refine Xas 13 rfl ?_;(refine XaP _ _ _ _ _ _ _ _ _ _ _ _ _ _ rfl rfl Xb3.out (Src.row _ rfl Xb3.out) XaY.out (by first|rfl|fail) (XdQ _ _ (by omega) (by decide)) (fun ad cap=>?_)))|(refine Xas 14 rfl ?_;(refine XaK _ _ rfl Xbk.out rfl (fun b=>?_)))|(refine Xas 16 rfl ?_;(refine Xaw _ _ _ _ _ _ _ rfl rfl XaS.out XaR.out (by first|rfl|fail) (by first|exact Xvu rfl|fail) ?_))|(refine Xas 17 rfl ?_;(refine XaE _ _ _ _ _ _ _ _ rfl XaY.out (by first|rfl|fail) rfl (by decide) rfl (fun b=>?_))));apply Xah;(case hT=>((try simp (disch:=omega) only [wtn,hdr,Xvz,Xvw,Xvx,XvA,XvE,Nat.reduceAdd,Nat.reduceMul,Nat.reduceSub,↓reduceIte,Nat.reduceEqDiff]);rfl));(case hH=>((try simp (disch:=omega) only [wtn,hdr,Xvz,Xvw,Xvx,XvA,XvE,Nat.reduceAdd,Nat.reduceMul,Nat.reduceSub,↓reduceIte,Nat.reduceEqDiff]);rfl))))|fail))
  ·have hcl:clE src[i]=⟨src[i].kind,src[i].job,src[i].ok,m0 src[i].code,[],7,m0 src[i].client,m0 src[i].num⟩:=by unfold clE;rw [if_pos (by assumption),if_pos (by assumption)]
   refine ⟨(i+1,ad,cap),by simp only;omega,by simp only;omega,?_⟩
   rw [hst'.out,Xiq,hcl]
   simp only [EF.cells,m0]
   try simp only [Xlk]
   exact XaH.mk' [_,_] [.row ad _ cap _ _ _] (Xvv _) (XaB.cons (VwH.row _ _ _ _ _ (VwL.appE (VwL.refl _ _) (by (repeat' (first|exact VwL.nil|(refine VwL.cons ?_ ?_)|exact Vw.refl _|exact Vw.nil|fail))))) XaB.nil) (by (repeat' (first|exact VwL.nil|(refine VwL.cons ?_ ?_)|exact Vw.refl _|exact Vw.top _|fail)))
  ·have hcl:clE src[i]=⟨src[i].kind,src[i].job,src[i].ok,m0 src[i].code,src[i].data,7,m0 src[i].client,m0 src[i].num⟩:=by unfold clE;rw [if_neg (by assumption),if_pos (by assumption)]
   refine ⟨(i+1,ad,cap),by simp only;omega,by simp only;omega,?_⟩
   rw [hst'.out,Xiq,hcl]
   simp only [EF.cells,m0]
   try simp only [Xlk]
   exact XaH.mk' [_,_] [.row ad _ cap _ _ _] (Xvv _) (XaB.cons (VwH.row _ _ _ _ _ (VwL.appE (VwL.refl _ _) (by (repeat' (first|exact VwL.nil|(refine VwL.cons ?_ ?_)|exact Vw.refl _|fail))))) XaB.nil) (by (repeat' (first|exact VwL.nil|(refine VwL.cons ?_ ?_)|exact Vw.refl _|exact Vw.top _|fail)))
  ·have hcl:clE src[i]=⟨src[i].kind,src[i].job,src[i].ok,m0 src[i].code,[],src[i].time,m0 src[i].client,m0 src[i].num⟩:=by unfold clE;rw [if_pos (by assumption),if_neg (by assumption)]
   refine ⟨(i+1,ad,cap),by simp only;omega,by simp only;omega,?_⟩
   rw [hst'.out,Xiq,hcl]
   simp only [EF.cells,m0]
   try simp only [Xlk]
   exact XaH.mk' [_,_] [.row ad _ cap _ _ _] (Xvv _) (XaB.cons (VwH.row _ _ _ _ _ (VwL.appE (VwL.refl _ _) (by (repeat' (first|exact VwL.nil|(refine VwL.cons ?_ ?_)|exact Vw.refl _|exact Vw.nil|fail))))) XaB.nil) (by (repeat' (first|exact VwL.nil|(refine VwL.cons ?_ ?_)|exact Vw.refl _|exact Vw.top _|fail)))
  ·have hcl:clE src[i]=⟨src[i].kind,src[i].job,src[i].ok,m0 src[i].code,src[i].data,src[i].time,m0 src[i].client,m0 src[i].num⟩:=by unfold clE;rw [if_neg (by assumption),if_neg (by assumption)]
   refine ⟨(i+1,ad,cap),by simp only;omega,by simp only;omega,?_⟩
   rw [hst'.out,Xiq,hcl]
   simp only [EF.cells,m0]
   try simp only [Xlk]
   exact XaH.mk' [_,_] [.row ad _ cap _ _ _] (Xvv _) (XaB.cons (VwH.row _ _ _ _ _ (VwL.appE (VwL.refl _ _) (by (repeat' (first|exact VwL.nil|(refine VwL.cons ?_ ?_)|exact Vw.refl _|fail))))) XaB.nil) (by (repeat' (first|exact VwL.nil|(refine VwL.cons ?_ ?_)|exact Vw.refl _|exact Vw.top _|fail)))
 ·obtain rfl:i=src.length:=by omega
  (repeat' (first|with_reducible (first|refine Xag ?_|refine Xac ?_|refine Xar ?_|refine XaW ?_|refine Xae ?_|refine Xaa ?_|refine XaL ?_|refine XaJ ?_)|(refine Xak _ rfl (fun h=>?_) (fun h=>?_)<;>first|(exact absurd h (by decide))|((try (simp only [whn] at h));skip))|((apply Xad rfl);(case h=>((try (intro (hp:(_:Bool)=true);((try simp only [Bool.and_eq_true,Bool.not_eq_true',Bool.not_eq_true] at hp);(try simp only [hp,wte]);(try simp only [whn] at hp))));(first|(apply Xab 0 rfl;(first|exact Xap _ rfl|exact Xan _ rfl))|(apply XaC;(case hs=>(intro _ _ h;cases h));(case hx=>rfl);(case hrun=>(intro w;simp [wtb,AV.val,go_sem];(try go_bits);rfl))))));(case hT=>((try simp only [wtn,Xvz,Xvw,Xvx,XvA,XvE,Nat.reduceAdd,Nat.reduceMul,Nat.reduceSub,↓reduceIte,Nat.reduceEqDiff]);rfl)))|fail))
  rw [List.take_length]
  have hm:=MEs.of (out:=src) (by omega) hme.out.2.1 hme.out.2.2
  have hml:src.length=(src.map clE).length:=by simp
  rw [hml]
  refine Xaf _ _ (Xbh rfl (RV.tmp _) (XaH.mk' [] [.row _ _ _ _ _ _] (Xvv _) (XaB.refl _ _) (VwL.refl _ _))) ⟨src.map clE,ad0,cap0,rfl,rfl,hm⟩
def vaa (l:List (List EF)):List AV:=l.map fun x=>.sq x.length (va x)
@[simp] theorem Xva (l:List (List EF)):(vaa l).length=l.length:=by simp [vaa]
theorem Xq8 (l:List (List EF)) (k:Nat) (h:k < l.length):(vaa l).drop k=.sq l[k].length (va l[k]) :: vaa (l.drop (k+1)):=by
 unfold vaa
 rw [←List.map_drop,List.drop_eq_getElem_cons h,XvA]
def fmL (x raw y:List EF):List (List EF):=[x,raw,y++raw]
theorem XtT (x raw y:List EF) (hx:MEs x) (hy:MEs y) (hr:∀e∈raw,EOk e) (hn:raw.length≤20):∀z∈fmL x raw y,(∀e∈z,EOk e)∧z.length≤48:=by
 have h1:=hx.len
 have h2:=hy.len
 intro z hz
 simp only [fmL,List.mem_cons,List.mem_nil_iff,or_false] at hz
 rcases hz with rfl|rfl|rfl
 ·exact ⟨hx.ok,by omega⟩
 ·exact ⟨hr,by omega⟩
 ·refine ⟨fun e he=>?_,by rw [XvH];omega⟩
  rcases List.mem_append.1 he with he|he
  ·exact hy.ok e he
  ·exact hr e he
theorem Xu8 {z:List EF} (h:∀e∈z,EOk e) (hn:z.length≤48):(Xby z).length≤900000000:=by
 have h1:=XiR z h
 have h2:z.length*9000200≤48*9000200:=Nat.mul_le_mul_right _ hn
 omega
theorem Xn7 (l:List Int) (raw:List EF) (hd:DK l) (hr:∀e∈raw,EOk e):Xa3 Tryz.prog 4 [] [.sq l.length (ia l),.sq raw.length (va raw)] (fun r H'=>r=.x (.bool true)∧H'=[]):=by
 have hr':=Lib.hid hr
 clear hr
 refine XaD Tryz.func4 rfl ?_
 simp only [Tryz.ntmps4,Xvy,XvB,XvC,XvD,XvG,XvF,Nat.reduceAdd,Nat.reduceSub]
 (repeat' (first|with_reducible (first|refine Xag ?_|refine Xac ?_|refine Xar ?_|refine Xau ?_|refine Xae ?_|refine Xaa ?_|refine Xax ?_)|(refine Xak _ rfl (fun h=>?_) (fun h=>?_)<;>first|(exact absurd h (by decide))|((try (simp only [whn] at h));skip))|((apply Xad rfl);(case h=>((try (intro (hp:(_:Bool)=true);((try simp only [Bool.and_eq_true,Bool.not_eq_true',Bool.not_eq_true] at hp);(try simp only [hp,wte]);(try simp only [whn] at hp))));(first|(apply Xab 0 rfl;(first|exact Xap _ rfl|exact Xan _ rfl))|(apply Xab 3 rfl;(exact XaX _ _ _ _ _ _ HEl.out rfl rfl))|(apply Xab 11 rfl;(exact Xay 8 Tryz.f8 _ _ rfl rfl Tryz.func8 (by decide) rfl (VwL.refl _ _) (XqW)))|(apply XaC;(case hs=>(intro _ _ h;cases h));(case hx=>rfl);(case hrun=>(intro w;simp [wtb,AV.val,go_sem];(try go_bits);rfl))))));(case hT=>((try simp only [wtn,Xvz,Xvw,Xvx,XvA,XvE,Nat.reduceAdd,Nat.reduceMul,Nat.reduceSub,↓reduceIte,Nat.reduceEqDiff]);rfl)))|(refine Xai rfl ?_;((refine Xas 11 rfl ?_;(refine Xam 13 Tryz.f13 ([]) _ _ _ rfl rfl Tryz.func13 (by decide) rfl (Xvv _) (VwL.refl _ _) (XpW l hd) ?_;rintro _ _ ⟨x,adx,capx,rfl,rfl,hx⟩));apply Xah;(case hT=>((try simp only [wtn,Xvz,Xvw,Xvx,XvA,XvE,Nat.reduceAdd,Nat.reduceMul,Nat.reduceSub,↓reduceIte,Nat.reduceEqDiff]);rfl));(case hH=>((try simp only [wtn,Xvz,Xvw,Xvx,XvA,XvE,Nat.reduceAdd,Nat.reduceMul,Nat.reduceSub,↓reduceIte,Nat.reduceEqDiff]);rfl))))|fail))
 ·refine Xaf _ _ (Xbh rfl (RV.tmp _) (XaH.mk' [] _ (Xvv _) (XaB.refl _ _) (VwL.refl _ _))) ?_
  exact ⟨rfl,rfl⟩
 rename_i y ady capy hy
 have hxl:=hx.len
 (repeat' (first|with_reducible (first|refine Xao ?_|refine Xae ?_|refine Xaa ?_)|((apply Xad rfl);(case h=>((try (intro (hp:(_:Bool)=true);((try simp only [Bool.and_eq_true,Bool.not_eq_true',Bool.not_eq_true] at hp);(try simp only [hp,wte]);(try simp only [whn] at hp))));(first|(apply Xab 0 rfl;(exact Xap _ rfl))|(apply Xab 3 rfl;(exact XaX _ _ _ _ _ _ HEl.out rfl rfl))|(apply Xab 17 rfl;(exact XbI _ _ _ _ _ _ rfl XaY.out rfl (by first|rfl|fail) rfl rfl (by decide))))));(case hT=>((try simp only [wtn,Xvz,Xvw,Xvx,XvA,XvE,Nat.reduceAdd,Nat.reduceMul,Nat.reduceSub,↓reduceIte,Nat.reduceEqDiff]);rfl)))|(refine Xai rfl ?_;((refine Xas 13 rfl ?_;(refine XaP _ _ _ _ _ _ _ _ _ _ _ _ _ _ rfl rfl Xb3.out (Src.sq rfl) XaY.out (by first|(simp;done)|fail) (XdQ _ _ (by omega) (by decide)) (fun ad cap=>?_)));apply Xah;(case hT=>((try simp only [wtn,Xvz,Xvw,Xvx,XvA,XvE,Nat.reduceAdd,Nat.reduceMul,Nat.reduceSub,↓reduceIte,Nat.reduceEqDiff]);rfl));(case hH=>((try simp only [wtn,Xvz,Xvw,Xvx,XvA,XvE,Nat.reduceAdd,Nat.reduceMul,Nat.reduceSub,↓reduceIte,Nat.reduceEqDiff]);rfl))))|fail))
 have hL:=Lib.hid (XtT y raw x hy hx hr'.out (by omega))
 clear hx hy
 refine XaQ (S:=Nat) (fun q=>frm 48 [(23,.sq 3 (vaa (fmL y raw x))),(24,.x (.int .i64 3)),(25,.x (.int .i64 q))]) (fun q=>[]) (fun q=>q≤3) (fun q=>3 - q) 0 ?c (Nat.zero_le _) fun q hq=>?_
 case c=>
  simp only [fmL,vaa,XvA,XvE,XvH,XjH]
  exact XaH.mk' [_,_] [] (Xvv _) XaB.nil (by (repeat' (first|exact VwL.nil|(refine VwL.cons ?_ ?_)|exact Vw.refl _|exact Vw.top _|exact Vw.row (List.Mem.head _) (VwL.refl _ _)|exact Vw.row (List.Mem.tail _ (List.Mem.head _)) (VwL.refl _ _)|refine Vw.sq ?_|fail)))
 simp only [frm,XvC,XvD,Xvw,Xvx,XvJ,XvK]
 by_cases hk:q < (fmL y raw x).length
 ·obtain ⟨hz1,hz2⟩:=hL.out _ (List.getElem_mem hk)
  have hF:=Xp8 (fmL y raw x)[q] hz1 (by omega)
  have hR:=Xp9 (fmL y raw x)[q] hz1 (by omega) (Xu8 hz1 hz2)
  have h7:q < 3:=hk
  have hdr:=Xq8 (fmL y raw x) q hk
  unfold XuT at hF hR
  clear hz1
  generalize (fmL y raw x)[q]=z at *
  generalize Xcu z=p at *
  (repeat' (first|with_reducible (first|refine Xag ?_|refine Xac ?_|refine Xao ?_|refine Xau ?_|refine Xae ?_|refine Xaa ?_|refine Xaj ?_)|(refine Xak _ rfl (fun h=>?_) (fun h=>?_)<;>first|(exact absurd h (by decide))|((try (simp only [whn] at h));first|(exfalso;omega;done)|skip))|((first|apply Xad rfl|apply Xa8 _ _ rfl rfl rfl);(case h=>((try (intro (hp:(_:Bool)=true);((try simp only [Bool.and_eq_true,Bool.not_eq_true',Bool.not_eq_true] at hp);(try simp only [hp,wte]);(try simp only [whn] at hp))));(first|(apply Xab 0 rfl;(first|exact Xap _ rfl|exact Xan _ rfl))|(apply Xab 1 rfl;(exact Xcs _ _ _ rfl rfl))|(apply Xab 2 rfl;(exact XaM _ _ _ _ rfl rfl rfl))|(apply Xab 6 rfl;(exact XaF _ _ _ _ _ rfl rfl XaN.out (by first|exact Xvu rfl|fail) (by first|exact Xvu rfl|fail)))|(apply Xab 7 rfl;(exact XaG _ _ _ _ _ _ _ _ _ _ rfl rfl rfl HEl.out rfl (by first|omega|fail) (by simp;first|omega|fail)))|(apply Xab 11 rfl;(first|exact Xay 14 Tryz.f14 _ _ rfl rfl Tryz.func14 (by decide) rfl (VwL.refl _ _) (hF)|exact Xay 15 Tryz.f15 _ _ rfl rfl Tryz.func15 (by decide) rfl (VwL.refl _ _) (hR)))|(apply XaC;(case hs=>(intro _ _ h;cases h));(case hx=>rfl);(case hrun=>(intro w;simp [wtb,AV.val,go_sem];(try go_bits);rfl))))));(case hT=>((try simp (disch:=omega) only [wtn,hdr,Xvz,Xvw,Xvx,XvA,XvE,Nat.reduceAdd,Nat.reduceMul,Nat.reduceSub,↓reduceIte,Nat.reduceEqDiff]);rfl)))|fail))
  exact ⟨q+1,by omega,by omega,(XaH.mk' [] _ (Xvv _) (XaB.refl _ _) (by (repeat' (first|exact VwL.nil|(refine VwL.cons ?_ ?_)|exact Vw.refl _|exact Vw.top _|fail))))⟩
 ·have h7:¬q < 3:=hk
  (repeat' (first|with_reducible (first|refine Xag ?_|refine Xac ?_|refine Xar ?_|refine XaW ?_|refine Xae ?_|refine Xaa ?_|refine XaL ?_|refine XaJ ?_)|(refine Xak _ rfl (fun h=>?_) (fun h=>?_)<;>((try (simp only [whn] at h));first|(exfalso;omega;done)|skip))|((apply Xad rfl);(case h=>((try (intro (hp:(_:Bool)=true);((try simp only [Bool.and_eq_true,Bool.not_eq_true',Bool.not_eq_true] at hp);(try simp only [hp,wte]);(try simp only [whn] at hp))));(first|(apply Xab 0 rfl;(exact Xan _ rfl))|(apply XaC;(case hs=>(intro _ _ h;cases h));(case hx=>rfl);(case hrun=>(intro w;simp [wtb,AV.val,go_sem];(try go_bits);rfl))))));(case hT=>((try simp only [wtn,Xvz,Xvw,Xvx,XvA,XvE,Nat.reduceAdd,Nat.reduceMul,Nat.reduceSub,↓reduceIte,Nat.reduceEqDiff]);rfl)))|fail))
  refine Xaf _ _ (Xbh rfl (RV.tmp _) (XaH.mk' [] _ (Xvv _) (XaB.refl _ _) (VwL.refl _ _))) ?_
  exact ⟨rfl,rfl⟩
open Go.ChangeShapes Go.WideShapes Go.ChangeAt Go.RowKit Go.Joins
def Is (lo:Nat) (w:World) (v:Value) (l:List Int):Prop:=Sl lo w v l.length (l.map (Value.int .i64))
theorem Is.mono {lo:Nat} {w w':World} {v:Value} {l:List Int} (h:Is lo w v l) (hb:Ext w w'):Is lo w' v l:=Sl.mono h hb
theorem Is.shape {lo:Nat} {w:World} {v:Value} {l:List Int} (h:Is lo w v l):∃ad cap,v=.slice ad l.length cap∧l.length≤cap:=Sl.shape h
def Xve (l:List Int):Prop:=∀x∈l,-9223372036854775808≤x∧x≤9223372036854775807
section
variable {H:Type} {enc:TypeId × Value→H} {P:Program} {W:World} {fuel:Nat} {t e:TypeId} {v:Value} {x:DataW H × List MemPlace}
theorem XqC {k:IntKind} (ht:P.underlying t=some (.slice e)) (he:P.underlying e=some (.int k)) (hc:P.cellsOf e=1)
  (h:DataW.trod enc P W 0 (fun _=>true) true fuel t [v]=some x) (hsz:∀n∈x.1.weights P t,n≤reachBytes) :
  ∃zs:List Int,Sl 0 W v zs.length (zs.map (Value.int k))∧(∀n∈zs,(Lit.int k n).wf=true)∧zs.length*P.bytesOf e≤reachBytes:=by
 rcases open_ints ht he hc h with ⟨hcs,hx⟩|⟨a,len,cap,zs,hcs,_,hl,hm,hz,hx,hcell,hwz⟩
 ·simp at hcs
  subst hcs
  exact ⟨[],Sl.nil _ _,by simp,by simp⟩
 ·simp at hcs
  subst hcs
  have hz':zs.length=cap:=by simpa using hz
  have hlen:(zs.take len).length=len:=by simp;omega
  refine ⟨zs.take len,?_,fun n hn=>hwz n (List.mem_of_mem_take hn),?_⟩
  ·refine ⟨some a,cap,by rw [hlen],by rw [hlen];exact hl,hm,(by intro h;cases h),fun _ _=>Nat.zero_le _,fun j u hj=>⟨a,rfl,?_⟩⟩
   rw [List.getElem?_map,List.getElem?_take] at hj
   split at hj
   ·rename_i hjl
    have hjz:j < zs.length:=by omega
    rw [hcell j hjz]
    simp [List.getElem?_eq_getElem hjz] at hj
    simp [←hj,List.getD,List.getElem?_eq_getElem hjz]
   ·simp at hj
  ·have:=hsz ((lits (H:=H) k (zs.take len)).length*P.bytesOf e+(lits (H:=H) k (zs.drop len)).length*P.bytesOf e) (by rw [hx];simp [DataW.weights,ht,Nat.add_mul])
   have h2:(lits (H:=H) k (zs.take len)).length=(zs.take len).length:=by simp [lits]
   rw [h2] at this
   omega
theorem XsK (ht:P.underlying t=some (.slice e)) (he:P.underlying e=some (.int .i64)) (hc:P.cellsOf e=1) (hb:P.bytesOf e=8)
  (h:DataW.trod enc P W 0 (fun _=>true) true fuel t [v]=some x) (hsz:∀n∈x.1.weights P t,n≤reachBytes) :
  ∃l:List Int,Is 0 W v l∧Xve l∧l.length≤140737488355328:=by
 obtain ⟨zs,h1,h2,h3⟩:=XqC ht he hc h hsz
 refine ⟨zs,h1,fun n hn=>?_,?_⟩
 ·have hw:=h2 n hn
  simp [Lit.wf,IntKind.min,IntKind.max,IntKind.signed,IntKind.bits] at hw
  omega
 ·rw [hb] at h3
  have:=reachBytes_lt
  omega
end
theorem Xfm {a:Int} (h:(Lit.int .i64 a).wf=true) : -9223372036854775808≤a∧a≤9223372036854775807:=by
 simp [Lit.wf,IntKind.min,IntKind.max,IntKind.signed,IntKind.bits] at h
 omega
theorem XhF {H:Type} {P:Program} {ts:List TypeId} {ds:List (DataW H)} (h:(DataW.weightsEach P ts ds).all (·≤reachBytes)=true) {j:Nat} {t:TypeId} {d:DataW H} (ht:ts[j]?=some t) (hd:ds[j]?=some d):∀n∈d.weights P t,n≤reachBytes:=fun n hn=>by
 have:=List.all_eq_true.1 h _ (DataW.weights_mem_each ht hd n hn)
 simpa using this
open Go.RowKit
theorem Sl.den {W:World} {v:Value} {n:Nat} {xs:List Value} (h:Sl 0 W v n xs) (h1:∀u∈xs,u.oneCell'=true):Den (fun _=>False) W (.sq n (xs.map AV.x)) v:=by
 obtain ⟨ad,cap,rfl,h1',h2,h3,h4⟩:=Sl.split h
 rw [Den]
 refine ⟨ad,cap,xs,rfl,h1',h2,h3,?_,XaV.exact⟩
 rcases h4 with h4|⟨b,o,rfl,_,hc⟩
 ·exact .inl h4
 ·exact .inr ⟨b,o,rfl,fun h=>h,fun j u hj=>⟨hc j u hj,h1 u (List.mem_of_getElem? hj)⟩⟩
theorem Is.den {W:World} {v:Value} {l:List Int} (h:Is 0 W v l):Den (fun _=>False) W (.sq l.length (ia l)) v:=by
 have:=Sl.den h (fun u hu=>by obtain ⟨n,-,rfl⟩:=List.mem_map.1 hu;rfl)
 have e:ia l=(l.map (Value.int .i64)).map AV.x:=by simp [ia]
 rw [e];exact this
theorem Bs.den {W:World} {v:Value} {l:List UInt8} (h:Bs 0 W v l):Den (fun _=>False) W (.sq l.length (u8a l)) v:=
 Sl.den h (fun u hu=>by obtain ⟨n,-,rfl⟩:=List.mem_map.1 hu;rfl)
open Go.RowKit Go Go.ChangeShapes Go.Deep
abbrev LL:List (String × DataW Unit):=Rows.consoleParsesRow.laid
theorem Xst:Tryz.prog.globalNamed "errors.errorType"=some 1:=by kernel_rfl
theorem Xsu:(Tryz.prog.cutTypes.find? (·.1 == "internal/reflectlite.rtype")).map (·.2)=some 196:=by kernel_rfl
theorem Xoo:Tryz.prog.types.size=297:=by kernel_rfl
theorem Xqk:((List.range 297).filter fun t=>Tryz.prog.rowNamed t [101,114,114,111,114])=[81]:=by kernel_rfl
theorem Xh2 {w:World} {base:Nat} {sp:Nat→Bool} {held:Bool} {fuel:Nat} {t:TypeId} {ms:Array (String × TypeId)} {cs:List Value} {nm:String} {d:DataW Unit} {p:List MemPlace} (hi:Tryz.prog.underlying t=some (.interface ms))
  (h:DataW.trod (fun _=>()) Tryz.prog w base sp held fuel t cs=some (.iface nm d,p)):∃u v,cs=[.iface u v]:=by
 cases fuel with
 | zero=>simp [DataW.trod] at h
 | succ n=>
   unfold DataW.trod at h
   rw [hi] at h
   split at h<;>simp_all
theorem XeY {W:World} {n nm:String} {d:DataW Unit} {r:List (String × DataW Unit)} {g:Nat} {ti:TypeId} {ms:Array (String × TypeId)} (h:laidMet Tryz.prog ((n,.iface nm d) :: r) W)
  (hg:Tryz.prog.globalNamed n=some g) (ht:(Tryz.prog.globals[g]?).map (·.type)=some ti) (hi:Tryz.prog.underlying ti=some (.interface ms)):∃u v,W.cell? ⟨g,0,none⟩=some (.iface u v):=by
 obtain ⟨ps,⟨g0,t0,cs0,f0,p0,q0,hg0,ht0,hv0,hd0,-⟩,-⟩:=h
 obtain rfl:=Option.some.inj (hg.symm.trans hg0)
 obtain rfl:=Option.some.inj (ht.symm.trans ht0)
 obtain ⟨l0⟩:=cs0
 obtain ⟨u,v,hcs⟩:=Xh2 hi hd0
 simp only at hcs
 subst hcs
 exact ⟨u,v,by simpa using World.var?_cell hg0 hv0 0⟩
/-! ### The table of forms -/
theorem Xml {w:World} {base:Nat} {sp:Nat→Bool} {held:Bool} {fuel:Nat} {c:List Value} {b:DataW Unit × List MemPlace} {wd fs:List UInt8} {k:Int} (h:DataW.trod (fun _=>()) Tryz.prog w base sp held fuel 76 c=some b)
  (hb:b.1=.agg [.lit (.string wd),.lit (.int .i64 k),.lit (.string fs)]):c=[.string (bs wd),.int .i64 k,.string (bs fs)]:=by
 obtain ⟨y0,y1,y2,n,rfl,hl,h0,h1,h2⟩:=trod_struct3 Tryz.underlying76 h
 obtain ⟨s0,e0,rfl,-⟩:=DataW.trod_string Tryz.underlying9 h0
 obtain ⟨n1,e1,rfl,-⟩:=DataW.trod_int Tryz.underlying3 h1
 obtain ⟨s2,e2,rfl,-⟩:=DataW.trod_string Tryz.underlying9 h2
 have hl3:c.length=3:=hl.trans (by kernel_rfl)
 simp only [DataW.agg.injEq,List.cons.injEq,DataW.lit.injEq,Lit.string.injEq,Lit.int.injEq,true_and,and_true] at hb
 obtain ⟨b0,b1,b2⟩:=hb
 have c9:Tryz.prog.cellsOf 9=1:=by kernel_rfl
 have c3:Tryz.prog.cellsOf 3=1:=by kernel_rfl
 match c,hl3 with
 | [x,y,z],_=>
   have e0':[x]=[Value.string s0]:=by rw [←e0];show _=([x,y,z].drop 0).take (Tryz.prog.cellsOf 9);rw [c9];rfl
   have e1':[y]=[Value.int .i64 n1]:=by rw [←e1];show _=([x,y,z].drop 1).take (Tryz.prog.cellsOf 3);rw [c3];rfl
   have e2':[z]=[Value.string s2]:=by rw [←e2];show _=([x,y,z].drop 2).take (Tryz.prog.cellsOf 9);rw [c9];rfl
   cases e0'
   cases e1'
   cases e2'
   subst b1
   have q:∀(s:ByteArray) (l:List UInt8),s.data.toList=l→s=bs l:=fun s l h=>by subst h;rfl
   rw [q _ _ b0,q _ _ b2]
theorem Xrm {α:Type} (c:Nat) (f:Nat→List α):∀(n:Nat) (cs:List α),cs.length=n*c→(∀i,i < n→(cs.drop (i*c)).take c=f i)→cs=(List.range n).flatMap f
 | 0,cs,h,_=>by simpa using h
 | n+1,cs,h,hf=>by
   rw [Nat.succ_mul] at h
   have ih:=Xrm c f n (cs.take (n*c)) (by rw [List.length_take];omega) fun i hi=>by
    rw [←hf i (by omega),List.drop_take,List.take_take]
    have:i*c+c≤n*c:=by rw [←Nat.succ_mul];exact Nat.mul_le_mul_right _ hi
    rw [Nat.min_eq_left (by omega)]
   have hl:=hf n (by omega)
   rw [List.take_of_length_le (by rw [List.length_drop];omega)] at hl
   rw [List.range_succ,List.flatMap_append,←ih,List.flatMap_cons,List.flatMap_nil,List.append_nil,←hl,List.take_append_drop]
def Xp0 (i:Nat):List UInt8 × Int × List UInt8:=Xn4.getD i ([],0,[])
theorem XhZ {W:World} {r:List (String × DataW Unit)} (h:laidMet Tryz.prog (("jobmux/console.forms",Rows.laid_jobmux_console_forms) :: r) W):W.var? Tryz.prog "jobmux/console.forms"=some XbB.toArray:=by
 obtain ⟨ps,⟨g0,t0,cs,fuel,p0,q0,hg0,ht0,hv0,hd0,-⟩,-⟩:=h
 obtain rfl:=Option.some.inj ((show Tryz.prog.globalNamed "jobmux/console.forms"=some 0 by kernel_rfl).symm.trans hg0)
 obtain rfl:=Option.some.inj ((show (Tryz.prog.globals[0]?).map (·.type)=some 129 by kernel_rfl).symm.trans ht0)
 rw [hv0]
 obtain ⟨l⟩:=cs
 simp only at hd0
 have hl:l=XbB:=by
  cases fuel with
  | zero=>simp [DataW.trod] at hd0
  | succ n=>
    unfold DataW.trod at hd0
    rw [Tryz.underlying129] at hd0
    simp only at hd0
    split at hd0
    ·rename_i hlen
     obtain ⟨xs,hm,hx⟩:=Option.map_eq_some_iff.1 hd0
     have hxs:xs.map (·.1)=Xn4.map fun f=>(.agg [.lit (.string f.1),.lit (.int .i64 f.2.1),.lit (.string f.2.2)]:DataW Unit):=by
      have:=congrArg Prod.fst hx
      exact DataW.agg.inj this
     have hce:Tryz.prog.cellsOf 76=3:=by kernel_rfl
     have hlen':l.length=14*3:=hlen.trans (by kernel_rfl)
     have hc:=Xrm 3 (fun i=>[Value.string (bs (Xp0 i).1),.int .i64 (Xp0 i).2.1,.string (bs (Xp0 i).2.2)]) 14 l hlen' fun i hi=>by
      obtain ⟨b,hb,hf⟩:=Lib.mapM_at hm i i (by rw [List.getElem?_range hi])
      rw [hce] at hf
      refine Xml hf ?_
      have h1:=congrArg (fun z=>z[i]?) hxs
      simp only [List.getElem?_map,hb,Option.map_some] at h1
      have hi':i < Xn4.length:=hi
      rw [List.getElem?_eq_getElem hi',Option.map_some] at h1
      have h2:=Option.some.inj h1
      rw [h2]
      simp only [Xp0,List.getD_eq_getElem?_getD,List.getElem?_eq_getElem hi',Option.getD_some]
     rw [hc]
     rfl
    ·cases hd0
 rw [hl]
theorem Xmt {W:World} (h:laidMetH Tryz.prog LL W) (hS:W.ShapedOpen Tryz.prog):Gw W:=by
 have hf:(LL.filter fun x=>x.2.handleName?.isSome)=[("errors.errorType",Rows.laid_errors_errorType)]:=by kernel_rfl
 have hn:(LL.filter fun x=>x.2.handleName?.isNone)=[("math/bits.deBruijn32tab",Rows.laid_math_bits_deBruijn32tab),("math/bits.deBruijn64tab",Rows.laid_math_bits_deBruijn64tab),("internal/strconv.uint64pow10",Rows.laid_internal_strconv_uint64pow10),("strconv.ErrRange",Rows.laid_strconv_ErrRange),("strconv.ErrSyntax",Rows.laid_strconv_ErrSyntax),("jobmux/console.forms",Rows.laid_jobmux_console_forms)]:=by kernel_rfl
 unfold laidMetH at h
 rw [hf] at h
 obtain ⟨h1,h2⟩:=(show laidMet Tryz.prog (LL.filter fun x=>x.2.handleName?.isNone) W∧handlesMet Tryz.prog [("errors.errorType",Rows.laid_errors_errorType)] W from h)
 rw [hn] at h1
 obtain ⟨name,u,ty,e1,e2,e3,e4,e5⟩:=h2 _ (List.mem_singleton.2 rfl)
 have en:name=[101,114,114,111,114]:=(Option.some.inj e1).symm
 subst en
 obtain rfl:=Option.some.inj (Xsu.symm.trans e2)
 have hm:ty∈(List.range 297).filter fun t=>Tryz.prog.rowNamed t [101,114,114,111,114]:=List.mem_filter.2 ⟨List.mem_range.2 (by rw [←Xoo];exact e3),e4⟩
 rw [Xqk] at hm
 obtain rfl:=List.mem_singleton.1 hm
 have hh:typeHandle Tryz.prog 81=.pointer (some ⟨10,81,none⟩):=by kernel_rfl
 rw [hh] at e5
 have t1:=h1.tail
 have t2:=t1.tail
 have t3:=t2.tail
 have t4:=t3.tail
 have t5:=t4.tail
 obtain ⟨t,v,hr⟩:=XeY (g:=5) (ti:=81) t3 (by kernel_rfl) (by kernel_rfl) Tryz.underlying81
 obtain ⟨t',v',hs⟩:=XeY (g:=4) (ti:=81) t4 (by kernel_rfl) (by kernel_rfl) Tryz.underlying81
 refine ⟨by simpa using World.var?_cell Xst e5 0,⟨_,_,hs⟩,⟨_,_,hr⟩,?_,XhZ t5,?_⟩
 ·exact Lib.tabIs_of_head (g:=3) (t:=236) (e:=38) (n:=20) (by kernel_rfl) (by kernel_rfl) (by kernel_rfl) (by kernel_rfl) (by kernel_rfl) (by kernel_rfl) t2
 ·have h0:(((begin Tryz.prog (fun _ _=>0) default).world.heap[gN - 1]?).bind Obj.row?).isSome=true:=by kernel_rfl
  obtain ⟨⟨z,t⟩,hz⟩:=Option.isSome_iff_exists.1 h0
  obtain ⟨cs,hh,-⟩:=hS.1 (gN - 1) z t (of_decide_eq_true (by kernel_rfl)) hz
  have h1:=(Array.getElem?_eq_some_iff.1 hh).1
  have h2:1≤gN:=by decide
  omega
noncomputable def laidWorld (os:Os):World:=
 let w0:=World.holding Tryz.prog os ⟨#[],#[],[]⟩
 { w0 with heap:=w0.heap.modify 1 fun
   | .cells _ t frozen=>.cells #[.iface 196 (.agg #[.pointer (some ⟨10,81,none⟩)])] t frozen
   | o=>o }
noncomputable def laidWorldL (os:Os) (L:List (String × DataW Unit)):World:=(laidWorld os).layVars Tryz.prog (L.filter fun x=>x.2.handleName?.isNone)
theorem Xh5 (os:Os) (L:List (String × DataW Unit)):(laidWorldL os L).os=os:=(World.layVars_os _ _ _).trans rfl
theorem Xg3 {os:Os} {L:List (String × DataW Unit)} (args:Array Value) (hf:(laidWorld os).layFits Tryz.prog (L.filter fun x=>x.2.handleName?.isNone) []=true) (hi:(laidWorld os).layIfaces Tryz.prog (L.filter fun x=>x.2.handleName?.isNone) (laidWorldL os L)=true)
  (hh:(L.filter fun x=>x.2.handleName?.isSome).all (handleAtB Tryz.prog (laidWorldL os L))=true):laidMetH Tryz.prog L ((laidWorldL os L).forCall (fun _ _=>0) ⟨#[],args,[]⟩).memory:=by
 have h:laidMetH Tryz.prog L (laidWorldL os L):=by
  refine laidMetH_of_parts ?_ hh
  generalize hL:(L.filter fun x=>x.2.handleName?.isNone)=L' at *
  have e1:(L'.filter fun x=>(L'.map (·.1)).contains x.1)=L':=List.filter_eq_self.2 fun x hx=>List.contains_iff_mem.2 (List.mem_map.2 ⟨x,hx,rfl⟩)
  have e2:(L'.filter fun x=>!(L'.map (·.1)).contains x.1)=[]:=List.filter_eq_nil_iff.2 fun x hx=>by rw [List.contains_iff_mem.2 (List.mem_map.2 ⟨x,hx,rfl⟩)];simp
  exact laidMet_layVars (w0:=laidWorld os) (L'.map (·.1)) [] (by rw [e1];unfold laidWorldL;rw [hL]) (by rw [e1];exact hf) (by rw [e1];exact hi) (by rw [e2];exact LaidIn.none)
 exact h.of_heap (by simp [World.memory,World.forCall,Input.heap])
section
variable {H:Type} {enc:TypeId × Value→H}
end
open Go.RowKit Go Go.ChangeShapes Go.Deep
section
variable {H:Type} {enc:TypeId × Value→H}
theorem XfM {a:Assume} {C:Checked} {os:Os} {f:FuncId} {fn:Func} {s:OpenSpec} {k:(H:Type)→List (DataW H)→Bool} (hk:s.cond=some k) {F:Stop.Interp} {conds:List PathCond} {apart fresh handsOn again:Bool} {X:World→Array Value→Prop}
  (hX:∀(w w':World) (args:Array Value),w.heap=w'.heap→X w args→X w' args)
  (own:ownKnob C.prog.godebug=none) (started:os.Started) (noInit:C.prog.inits.idxOf? f=none) (hfn:C.prog.funcs[f]?=some fn)
  (witness:∃(w:World) (tape:Tape) (i:Input),w.os=os∧(w.forCall tape i).Shaped C.prog∧i.vars=[]∧Input.okWide C.prog (w.forCall tape i) .any w.heap.size f i ∧
   ((s.pre enc C.prog fn conds apart (w.forCall tape i).memory i.args∧X (w.forCall tape i).memory i.args)∧sizedMet enc C.prog fn s apart (w.forCall tape i).memory i.args)∧a.holds C.prog (lone (Frame.enter C.prog f i.args .normal) [] (w.forCall tape i)))
  (contract:∀(W:World) (base:Nat) (args:Array Value) (ds gs:List (DataW H)) (before:List MemPlace),
   (∀(j:Nat) t v,fn.params[j]?=some t→args[j]?=some v→Value.okWide C.prog W .any base t v) →
   DataW.Whole enc C.prog fn.params.toList s.vars apart W args.toList ds gs before →
   conds.all (PathCond.test C.prog ⟨fn.params.toList,ds,s.bare.plain.varTypes C.prog,gs⟩)=true→k H (ds++gs)=true→X W args→W.ShapedOpen C.prog →
   (DataW.weightsEach C.prog (fn.params.toList++s.bare.plain.varTypes C.prog) (ds++gs)).all (·≤reachBytes)=true →
   Calls C.prog f args W fun e W'=>∃v,e=.returned v∧(s.at F).post enc C.prog fn apart fresh handsOn again W args v W') :
  ReturnsInHanded a C os f .any (fun w args=>(s.pre enc C.prog fn conds apart w args∧X w args)∧sizedMet enc C.prog fn s apart w args) ((s.at F).post enc C.prog fn apart fresh handsOn again):=by
 refine returnsInHanded_of_calls own started noInit witness fun w tape i _ hsh _ hok hpre _=>?_
 obtain ⟨_,_,_,fn',hfn',_,_,_,_,hval⟩:=hok
 obtain rfl:fn'=fn:=Option.some.inj (hfn'.symm.trans hfn)
 obtain ⟨⟨hp,hx⟩,hz⟩:=hpre
 obtain ⟨ds,gs,before,hw,hc,hkk⟩:=(OpenSpec.pre_some hk conds apart _ _).1 hp
 refine (contract (w.forCall tape i) w.heap.size i.args ds gs before hval (DataW.Whole.of_heap (w':=w.forCall tape i) (by rfl) hw) hc hkk (hX _ _ _ (by rfl) hx) hsh (hz.weights hw)).mono fun e W' ⟨v,he,hp⟩=>?_
 subst he
 exact ChangeSpec.post_blind hp
theorem Xpq {C:Checked} {os:Os} {f:FuncId} {fn:Func} {s:OpenSpec} {k:(H:Type)→List (DataW H)→Bool} (hk:s.cond=some k) {conds:List PathCond} {apart:Bool} {X:World→Array Value→Prop} (modest:Bool) (w0:World) (args:Array Value) (fuel:Nat) (hos:w0.os=os)
  (hv:(w0.forCall (fun _ _=>0) ⟨#[],args,[]⟩).variablesB C.prog=true)
  (hr:((w0.forCall (fun _ _=>0) ⟨#[],args,[]⟩).heap.toList.drop C.prog.globals.size).take ((begin C.prog (fun _ _=>0) default).world.heap.size - C.prog.globals.size) =
   (begin C.prog (fun _ _=>0) default).world.heap.toList.drop C.prog.globals.size)
  (hok:Input.okWideB C.prog (w0.forCall (fun _ _=>0) ⟨#[],args,[]⟩) f ⟨#[],args,[]⟩=true)
  (x:List (DataW H) × List (DataW H) × List MemPlace) (hx:DataW.whole enc C.prog (w0.forCall (fun _ _=>0) ⟨#[],args,[]⟩).memory fn.params.toList s.vars apart args.toList fuel=some x)
  (hconds:conds.all (PathCond.test C.prog ⟨fn.params.toList,x.1,s.bare.plain.varTypes C.prog,x.2.1⟩)=true) (hkk:k H (x.1++x.2.1)=true)
  (hsz:s.bare.sizedB enc C.prog fn apart (w0.forCall (fun _ _=>0) ⟨#[],args,[]⟩).memory args fuel=true)
  (hX:X (w0.forCall (fun _ _=>0) ⟨#[],args,[]⟩).memory args) :
  ∃(w:World) (tape:Tape) (i:Input),w.os=os∧(w.forCall tape i).Shaped C.prog∧i.vars=[]∧Input.okWide C.prog (w.forCall tape i) .any w.heap.size f i ∧
   ((s.pre enc C.prog fn conds apart (w.forCall tape i).memory i.args∧X (w.forCall tape i).memory i.args)∧sizedMet enc C.prog fn s apart (w.forCall tape i).memory i.args)∧({ modest:=modest }:Assume).holds C.prog (lone (Frame.enter C.prog f i.args .normal) [] (w.forCall tape i)):=
 ⟨w0,fun _ _=>0,⟨#[],args,[]⟩,hos,World.shaped_of_B hv hr,(Input.okWide_of_okWideB (base:=0) hok).1,(Input.okWide_of_okWideB hok).2,⟨⟨(OpenSpec.pre_some hk conds apart _ _).2 ⟨x.1,x.2.1,x.2.2,DataW.Whole_of_whole hx,hconds,hkk⟩,hX⟩,sizedMet_of_sizedB hsz⟩,by
  simp only [Assume.holds]
  exact ⟨by simp,by simp,fun _=>Modest.zero,by simp,by simp⟩⟩
end
end Go.Proofs.YtdpobjakdplljaaGreatDoor

import Derived.Test.YtdpobjakdplljaaGreatDoorV28
import Derived.Test.YtdpobjakdplljaaGreatDoorV16
import Derived.Test.YtdpobjakdplljaaGreatDoorV17
import Derived.Test.YtdpobjakdplljaaGreatDoorV6
import Derived.Test.YtdpobjakdplljaaGreatDoorV27
import Derived.Test.YtdpobjakdplljaaGreatDoorV8
/- The mill: events of a server. -/
set_option linter.unusedSimpArgs false
set_option linter.unusedVariables false
set_option maxRecDepth 100000
set_option maxHeartbeats 8000000
namespace Go.Proofs.YtdpobjakdplljaaGreatDoor
open Go.RowKit
def ck (v:Nat):Int:=if v=0 then 13 else 12
theorem XuG {m:Nat} {d:List UInt8} {c:Int} {v:Nat} (h1:0≤c) (h2:c≤3) (hd:d.length≤m) (hv:v < 2):SE m ⟨ck v,[],false,0,d,0,c,0⟩:=by
 match v,hv with
 | 0,_=>exact XqJ h1 h2 hd rfl
 | 1,_=>exact Xe7 h1 h2 hd rfl
theorem VwL.appE {D:List Hp}:∀{a a' b b':List AV},VwL D a a'→VwL D b b'→VwL D (a++b) (a'++b')
 | _,_,_,_,.nil,h=>h
 | _,_,_,_,.cons x y,h=>.cons x (VwL.appE y h)
theorem Xij (out:List EF) (e:EF):va (out++[e])=va out++e.cells:=by rw [Xpn];simp [va]
theorem Xua (out:List EF) (e d:EF):va (out++[e,d])=va out++(e.cells++d.cells):=by rw [Xpn];simp [va]
theorem XkA {v:Nat} (h:v < 2):(List.drop v [.x (.int .i64 13),.x (.int .i64 12)]).getD 0 AV.top=.x (.int .i64 (ck v)):=by
 match v,h with
 | 0,_|1,_=>rfl
theorem Xiv {p:EF→Prop} {out:List EF} {e:EF} (h:∀x∈out,p x) (he:p e):∀x∈out++[e],p x:=fun x hx=>by
 rcases List.mem_append.1 hx with hx|hx
 ·exact h x hx
 ·rw [List.mem_singleton] at hx;subst hx;exact he
theorem XqZ {p:EF→Prop} {out:List EF} {e d:EF} (h:∀x∈out,p x) (he:p e) (hd:p d):∀x∈out++[e,d],p x:=fun x hx=>by
 rcases List.mem_append.1 hx with hx|hx
 ·exact h x hx
 ·rcases List.mem_cons.1 hx with rfl|hx
  ·exact he
  ·rw [List.mem_singleton] at hx;subst hx;exact hd
theorem Xph (out:List EF) (e:EF):sw (out++[e])=sw out+(4*e.data.length+40):=by simp [sw]
theorem Xt4 (out:List EF) (e d:EF):sw (out++[e,d])=sw out+(4*e.data.length+40)+(4*d.data.length+40):=by simp [sw];omega
theorem XsE (bd:Nat) (l:List Int) (k n:Nat) (hd:DK l) (hk:k≤l.length) (hn:n≤14):Xa8 Tryz.prog 30 [.box bd [.sq l.length (ia l),.x (.int .i64 k)]] [.x (.pointer (some ⟨bd,0,none⟩)),.x (.int .i64 n)] (fun r H'=>∃(out:List EF) (k':Nat),r=.sq out.length (va out)∧H'=[.box bd [.sq l.length (ia l),.x (.int .i64 k')]]∧k'≤l.length∧out.length≤28∧(∀e∈out,SE 1111 e)∧sw out≤64400):=by
 refine XaE Tryz.func30 rfl ?_
 simp only [Tryz.ntmps30,Xu8,Xvb,Xvc,Xvd,Xvg,Xvf,Nat.reduceAdd,Nat.reduceSub]
 refine Xbw 41 8 ?_
 (repeat' (first|with_reducible (first|refine Xai ?_|refine Xac ?_|refine Xat ?_|refine Xae ?_|refine Xaa ?_)|((apply Xad rfl);(case h=>(first|(apply Xab 0 rfl;(first|exact Xar _ rfl|exact Xap _ rfl))|(apply XaD;(case hs=>(intro _ _ h;cases h));(case hx=>rfl);(case hrun=>(intro w;simp [wtb,AV.val,go_sem];(try go_bits);rfl)))));(case hT=>((try simp (disch:=omega) only [wtn,XbX,Xu9,Xu6,Xu7,Xva,Xve,Nat.reduceAdd,Nat.reduceMul,Nat.reduceSub,↓reduceIte,Nat.reduceEqDiff]);rfl)))|(refine Xah rfl ?_;((first|(refine Xaq 11 rfl ?_;(refine Xak 43 Tryz.f43 [_] _ _ _ rfl rfl Tryz.func43 (by decide) rfl (Xvi (l₁:=[_,_])) (VwL.refl _ _) (XbB _ l k (n+1) hd hk (by omega) (by omega)) ?_;rintro _ _ ⟨v0,k0,rfl,rfl,hv0,hk0⟩))|(refine Xaq 14 rfl ?_;(refine XaJ _ _ rfl Xbl.out rfl (fun b=>?_)))|(refine Xaq 16 rfl ?_;(refine Xau _ _ _ _ _ _ _ rfl rfl XaU.out XaS.out (by first|rfl|fail) (by first|exact Xu4 rfl|fail) ?_)));apply Xag;(case hT=>((try simp (disch:=omega) only [wtn,XbX,Xu9,Xu6,Xu7,Xva,Xve,Nat.reduceAdd,Nat.reduceMul,Nat.reduceSub,↓reduceIte,Nat.reduceEqDiff]);rfl));(case hH=>((try simp (disch:=omega) only [wtn,XbX,Xu9,Xu6,Xu7,Xva,Xve,Nat.reduceAdd,Nat.reduceMul,Nat.reduceSub,↓reduceIte,Nat.reduceEqDiff]);rfl))))|fail))
 revert b
 intro bc
 apply XaW (S:=Nat × Nat × Int × List EF × Option Addr × Nat) (fun q=>frm 107 [(0,.x (.pointer (some ⟨bd,0,none⟩))),(5,.x (.slice q.2.2.2.2.1 q.2.2.2.1.length q.2.2.2.2.2)),(6,.x (.pointer (some ⟨bc,0,none⟩))),(7,.x (.int .i64 q.1))])
  (fun q=>[.box bd [.sq l.length (ia l),.x (.int .i64 q.2.1)],.box bc [.x (.int .u64 q.2.2.1)],.row q.2.2.2.2.1 q.2.2.2.1.length q.2.2.2.2.2 41 8 (va q.2.2.2.1)])
  (fun q=>q.1≤14∧q.2.1≤l.length∧(0≤q.2.2.1∧q.2.2.1+24*q.1≤400)∧q.2.2.2.1.length+2*q.1≤28∧(∀e∈q.2.2.2.1,SE 1111 e)∧sw q.2.2.2.1+q.1*4600≤64400) (fun q=>q.1) (v0,k0,0,[],none,0)
 case h0=>exact XaH.mk' [] [.box bd _,.box bc _,.row _ _ _ _ _ _] (by (repeat' (first|exact Xu5 _|fail))) (XaB.refl _ _) (by (repeat' (first|exact VwL.nil|(refine VwL.cons ?_ ?_)|exact Vw.refl _|exact Vw.top _|fail)))
 case hi=>exact ⟨by simp only;omega,hk0,⟨by simp,by simp only;omega⟩,by simp;omega,by simp,by simp [sw];omega⟩
 rintro ⟨m,kk,c,out,ad0,cap0⟩ ⟨g1,g2,g3,g4,g5,g6⟩
 simp only at g1 g2 g3 g4 g5 g6
 have g5':=Lib.hid g5
 have g6':=Lib.hid g6
 clear g5 g6
 simp only [frm,Xvc,Xvd,Xu6,Xu7,Xvj,Xvk]
 by_cases hm:0 < m
 ·(repeat' (first|with_reducible (first|refine Xai ?_|refine Xac ?_|refine Xat ?_|refine Xaw ?_|refine Xae ?_|refine Xaa ?_|refine Xaj ?_)|(refine Xal _ rfl (fun h=>?_) (fun h=>?_)<;>((try (simp only [whn] at h));first|(exfalso;omega;done)|skip))|((apply Xad rfl);(case h=>(first|(apply Xab 0 rfl;(first|exact Xar _ rfl|exact Xap _ rfl))|(apply Xab 3 rfl;(exact Xa2 _ _ _ _ _ _ HEl.out rfl rfl))|(apply Xab 10 rfl;(exact XcY _ _ _ _ rfl HPl.out (by decide) rfl (by simp [wtb,AV.one,Value.oneCell'])))|(apply Xab 17 rfl;(exact Xdq _ _ _ _ _ _ _ _ rfl XaZ.out (by first|rfl|fail) rfl (by decide) rfl))|(apply XaD;(case hs=>(intro _ _ h;cases h));(case hx=>rfl);(case hrun=>(intro w;simp [wtb,AV.val,go_sem];(try go_bits);rfl)))));(case hT=>((try simp only [wtn,Xu6,Xu7,Nat.reduceAdd,Nat.reduceMul,↓reduceIte]);rfl)))|(refine Xah rfl ?_;((first|(refine Xaq 11 rfl ?_;(first|(refine Xak 59 Tryz.f59 [_] _ _ _ rfl rfl Tryz.func59 (by decide) rfl (Xu5 _) (VwL.refl _ _) (XcT _ l kk 0 3 hd g2 (by omega) (by omega)) ?_;rintro _ _ ⟨id,k1,rfl,rfl,hid1,hid2,hk1⟩)|(refine Xak 43 Tryz.f43 [_] _ _ _ rfl rfl Tryz.func43 (by decide) rfl (Xu5 _) (VwL.refl _ _) (XbB _ l k1 8 hd hk1 (by omega) (by omega)) ?_;rintro _ _ ⟨w,k2,rfl,rfl,hw,hk2⟩)|(refine Xak 59 Tryz.f59 [_] _ _ _ rfl rfl Tryz.func59 (by decide) rfl (Xu5 _) (VwL.refl _ _) (XcT _ l k2 1 8 hd hk2 (by omega) (by omega)) ?_;rintro _ _ ⟨v3,k3,rfl,rfl,hv3,hv3',hk3⟩)|(refine Xak 59 Tryz.f59 [_] _ _ _ rfl rfl Tryz.func59 (by decide) rfl (Xu5 _) (VwL.refl _ _) (XcT _ l k3 1 24 hd hk3 (by omega) (by omega)) ?_;rintro _ _ ⟨v4,k4,rfl,rfl,hv4,hv4',hk4⟩)|(refine Xak 60 Tryz.f60 [] _ _ _ rfl rfl Tryz.func60 (by decide) rfl (Xu5 _) (VwL.cons (Vw.aggx (by (repeat' (first|exact VwL.nil|(refine VwL.cons ?_ ?_)|exact Vw.refl _|exact Vw.nil|fail)))) VwL.nil) (Xlc ⟨1,v3,v4,[],[]⟩ (Xhk rfl hv3 hv3' hv4 hv4')) ?_;rintro _ _ ⟨fr,rfl,rfl,hf1,hf2⟩)|(refine Xak 61 Tryz.f61 [_] _ _ _ rfl rfl Tryz.func61 (by decide) rfl (Xu5 _) (VwL.refl _ _) (XnD _ l k2 hd hk2) ?_;rintro _ _ ⟨cm,k3,rfl,rfl,hk3,hcm⟩)|(refine Xak 60 Tryz.f60 ([]) _ _ _ rfl rfl Tryz.func60 (by decide) rfl (Xu5 _) (VwL.refl _ _) (Xlc cm hcm) ?_;rintro _ _ ⟨fr,rfl,rfl,hf1,hf2⟩)|(refine Xak 43 Tryz.f43 [_] _ _ _ rfl rfl Tryz.func43 (by decide) rfl (Xu5 _) (VwL.refl _ _) (XbB _ l k3 fr.length hd hk3 (by omega) (by omega)) ?_;rintro _ _ ⟨v4,k4,rfl,rfl,hv4,hk4⟩)|(refine Xak 43 Tryz.f43 [_] _ _ _ rfl rfl Tryz.func43 (by decide) rfl (Xu5 _) (VwL.refl _ _) (XbB _ l k2 300 hd hk2 (by omega) (by omega)) ?_;rintro _ _ ⟨v3,k3,rfl,rfl,hv3,hk3⟩)|(refine Xak 63 Tryz.f63 ([_,_]) _ _ _ rfl rfl Tryz.func63 (by decide) rfl (Xu5 _) (VwL.refl _ _) (XrS bd bc l k2 c hd hk2 (by omega)) ?_;rintro _ _ ⟨e,k3,c3,rfl,rfl,hk3,hse,hc1,hc2⟩)))|(refine Xaq 13 rfl ?_;(refine XaP _ _ _ _ _ _ _ _ _ _ _ _ _ _ rfl rfl Xb9.out (Src.sq rfl) XaZ.out (by first|rfl|fail) (Xei _ _ (by omega) (by decide)) (fun ad cap=>?_))));apply Xag;(case hT=>((try simp only [wtn]);rfl));(case hH=>((try simp only [wtn,Nat.reduceAdd]);rfl))))|fail))
  ·refine ⟨(m - 1,k2,c,out++[⟨11,[],false,0,[],0,id,0⟩],ad,cap),by simp only;omega,⟨by simp only;omega,by simp only;assumption,⟨by simp only;omega,by simp only;omega⟩,by simp only [Xvh,Xu8,Xvb];omega,Xiv g5'.out (Xo9 (by omega) (by omega) rfl),by have:=g6'.out;simp only [Xph,Xvb];omega⟩,?_⟩
   simp only [Xvh,Xu8,Xvb,Xij,EF.cells]
   exact XaH.mk' [] [.box bd _,.box bc _,.row ad _ cap _ _ _] (by (repeat' (first|exact Xu5 _|fail))) (XaB.cons (VwH.refl _ _) (XaB.cons (VwH.refl _ _) (XaB.cons (VwH.row _ _ _ _ _ (VwL.appE (VwL.refl _ _) (by (repeat' (first|exact VwL.nil|(refine VwL.cons ?_ ?_)|exact Vw.refl _|exact Vw.nil|fail))))) XaB.nil))) (by (repeat' (first|exact VwL.nil|(refine VwL.cons ?_ ?_)|exact Vw.refl _|exact Vw.top _|(refine Vw.eq ?_;(congr 3;omega))|fail)))
  ·refine ⟨(m - 1,k4,c,out++[⟨11,[],false,0,[],0,id,0⟩,⟨12,[],false,0,fr,0,id,0⟩],ad,cap),by simp only;omega,⟨by simp only;omega,by simp only;assumption,⟨by simp only;omega,by simp only;omega⟩,by simp only [Xvh,Xu8,Xvb];omega,XqZ g5'.out (Xo9 (by omega) (by omega) rfl) (Xe7 (by omega) (by omega) hf2 rfl),by have:=g6'.out;simp only [Xt4,Xvb];omega⟩,?_⟩
   simp only [Xvh,Xu8,Xvb,Xua,EF.cells]
   exact XaH.mk' [] [.box bd _,.box bc _,.row ad _ cap _ _ _] (by (repeat' (first|exact Xu5 _|fail))) (XaB.cons (VwH.refl _ _) (XaB.cons (VwH.refl _ _) (XaB.cons (VwH.row _ _ _ _ _ (VwL.appE (VwL.refl _ _) (by (repeat' (first|exact VwL.nil|(refine VwL.cons ?_ ?_)|exact Vw.refl _|exact Vw.nil|fail))))) XaB.nil))) (by (repeat' (first|exact VwL.nil|(refine VwL.cons ?_ ?_)|exact Vw.refl _|exact Vw.top _|(refine Vw.eq ?_;(congr 3;omega))|fail)))
  ·refine ⟨(m - 1,k3,c,out++[⟨12,[],false,0,fr,0,id,0⟩],ad,cap),by simp only;omega,⟨by simp only;omega,by simp only;assumption,⟨by simp only;omega,by simp only;omega⟩,by simp only [Xvh,Xu8,Xvb];omega,Xiv g5'.out (Xe7 (by omega) (by omega) hf2 rfl),by have:=g6'.out;simp only [Xph];omega⟩,?_⟩
   simp only [Xvh,Xu8,Xvb,Xij,EF.cells]
   exact XaH.mk' [] [.box bd _,.box bc _,.row ad _ cap _ _ _] (by (repeat' (first|exact Xu5 _|fail))) (XaB.cons (VwH.refl _ _) (XaB.cons (VwH.refl _ _) (XaB.cons (VwH.row _ _ _ _ _ (VwL.appE (VwL.refl _ _) (by (repeat' (first|exact VwL.nil|(refine VwL.cons ?_ ?_)|exact Vw.refl _|fail))))) XaB.nil))) (by (repeat' (first|exact VwL.nil|(refine VwL.cons ?_ ?_)|exact Vw.refl _|exact Vw.top _|(refine Vw.eq ?_;(congr 3;omega))|fail)))
  ·refine Xdi (B:=[]) (R:=[_,_,_]) mixed [0,1,2,3,4,5,6,7,8,9,10,11,12,13] [12] [] none [] 0 (Xu5 _) (by decide +kernel) rfl (fun i o h=>by cases h) (by decide) ?_
   (repeat' (first|(apply XcL rfl rfl;(case h=>(intro H1;(try simp only [Xvf]);(first|(apply Xab 0 rfl;(first|exact Xar _ rfl|exact Xap _ rfl))|(apply Xab 9 rfl;(exact Xcl _ _ _ _ _ _ _ _ _ _ rfl rfl HEl.out (by first|exact .inl ⟨rfl,rfl⟩|exact .inr ⟨_,_,rfl,rfl⟩|fail) (by first|exact .inl ⟨rfl,rfl⟩|exact .inr ⟨_,_,rfl,rfl⟩|fail) (by omega) (by omega)))|(apply Xab 10 rfl;(exact XaY _ _ _ _ _ rfl HPl.out (by first|rfl|fail) rfl))|(apply Xab 17 rfl;(exact Xdq _ _ _ _ _ _ _ _ rfl XaZ.out (by first|rfl|fail) rfl (by decide) rfl)))));(case hT=>((try simp (disch:=omega) only [wtn,Xef,XfA,Nat.sub_zero,Xu9,Xu6,Xu7,Xva,Xve,Nat.reduceAdd,Nat.reduceMul,Nat.reduceSub,↓reduceIte,Nat.reduceEqDiff]);rfl)))|(apply Xdl rfl rfl;(refine Xaq 13 rfl ?_;(refine XaP _ _ _ _ _ _ _ _ _ _ _ _ _ _ rfl rfl Xb9.out (Src.sq rfl) XaZ.out (by first|rfl|fail) (Xei _ _ (by omega) (by decide)) (fun ad cap=>?_)));refine ⟨_,rfl,?_⟩;apply Xdk;(case hT=>((try simp (disch:=omega) only [wtn,Xef,XfA,Nat.sub_zero,Xu9,Xu6,Xu7,Xva,Xve,Nat.reduceAdd,Nat.reduceMul,Nat.reduceSub,↓reduceIte,Nat.reduceEqDiff]);rfl));(case hH=>((try simp (disch:=omega) only [wtn,Xef,XfA,Nat.sub_zero,Xu9,Xu6,Xu7,Xva,Xve,Nat.reduceAdd,Nat.reduceMul,Nat.reduceSub,↓reduceIte,Nat.reduceEqDiff]);rfl)))|fail))
   (first|refine Xb1 ?_|fail);(apply Xav;(case hT=>rfl);(case hH=>(simp only [Xvf];rfl)));skip;refine Xa0 (by decide +kernel) ?_
   (repeat' (first|with_reducible (first|refine Xac ?_|refine Xae ?_|refine Xaa ?_|refine Xaj ?_)|((apply Xad rfl);(case h=>(first|(apply Xab 0 rfl;(first|exact Xar _ rfl|exact Xap _ rfl))|(apply XaD;(case hs=>(intro _ _ h;cases h));(case hx=>rfl);(case hrun=>(intro w;simp [wtb,AV.val,go_sem];(try go_bits);rfl)))));(case hT=>((try simp only [wtn]);rfl)))|fail))
   have e1:(fr.take v4).length=v4:=by simp;omega
   have e2:((fr.drop v4).take (fr.length - v4)).length=fr.length - v4:=by simp
   refine ⟨(m - 1,k4,c,out++[⟨12,[],false,0,fr.take v4,0,id,0⟩,⟨12,[],false,0,(fr.drop v4).take (fr.length - v4),0,id,0⟩],ad,cap),by simp only;omega,⟨by simp only;omega,by simp only;assumption,⟨by simp only;omega,by simp only;omega⟩,by simp only [Xvh,Xu8,Xvb];omega,XqZ g5'.out (Xe7 (by omega) (by omega) (by omega) rfl) (Xe7 (by omega) (by omega) (by omega) rfl),by have:=g6'.out;simp only [Xt4,e1,e2];omega⟩,?_⟩
   simp only [Xvh,Xu8,Xvb,Xua,EF.cells,e1,e2]
   exact XaH.mk' [] [.box bd _,.box bc _,.row ad _ cap _ _ _] (by (repeat' (first|exact Xu5 _|fail))) (XaB.cons (VwH.refl _ _) (XaB.cons (VwH.refl _ _) (XaB.cons (VwH.row _ _ _ _ _ (VwL.appE (VwL.refl _ _) (by (repeat' (first|exact VwL.nil|(refine VwL.cons ?_ ?_)|exact Vw.refl _|fail))))) XaB.nil))) (by (repeat' (first|exact VwL.nil|(refine VwL.cons ?_ ?_)|exact Vw.refl _|exact Vw.top _|(refine Vw.eq ?_;(congr 3;omega))|fail)))
  ·refine ⟨(m - 1,k3,c,out++[⟨14,[],false,0,[],0,id,v3 - 5⟩],ad,cap),by simp only;omega,⟨by simp only;omega,by simp only;assumption,⟨by simp only;omega,by simp only;omega⟩,by simp only [Xvh,Xu8,Xvb];omega,Xiv g5'.out (XqK (by omega) (by omega) (by omega) (by omega) rfl),by have:=g6'.out;simp only [Xph,Xvb];omega⟩,?_⟩
   simp only [Xvh,Xu8,Xvb,Xij,EF.cells]
   exact XaH.mk' [] [.box bd _,.box bc _,.row ad _ cap _ _ _] (by (repeat' (first|exact Xu5 _|fail))) (XaB.cons (VwH.refl _ _) (XaB.cons (VwH.refl _ _) (XaB.cons (VwH.row _ _ _ _ _ (VwL.appE (VwL.refl _ _) (by (repeat' (first|exact VwL.nil|(refine VwL.cons ?_ ?_)|exact Vw.refl _|exact Vw.nil|fail))))) XaB.nil))) (by (repeat' (first|exact VwL.nil|(refine VwL.cons ?_ ?_)|exact Vw.refl _|exact Vw.top _|(refine Vw.eq ?_;(congr 3;omega))|fail)))
  ·refine Xdi (B:=[]) (R:=[_,_,_]) mixed [0,1,2,6,7,3,4,5,8,9,10,11,12] [3,8,11] [] none [] 0 (Xu5 _) (by decide +kernel) rfl (fun i o h=>by cases h) (by decide) ?_
   (repeat' (first|(apply XcL rfl rfl;(case h=>(intro H1;(try simp only [Xvf]);(first|(apply Xab 0 rfl;(first|exact Xar _ rfl|exact Xap _ rfl))|(apply Xab 6 rfl;(exact XaG _ _ _ _ _ rfl rfl XaM.out (by first|(simp [wlq];omega)|fail) (by first|(simp [wlq];omega)|fail)))|(apply Xab 7 rfl;(exact XaI _ _ _ _ _ _ _ _ _ _ rfl rfl rfl HEl.out rfl (by first|omega|fail) (by simp;first|done|fail)))|(apply Xab 10 rfl;(exact XaY _ _ _ _ _ rfl HPl.out (by first|rfl|fail) rfl))|(apply Xab 17 rfl;(first|exact XbU _ _ _ _ _ _ rfl XaZ.out rfl (by first|rfl|fail) rfl rfl (by decide)|exact Xdq _ _ _ _ _ _ _ _ rfl XaZ.out (by first|rfl|fail) rfl (by decide) rfl)))));(case hT=>((try simp (disch:=assumption) only [wtn,XkA,Xu9,Xu6,Xu7,Xva,Xve,Nat.reduceAdd,Nat.reduceMul,Nat.reduceSub,↓reduceIte,Nat.reduceEqDiff]);rfl)))|(apply Xdl rfl rfl;(first|(refine Xaq 11 rfl ?_;(first|(refine Xak 43 Tryz.f43 [_] _ _ _ rfl rfl Tryz.func43 (by decide) rfl (Xu5 _) (VwL.refl _ _) (XbB _ l k2 2 hd hk2 (by omega) (by omega)) ?_;rintro _ _ ⟨v3,k3,rfl,rfl,hv3,hk3⟩)|(refine Xak 62 Tryz.f62 [_] _ _ _ rfl rfl Tryz.func62 (by decide) rfl (Xu5 _) (VwL.refl _ _) (Xh4 _ l k3 hd hk3) ?_;rintro _ _ ⟨ou,k4,rfl,rfl,hou,hk4⟩)))|(refine Xaq 13 rfl ?_;(refine XaP _ _ _ _ _ _ _ _ _ _ _ _ _ _ rfl rfl Xb9.out (Src.sq rfl) XaZ.out (by first|rfl|fail) (Xei _ _ (by omega) (by decide)) (fun ad cap=>?_))));refine ⟨_,rfl,?_⟩;apply Xdk;(case hT=>((try simp (disch:=omega) only [wtn,XkA,Xu9,Xu6,Xu7,Xva,Xve,Nat.reduceAdd,Nat.reduceMul,Nat.reduceSub,↓reduceIte,Nat.reduceEqDiff]);rfl));(case hH=>((try simp (disch:=omega) only [wtn,XkA,Xu9,Xu6,Xu7,Xva,Xve,Nat.reduceAdd,Nat.reduceMul,Nat.reduceSub,↓reduceIte,Nat.reduceEqDiff]);rfl)))|fail))
   (first|refine Xb1 ?_|fail);(apply Xav;(case hT=>rfl);(case hH=>(simp only [Xvf];rfl)));skip;refine Xa0 (by decide +kernel) ?_
   (repeat' (first|with_reducible (first|refine Xac ?_|refine Xae ?_|refine Xaa ?_|refine Xaj ?_)|((apply Xad rfl);(case h=>(first|(apply Xab 0 rfl;(first|exact Xar _ rfl|exact Xap _ rfl))|(apply XaD;(case hs=>(intro _ _ h;cases h));(case hx=>rfl);(case hrun=>(intro w;simp [wtb,AV.val,go_sem];(try go_bits);rfl)))));(case hT=>((try simp only [wtn]);rfl)))|fail))
   refine ⟨(m - 1,k4,c,out++[⟨ck v3,[],false,0,ou,0,id,0⟩],ad,cap),by simp only;omega,⟨by simp only;omega,by simp only;assumption,⟨by simp only;omega,by simp only;omega⟩,by simp only [Xvh,Xu8,Xvb];omega,Xiv g5'.out (XuG (by omega) (by omega) (by omega) hv3),by have:=g6'.out;simp only [Xph];omega⟩,?_⟩
   simp only [Xvh,Xu8,Xvb,Xij,EF.cells]
   exact XaH.mk' [] [.box bd _,.box bc _,.row ad _ cap _ _ _] (by (repeat' (first|exact Xu5 _|fail))) (XaB.cons (VwH.refl _ _) (XaB.cons (VwH.refl _ _) (XaB.cons (VwH.row _ _ _ _ _ (VwL.appE (VwL.refl _ _) (by (repeat' (first|exact VwL.nil|(refine VwL.cons ?_ ?_)|exact Vw.refl _|fail))))) XaB.nil))) (by (repeat' (first|exact VwL.nil|(refine VwL.cons ?_ ?_)|exact Vw.refl _|exact Vw.top _|(refine Vw.eq ?_;(congr 3;omega))|fail)))
  ·have hsd:=hse.data
   refine ⟨(m - 1,k3,c3,out++[e],ad,cap),by simp only;omega,⟨by simp only;omega,by simp only;assumption,⟨by simp only;omega,by simp only;omega⟩,by simp only [Xvh,Xu8,Xvb];omega,Xiv g5'.out hse,by have:=g6'.out;simp only [Xph];omega⟩,?_⟩
   simp only [Xvh,Xu8,Xvb,Xij,EF.cells,List.drop_succ_cons,List.drop_zero,List.append_nil]
   exact XaH.mk' [] [.box bd _,.box bc _,.row ad _ cap _ _ _] (by (repeat' (first|exact Xu5 _|fail))) (XaB.cons (VwH.refl _ _) (XaB.cons (VwH.refl _ _) (XaB.cons (VwH.row _ _ _ _ _ (VwL.appE (VwL.refl _ _) (by (repeat' (first|exact VwL.nil|(refine VwL.cons ?_ ?_)|exact Vw.refl _|fail))))) XaB.nil))) (by (repeat' (first|exact VwL.nil|(refine VwL.cons ?_ ?_)|exact Vw.refl _|exact Vw.top _|(refine Vw.eq ?_;(congr 3;omega))|fail)))
 ·obtain rfl:m=0:=by omega
  (repeat' (first|with_reducible (first|refine Xai ?_|refine Xac ?_|refine Xas ?_|refine Xa4 ?_|refine Xae ?_|refine Xaa ?_|refine XaN ?_|refine XaK ?_)|(refine Xal _ rfl (fun h=>?_) (fun h=>?_)<;>first|(exact absurd h (by decide))|((try (simp only [] at h));skip))|((apply Xad rfl);(case h=>(first|(apply Xab 0 rfl;(first|exact Xar _ rfl|exact Xap _ rfl))|(apply XaD;(case hs=>(intro _ _ h;cases h));(case hx=>rfl);(case hrun=>(intro w;simp [wtb,AV.val,go_sem];skip;rfl)))));(case hT=>((try simp only [wtn]);rfl)))|fail))
  refine Xaf _ _ (Xbi rfl (RV.tmp _) (XaH.mk' [.row _ _ _ _ _ _,.box bc _] [.box bd _] (by (repeat' (first|exact Xu5 _|refine (Xvi (l₁:=[_])).trans (Xvl _ ?_)|refine (Xvi (l₁:=[_,_])).trans (Xvl _ ?_)|fail))) (XaB.refl _ _) (VwL.cons (Vw.row (List.Mem.head _) (VwL.refl _ _)) VwL.nil))) ⟨out,kk,rfl,rfl,g2,by omega,g5'.out,by have:=g6'.out;omega⟩
structure EOk (e:EF):Prop where
 job:e.job.length≤1100000
 data:e.data.length≤1100000
 code : -9223372036854775808≤e.code∧e.code≤9223372036854775807
 time:0≤e.time∧e.time≤18446744073709551615
 client : -9223372036854775808≤e.client∧e.client≤9223372036854775807
 num : -9223372036854775808≤e.num∧e.num≤9223372036854775807
def XiM (k:Int):List UInt8:=if 1≤k∧k≤14 then XcU.getD (k.toNat - 1) [] else []
def XiL (k:Int):List UInt8:=if 1≤k∧k≤14 then Xa6.getD (k.toNat - 1) [] else []
theorem Xk0 (e:EF):Xcr e=XiM e.kind++XbP e (XiL e.kind):=by
 unfold Xcr XiM XiL
 split
 ·rfl
 ·simp [XbP]
theorem XpG (k:Int):(XiL k).length≤2:=by
 unfold XiL
 split
 ·exact Xny (by omega)
 ·simp
theorem XpI (k:Int):(XiM k).length≤8:=by
 unfold XiM
 split
 ·exact XrI (by omega)
 ·simp
theorem Xj9 (v:Int) (h0 : -9223372036854775808≤v) (h1:v≤9223372036854775807):(dcI v).length≤21:=by
 unfold dcI
 split
 ·have:=Xds (-v).toNat (by omega);simp;omega
 ·have:=Xds v.toNat (by omega);omega
theorem Xsx (a d:EF):Xa8 Tryz.prog 29 [] [.agg a.cells,.agg d.cells] (fun r H'=>r=.x (.bool (Xek a d))∧H'=[]):=by
 unfold EF.cells
 refine XaE Tryz.func29 rfl ?_
 simp only [Tryz.ntmps29,Xu8,Xvb,Xvc,Xvd,Xvg,Xvf,Nat.reduceAdd,Nat.reduceSub]
 (repeat' (first|with_reducible (first|refine Xai ?_|refine Xac ?_|refine Xas ?_|refine Xae ?_|refine Xaa ?_)|((first|apply Xad rfl|apply Xbe _ _ rfl rfl rfl);(case h=>((try (intro (hp:(_:Bool)=true);((try simp only [Bool.and_eq_true,Bool.not_eq_true',Bool.not_eq_true] at hp);(try simp only [hp,wte]);(try simp only [whn] at hp))));(first|(apply Xab 0 rfl;(first|exact Xar _ rfl|exact Xap _ rfl))|(apply Xab 1 rfl;(exact XbH _ _ _ _ _ rfl rfl rfl rfl))|(apply Xab 5 rfl;(exact Xam _ _ _ _ _ _ rfl rfl Xa3.out))|(apply Xab 6 rfl;(exact Xaz _ _ _ _ _ _ _ _ rfl rfl XaU.out XaM.out (by first|exact Xu4 rfl|fail) (by first|exact Xu4 rfl|fail)))|(apply Xab 12 rfl;(first|exact XbI _ _ 5 _ a.data rfl (by kernel_rfl) (by kernel_rfl) (by kernel_rfl) (Src.sq rfl)|exact XbI _ _ 5 _ d.data rfl (by kernel_rfl) (by kernel_rfl) (by kernel_rfl) (Src.sq rfl)))|(apply XaD;(case hs=>(intro _ _ h;cases h));(case hx=>rfl);(case hrun=>(intro w;simp [wtb,AV.val,go_sem];(try go_bits);rfl))))));(case hT=>((try simp only [wtn,Xu9,Xu6,Xu7,Xva,Xve,Nat.reduceAdd,Nat.reduceMul,Nat.reduceSub,↓reduceIte,Nat.reduceEqDiff]);rfl)))|(refine Xah rfl ?_;((refine Xaq 15 rfl ?_;(refine Xbx _ _ rfl (by first|rfl|fail) (fun b=>?_)));apply Xag;(case hT=>((try simp only [wtn,Xu9,Xu6,Xu7,Xva,Xve,Nat.reduceAdd,Nat.reduceMul,Nat.reduceSub,↓reduceIte,Nat.reduceEqDiff]);rfl));(case hH=>((try simp only [wtn,Xu9,Xu6,Xu7,Xva,Xve,Nat.reduceAdd,Nat.reduceMul,Nat.reduceSub,↓reduceIte,Nat.reduceEqDiff]);rfl))))|fail))
 refine Xaf _ _ (Xbi rfl (RV.tmp _) (XaH.mk' [_,_] [] (Xu5 _) XaB.nil (VwL.refl _ _))) ?_
 exact ⟨rfl,rfl⟩
theorem Xo8 (a b:List EF) (ha:a.length≤1000000):Xa8 Tryz.prog 12 [] [.sq a.length (va a),.sq b.length (va b)] (fun r H'=>r=.x (.bool (XeC a b))∧H'=[]):=by
 refine XaE Tryz.func12 rfl ?_
 simp only [Tryz.ntmps12,Xu8,Xvb,Xvc,Xvd,Xvg,Xvf,Nat.reduceAdd,Nat.reduceSub]
 (repeat' (first|with_reducible (first|refine Xai ?_|refine Xac ?_|refine Xat ?_|refine Xas ?_|refine Xaw ?_|refine Xae ?_|refine Xaa ?_|refine Xay ?_)|(refine Xal _ rfl (fun h=>?_) (fun h=>?_)<;>((try (simp only [whn] at h));skip))|((apply Xad rfl);(case h=>((try (intro (hp:(_:Bool)=true);((try simp only [Bool.and_eq_true,Bool.not_eq_true',Bool.not_eq_true] at hp);(try simp only [hp,wte]);(try simp only [whn] at hp))));(first|(apply Xab 0 rfl;(first|exact Xar _ rfl|exact Xap _ rfl))|(apply Xab 3 rfl;(exact Xa2 _ _ _ _ _ _ HEl.out rfl rfl))|(apply XaD;(case hs=>(intro _ _ h;cases h));(case hx=>rfl);(case hrun=>(intro w;simp [wtb,AV.val,go_sem];(try go_bits);rfl))))));(case hT=>((try simp only [wtn,Xu9,Xu6,Xu7,Xva,Xve,Nat.reduceAdd,Nat.reduceMul,Nat.reduceSub,↓reduceIte,Nat.reduceEqDiff]);rfl)))|fail))
 ·refine Xaf _ _ (Xbi rfl (RV.tmp _) (XaH.mk' [] [] (Xu5 _) (XaB.refl _ _) (by first|exact VwL.refl _ _|fail))) ?_
  exact ⟨by rw [show XeC a b=false by unfold XeC;rw [decide_eq_false (by omega)];rfl];rfl,rfl⟩
 have hlen:a.length=b.length:=by omega
 apply XaW (S:=Nat) (fun q=>frm 27 [(0,.sq a.length (va a)),(1,.sq b.length (va b)),(5,.x (.int .i64 q))]) (fun _=>[]) (fun q=>q≤a.length∧(((a.take q).zip (b.take q)).all fun p=>Xek p.1 p.2)=true) (fun q=>a.length - q) 0
 case h0=>exact (XaH.mk' [] _ (Xu5 _) (XaB.refl _ _) (by (repeat' (first|exact VwL.nil|(refine VwL.cons ?_ ?_)|exact Vw.refl _|exact Vw.top _|fail))))
 case hi=>exact ⟨Nat.zero_le _,by simp⟩
 rintro i ⟨hi,ht⟩
 have ht':=Lib.hid ht
 clear ht
 simp only [frm,Xvc,Xvd,Xu6,Xu7,Xvj,Xvk]
 by_cases hlt:i < a.length
 ·have hlt2:i < b.length:=by omega
  have hE:=Xsx a[i] b[i]
  have hd1:=Xeg a i hlt
  have hd2:=Xeg b i hlt2
  unfold EF.cells at hE
  (repeat' (first|with_reducible (first|refine Xai ?_|refine Xac ?_|refine Xat ?_|refine Xas ?_|refine Xaw ?_|refine Xae ?_|refine Xcd ?_|refine Xaa ?_|refine Xay ?_|refine Xaj ?_|refine Xax ?_)|(with_reducible refine Xbc mixed ?_ ?_;(decide +kernel))|(refine Xal _ rfl (fun h=>?_) (fun h=>?_)<;>((try (simp only [whn] at h));first|(exfalso;omega;done)|skip))|((first|apply Xad rfl|apply XbG rfl);(case h=>((try (intro (hp:(_:Bool)=true);((try simp only [Bool.and_eq_true,Bool.not_eq_true',Bool.not_eq_true] at hp);(try simp only [hp,wte]);(try simp only [whn] at hp))));(first|(apply Xab 0 rfl;(first|exact Xar _ rfl|exact Xap _ rfl))|(apply Xab 3 rfl;(exact Xa2 _ _ _ _ _ _ HEl.out rfl rfl))|(apply Xab 6 rfl;(exact XaG _ _ _ _ _ rfl rfl XaM.out (by first|exact Xu4 rfl|fail) (by first|exact Xu4 rfl|fail)))|(apply Xab 7 rfl;(exact XaI _ _ _ _ _ _ _ _ _ _ rfl rfl rfl HEl.out rfl (by first|omega|fail) (by simp;first|omega|fail)))|(apply Xab 11 rfl;(exact XaA 29 Tryz.f29 _ _ rfl rfl Tryz.func29 (by decide) rfl (VwL.refl _ _) (hE)))|(apply XaD;(case hs=>(intro _ _ h;cases h));(case hx=>rfl);(case hrun=>(intro w;simp [wtb,AV.val,go_sem];(try go_bits);rfl))))));(case hT=>((try simp (disch:=omega) only [wtn,hd1,hd2,Xu9,Xu6,Xu7,Xva,Xve,Nat.reduceAdd,Nat.reduceMul,Nat.reduceSub,↓reduceIte,Nat.reduceEqDiff]);rfl)))|fail))
  ·refine Xaf _ _ (Xbi rfl (RV.tmp _) (XaH.mk' [] [] (Xu5 _) (XaB.refl _ _) (by first|exact VwL.refl _ _|fail))) ?_
   exact ⟨by rw [Xlz hlt hlt2 (by assumption)];rfl,rfl⟩
  ·exact ⟨i+1,by omega,⟨by omega,Xhu hlt hlt2 ht'.out (by assumption)⟩,(XaH.mk' [] _ (Xu5 _) (XaB.refl _ _) (by (repeat' (first|exact VwL.nil|(refine VwL.cons ?_ ?_)|exact Vw.refl _|exact Vw.top _|fail))))⟩
 ·(repeat' (first|with_reducible (first|refine Xai ?_|refine Xac ?_|refine Xas ?_|refine Xa4 ?_|refine Xae ?_|refine Xaa ?_|refine XaN ?_|refine XaK ?_)|(refine Xal _ rfl (fun h=>?_) (fun h=>?_)<;>((try (simp only [whn] at h));first|(exfalso;omega;done)|skip))|((apply Xad rfl);(case h=>((try (intro (hp:(_:Bool)=true);((try simp only [Bool.and_eq_true,Bool.not_eq_true',Bool.not_eq_true] at hp);(try simp only [hp,wte]);(try simp only [whn] at hp))));(first|(apply Xab 0 rfl;(first|exact Xar _ rfl|exact Xap _ rfl))|(apply Xab 3 rfl;(exact Xa2 _ _ _ _ _ _ HEl.out rfl rfl))|(apply XaD;(case hs=>(intro _ _ h;cases h));(case hx=>rfl);(case hrun=>(intro w;simp [wtb,AV.val,go_sem];(try go_bits);rfl))))));(case hT=>((try simp only [wtn,Xu9,Xu6,Xu7,Xva,Xve,Nat.reduceAdd,Nat.reduceMul,Nat.reduceSub,↓reduceIte,Nat.reduceEqDiff]);rfl)))|fail))
  refine Xaf _ _ (Xbi rfl (RV.tmp _) (XaH.mk' [] [] (Xu5 _) (XaB.refl _ _) (by first|exact VwL.refl _ _|fail))) ?_
  have ht:=ht'.out
  rw [List.take_of_length_le (by omega),List.take_of_length_le (by omega)] at ht
  exact ⟨by rw [show XeC a b=true by unfold XeC;rw [decide_eq_true hlen,ht];rfl];rfl,rfl⟩
theorem Xmq {x:List UInt8} {ts:List Tok} (h:lex x=.ok ts):1≤ts.length∧ts.length≤2001∧(∀t∈ts,Xs5 t)∧∀t∈ts,t.text.length≤70000:=by
 obtain ⟨p1,p2,-,-,p5⟩:=(XdW x).2 ts h
 refine ⟨p1,p2,fun t ht hk=>(Xfq x ts h).1 t ht hk,fun t ht=>?_⟩
 unfold lex at h
 split at h
 ·cases h
 ·obtain ⟨qs,e,-,-,-,hl⟩:=Xe3 _ _ _ _ _ (Nat.le_refl _) h
  have:=hl t ht
  omega
section
variable {xs:List (List UInt8)} {i:Nat} (h:i < xs.length) (out:List EF)
end
theorem XsO (l:List Tok) (k:Nat):(ta l).take (k*4)=ta (l.take k):=by
 induction l generalizing k with
 | nil=>simp [ta]
 | cons t l ih=>
   cases k with
   | zero=>simp [ta]
   | succ k=>
     have:=ih k
     simp only [ta,List.flatMap_cons,List.take_succ_cons] at this ⊢
     rw [show (k+1)*4=t.cells.length+k*4 from by simp [Tok.cells];omega,List.take_length_add_append,this]
theorem XsT (l:List EF) (e:EF):va l++[.x (.int .i64 e.kind),.x (.string (bs e.job)),.x (.bool e.ok),.x (.int .i64 e.code),.sq e.data.length (u8a e.data),.x (.int .u64 e.time),.x (.int .i64 e.client),.x (.int .i64 e.num)]=va (l++[e]):=by
 rw [Xpn];simp [va,EF.cells]
open Go.RowKit
def Xuv (x:List UInt8 × Int):AV:=.tup [.x (.string (bs x.1)),.x (.int .i64 x.2)]
theorem Xk1 (e:EF) (he:EOk e) (f:UInt8):(Xcs e f).length≤4400010:=by
 have q0:=he.job
 have q1:=XcG e.data
 have q6:=he.data
 have q2:=Xds e.time.toNat (by have:=he.time;omega)
 have q3:=Xj9 e.code he.code.1 he.code.2
 have q4:=Xj9 e.client he.client.1 he.client.2
 have q5:=Xj9 e.num he.num.1 he.num.2
 unfold Xcs
 split
 ·omega
 split
 ·split<;>simp [wOk,Xdn]
 split
 ·omega
 split
 ·omega
 split
 ·omega
 split<;>omega
theorem Xnl (e:EF) (he:EOk e) (fs:List UInt8):(XbP e fs).length≤fs.length*4500000:=by
 induction fs with
 | nil=>simp [XbP]
 | cons f fs ih=>
   have hf:=Xk1 e he f
   simp only [XbP,List.flatMap_cons,Xvh,Xu8] at ih ⊢
   rw [Nat.succ_mul]
   omega
theorem Xl6 (l:List EF) (i:Nat) (h:i < l.length):Xbr (l.take (i+1))=Xbr (l.take i)++(Xcr l[i]++[10]):=by
 rw [XaX l i h];simp only [Xbr,List.flatMap_append,List.flatMap_cons,List.flatMap_nil,List.append_nil]
section
variable {P:Program} {Δ:List Deferred} {V O:Nat→Prop} {w0 w w':World} {B H H' R:List Hp} {T T':List AV} {a a':Act} {o:Oper} {ops:Array Oper} {Q:XcP} {listed:Array Bool} {fuel:Nat}
def XhE (wr:World) (R:List Hp) (w:World):Prop:=∀k,k < wr.heap.size→¬XcQ R k→w.heap[k]?=wr.heap[k]?
def Xq3 (P:Program) (ops:Array Oper) (Q:XcP) (fuel:Nat) (listed:Array Bool) (T:List AV) (H:List Hp):Prop:=
 ∀Δ V O w0 a w,Rel Δ V O w0 H T a w→XcD P .any ops (lift Δ V O w0 Q) [] (XhE w H) fuel listed a w
def XrA (P:Program) (ops:Array Oper) (Q:XcP) (R:List Hp) (fuel:Nat) (listed:Array Bool) (T:List AV) (H:List Hp):Prop:=
 ∀Δ V O w0 wr a w,Rel Δ V O w0 H T a w→XhE wr R w→wr.heap.size≤w.heap.size→(∀h∈H,∀k,h.blk=some k→XcQ R k∨wr.heap.size≤k)→XcD P .any ops (lift Δ V O w0 Q) [] (XhE wr R) fuel listed a w
theorem Xfh {id:Nat} {l:List Oper} (hm:P.follows .mixedOrders=true) (h:Xq3 P l.toArray Q l.length (Array.replicate l.length false) T H):awp P (.region id l.toArray true) Q T H:=
 XcF hm fun Δ V O w0 a w r=>(h Δ V O w0 a w r).any
theorem Xca {T':List AV} {H':List Hp} (hT:T=T') (hH:H=H') (h:Xq3 P ops Q fuel listed T' H'):Xq3 P ops Q fuel listed T H:=hT▸hH▸h
theorem XbQ {T':List AV} {H':List Hp} (hT:T=T') (hH:H=H') (h:XrA P ops Q R fuel listed T' H'):XrA P ops Q R fuel listed T H:=hT▸hH▸h
theorem XlY (i:Nat) {o:Oper} {l:List Oper} (hi:Xfd l i=some o) (hg:o.guard=none) (hc:XgO l.toArray listed i=true) (hpan:∀c T H,¬Q (.panic c) T H) (av:AV)
  (h:∀V a w,OK V H (ev T) o a w→∃v,(∀w',XhE w H w'→(execOp a.eval o).run P w'=.ok (.value v) w')∧Den (FB V H) w av v) (hK:Xq3 P l.toArray Q fuel (listed.setIfInBounds i true) (Xb4 T o.dst av) H):Xq3 P l.toArray Q (fuel+1) listed T H:=by
 have hi:l.toArray[i]?=some o:=by rw [List.getElem?_toArray,←Xcj];exact hi
 intro Δ V O w0 a w r
 obtain ⟨v,hv,hd⟩:=h V a w (r.oks o)
 unfold XgO at hc
 simp only [Bool.and_eq_true] at hc
 exact XcD.first hi hc.1.1 (fun c a w ⟨T,H,_,hq⟩=>absurd hq (hpan c T H)) (fun j o hj=>by simp at hj) (Region.free_spec hi hc.1.2) (by simpa using hc.2) (.inl ⟨by simp [Region.wanted,hg],hv⟩) (fun _ _ _=>rfl) (hK Δ V O w0 _ w (r.put _ hd))
theorem Xcb (i:Nat) {o:Oper} {l:List Oper} (hi:Xfd l i=some o) (hg:o.guard=none) (hc:XgO l.toArray listed i=true) (hpan:∀c T H,¬Q (.panic c) T H) (av:AV) (h:XlQ P o (ev T) H av) (hK:Xq3 P l.toArray Q fuel (listed.setIfInBounds i true) (Xb4 T o.dst av) H):Xq3 P l.toArray Q (fuel+1) listed T H:=
 XlY i hi hg hc hpan av (fun V a w ok=>by obtain ⟨v,hv,hd⟩:=h V a w ok;exact ⟨v,fun w' _=>hv w',hd⟩) hK
theorem XjX {l:List Oper} (h:XrA P l.toArray Q H fuel listed T H):Xq3 P l.toArray Q fuel listed T H:=fun Δ V O w0 a w r=>
 h Δ V O w0 w a w r (fun _ _ _=>rfl) (Nat.le_refl _) fun x hx k hk=>.inl ⟨x,hx,hk⟩
theorem Xgb (hr:Region.ready .any ops listed=[]) (h:Q .normal T H):XrA P ops Q R fuel listed T H:=fun Δ V O w0 wr a w r _ _ _=>by
 cases fuel with
 | zero=>exact ⟨hr,⟨T,H,r,h⟩⟩
 | succ n=>exact ⟨fun _=>⟨T,H,r,h⟩,fun j hj=>by rw [hr] at hj;cases hj⟩
theorem XjF {j:Nat} (hi:ops[j]?=some o) (hg:o.guard=none) (h:Stp P o T H (XrA P ops Q R fuel (listed.setIfInBounds j true))) (Δ:List Deferred) (V O:Nat→Prop) (w0 wr:World) (r:Rel Δ V O w0 H T a w) (hS:XhE wr R w) (hz:wr.heap.size≤w.heap.size) (hown:∀h∈H,∀k,h.blk=some k→XcQ R k∨wr.heap.size≤k) :
  wpOp P ops (lift Δ V O w0 Q) j (fun a' w'=>(([]:List Nat).contains j=false→XhE wr R w→XhE wr R w')∧XcD P .any ops (lift Δ V O w0 Q) [] (XhE wr R) fuel (listed.setIfInBounds j true) a' w') a w:=by
 unfold wpOp
 simp only [hi]
 rw [if_pos (by simp [Region.wanted,hg])]
 have r0:Rel Δ V O w0 ([]++H) T a w:=r
 refine .inl (h _ _ _ _ a w _ _ r0.aside fun T' H' a' w' hk hr=>?_)
 obtain ⟨r',_⟩:=r0.rejoin hr
 have hS':XhE wr R w':=fun k hk hn=>by
  refine (hr.fr.block k (Nat.lt_of_lt_of_le hk hz) fun ⟨y,hy,e⟩=>?_).trans (hS k hk hn)
  rcases hown y hy k e with h1|h1
  ·exact hn h1
  ·omega
 refine ⟨fun _ _=>hS',hk Δ V O w0 wr a' w' r' hS' (Nat.le_trans hz hr.fr.size) fun x hx k e=>?_⟩
 rcases hr.own x hx k e with ⟨y,hy,e'⟩|h1
 ·exact hown y hy k e'
 ·exact .inr (Nat.le_trans hz h1)
theorem XdI (i:Nat) {o:Oper} {l:List Oper} (hr:Region.ready .any l.toArray listed=[i]) (hi:Xfd l i=some o) (hg:o.guard=none) (h:Stp P o T H (XrA P l.toArray Q R fuel (listed.setIfInBounds i true))):XrA P l.toArray Q R (fuel+1) listed T H:=fun Δ V O w0 wr a w r hS hz hown=>
 ⟨fun h0=>(by rw [hr] at h0;cases h0),fun j hj=>by
  rw [hr,List.mem_singleton] at hj;subst hj
  exact XjF (by rw [List.getElem?_toArray,←Xcj];exact hi) hg h Δ V O w0 wr r hS hz hown⟩
end
open Go.RowKit
section
variable {P:Program} {Δ:List Deferred} {V O:Nat→Prop} {w0 w w':World} {H H' D:List Hp} {T T':List AV} {a:Act} {o:Oper} {ρ:Operand→AV} {Q:XcP}
end
section
variable {P:Program} {H:List Hp} {T:List AV} {o:Oper} {ops:Array Oper} {Q:XcP}
end
end Go.Proofs.YtdpobjakdplljaaGreatDoor

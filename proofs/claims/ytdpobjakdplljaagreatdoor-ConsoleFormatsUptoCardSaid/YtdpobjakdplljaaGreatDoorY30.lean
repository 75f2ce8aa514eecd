import Derived.Test.YtdpobjakdplljaaGreatDoorY29
import Derived.Test.YtdpobjakdplljaaGreatDoorY17
import Derived.Test.YtdpobjakdplljaaGreatDoorY18
/- The mill: events of a server. -/
set_option linter.unusedSimpArgs false
set_option linter.unusedVariables false
set_option maxRecDepth 100000
set_option maxHeartbeats 8000000
namespace Go.Proofs.YtdpobjakdplljaaGreatDoor
open Go.RowKit
def ck (v:Nat):Int:=if v=0 then 13 else 12
theorem Xu4 {m:Nat} {d:List UInt8} {c:Int} {v:Nat} (h1:0≤c) (h2:c≤3) (hd:d.length≤m) (hv:v < 2):SE m ⟨ck v,[],false,0,d,0,c,0⟩:=by
 match v,hv with
 | 0,_=>exact XqX h1 h2 hd rfl
 | 1,_=>exact Xe4 h1 h2 hd rfl
theorem VwL.appE {D:List Hp}:∀{a a' b b':List AV},VwL D a a'→VwL D b b'→VwL D (a++b) (a'++b')
 | _,_,_,_,.nil,h=>h
 | _,_,_,_,.cons x y,h=>.cons x (VwL.appE y h)
theorem Xiq (out:List EF) (e:EF):va (out++[e])=va out++e.cells:=by rw [XjH];simp [va]
theorem Xuz (out:List EF) (e d:EF):va (out++[e,d])=va out++(e.cells++d.cells):=by rw [XjH];simp [va]
theorem XkD {v:Nat} (h:v < 2):(List.drop v [.x (.int .i64 13),.x (.int .i64 12)]).getD 0 AV.top=.x (.int .i64 (ck v)):=by
 match v,h with
 | 0,_|1,_=>rfl
theorem XiC {p:EF→Prop} {out:List EF} {e:EF} (h:∀x∈out,p x) (he:p e):∀x∈out++[e],p x:=fun x hx=>by
 rcases List.mem_append.1 hx with hx|hx
 ·exact h x hx
 ·rw [List.mem_singleton] at hx;subst hx;exact he
theorem Xre {p:EF→Prop} {out:List EF} {e d:EF} (h:∀x∈out,p x) (he:p e) (hd:p d):∀x∈out++[e,d],p x:=fun x hx=>by
 rcases List.mem_append.1 hx with hx|hx
 ·exact h x hx
 ·rcases List.mem_cons.1 hx with rfl|hx
  ·exact he
  ·rw [List.mem_singleton] at hx;subst hx;exact hd
theorem Xph (out:List EF) (e:EF):sw (out++[e])=sw out+(4*e.data.length+40):=by simp [sw]
theorem Xuv (out:List EF) (e d:EF):sw (out++[e,d])=sw out+(4*e.data.length+40)+(4*d.data.length+40):=by simp [sw];omega
theorem Xs5 (bd:Nat) (l:List Int) (k n:Nat) (hd:DK l) (hk:k≤l.length) (hn:n≤14):Xa3 Tryz.prog 30 [.box bd [.sq l.length (ia l),.x (.int .i64 k)]] [.x (.pointer (some ⟨bd,0,none⟩)),.x (.int .i64 n)] (fun r H'=>∃(out:List EF) (k':Nat),r=.sq out.length (va out)∧H'=[.box bd [.sq l.length (ia l),.x (.int .i64 k')]]∧k'≤l.length∧out.length≤28∧(∀e∈out,SE 1111 e)∧sw out≤64400):=by
 refine XaD Tryz.func30 rfl ?_
 simp only [Tryz.ntmps30,Xvy,XvB,XvC,XvD,XvG,XvF,Nat.reduceAdd,Nat.reduceSub]
 refine Xbt 41 8 ?_
 (repeat' (first|with_reducible (first|refine Xag ?_|refine Xac ?_|refine Xao ?_|refine Xae ?_|refine Xaa ?_)|((apply Xad rfl);(case h=>(first|(apply Xab 0 rfl;(first|exact Xap _ rfl|exact Xan _ rfl))|(apply XaC;(case hs=>(intro _ _ h;cases h));(case hx=>rfl);(case hrun=>(intro w;simp [wtb,AV.val,go_sem];(try go_bits);rfl)))));(case hT=>((try simp (disch:=omega) only [wtn,XbP,Xvz,Xvw,Xvx,XvA,XvE,Nat.reduceAdd,Nat.reduceMul,Nat.reduceSub,↓reduceIte,Nat.reduceEqDiff]);rfl)))|(refine Xai rfl ?_;((first|(refine Xas 11 rfl ?_;(refine Xam 43 Tryz.f43 [_] _ _ _ rfl rfl Tryz.func43 (by decide) rfl (XvI (l₁:=[_,_])) (VwL.refl _ _) (XbF _ l k (n+1) hd hk (by omega) (by omega)) ?_;rintro _ _ ⟨v0,k0,rfl,rfl,hv0,hk0⟩))|(refine Xas 14 rfl ?_;(refine XaK _ _ rfl Xbk.out rfl (fun b=>?_)))|(refine Xas 16 rfl ?_;(refine Xaw _ _ _ _ _ _ _ rfl rfl XaS.out XaR.out (by first|rfl|fail) (by first|exact Xvu rfl|fail) ?_)));apply Xah;(case hT=>((try simp (disch:=omega) only [wtn,XbP,Xvz,Xvw,Xvx,XvA,XvE,Nat.reduceAdd,Nat.reduceMul,Nat.reduceSub,↓reduceIte,Nat.reduceEqDiff]);rfl));(case hH=>((try simp (disch:=omega) only [wtn,XbP,Xvz,Xvw,Xvx,XvA,XvE,Nat.reduceAdd,Nat.reduceMul,Nat.reduceSub,↓reduceIte,Nat.reduceEqDiff]);rfl))))|fail))
 revert b
 intro bc
 apply XaQ (S:=Nat × Nat × Int × List EF × Option Addr × Nat) (fun q=>frm 107 [(0,.x (.pointer (some ⟨bd,0,none⟩))),(5,.x (.slice q.2.2.2.2.1 q.2.2.2.1.length q.2.2.2.2.2)),(6,.x (.pointer (some ⟨bc,0,none⟩))),(7,.x (.int .i64 q.1))])
  (fun q=>[.box bd [.sq l.length (ia l),.x (.int .i64 q.2.1)],.box bc [.x (.int .u64 q.2.2.1)],.row q.2.2.2.2.1 q.2.2.2.1.length q.2.2.2.2.2 41 8 (va q.2.2.2.1)])
  (fun q=>q.1≤14∧q.2.1≤l.length∧(0≤q.2.2.1∧q.2.2.1+24*q.1≤400)∧q.2.2.2.1.length+2*q.1≤28∧(∀e∈q.2.2.2.1,SE 1111 e)∧sw q.2.2.2.1+q.1*4600≤64400) (fun q=>q.1) (v0,k0,0,[],none,0)
 case h0=>exact XaH.mk' [] [.box bd _,.box bc _,.row _ _ _ _ _ _] (by (repeat' (first|exact Xvv _|fail))) (XaB.refl _ _) (by (repeat' (first|exact VwL.nil|(refine VwL.cons ?_ ?_)|exact Vw.refl _|exact Vw.top _|fail)))
 case hi=>exact ⟨by simp only;omega,hk0,⟨by simp,by simp only;omega⟩,by simp;omega,by simp,by simp [sw];omega⟩
 rintro ⟨m,kk,c,out,ad0,cap0⟩ ⟨g1,g2,g3,g4,g5,g6⟩
 simp only at g1 g2 g3 g4 g5 g6
 have g5':=Lib.hid g5
 have g6':=Lib.hid g6
 clear g5 g6
 simp only [frm,XvC,XvD,Xvw,Xvx,XvJ,XvK]
 by_cases hm:0 < m
 ·(repeat' (first|with_reducible (first|refine Xag ?_|refine Xac ?_|refine Xao ?_|refine Xau ?_|refine Xae ?_|refine Xaa ?_|refine Xaj ?_)|(refine Xak _ rfl (fun h=>?_) (fun h=>?_)<;>((try (simp only [whn] at h));first|(exfalso;omega;done)|skip))|((apply Xad rfl);(case h=>(first|(apply Xab 0 rfl;(first|exact Xap _ rfl|exact Xan _ rfl))|(apply Xab 3 rfl;(exact XaX _ _ _ _ _ _ HEl.out rfl rfl))|(apply Xab 10 rfl;(exact Xc0 _ _ _ _ rfl HPl.out (by decide) rfl (by simp [wtb,AV.one,Value.oneCell'])))|(apply Xab 17 rfl;(exact Xdp _ _ _ _ _ _ _ _ rfl XaY.out (by first|rfl|fail) rfl (by decide) rfl))|(apply XaC;(case hs=>(intro _ _ h;cases h));(case hx=>rfl);(case hrun=>(intro w;simp [wtb,AV.val,go_sem];(try go_bits);rfl)))));(case hT=>((try simp only [wtn,Xvw,Xvx,Nat.reduceAdd,Nat.reduceMul,↓reduceIte]);rfl)))|(refine Xai rfl ?_;((first|(refine Xas 11 rfl ?_;(first|(refine Xam 59 Tryz.f59 [_] _ _ _ rfl rfl Tryz.func59 (by decide) rfl (Xvv _) (VwL.refl _ _) (XcW _ l kk 0 3 hd g2 (by omega) (by omega)) ?_;rintro _ _ ⟨id,k1,rfl,rfl,hid1,hid2,hk1⟩)|(refine Xam 43 Tryz.f43 [_] _ _ _ rfl rfl Tryz.func43 (by decide) rfl (Xvv _) (VwL.refl _ _) (XbF _ l k1 8 hd hk1 (by omega) (by omega)) ?_;rintro _ _ ⟨w,k2,rfl,rfl,hw,hk2⟩)|(refine Xam 59 Tryz.f59 [_] _ _ _ rfl rfl Tryz.func59 (by decide) rfl (Xvv _) (VwL.refl _ _) (XcW _ l k2 1 8 hd hk2 (by omega) (by omega)) ?_;rintro _ _ ⟨v3,k3,rfl,rfl,hv3,hv3',hk3⟩)|(refine Xam 59 Tryz.f59 [_] _ _ _ rfl rfl Tryz.func59 (by decide) rfl (Xvv _) (VwL.refl _ _) (XcW _ l k3 1 24 hd hk3 (by omega) (by omega)) ?_;rintro _ _ ⟨v4,k4,rfl,rfl,hv4,hv4',hk4⟩)|(refine Xam 60 Tryz.f60 [] _ _ _ rfl rfl Tryz.func60 (by decide) rfl (Xvv _) (VwL.cons (Vw.aggx (by (repeat' (first|exact VwL.nil|(refine VwL.cons ?_ ?_)|exact Vw.refl _|exact Vw.nil|fail)))) VwL.nil) (Xle ⟨1,v3,v4,[],[]⟩ (Xhp rfl hv3 hv3' hv4 hv4')) ?_;rintro _ _ ⟨fr,rfl,rfl,hf1,hf2⟩)|(refine Xam 61 Tryz.f61 [_] _ _ _ rfl rfl Tryz.func61 (by decide) rfl (Xvv _) (VwL.refl _ _) (XnH _ l k2 hd hk2) ?_;rintro _ _ ⟨cm,k3,rfl,rfl,hk3,hcm⟩)|(refine Xam 60 Tryz.f60 ([]) _ _ _ rfl rfl Tryz.func60 (by decide) rfl (Xvv _) (VwL.refl _ _) (Xle cm hcm) ?_;rintro _ _ ⟨fr,rfl,rfl,hf1,hf2⟩)|(refine Xam 43 Tryz.f43 [_] _ _ _ rfl rfl Tryz.func43 (by decide) rfl (Xvv _) (VwL.refl _ _) (XbF _ l k3 fr.length hd hk3 (by omega) (by omega)) ?_;rintro _ _ ⟨v4,k4,rfl,rfl,hv4,hk4⟩)|(refine Xam 43 Tryz.f43 [_] _ _ _ rfl rfl Tryz.func43 (by decide) rfl (Xvv _) (VwL.refl _ _) (XbF _ l k2 300 hd hk2 (by omega) (by omega)) ?_;rintro _ _ ⟨v3,k3,rfl,rfl,hv3,hk3⟩)|(refine Xam 63 Tryz.f63 ([_,_]) _ _ _ rfl rfl Tryz.func63 (by decide) rfl (Xvv _) (VwL.refl _ _) (Xr7 bd bc l k2 c hd hk2 (by omega)) ?_;rintro _ _ ⟨e,k3,c3,rfl,rfl,hk3,hse,hc1,hc2⟩)))|(refine Xas 13 rfl ?_;(refine XaP _ _ _ _ _ _ _ _ _ _ _ _ _ _ rfl rfl Xb3.out (Src.sq rfl) XaY.out (by first|rfl|fail) (XdQ _ _ (by omega) (by decide)) (fun ad cap=>?_))));apply Xah;(case hT=>((try simp only [wtn]);rfl));(case hH=>((try simp only [wtn,Nat.reduceAdd]);rfl))))|fail))
  ·refine ⟨(m - 1,k2,c,out++[⟨11,[],false,0,[],0,id,0⟩],ad,cap),by simp only;omega,⟨by simp only;omega,by simp only;assumption,⟨by simp only;omega,by simp only;omega⟩,by simp only [XvH,Xvy,XvB];omega,XiC g5'.out (Xo9 (by omega) (by omega) rfl),by have:=g6'.out;simp only [Xph,XvB];omega⟩,?_⟩
   simp only [XvH,Xvy,XvB,Xiq,EF.cells]
   exact XaH.mk' [] [.box bd _,.box bc _,.row ad _ cap _ _ _] (by (repeat' (first|exact Xvv _|fail))) (XaB.cons (VwH.refl _ _) (XaB.cons (VwH.refl _ _) (XaB.cons (VwH.row _ _ _ _ _ (VwL.appE (VwL.refl _ _) (by (repeat' (first|exact VwL.nil|(refine VwL.cons ?_ ?_)|exact Vw.refl _|exact Vw.nil|fail))))) XaB.nil))) (by (repeat' (first|exact VwL.nil|(refine VwL.cons ?_ ?_)|exact Vw.refl _|exact Vw.top _|(refine Vw.eq ?_;(congr 3;omega))|fail)))
  ·refine ⟨(m - 1,k4,c,out++[⟨11,[],false,0,[],0,id,0⟩,⟨12,[],false,0,fr,0,id,0⟩],ad,cap),by simp only;omega,⟨by simp only;omega,by simp only;assumption,⟨by simp only;omega,by simp only;omega⟩,by simp only [XvH,Xvy,XvB];omega,Xre g5'.out (Xo9 (by omega) (by omega) rfl) (Xe4 (by omega) (by omega) hf2 rfl),by have:=g6'.out;simp only [Xuv,XvB];omega⟩,?_⟩
   simp only [XvH,Xvy,XvB,Xuz,EF.cells]
   exact XaH.mk' [] [.box bd _,.box bc _,.row ad _ cap _ _ _] (by (repeat' (first|exact Xvv _|fail))) (XaB.cons (VwH.refl _ _) (XaB.cons (VwH.refl _ _) (XaB.cons (VwH.row _ _ _ _ _ (VwL.appE (VwL.refl _ _) (by (repeat' (first|exact VwL.nil|(refine VwL.cons ?_ ?_)|exact Vw.refl _|exact Vw.nil|fail))))) XaB.nil))) (by (repeat' (first|exact VwL.nil|(refine VwL.cons ?_ ?_)|exact Vw.refl _|exact Vw.top _|(refine Vw.eq ?_;(congr 3;omega))|fail)))
  ·refine ⟨(m - 1,k3,c,out++[⟨12,[],false,0,fr,0,id,0⟩],ad,cap),by simp only;omega,⟨by simp only;omega,by simp only;assumption,⟨by simp only;omega,by simp only;omega⟩,by simp only [XvH,Xvy,XvB];omega,XiC g5'.out (Xe4 (by omega) (by omega) hf2 rfl),by have:=g6'.out;simp only [Xph];omega⟩,?_⟩
   simp only [XvH,Xvy,XvB,Xiq,EF.cells]
   exact XaH.mk' [] [.box bd _,.box bc _,.row ad _ cap _ _ _] (by (repeat' (first|exact Xvv _|fail))) (XaB.cons (VwH.refl _ _) (XaB.cons (VwH.refl _ _) (XaB.cons (VwH.row _ _ _ _ _ (VwL.appE (VwL.refl _ _) (by (repeat' (first|exact VwL.nil|(refine VwL.cons ?_ ?_)|exact Vw.refl _|fail))))) XaB.nil))) (by (repeat' (first|exact VwL.nil|(refine VwL.cons ?_ ?_)|exact Vw.refl _|exact Vw.top _|(refine Vw.eq ?_;(congr 3;omega))|fail)))
  ·refine Xc5 (B:=[]) (R:=[_,_,_]) mixed [0,1,2,3,4,5,6,7,8,9,10,11,12,13] [12] [] none [] 0 (Xvv _) (by decide +kernel) rfl (fun i o h=>by cases h) (by decide) ?_
   (repeat' (first|(apply Xcv rfl rfl;(case h=>(intro H1;(try simp only [XvF]);(first|(apply Xab 0 rfl;(first|exact Xap _ rfl|exact Xan _ rfl))|(apply Xab 9 rfl;(exact XbK _ _ _ _ _ _ _ _ _ _ rfl rfl HEl.out (by first|exact .inl ⟨rfl,rfl⟩|exact .inr ⟨_,_,rfl,rfl⟩|fail) (by first|exact .inl ⟨rfl,rfl⟩|exact .inr ⟨_,_,rfl,rfl⟩|fail) (by omega) (by omega)))|(apply Xab 10 rfl;(exact Xa1 _ _ _ _ _ rfl HPl.out (by first|rfl|fail) rfl))|(apply Xab 17 rfl;(exact Xdp _ _ _ _ _ _ _ _ rfl XaY.out (by first|rfl|fail) rfl (by decide) rfl)))));(case hT=>((try simp (disch:=omega) only [wtn,Xei,Xfy,Nat.sub_zero,Xvz,Xvw,Xvx,XvA,XvE,Nat.reduceAdd,Nat.reduceMul,Nat.reduceSub,↓reduceIte,Nat.reduceEqDiff]);rfl)))|(apply Xc7 rfl rfl;(refine Xas 13 rfl ?_;(refine XaP _ _ _ _ _ _ _ _ _ _ _ _ _ _ rfl rfl Xb3.out (Src.sq rfl) XaY.out (by first|rfl|fail) (XdQ _ _ (by omega) (by decide)) (fun ad cap=>?_)));refine ⟨_,rfl,?_⟩;apply Xc6;(case hT=>((try simp (disch:=omega) only [wtn,Xei,Xfy,Nat.sub_zero,Xvz,Xvw,Xvx,XvA,XvE,Nat.reduceAdd,Nat.reduceMul,Nat.reduceSub,↓reduceIte,Nat.reduceEqDiff]);rfl));(case hH=>((try simp (disch:=omega) only [wtn,Xei,Xfy,Nat.sub_zero,Xvz,Xvw,Xvx,XvA,XvE,Nat.reduceAdd,Nat.reduceMul,Nat.reduceSub,↓reduceIte,Nat.reduceEqDiff]);rfl)))|fail))
   (first|refine XbY ?_|fail);(apply XaA;(case hT=>rfl);(case hH=>(simp only [XvF];rfl)));skip;refine Xa4 (by decide +kernel) ?_
   (repeat' (first|with_reducible (first|refine Xac ?_|refine Xae ?_|refine Xaa ?_|refine Xaj ?_)|((apply Xad rfl);(case h=>(first|(apply Xab 0 rfl;(first|exact Xap _ rfl|exact Xan _ rfl))|(apply XaC;(case hs=>(intro _ _ h;cases h));(case hx=>rfl);(case hrun=>(intro w;simp [wtb,AV.val,go_sem];(try go_bits);rfl)))));(case hT=>((try simp only [wtn]);rfl)))|fail))
   have e1:(fr.take v4).length=v4:=by simp;omega
   have e2:((fr.drop v4).take (fr.length - v4)).length=fr.length - v4:=by simp
   refine ⟨(m - 1,k4,c,out++[⟨12,[],false,0,fr.take v4,0,id,0⟩,⟨12,[],false,0,(fr.drop v4).take (fr.length - v4),0,id,0⟩],ad,cap),by simp only;omega,⟨by simp only;omega,by simp only;assumption,⟨by simp only;omega,by simp only;omega⟩,by simp only [XvH,Xvy,XvB];omega,Xre g5'.out (Xe4 (by omega) (by omega) (by omega) rfl) (Xe4 (by omega) (by omega) (by omega) rfl),by have:=g6'.out;simp only [Xuv,e1,e2];omega⟩,?_⟩
   simp only [XvH,Xvy,XvB,Xuz,EF.cells,e1,e2]
   exact XaH.mk' [] [.box bd _,.box bc _,.row ad _ cap _ _ _] (by (repeat' (first|exact Xvv _|fail))) (XaB.cons (VwH.refl _ _) (XaB.cons (VwH.refl _ _) (XaB.cons (VwH.row _ _ _ _ _ (VwL.appE (VwL.refl _ _) (by (repeat' (first|exact VwL.nil|(refine VwL.cons ?_ ?_)|exact Vw.refl _|fail))))) XaB.nil))) (by (repeat' (first|exact VwL.nil|(refine VwL.cons ?_ ?_)|exact Vw.refl _|exact Vw.top _|(refine Vw.eq ?_;(congr 3;omega))|fail)))
  ·refine ⟨(m - 1,k3,c,out++[⟨14,[],false,0,[],0,id,v3 - 5⟩],ad,cap),by simp only;omega,⟨by simp only;omega,by simp only;assumption,⟨by simp only;omega,by simp only;omega⟩,by simp only [XvH,Xvy,XvB];omega,XiC g5'.out (XqY (by omega) (by omega) (by omega) (by omega) rfl),by have:=g6'.out;simp only [Xph,XvB];omega⟩,?_⟩
   simp only [XvH,Xvy,XvB,Xiq,EF.cells]
   exact XaH.mk' [] [.box bd _,.box bc _,.row ad _ cap _ _ _] (by (repeat' (first|exact Xvv _|fail))) (XaB.cons (VwH.refl _ _) (XaB.cons (VwH.refl _ _) (XaB.cons (VwH.row _ _ _ _ _ (VwL.appE (VwL.refl _ _) (by (repeat' (first|exact VwL.nil|(refine VwL.cons ?_ ?_)|exact Vw.refl _|exact Vw.nil|fail))))) XaB.nil))) (by (repeat' (first|exact VwL.nil|(refine VwL.cons ?_ ?_)|exact Vw.refl _|exact Vw.top _|(refine Vw.eq ?_;(congr 3;omega))|fail)))
  ·refine Xc5 (B:=[]) (R:=[_,_,_]) mixed [0,1,2,6,7,3,4,5,8,9,10,11,12] [3,8,11] [] none [] 0 (Xvv _) (by decide +kernel) rfl (fun i o h=>by cases h) (by decide) ?_
   (repeat' (first|(apply Xcv rfl rfl;(case h=>(intro H1;(try simp only [XvF]);(first|(apply Xab 0 rfl;(first|exact Xap _ rfl|exact Xan _ rfl))|(apply Xab 6 rfl;(exact XaF _ _ _ _ _ rfl rfl XaN.out (by first|(simp [wlq];omega)|fail) (by first|(simp [wlq];omega)|fail)))|(apply Xab 7 rfl;(exact XaG _ _ _ _ _ _ _ _ _ _ rfl rfl rfl HEl.out rfl (by first|omega|fail) (by simp;first|done|fail)))|(apply Xab 10 rfl;(exact Xa1 _ _ _ _ _ rfl HPl.out (by first|rfl|fail) rfl))|(apply Xab 17 rfl;(first|exact XbI _ _ _ _ _ _ rfl XaY.out rfl (by first|rfl|fail) rfl rfl (by decide)|exact Xdp _ _ _ _ _ _ _ _ rfl XaY.out (by first|rfl|fail) rfl (by decide) rfl)))));(case hT=>((try simp (disch:=assumption) only [wtn,XkD,Xvz,Xvw,Xvx,XvA,XvE,Nat.reduceAdd,Nat.reduceMul,Nat.reduceSub,↓reduceIte,Nat.reduceEqDiff]);rfl)))|(apply Xc7 rfl rfl;(first|(refine Xas 11 rfl ?_;(first|(refine Xam 43 Tryz.f43 [_] _ _ _ rfl rfl Tryz.func43 (by decide) rfl (Xvv _) (VwL.refl _ _) (XbF _ l k2 2 hd hk2 (by omega) (by omega)) ?_;rintro _ _ ⟨v3,k3,rfl,rfl,hv3,hk3⟩)|(refine Xam 62 Tryz.f62 [_] _ _ _ rfl rfl Tryz.func62 (by decide) rfl (Xvv _) (VwL.refl _ _) (Xib _ l k3 hd hk3) ?_;rintro _ _ ⟨ou,k4,rfl,rfl,hou,hk4⟩)))|(refine Xas 13 rfl ?_;(refine XaP _ _ _ _ _ _ _ _ _ _ _ _ _ _ rfl rfl Xb3.out (Src.sq rfl) XaY.out (by first|rfl|fail) (XdQ _ _ (by omega) (by decide)) (fun ad cap=>?_))));refine ⟨_,rfl,?_⟩;apply Xc6;(case hT=>((try simp (disch:=omega) only [wtn,XkD,Xvz,Xvw,Xvx,XvA,XvE,Nat.reduceAdd,Nat.reduceMul,Nat.reduceSub,↓reduceIte,Nat.reduceEqDiff]);rfl));(case hH=>((try simp (disch:=omega) only [wtn,XkD,Xvz,Xvw,Xvx,XvA,XvE,Nat.reduceAdd,Nat.reduceMul,Nat.reduceSub,↓reduceIte,Nat.reduceEqDiff]);rfl)))|fail))
   (first|refine XbY ?_|fail);(apply XaA;(case hT=>rfl);(case hH=>(simp only [XvF];rfl)));skip;refine Xa4 (by decide +kernel) ?_
   (repeat' (first|with_reducible (first|refine Xac ?_|refine Xae ?_|refine Xaa ?_|refine Xaj ?_)|((apply Xad rfl);(case h=>(first|(apply Xab 0 rfl;(first|exact Xap _ rfl|exact Xan _ rfl))|(apply XaC;(case hs=>(intro _ _ h;cases h));(case hx=>rfl);(case hrun=>(intro w;simp [wtb,AV.val,go_sem];(try go_bits);rfl)))));(case hT=>((try simp only [wtn]);rfl)))|fail))
   refine ⟨(m - 1,k4,c,out++[⟨ck v3,[],false,0,ou,0,id,0⟩],ad,cap),by simp only;omega,⟨by simp only;omega,by simp only;assumption,⟨by simp only;omega,by simp only;omega⟩,by simp only [XvH,Xvy,XvB];omega,XiC g5'.out (Xu4 (by omega) (by omega) (by omega) hv3),by have:=g6'.out;simp only [Xph];omega⟩,?_⟩
   simp only [XvH,Xvy,XvB,Xiq,EF.cells]
   exact XaH.mk' [] [.box bd _,.box bc _,.row ad _ cap _ _ _] (by (repeat' (first|exact Xvv _|fail))) (XaB.cons (VwH.refl _ _) (XaB.cons (VwH.refl _ _) (XaB.cons (VwH.row _ _ _ _ _ (VwL.appE (VwL.refl _ _) (by (repeat' (first|exact VwL.nil|(refine VwL.cons ?_ ?_)|exact Vw.refl _|fail))))) XaB.nil))) (by (repeat' (first|exact VwL.nil|(refine VwL.cons ?_ ?_)|exact Vw.refl _|exact Vw.top _|(refine Vw.eq ?_;(congr 3;omega))|fail)))
  ·have hsd:=hse.data
   refine ⟨(m - 1,k3,c3,out++[e],ad,cap),by simp only;omega,⟨by simp only;omega,by simp only;assumption,⟨by simp only;omega,by simp only;omega⟩,by simp only [XvH,Xvy,XvB];omega,XiC g5'.out hse,by have:=g6'.out;simp only [Xph];omega⟩,?_⟩
   simp only [XvH,Xvy,XvB,Xiq,EF.cells,List.drop_succ_cons,List.drop_zero,List.append_nil]
   exact XaH.mk' [] [.box bd _,.box bc _,.row ad _ cap _ _ _] (by (repeat' (first|exact Xvv _|fail))) (XaB.cons (VwH.refl _ _) (XaB.cons (VwH.refl _ _) (XaB.cons (VwH.row _ _ _ _ _ (VwL.appE (VwL.refl _ _) (by (repeat' (first|exact VwL.nil|(refine VwL.cons ?_ ?_)|exact Vw.refl _|fail))))) XaB.nil))) (by (repeat' (first|exact VwL.nil|(refine VwL.cons ?_ ?_)|exact Vw.refl _|exact Vw.top _|(refine Vw.eq ?_;(congr 3;omega))|fail)))
 ·obtain rfl:m=0:=by omega
  (repeat' (first|with_reducible (first|refine Xag ?_|refine Xac ?_|refine Xar ?_|refine XaW ?_|refine Xae ?_|refine Xaa ?_|refine XaL ?_|refine XaJ ?_)|(refine Xak _ rfl (fun h=>?_) (fun h=>?_)<;>first|(exact absurd h (by decide))|((try (simp only [] at h));skip))|((apply Xad rfl);(case h=>(first|(apply Xab 0 rfl;(first|exact Xap _ rfl|exact Xan _ rfl))|(apply XaC;(case hs=>(intro _ _ h;cases h));(case hx=>rfl);(case hrun=>(intro w;simp [wtb,AV.val,go_sem];skip;rfl)))));(case hT=>((try simp only [wtn]);rfl)))|fail))
  refine Xaf _ _ (Xbh rfl (RV.tmp _) (XaH.mk' [.row _ _ _ _ _ _,.box bc _] [.box bd _] (by (repeat' (first|exact Xvv _|refine (XvI (l₁:=[_])).trans (XvL _ ?_)|refine (XvI (l₁:=[_,_])).trans (XvL _ ?_)|fail))) (XaB.refl _ _) (VwL.cons (Vw.row (List.Mem.head _) (VwL.refl _ _)) VwL.nil))) ⟨out,kk,rfl,rfl,g2,by omega,g5'.out,by have:=g6'.out;omega⟩
theorem Xkb (n:Nat) (h10:n < 10):Xa3 Tryz.prog 70 [] [.x (.int .u64 n)] (fun r H'=>r=.x (.string (bs (XbJ n)))∧H'=[]):=by
 refine XaD Tryz.func70 rfl ?_
 simp only [Tryz.ntmps70,Xvy,XvB,XvC,XvD,XvG,XvF,Nat.reduceAdd,Nat.reduceSub]
 (repeat' (first|with_reducible (first|refine Xag ?_|refine Xac ?_|refine Xar ?_|refine Xae ?_|refine Xaa ?_|refine Xax ?_)|(refine Xak _ rfl (fun h=>?_) (fun h=>?_)<;>((try (simp only [whn] at h));first|(exfalso;omega;done)|skip))|((apply Xad rfl);(case h=>(first|(apply Xab 0 rfl;(first|exact Xap _ rfl|exact Xan _ rfl))|(apply Xab 12 rfl;(exact Xbz _ _ 5 _ [_] rfl (by kernel_rfl) (by kernel_rfl) (by kernel_rfl) (Src.chr 0 _ (by omega) (by omega) rfl rfl)))|(apply XaC;(case hs=>(intro _ _ h;cases h));(case hx=>rfl);(case hrun=>(intro w;simp [wtb,AV.val,go_sem];(try go_bits);rfl)))));(case hT=>((try simp only [wtn]);rfl)))|(refine Xai rfl ?_;((refine Xas 17 rfl ?_;(refine XaE _ _ _ _ _ _ _ _ rfl XaY.out (by first|rfl|fail) rfl (by decide) rfl (fun b=>?_)));apply Xah;(case hT=>((try simp only [wtn]);rfl));(case hH=>((try simp only [wtn]);rfl))))|fail))
 refine Xaf _ _ (Xbh rfl (RV.tmp _) (XaH.mk' [_] [] (Xvv _) (XaB.refl _ _) (by first|exact VwL.refl _ _|fail))) ?_
 refine ⟨?_,rfl⟩
 rw [XbJ,dif_pos h10]
 simp only [ev,List.getD_cons_succ,List.getD_cons_zero]
 congr 3
theorem XnK (n:Nat) (hn:n≤18446744073709551615) (h10:¬n < 10) (h1:Xa3 Tryz.prog 70 [] [.x (.int .u64 (n / 10:Nat))] (fun r H'=>r=.x (.string (bs (XbJ (n / 10))))∧H'=[]))
  (h2:Xa3 Tryz.prog 70 [] [.x (.int .u64 (n % 10:Nat))] (fun r H'=>r=.x (.string (bs (XbJ (n % 10))))∧H'=[])):Xa3 Tryz.prog 70 [] [.x (.int .u64 n)] (fun r H'=>r=.x (.string (bs (XbJ n)))∧H'=[]):=by
 have hL1:=XbM (n / 10) (by omega)
 have hL2:=XbM (n % 10) (by omega)
 refine XaD Tryz.func70 rfl ?_
 simp only [Tryz.ntmps70,Xvy,XvB,XvC,XvD,XvG,XvF,Nat.reduceAdd,Nat.reduceSub]
 (repeat' (first|with_reducible (first|refine Xag ?_|refine Xac ?_|refine Xar ?_|refine Xau ?_|refine Xae ?_|refine Xaa ?_)|(refine Xak _ rfl (fun h=>?_) (fun h=>?_)<;>((try (simp only [whn] at h));first|(exfalso;omega;done)|skip))|((apply Xad rfl);(case h=>(first|(apply Xab 0 rfl;(first|exact Xap _ rfl|exact Xan _ rfl))|(apply Xab 11 rfl;(first|exact Xay 70 Tryz.f70 _ _ rfl rfl Tryz.func70 (by decide) rfl (VwL.refl _ _) (h1)|exact Xay 70 Tryz.f70 _ _ rfl rfl Tryz.func70 (by decide) rfl (VwL.refl _ _) (h2)))|(apply Xab 12 rfl;(exact Xbv _ _ _ _ rfl rfl rfl (by omega)))|(apply XaC;(case hs=>(intro _ _ h;cases h));(case hx=>rfl);(case hrun=>(intro w;simp [wtb,AV.val,go_sem];(try go_bits);rfl)))));(case hT=>((try simp (disch:=omega) only [wtn,XlL,XlN,Xvz,Xvw,Xvx,XvA,XvE,Nat.reduceAdd,Nat.reduceMul,Nat.reduceSub,↓reduceIte,Nat.reduceEqDiff]);rfl)))|fail))
 refine Xaf _ _ (Xbh rfl (RV.tmp _) (XaH.mk' [] _ (Xvv _) (XaB.refl _ _) (VwL.refl _ _))) ?_
 refine ⟨?_,rfl⟩
 conv=>rhs;rw [XbJ,dif_neg h10]
 rfl
theorem XrZ (n:Nat) (hn:n≤18446744073709551615):Xa3 Tryz.prog 70 [] [.x (.int .u64 n)] (fun r H'=>r=.x (.string (bs (XbJ n)))∧H'=[]):=by
 induction n using Nat.strongRecOn with
 | _ n ih=>
   by_cases h10:n < 10
   ·exact Xkb n h10
   ·exact XnK n hn h10 (ih (n / 10) (by omega) (by omega)) (ih (n % 10) (by omega) (by omega))
theorem XrY (v:Int) (h0:0≤v) (h1:v≤18446744073709551615):Xa3 Tryz.prog 70 [] [.x (.int .u64 v)] (fun r H'=>r=.x (.string (bs (XbJ v.toNat)))∧H'=[]):=by
 have:=XrZ v.toNat (by omega)
 rwa [Int.toNat_of_nonneg h0] at this
theorem Xka (n:Nat) (h10:n < 10):Xa3 Tryz.prog 71 [] [.x (.int .i64 n)] (fun r H'=>r=.x (.string (bs (XbJ n)))∧H'=[]):=by
 refine XaD Tryz.func71 rfl ?_
 simp only [Tryz.ntmps71,Xvy,XvB,XvC,XvD,XvG,XvF,Nat.reduceAdd,Nat.reduceSub]
 (repeat' (first|with_reducible (first|refine Xag ?_|refine Xac ?_|refine Xao ?_|refine Xar ?_|refine Xae ?_|refine Xaa ?_|refine Xax ?_|refine Xav ?_)|(refine Xak _ rfl (fun h=>?_) (fun h=>?_)<;>first|(exact absurd h (by decide))|((try (simp only [whn] at h));first|(exfalso;omega;done)|skip))|((apply Xfe rfl rfl rfl);(case hT=>((try simp only [wtn]);rfl)))|((apply Xad rfl);(case h=>(first|(apply Xab 0 rfl;(first|exact Xap _ rfl|exact Xan _ rfl))|(apply Xab 1 rfl;(exact Xcs _ _ _ rfl rfl))|(apply Xab 12 rfl;(exact Xbz _ _ 5 _ [_] rfl (by kernel_rfl) (by kernel_rfl) (by kernel_rfl) (Src.chr 0 _ (by omega) (by omega) rfl rfl)))|(apply XaC;(case hs=>(intro _ _ h;cases h));(case hx=>rfl);(case hrun=>(intro w;simp [wtb,AV.val,go_sem];(try go_bits);rfl)))));(case hT=>((try simp only [wtn]);rfl)))|(refine Xai rfl ?_;((refine Xas 17 rfl ?_;(refine XaE _ _ _ _ _ _ _ _ rfl XaY.out (by first|rfl|fail) rfl (by decide) rfl (fun b=>?_)));apply Xah;(case hT=>((try simp only [wtn]);rfl));(case hH=>((try simp only [wtn]);rfl))))|fail))
 refine Xaf _ _ (Xbh rfl (RV.tmp _) (XaH.mk' [_] [] (Xvv _) (XaB.refl _ _) (by first|exact VwL.refl _ _|fail))) ?_
 refine ⟨?_,rfl⟩
 rw [XbJ,dif_pos h10]
 simp only [ev,List.getD_cons_succ,List.getD_cons_zero]
 congr 3
theorem XnI (n:Nat) (hn:n≤9223372036854775807) (h10:¬n < 10) (h1:Xa3 Tryz.prog 71 [] [.x (.int .i64 (n / 10:Nat))] (fun r H'=>r=.x (.string (bs (XbJ (n / 10))))∧H'=[]))
  (h2:Xa3 Tryz.prog 71 [] [.x (.int .i64 (n % 10:Nat))] (fun r H'=>r=.x (.string (bs (XbJ (n % 10))))∧H'=[])):Xa3 Tryz.prog 71 [] [.x (.int .i64 n)] (fun r H'=>r=.x (.string (bs (XbJ n)))∧H'=[]):=by
 have hL1:=XbM (n / 10) (by omega)
 have hL2:=XbM (n % 10) (by omega)
 refine XaD Tryz.func71 rfl ?_
 simp only [Tryz.ntmps71,Xvy,XvB,XvC,XvD,XvG,XvF,Nat.reduceAdd,Nat.reduceSub]
 (repeat' (first|with_reducible (first|refine Xag ?_|refine Xac ?_|refine Xao ?_|refine Xar ?_|refine Xau ?_|refine Xae ?_|refine Xaa ?_|refine Xaj ?_)|(refine Xak _ rfl (fun h=>?_) (fun h=>?_)<;>first|(exact absurd h (by decide))|((try (simp only [whn] at h));first|(exfalso;omega;done)|skip))|((apply Xfe rfl rfl rfl);(case hT=>((try simp (disch:=omega) only [wtn,XlL,XlN,Xvz,Xvw,Xvx,XvA,XvE,Nat.reduceAdd,Nat.reduceMul,Nat.reduceSub,↓reduceIte,Nat.reduceEqDiff]);rfl)))|((apply Xad rfl);(case h=>(first|(apply Xab 0 rfl;(first|exact Xap _ rfl|exact Xan _ rfl))|(apply Xab 1 rfl;(exact Xcs _ _ _ rfl rfl))|(apply Xab 11 rfl;(first|exact Xay 71 Tryz.f71 _ _ rfl rfl Tryz.func71 (by decide) rfl (VwL.refl _ _) (h1)|exact Xay 71 Tryz.f71 _ _ rfl rfl Tryz.func71 (by decide) rfl (VwL.refl _ _) (h2)))|(apply Xab 12 rfl;(exact Xbv _ _ _ _ rfl rfl rfl (by omega)))|(apply XaC;(case hs=>(intro _ _ h;cases h));(case hx=>rfl);(case hrun=>(intro w;simp [wtb,AV.val,go_sem];(try go_bits);rfl)))));(case hT=>((try simp (disch:=omega) only [wtn,XlL,XlN,Xvz,Xvw,Xvx,XvA,XvE,Nat.reduceAdd,Nat.reduceMul,Nat.reduceSub,↓reduceIte,Nat.reduceEqDiff]);rfl)))|fail))
 refine Xaf _ _ (Xbh rfl (RV.tmp _) (XaH.mk' [] _ (Xvv _) (XaB.refl _ _) (VwL.refl _ _))) ?_
 refine ⟨?_,rfl⟩
 conv=>rhs;rw [XbJ,dif_neg h10]
 rfl
theorem Xgl (n:Nat) (hn:n≤9223372036854775807):Xa3 Tryz.prog 71 [] [.x (.int .i64 n)] (fun r H'=>r=.x (.string (bs (XbJ n)))∧H'=[]):=by
 induction n using Nat.strongRecOn with
 | _ n ih=>
   by_cases h10:n < 10
   ·exact Xka n h10
   ·exact XnI n hn h10 (ih (n / 10) (by omega) (by omega)) (ih (n % 10) (by omega) (by omega))
theorem Xtf (n:Nat):Int.tdiv (-(n:Int)) 10 = -((n / 10:Nat):Int):=by rw [Int.neg_tdiv];rfl
theorem Xtg (n:Nat):Int.tmod (-(n:Int)) 10 = -((n % 10:Nat):Int):=by rw [Int.neg_tmod];rfl
theorem Xma (n:Nat) (h1:1≤n) (h9:n≤9):Xa3 Tryz.prog 71 [] [.x (.int .i64 (-(n:Int)))] (fun r H'=>r=.x (.string (bs (45 :: XbJ n)))∧H'=[]):=by
 have hL1:=XbM n (by omega)
 have hn:=Xgl n (by omega)
 refine XaD Tryz.func71 rfl ?_
 simp only [Tryz.ntmps71,Xvy,XvB,XvC,XvD,XvG,XvF,Nat.reduceAdd,Nat.reduceSub]
 (repeat' (first|with_reducible (first|refine Xag ?_|refine Xac ?_|refine Xao ?_|refine Xar ?_|refine Xae ?_|refine Xaa ?_|refine Xax ?_|refine Xav ?_)|(refine Xak _ rfl (fun h=>?_) (fun h=>?_)<;>((try (simp only [whn] at h));first|(exfalso;omega;done)|skip))|((first|apply Xad rfl|apply Xa8 _ _ rfl rfl rfl);(case h=>((try (intro (hp:(_:Bool)=true);((try simp only [hp]);(try simp only [whn] at hp))));(first|(apply Xab 0 rfl;(first|exact Xap _ rfl|exact Xan _ rfl))|(apply Xab 1 rfl;(exact XbC _ _ _ _ _ rfl rfl rfl rfl))|(apply Xab 11 rfl;(exact Xay 71 Tryz.f71 _ _ rfl rfl Tryz.func71 (by decide) rfl (VwL.refl _ _) (hn)))|(apply Xab 12 rfl;(exact Xbv _ _ _ _ rfl rfl rfl (by simp;omega)))|(apply XaC;(case hs=>(intro _ _ h;cases h));(case hx=>rfl);(case hrun=>(intro w;simp [wtb,AV.val,go_sem];(try go_bits);rfl))))));(case hT=>((try simp (disch:=omega) only [wtn,Int.neg_neg,Xvz,Xvw,Xvx,XvA,XvE,Nat.reduceAdd,Nat.reduceMul,Nat.reduceSub,↓reduceIte,Nat.reduceEqDiff]);rfl)))|fail))
 refine Xaf _ _ (Xbh rfl (RV.tmp _) (XaH.mk' [] _ (Xvv _) (XaB.refl _ _) (VwL.refl _ _))) ?_
 exact ⟨rfl,rfl⟩
theorem Xmb (n:Nat) (h10:10≤n) (hn:n≤9223372036854775808) (h1:Xa3 Tryz.prog 71 [] [.x (.int .i64 (-((n / 10:Nat):Int)))] (fun r H'=>r=.x (.string (bs (45 :: XbJ (n / 10))))∧H'=[])):Xa3 Tryz.prog 71 [] [.x (.int .i64 (-(n:Int)))] (fun r H'=>r=.x (.string (bs (45 :: XbJ n)))∧H'=[]):=by
 have hL1:=XbM (n / 10) (by omega)
 have hL2:=XbM (n % 10) (by omega)
 have h2:=Xgl (n % 10) (by omega)
 refine XaD Tryz.func71 rfl ?_
 simp only [Tryz.ntmps71,Xvy,XvB,XvC,XvD,XvG,XvF,Nat.reduceAdd,Nat.reduceSub]
 (repeat' (first|with_reducible (first|refine Xag ?_|refine Xac ?_|refine Xao ?_|refine Xar ?_|refine Xae ?_|refine Xaa ?_|refine Xax ?_|refine Xav ?_)|(refine Xak _ rfl (fun h=>?_) (fun h=>?_)<;>((try (simp only [whn] at h));first|(exfalso;omega;done)|skip))|((first|apply Xad rfl|apply Xa8 _ _ rfl rfl rfl);(case h=>((try (intro (hp:(_:Bool)=true);((try simp only [hp]);(try simp only [whn] at hp))));(first|(apply Xab 0 rfl;(first|exact Xap _ rfl|exact Xan _ rfl))|(apply Xab 1 rfl;(exact XbC _ _ _ _ _ rfl rfl rfl rfl))|(apply Xab 11 rfl;(first|exact Xay 71 Tryz.f71 _ _ rfl rfl Tryz.func71 (by decide) rfl (VwL.refl _ _) (h1)|exact Xay 71 Tryz.f71 _ _ rfl rfl Tryz.func71 (by decide) rfl (VwL.refl _ _) (h2)))|(apply Xab 12 rfl;(exact Xbv _ _ _ _ rfl rfl rfl (by simp;omega)))|(apply XaC;(case hs=>(intro _ _ h;cases h));(case hx=>rfl);(case hrun=>(intro w;simp [wtb,AV.val,go_sem];(try go_bits);rfl))))));(case hT=>((try simp (disch:=omega) only [wtn,Xtf,Xtg,Int.neg_neg,Xvz,Xvw,Xvx,XvA,XvE,Nat.reduceAdd,Nat.reduceMul,Nat.reduceSub,↓reduceIte,Nat.reduceEqDiff]);rfl)))|fail))
 refine Xaf _ _ (Xbh rfl (RV.tmp _) (XaH.mk' [] _ (Xvv _) (XaB.refl _ _) (VwL.refl _ _))) ?_
 refine ⟨?_,rfl⟩
 conv=>rhs;rw [XbJ,dif_neg (show ¬n < 10 by omega)]
 rfl
theorem XnJ (n:Nat) (h1:1≤n) (hn:n≤9223372036854775808):Xa3 Tryz.prog 71 [] [.x (.int .i64 (-(n:Int)))] (fun r H'=>r=.x (.string (bs (45 :: XbJ n)))∧H'=[]):=by
 induction n using Nat.strongRecOn with
 | _ n ih=>
   by_cases h9:n≤9
   ·exact Xma n h1 h9
   ·exact Xmb n (by omega) hn (ih (n / 10) (by omega) (by omega) (by omega))
theorem Xj9 (v:Int) (h0 : -9223372036854775808≤v) (h1:v≤9223372036854775807):Xa3 Tryz.prog 71 [] [.x (.int .i64 v)] (fun r H'=>r=.x (.string (bs (dcI v)))∧H'=[]):=by
 unfold dcI
 by_cases hv:v < 0
 ·rw [if_pos hv]
  have:=XnJ (-v).toNat (by omega) (by omega)
  rwa [Int.toNat_of_nonneg (by omega),Int.neg_neg] at this
 ·rw [if_neg hv]
  have:=Xgl v.toNat (by omega)
  rwa [Int.toNat_of_nonneg (by omega)] at this
end Go.Proofs.YtdpobjakdplljaaGreatDoor

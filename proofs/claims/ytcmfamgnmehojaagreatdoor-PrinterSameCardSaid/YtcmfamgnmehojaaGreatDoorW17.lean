import Derived.Test.YtcmfamgnmehojaaGreatDoorW16
/- The mill: at most four jobs. -/
set_option linter.unusedSimpArgs false
set_option linter.unusedVariables false
set_option maxRecDepth 100000
set_option maxHeartbeats 8000000
namespace Go.Proofs.YtcmfamgnmehojaaGreatDoor
open Go.RowKit
def XcQ:List (List UInt8):=[[97],[98],[99],[100]]
theorem Xdy {v:Nat} (h:v < 4):(List.drop v [.x (.string ⟨#[97]⟩),.x (.string ⟨#[98]⟩),.x (.string ⟨#[99]⟩),.x (.string ⟨#[100]⟩)]).getD 0 AV.top=.x (.string (bs (XcQ.getD v []))):=XeZ XcQ v h
theorem XdC {v:Nat} (h:v≤4):AV.sq (v - 0) (List.take (v - 0) [.x (.string ⟨#[97]⟩),.x (.string ⟨#[98]⟩),.x (.string ⟨#[99]⟩),.x (.string ⟨#[100]⟩)])=.sq (XcQ.take v).length (sa (XcQ.take v)):=by
 match v,h with
 | 0,_=>rfl
 | 1,_=>rfl
 | 2,_=>rfl
 | 3,_=>rfl
 | 4,_=>rfl
theorem XhN (l m:List JF):jfa (l++m)=jfa l++jfa m:=by simp [jfa]
theorem XiB (v:Nat):∀s∈XcQ.take v,s.length≤8:=fun s hs=>by
 have:=List.mem_of_mem_take hs
 simp only [XcQ,List.mem_cons,List.not_mem_nil,or_false] at this
 rcases this with rfl|rfl|rfl|rfl<;>simp
def JM (j:JF):Prop:=∃i,i < 4∧Xnh (XcQ.getD i []) (XcQ.take i) j
theorem XnK (bd:Nat) (l:List Int) (k:Nat) (hd:DK l) (hk:k≤l.length):Xbv Tryz.prog 12 [.box bd [.sq l.length (ia l),.x (.int .i64 k)]] [.x (.pointer (some ⟨bd,0,none⟩))] (fun r H'=>∃(js:List JF) (k':Nat) (ad:Option Addr) (cap:Nat),r=.x (.slice ad js.length cap)∧H'=[.row ad js.length cap 34 15 (jfa js),.box bd [.sq l.length (ia l),.x (.int .i64 k')]]∧k'≤l.length∧1≤js.length∧js.length≤4∧∀j∈js,JM j):=by
 refine XaP Tryz.func12 rfl ?_
 simp only [Tryz.ntmps12,Xpq,Xpt,Xpu,Xpv,Xpy,Xpx,Nat.reduceAdd,Nat.reduceSub]
 (repeat' (first|with_reducible (first|refine Xaj ?_|refine Xac ?_|refine Xas ?_|refine Xaf ?_|refine Xaa ?_)|((apply Xad rfl);(case h=>((try (intro (hp:(_:Bool)=true);((try simp only [Bool.and_eq_true,Bool.not_eq_true',Bool.not_eq_true] at hp);(try simp only [hp,wte]);(try simp only [whn] at hp))));(first|(apply Xab 0 rfl;(first|exact Xar _ rfl|exact Xav _ rfl))|(apply Xab 17 rfl;(exact XbD _ _ _ _ _ _ rfl Xa6.out rfl (by first|rfl|fail) rfl rfl (by decide))))));(case hT=>((try simp only [wtn,Xpr,Xpo,Xpp,Xps,Xpw,Nat.reduceAdd,Nat.reduceMul,Nat.reduceSub,↓reduceIte,Nat.reduceEqDiff]);rfl)))|(refine Xak rfl ?_;((refine Xap 11 rfl ?_;(first|(refine Xax 13 Tryz.f13 [_] _ _ _ rfl rfl Tryz.func13 (by decide) rfl (Xpn _) (VwL.refl _ _) (XbQ _ l k 2 hd hk (by omega) (by omega)) ?_;rintro _ _ ⟨v1,k1,rfl,rfl,hv1,hk1⟩)|(refine Xax 24 Tryz.f24 [_] _ _ _ rfl rfl Tryz.func24 (by decide) rfl (Xpn _) (VwL.refl _ _) (Xdz _ l k1 1 4 hd hk1 (by omega) (by omega)) ?_;rintro _ _ ⟨v2,k2,rfl,rfl,hv2,hv2',hk2⟩)));apply Xai;(case hT=>((try simp only [wtn,Xpr,Xpo,Xpp,Xps,Xpw,Nat.reduceAdd,Nat.reduceMul,Nat.reduceSub,↓reduceIte,Nat.reduceEqDiff]);rfl));(case hH=>((try simp only [wtn,Xpr,Xpo,Xpp,Xps,Xpw,Nat.reduceAdd,Nat.reduceMul,Nat.reduceSub,↓reduceIte,Nat.reduceEqDiff]);rfl))))|fail))
 refine XbT 34 15 ?_
 apply Xbn (S:=Nat × Nat × List JF × Option Addr × Nat) (fun s=>frm 39 [(0,.x (.pointer (some ⟨bd,0,none⟩))),(3,.x (.slice s.2.2.2.1 s.2.2.1.length s.2.2.2.2)),(4,.sq 4 [.x (.string ⟨#[97]⟩),.x (.string ⟨#[98]⟩),.x (.string ⟨#[99]⟩),.x (.string ⟨#[100]⟩)]),(5,.x (.int .i64 v1)),(6,.x (.int .i64 v2)),(7,.x (.int .i64 s.1))])
  (fun s=>[.row s.2.2.2.1 s.2.2.1.length s.2.2.2.2 34 15 (jfa s.2.2.1),.box bd [.sq l.length (ia l),.x (.int .i64 s.2.1)]]) (fun s=>s.1≤v2∧s.2.1≤l.length∧s.2.2.1.length=s.1∧∀j∈s.2.2.1,JM j) (fun s=>v2 - s.1) (0,k2,[],none,0)
 case h0=>exact (XaK.mk' [] _ (Xpn _) (XaI.refl _ _) (by (repeat' (first|exact VwL.nil|(refine VwL.cons ?_ ?_)|exact Vw.refl _|exact Vw.top _|fail))))
 case hi=>exact ⟨Nat.zero_le _,hk2,rfl,by simp⟩
 rintro ⟨i,kk,js,ad,cap⟩ ⟨g1,g2,g3,g4⟩
 simp only at g1 g2 g3 g4
 have g4':=Lib.hid g4
 clear g4
 simp only [frm,Xpu,Xpv,Xpo,Xpp,XpB,XpC]
 by_cases hlt:i < v2
 ·(repeat' (first|with_reducible (first|refine Xaj ?_|refine Xac ?_|refine Xas ?_|refine Xaz ?_|refine Xaf ?_|refine Xaa ?_)|(refine Xal _ rfl (fun h=>?_) (fun h=>?_)<;>((try (simp only [whn] at h));first|(exfalso;omega;done)|skip))|((apply Xad rfl);(case h=>((try (intro (hp:(_:Bool)=true);((try simp only [Bool.and_eq_true,Bool.not_eq_true',Bool.not_eq_true] at hp);(try simp only [hp,wte]);(try simp only [whn] at hp))));(first|(apply Xab 0 rfl;(exact Xar _ rfl))|(apply XaJ;(case hs=>(intro _ _ h;cases h));(case hx=>rfl);(case hrun=>(intro w;simp [wtb,AV.val,go_sem];(try go_bits);rfl))))));(case hT=>((try simp only [wtn,Xpr,Xpo,Xpp,Xps,Xpw,Nat.reduceAdd,Nat.reduceMul,Nat.reduceSub,↓reduceIte,Nat.reduceEqDiff]);rfl)))|fail))
  refine Xc7 (B:=[]) (R:=[_,_]) mixed [0,1,2,3,4,5,6,7,8] [8] [10] (some 9) _ 1 (Xpn _) (by decide +kernel) rfl (Xgm rfl rfl rfl XbK.out rfl rfl) (by decide) ?_
  (repeat' (first|(apply Xcx rfl rfl;(case h=>(intro H1;(try simp only [Xpy,Xpx]);(first|(apply Xab 0 rfl;(exact Xar _ rfl))|(apply Xab 6 rfl;(exact XaC _ _ _ _ _ rfl rfl XaT.out (by first|(simp [wlq];omega)|fail) (by first|(simp [wlq];omega)|fail)))|(apply Xab 7 rfl;(exact XaD _ _ _ _ _ _ _ _ _ _ rfl rfl rfl HEl.out rfl (by first|omega|fail) (by simp;first|done|fail)))|(apply Xab 9 rfl;(exact Xbk _ _ _ _ _ _ _ _ _ _ rfl rfl HEl.out (by first|exact .inl ⟨rfl,rfl⟩|fail) (by first|exact .inr ⟨_,_,rfl,rfl⟩|fail) (by omega) (by omega))))));(case hT=>((try simp (disch:=omega) only [wtn,Xdy,XdC,JF.cells,Xpr,Xpo,Xpp,Xps,Xpw,Nat.reduceAdd,Nat.reduceMul,Nat.reduceSub,↓reduceIte,Nat.reduceEqDiff]);rfl)))|(apply Xc9 rfl rfl;(refine Xap 11 rfl ?_;(refine Xax 25 Tryz.f25 [_] _ _ _ rfl rfl Tryz.func25 (by decide) rfl (XpA (l₁:=[_])) (VwL.refl _ _) (XnQ _ l kk hd g2 (XcQ.getD i []) (XcQ.take i) (Xnm XcQ (fun s=>s.length≤8) (by decide) i (by simp [XcQ];omega)) (by simp [XcQ];omega) (XiB i)) ?_;rintro _ _ ⟨j,k3,rfl,rfl,hk3,hj⟩));refine ⟨_,rfl,?_⟩;apply Xc8;(case hT=>((try simp (disch:=omega) only [wtn,Xdy,XdC,JF.cells,Xpr,Xpo,Xpp,Xps,Xpw,Nat.reduceAdd,Nat.reduceMul,Nat.reduceSub,↓reduceIte,Nat.reduceEqDiff]);rfl));(case hH=>((try simp (disch:=omega) only [wtn,Xdy,XdC,JF.cells,Xpr,Xpo,Xpp,Xps,Xpw,Nat.reduceAdd,Nat.reduceMul,Nat.reduceSub,↓reduceIte,Nat.reduceEqDiff]);rfl)))|fail))
  (first|(refine Xeb rfl (fun b=>?_))|fail);(apply Xao;(case hT=>((try simp only [wtn,Xpr,Xpo,Xpp,Xps,Xpw,Nat.reduceAdd,Nat.reduceMul,Nat.reduceSub,↓reduceIte,Nat.reduceEqDiff]);rfl));(case hH=>(simp only [Xpy,Xpx];rfl)));(refine Xbw 10 (by decide +kernel) rfl rfl ?_;(first|((refine Xap 16 rfl ?_;(refine Xat _ _ _ _ _ _ _ rfl rfl Xa0.out XaS.out (by first|rfl|fail) (by first|exact Xpm rfl|fail) ?_));apply Xao;(case hT=>((try simp only [wtn,Xpr,Xpo,Xpp,Xps,Xpw,Nat.reduceAdd,Nat.reduceMul,Nat.reduceSub,↓reduceIte,Nat.reduceEqDiff]);rfl));(case hH=>((try simp only [wtn,Xpr,Xpo,Xpp,Xps,Xpw,Nat.reduceAdd,Nat.reduceMul,Nat.reduceSub,↓reduceIte,Nat.reduceEqDiff]);rfl)))|fail));refine XaV (by decide +kernel) ?_
  (repeat' (first|with_reducible (first|refine Xaj ?_|refine Xac ?_|refine Xaf ?_|refine Xaa ?_|refine Xah ?_)|(refine Xal _ rfl (fun h=>?_) (fun h=>?_)<;>((try (simp only [whn] at h));skip))|((apply Xad rfl);(case h=>((try (intro (hp:(_:Bool)=true);((try simp only [Bool.and_eq_true,Bool.not_eq_true',Bool.not_eq_true] at hp);(try simp only [hp,wte]);(try simp only [whn] at hp))));(first|(apply Xab 0 rfl;(first|exact Xar _ rfl|exact Xav _ rfl))|(apply Xab 6 rfl;(exact Xay _ _ _ _ _ _ _ _ rfl rfl Xa0.out XaT.out (by first|exact Xpm rfl|fail) (by first|exact Xpm rfl|fail)))|(apply XaJ;(case hs=>(intro _ _ h;cases h));(case hx=>rfl);(case hrun=>(intro w;simp [wtb,AV.val,go_sem];(try go_bits);rfl))))));(case hT=>((try simp only [wtn,Xpr,Xpo,Xpp,Xps,Xpw,Nat.reduceAdd,Nat.reduceMul,Nat.reduceSub,↓reduceIte,Nat.reduceEqDiff]);rfl)))|(refine Xak rfl ?_;((first|(refine Xap 13 rfl ?_;(refine XaL _ _ _ _ _ _ _ _ _ _ _ _ _ _ rfl rfl XbA.out (Src.row _ rfl XbA.out) Xa6.out (by first|rfl|(simp;done)|fail) (Xdj _ _ (by omega) (by decide)) (fun ad cap=>?_)))|(refine Xap 17 rfl ?_;(refine XaF _ _ _ _ _ _ _ _ rfl Xa6.out (by first|rfl|fail) rfl (by decide) rfl (fun b=>?_))));apply Xai;(case hT=>((try simp only [wtn,Xpr,Xpo,Xpp,Xps,Xpw,Nat.reduceAdd,Nat.reduceMul,Nat.reduceSub,↓reduceIte,Nat.reduceEqDiff]);rfl));(case hH=>((try simp only [wtn,Xpr,Xpo,Xpp,Xps,Xpw,Nat.reduceAdd,Nat.reduceMul,Nat.reduceSub,↓reduceIte,Nat.reduceEqDiff]);rfl))))|fail))
  ·refine ⟨(i+1,k3,js++[j],ad,cap),by simp only;omega,⟨by simp only;omega,hk3,by simp only [Xpz,Xpq,Xpt];omega,fun x hx=>?_⟩,?_⟩
   ·rcases List.mem_append.1 hx with hx|hx
    ·exact g4'.out x hx
    ·rw [List.mem_singleton] at hx;subst hx;exact ⟨i,by omega,hj⟩
   ·simp only [XhN,Xpz,Xpq,Xpt]
    exact XaK.mk' [_,_] [.row ad _ cap _ _ _,.box bd _] (List.Perm.trans (l₂:=[.row ad _ cap _ _ _,.box bd _]++[_,_]) (by (repeat' (first|exact Xpn _|refine (XpA (l₁:=[_,_])).trans (XpD _ ?_)|refine (XpA (l₁:=[_,_,_])).trans (XpD _ ?_)|fail))) List.perm_append_comm) (XaI.refl _ _) (by (repeat' (first|exact VwL.nil|(refine VwL.cons ?_ ?_)|exact Vw.refl _|exact Vw.top _|fail)))
  ·refine ⟨(i+1,k3,[j]++js,ad,cap),by simp only;omega,⟨by simp only;omega,hk3,by simp only [Xpz,Xpq,Xpt];omega,fun x hx=>?_⟩,?_⟩
   ·rcases List.mem_append.1 hx with hx|hx
    ·rw [List.mem_singleton] at hx;subst hx;exact ⟨i,by omega,hj⟩
    ·exact g4'.out x hx
   ·simp only [XhN,Xpz,Xpq,Xpt]
    exact XaK.mk' [_,_] [.row ad _ cap _ _ _,.box bd _] (List.Perm.trans (l₂:=[.row ad _ cap _ _ _,.box bd _]++[_,_]) (by (repeat' (first|exact Xpn _|refine XpD _ ?_|refine (XpA (l₁:=[_])).trans (XpD _ ?_)|fail))) List.perm_append_comm) (XaI.refl _ _) (by (repeat' (first|exact VwL.nil|(refine VwL.cons ?_ ?_)|exact Vw.refl _|exact Vw.top _|fail)))
 ·(repeat' (first|with_reducible (first|refine Xaj ?_|refine Xac ?_|refine Xaw ?_|refine Xa4 ?_|refine Xaf ?_|refine Xaa ?_|refine XaO ?_|refine XaH ?_)|(refine Xal _ rfl (fun h=>?_) (fun h=>?_)<;>((try (simp only [whn] at h));first|(exfalso;omega;done)|skip))|((apply Xad rfl);(case h=>((try (intro (hp:(_:Bool)=true);((try simp only [Bool.and_eq_true,Bool.not_eq_true',Bool.not_eq_true] at hp);(try simp only [hp,wte]);(try simp only [whn] at hp))));(first|(apply Xab 0 rfl;(first|exact Xar _ rfl|exact Xav _ rfl))|(apply XaJ;(case hs=>(intro _ _ h;cases h));(case hx=>rfl);(case hrun=>(intro w;simp [wtb,AV.val,go_sem];(try go_bits);rfl))))));(case hT=>((try simp only [wtn,Xpr,Xpo,Xpp,Xps,Xpw,Nat.reduceAdd,Nat.reduceMul,Nat.reduceSub,↓reduceIte,Nat.reduceEqDiff]);rfl)))|fail))
  refine Xan _ _ (Xb2 rfl (RV.tmp _) (XaK.mk' [] [.row _ _ _ _ _ _,.box _ _] (Xpn _) (XaI.refl _ _) (VwL.refl _ _))) ⟨js,kk,_,_,rfl,rfl,g2,by omega,by omega,g4'.out⟩
end Go.Proofs.YtcmfamgnmehojaaGreatDoor

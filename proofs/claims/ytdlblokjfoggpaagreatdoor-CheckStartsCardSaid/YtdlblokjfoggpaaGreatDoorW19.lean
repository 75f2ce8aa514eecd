import Derived.Test.YtdlblokjfoggpaaGreatDoorW7
import Derived.Test.YtdlblokjfoggpaaGreatDoorW18
import Derived.Test.YtdlblokjfoggpaaGreatDoorW10
import Derived.Test.YtdlblokjfoggpaaGreatDoorW14
import Derived.ChangeKeysEq
/- The program's automata: a node's states. -/
set_option linter.unusedSimpArgs false
set_option linter.unusedVariables false
set_option maxRecDepth 100000
set_option maxHeartbeats 8000000
namespace Go.Proofs.YtdlblokjfoggpaaGreatDoor
open Go.RowKit
theorem Xn1 (n:Nat):w4 n=[.x (.int .u64 (wd n 0:Nat)),.x (.int .u64 (wd n 1:Nat)),.x (.int .u64 (wd n 2:Nat)),.x (.int .u64 (wd n 3:Nat))]:=rfl
theorem Xof (bb:Nat) (l:List Nd):RowKit.Hid (∀(ss:List Sx) (ad:Option Addr) (cap:Nat) (kd o r set:Nat) (a b c d e f g:Int),a=(kd:Int)→b=(o:Int)→c=(r:Int)→d=(wd set 0:Nat)→e=(wd set 1:Nat)→f=(wd set 2:Nat)→g=(wd set 3:Nat)→ss.length≤1000 →
  XaM Tryz.prog 22 [.box bb [.sq l.length (nda l),.x (.slice ad (ss).length cap)],.row ad (ss).length cap 76 7 (sxa (ss))] [.x (.pointer (some ⟨bb,0,none⟩)),.x (.agg #[.int .i64 a,.int .i64 b,.int .i64 c,.int .u64 d,.int .u64 e,.int .u64 f,.int .u64 g])] (fun r' H'=>∃g cap',r'=.x (.int .i64 ss.length)∧H'=[.box bb [.sq l.length (nda l),.x (.slice (some ⟨g,0,none⟩) (ss++[(⟨kd,o,r,set⟩:Sx)]).length cap')],.row (some ⟨g,0,none⟩) (ss++[(⟨kd,o,r,set⟩:Sx)]).length cap' 76 7 (sxa (ss++[(⟨kd,o,r,set⟩:Sx)]))])):=
 Lib.hid fun ss ad cap kd o r set a b c d e f g h1 h2 h3 h4 h5 h6 h7 h=>by
  subst h1 h2 h3 h4 h5 h6 h7
  exact Xsu bb l ss ad cap ⟨kd,o,r,set⟩ h
def Xqu (l:List Nd) (k m:Nat):Prop:=∀(bb:Nat) (ss:List Sx) (next g cap n:Nat),k < n→next < ss.length→ss.length+m≤600 →
 XaM Tryz.prog 23 [.box bb [.sq l.length (nda l),.x (.slice (some ⟨g,0,none⟩) (ss).length cap)],.row (some ⟨g,0,none⟩) (ss).length cap 76 7 (sxa (ss))] [.x (.pointer (some ⟨bb,0,none⟩)),.x (.int .i64 k),.x (.int .i64 next)] (fun r' H'=>∃g cap',r'=.x (.int .i64 ((bld n l ss k next).1:Nat))∧H'=[.box bb [.sq l.length (nda l),.x (.slice (some ⟨g,0,none⟩) ((bld n l ss k next).2).length cap')],.row (some ⟨g,0,none⟩) ((bld n l ss k next).2).length cap' 76 7 (sxa ((bld n l ss k next).2))])
theorem Xtj (l:List Nd) (hl:l.length≤256) (k:Nat) (hk:k < l.length) (h0:Xc1 (l.getD k default).kind=some 0):Xqu l k 1:=by
 intro bb ss next g cap n hn hx hb
 obtain ⟨n,rfl⟩:∃q,n=q+1:=⟨n - 1,by omega⟩
 rw [Xer]
 have hg:l.getD k default=l[k]:=by rw [List.getD_eq_getElem?_getD,List.getElem?_eq_getElem hk];rfl
 rw [hg] at h0 ⊢
 have hA:=Xof bb l
 have h0:=Xrd h0
 refine Xbs Tryz.func23 Tryz.ntmps23 ?_
 rcases h0 with e|e|e|e
 ·simp only [e,reduceCtorEq,Nat.reduceEqDiff,if_true,if_false,or_false]
  (have wx:=And.intro @XcB (And.intro @Nd.cells.eq_1 (And.intro @Xn1 @XbZ));(repeat' (first|refine Wkx.go ?_|refine XaJ ?_|refine XaG ?_|(refine XaE (fun h=>?_) (fun h=>?_)<;>first|(exact absurd h (by decide))|(exfalso;omega;done)|skip)|refine XaF ?_|refine Xai ?_|(refine Xaa rfl ?_;(first|refine Xax ?_|refine Xaw ?_|refine Xav (fun ad cap=>?_)|refine Xat (fun b=>?_)|refine Xas (fun b=>?_)|refine Xau (fun b=>?_)|fail))|fail)))<;>(try clear wx)
  first|refine Xab _ _ (Xa0 rfl (RV.tmp _) (Xaq.mk' [.box _ _] [.box bb _,.row (some ⟨g,_,_⟩) _ cap _ _ _] (Xvt _) (Xap.refl _ _) (VwL.refl _ _))) ⟨g,cap,?_,?_⟩|refine Xab _ _ (Xa0 rfl (RV.tmp _) (Xaq.mk' [.box _ _] [.box bb _,.row (some ⟨g,_,_⟩) _ cap _ _ _] (List.perm_append_comm (l₁:=[_,_]) (l₂:=[_])) (Xap.refl _ _) (VwL.refl _ _))) ⟨g,cap,?_,?_⟩
  all_goals (first|rfl|(simp;done))
 ·simp only [e,reduceCtorEq,Nat.reduceEqDiff,if_true,if_false,or_false]
  (have wx:=And.intro @XcB (And.intro @Nd.cells.eq_1 (And.intro @Xn1 @XbZ));(repeat' (first|refine Wkx.go ?_|refine XaJ ?_|refine XaG ?_|(refine XaE (fun h=>?_) (fun h=>?_)<;>first|(exact absurd h (by decide))|(exfalso;omega;done)|skip)|refine XaF ?_|refine Xai ?_|(refine Xaa rfl ?_;(first|((refine Xaj 22 Tryz.f22 [_,_] _ _ _ rfl rfl Tryz.func22 (by decide) rfl (List.perm_append_comm (l₁:=[_]) (l₂:=[_,_])) (VwL.refl _ _) (hA.out ss _ _ 1 next 0 l[k].set _ _ _ _ _ _ _ rfl rfl rfl rfl rfl rfl rfl (by omega)) ?_;rintro _ _ ⟨g,cap,rfl,rfl⟩);refine XaO ?_)|((refine Xaj 22 Tryz.f22 [_,_] _ _ _ rfl rfl Tryz.func22 (by decide) rfl (Xvt _) (VwL.refl _ _) (hA.out ss _ _ 1 next 0 l[k].set _ _ _ _ _ _ _ rfl rfl rfl rfl rfl rfl rfl (by omega)) ?_;rintro _ _ ⟨g,cap,rfl,rfl⟩);refine XaO ?_)|refine Xax ?_|refine Xaw ?_|refine Xav (fun ad cap=>?_)|refine Xat (fun b=>?_)|refine Xas (fun b=>?_)|refine Xau (fun b=>?_)|fail))|fail)))<;>(try clear wx)
  first|refine Xab _ _ (Xa0 rfl (RV.tmp _) (Xaq.mk' [.box _ _] [.box bb _,.row (some ⟨g,_,_⟩) _ cap _ _ _] (Xvt _) (Xap.refl _ _) (VwL.refl _ _))) ⟨g,cap,?_,?_⟩|refine Xab _ _ (Xa0 rfl (RV.tmp _) (Xaq.mk' [.box _ _] [.box bb _,.row (some ⟨g,_,_⟩) _ cap _ _ _] (List.perm_append_comm (l₁:=[_,_]) (l₂:=[_])) (Xap.refl _ _) (VwL.refl _ _))) ⟨g,cap,?_,?_⟩
  all_goals (first|rfl|(simp;done))
 ·simp only [e,reduceCtorEq,Nat.reduceEqDiff,if_true,if_false,or_false]
  (have wx:=And.intro @XcB (And.intro @Nd.cells.eq_1 (And.intro @Xn1 @XbZ));(repeat' (first|refine Wkx.go ?_|refine XaJ ?_|refine XaG ?_|(refine XaE (fun h=>?_) (fun h=>?_)<;>first|(exact absurd h (by decide))|(exfalso;omega;done)|skip)|refine XaF ?_|refine Xai ?_|(refine Xaa rfl ?_;(first|((refine Xaj 22 Tryz.f22 [_,_] _ _ _ rfl rfl Tryz.func22 (by decide) rfl (List.perm_append_comm (l₁:=[_]) (l₂:=[_,_])) (VwL.refl _ _) (hA.out ss _ _ 3 next 0 0 _ _ _ _ _ _ _ rfl rfl rfl (by rw [XaI];rfl) (by rw [XaI];rfl) (by rw [XaI];rfl) (by rw [XaI];rfl) (by omega)) ?_;rintro _ _ ⟨g,cap,rfl,rfl⟩);refine XaO ?_)|((refine Xaj 22 Tryz.f22 [_,_] _ _ _ rfl rfl Tryz.func22 (by decide) rfl (Xvt _) (VwL.refl _ _) (hA.out ss _ _ 3 next 0 0 _ _ _ _ _ _ _ rfl rfl rfl (by rw [XaI];rfl) (by rw [XaI];rfl) (by rw [XaI];rfl) (by rw [XaI];rfl) (by omega)) ?_;rintro _ _ ⟨g,cap,rfl,rfl⟩);refine XaO ?_)|refine Xax ?_|refine Xaw ?_|refine Xav (fun ad cap=>?_)|refine Xat (fun b=>?_)|refine Xas (fun b=>?_)|refine Xau (fun b=>?_)|fail))|fail)))<;>(try clear wx)
  first|refine Xab _ _ (Xa0 rfl (RV.tmp _) (Xaq.mk' [.box _ _] [.box bb _,.row (some ⟨g,_,_⟩) _ cap _ _ _] (Xvt _) (Xap.refl _ _) (VwL.refl _ _))) ⟨g,cap,?_,?_⟩|refine Xab _ _ (Xa0 rfl (RV.tmp _) (Xaq.mk' [.box _ _] [.box bb _,.row (some ⟨g,_,_⟩) _ cap _ _ _] (List.perm_append_comm (l₁:=[_,_]) (l₂:=[_])) (Xap.refl _ _) (VwL.refl _ _))) ⟨g,cap,?_,?_⟩
  all_goals (first|rfl|(simp;done))
 ·simp only [e,reduceCtorEq,Nat.reduceEqDiff,if_true,if_false,or_false]
  (have wx:=And.intro @XcB (And.intro @Nd.cells.eq_1 (And.intro @Xn1 @XbZ));(repeat' (first|refine Wkx.go ?_|refine XaJ ?_|refine XaG ?_|(refine XaE (fun h=>?_) (fun h=>?_)<;>first|(exact absurd h (by decide))|(exfalso;omega;done)|skip)|refine XaF ?_|refine Xai ?_|(refine Xaa rfl ?_;(first|((refine Xaj 22 Tryz.f22 [_,_] _ _ _ rfl rfl Tryz.func22 (by decide) rfl (List.perm_append_comm (l₁:=[_]) (l₂:=[_,_])) (VwL.refl _ _) (hA.out ss _ _ 4 next 0 0 _ _ _ _ _ _ _ rfl rfl rfl (by rw [XaI];rfl) (by rw [XaI];rfl) (by rw [XaI];rfl) (by rw [XaI];rfl) (by omega)) ?_;rintro _ _ ⟨g,cap,rfl,rfl⟩);refine XaO ?_)|((refine Xaj 22 Tryz.f22 [_,_] _ _ _ rfl rfl Tryz.func22 (by decide) rfl (Xvt _) (VwL.refl _ _) (hA.out ss _ _ 4 next 0 0 _ _ _ _ _ _ _ rfl rfl rfl (by rw [XaI];rfl) (by rw [XaI];rfl) (by rw [XaI];rfl) (by rw [XaI];rfl) (by omega)) ?_;rintro _ _ ⟨g,cap,rfl,rfl⟩);refine XaO ?_)|refine Xax ?_|refine Xaw ?_|refine Xav (fun ad cap=>?_)|refine Xat (fun b=>?_)|refine Xas (fun b=>?_)|refine Xau (fun b=>?_)|fail))|fail)))<;>(try clear wx)
  first|refine Xab _ _ (Xa0 rfl (RV.tmp _) (Xaq.mk' [.box _ _] [.box bb _,.row (some ⟨g,_,_⟩) _ cap _ _ _] (Xvt _) (Xap.refl _ _) (VwL.refl _ _))) ⟨g,cap,?_,?_⟩|refine Xab _ _ (Xa0 rfl (RV.tmp _) (Xaq.mk' [.box _ _] [.box bb _,.row (some ⟨g,_,_⟩) _ cap _ _ _] (List.perm_append_comm (l₁:=[_,_]) (l₂:=[_])) (Xap.refl _ _) (VwL.refl _ _))) ⟨g,cap,?_,?_⟩
  all_goals (first|rfl|(simp;done))
theorem Xl9 {l:List Nd} {k m:Nat} (h:Xik l k m):∀(n:Nat) (ss:List Sx) (next:Nat),k < n→∃t,(bld n l ss k next).2=ss++t:=by
 induction h with
 | leaf k hk=>
   intro n ss next hn
   obtain ⟨n,rfl⟩:∃q,n=q+1:=⟨n - 1,by omega⟩
   rw [Xer]
   rcases Xrd hk with e|e|e|e<;>simp only [e,reduceCtorEq,Nat.reduceEqDiff,if_true,if_false,or_false]
   ·exact ⟨[],by simp⟩
   ·exact ⟨_,rfl⟩
   ·exact ⟨_,rfl⟩
   ·exact ⟨_,rfl⟩
 | one k m hk hl _ ih=>
   intro n ss next hn
   obtain ⟨n,rfl⟩:∃q,n=q+1:=⟨n - 1,by omega⟩
   rw [Xer]
   obtain ⟨t1,e1⟩:=ih n ss next (by omega)
   obtain ⟨t2,e2⟩:=ih n (ss++[⟨2,0,next,0⟩]) ss.length (by omega)
   rcases Xre hk with e|e|e<;>simp only [e,reduceCtorEq,Nat.reduceEqDiff,if_true,if_false,or_false,or_true]
   ·rw [e2,List.append_assoc];exact ⟨_,List.set_append_right _ _ (Nat.le_refl _)⟩
   ·rw [e2,List.append_assoc];exact ⟨_,List.set_append_right _ _ (Nat.le_refl _)⟩
   ·exact ⟨_,by rw [e1,List.append_assoc]⟩
 | two k m n hk hl hr _ _ ih1 ih2=>
   intro q ss next hn
   obtain ⟨q,rfl⟩:∃p,q=p+1:=⟨q - 1,by omega⟩
   rw [Xer]
   rcases Xrf hk with e|e
   ·obtain ⟨t1,e1⟩:=ih2 q ss next (by omega)
    obtain ⟨t2,e2⟩:=ih1 q (bld q l ss (l.getD k default).right next).2 (bld q l ss (l.getD k default).right next).1 (by omega)
    simp only [e,reduceCtorEq,Nat.reduceEqDiff,if_true,if_false]
    exact ⟨_,by rw [e2,e1,List.append_assoc]⟩
   ·obtain ⟨t1,e1⟩:=ih1 q ss next (by omega)
    obtain ⟨t2,e2⟩:=ih2 q (bld q l ss (l.getD k default).left next).2 next (by omega)
    simp only [e,reduceCtorEq,Nat.reduceEqDiff,if_true,if_false]
    exact ⟨_,by rw [e2,e1,List.append_assoc,List.append_assoc]⟩
theorem Xgj (l:List Sx) (k v:Nat) (h:k < l.length):spl (sxa l) (k*7+1) [.x (.int .i64 (v:Nat))]=sxa (l.set k { l[k] with out:=v }):=by
 induction l generalizing k with
 | nil=>simp at h
 | cons a l ih=>
   have e:∀(x:Sx) (y:List Sx),sxa (x :: y)=x.cells++sxa y:=fun x y=>by simp [sxa]
   cases k with
   | zero=>rw [XvH,e,e];simp [spl,Sx.cells]
   | succ k=>
     have h':k < l.length:=by simpa using h
     rw [XvI,e,e]
     have i:=ih k h'
     simp only [List.getElem_cons_succ]
     rw [←i]
     have c7:a.cells.length=7:=by simp [Sx.cells]
     unfold spl
     rw [show (k+1)*7+1=a.cells.length+(k*7+1) by omega,List.take_length_add_append,Nat.add_assoc,List.drop_length_add_append]
     simp only [List.append_assoc]
theorem Xrw (l:List Nd) (hl:l.length≤256) (k m:Nat) (hk:k < l.length) (h0:Xc1 (l.getD k default).kind=some 1) (hlt:(l.getD k default).left < k) (ht:Xik l (l.getD k default).left m) (ih:Xqu l (l.getD k default).left m):Xqu l k (m+1):=by
 intro bb ss next g cap n hn hx hb
 obtain ⟨n,rfl⟩:∃q,n=q+1:=⟨n - 1,by omega⟩
 rw [Xer]
 have hg:l.getD k default=l[k]:=by rw [List.getD_eq_getElem?_getD,List.getElem?_eq_getElem hk];rfl
 rw [hg] at h0 hlt ht ih ⊢
 have hA:=Xof bb l
 have h0:=Xre h0
 refine Xbs Tryz.func23 Tryz.ntmps23 ?_
 by_cases h7:l[k].kind=7
 ·simp only [h7,reduceCtorEq,Nat.reduceEqDiff,if_true,if_false,or_false]
  have hc:=ih bb ss next g cap n (by omega) hx (by omega)
  have hb2:=Xd9 ht n ss next (by omega) hx
  generalize bld n l ss l[k].left next=A at *
  obtain ⟨a1,ass⟩:=A
  simp only at hc hb2
  have hc:=Lib.hid hc
  clear ih ht
  (have wx:=And.intro @XcB (And.intro @Nd.cells.eq_1 (And.intro @Xn1 @XbZ));(repeat' (first|refine Wkx.go ?_|refine XaJ ?_|refine XaG ?_|(refine XaE (fun h=>?_) (fun h=>?_)<;>first|(exact absurd h (by decide))|(exfalso;omega;done)|skip)|refine XaF ?_|refine Xai ?_|(refine Xaa rfl ?_;(first|((refine Xaj 23 Tryz.f23 [_,_] _ _ _ rfl rfl Tryz.func23 (by decide) rfl (List.perm_append_comm (l₁:=[_]) (l₂:=[_,_])) (VwL.refl _ _) (hc.out) ?_;rintro _ _ ⟨g,cap,rfl,rfl⟩);refine XaO ?_)|((refine Xaj 23 Tryz.f23 [_,_] _ _ _ rfl rfl Tryz.func23 (by decide) rfl (Xvt _) (VwL.refl _ _) (hc.out) ?_;rintro _ _ ⟨g,cap,rfl,rfl⟩);refine XaO ?_)|((refine Xaj 22 Tryz.f22 [_,_] _ _ _ rfl rfl Tryz.func22 (by decide) rfl (List.perm_append_comm (l₁:=[_]) (l₂:=[_,_])) (VwL.refl _ _) (hA.out ass _ _ 2 a1 next 0 _ _ _ _ _ _ _ rfl rfl rfl (by rw [XaI];rfl) (by rw [XaI];rfl) (by rw [XaI];rfl) (by rw [XaI];rfl) (by omega)) ?_;rintro _ _ ⟨g,cap,rfl,rfl⟩);refine XaO ?_)|((refine Xaj 22 Tryz.f22 [_,_] _ _ _ rfl rfl Tryz.func22 (by decide) rfl (Xvt _) (VwL.refl _ _) (hA.out ass _ _ 2 a1 next 0 _ _ _ _ _ _ _ rfl rfl rfl (by rw [XaI];rfl) (by rw [XaI];rfl) (by rw [XaI];rfl) (by rw [XaI];rfl) (by omega)) ?_;rintro _ _ ⟨g,cap,rfl,rfl⟩);refine XaO ?_)|refine Xax ?_|refine Xaw ?_|refine Xav (fun ad cap=>?_)|refine Xat (fun b=>?_)|refine Xas (fun b=>?_)|refine Xau (fun b=>?_)|fail))|fail)))<;>(try clear wx)
  first|refine Xab _ _ (Xa0 rfl (RV.tmp _) (Xaq.mk' [.box _ _] [.box bb _,.row (some ⟨g,_,_⟩) _ cap _ _ _] (Xvt _) (Xap.refl _ _) (VwL.refl _ _))) ⟨g,cap,?_,?_⟩|refine Xab _ _ (Xa0 rfl (RV.tmp _) (Xaq.mk' [.box _ _] [.box bb _,.row (some ⟨g,_,_⟩) _ cap _ _ _] (List.perm_append_comm (l₁:=[_,_]) (l₂:=[_])) (Xap.refl _ _) (VwL.refl _ _))) ⟨g,cap,?_,?_⟩
  ·rfl
  ·rfl
 ·have h56:l[k].kind=5∨l[k].kind=6:=by omega
  simp only [show l[k].kind≠2 from by omega,show l[k].kind≠8 from by omega,show l[k].kind≠9 from by omega,show l[k].kind≠3 from by omega,show l[k].kind≠4 from by omega,h7,h56,if_true,if_false]
  have hc:=fun g cap=>ih bb (ss++[⟨2,0,next,0⟩]) ss.length g cap n (by omega) (by simp) (by simp;omega)
  have hb2:=Xd9 ht n (ss++[⟨2,0,next,0⟩]) ss.length (by omega) (by simp)
  obtain ⟨t,hpre⟩:=Xl9 ht n (ss++[⟨2,0,next,0⟩]) ss.length (by omega)
  generalize bld n l (ss++[⟨2,0,next,0⟩]) l[k].left ss.length=A at *
  obtain ⟨a1,ass⟩:=A
  simp only [XvF,List.length_singleton] at hb2
  simp only at hc hb2 hpre ⊢
  have hc:=Lib.hid hc
  clear ih ht
  (have wx:=And.intro @XcB (And.intro @Nd.cells.eq_1 (And.intro @Xn1 @XbZ));(repeat' (first|refine Wkx.go ?_|refine XaJ ?_|refine XaG ?_|(refine XaE (fun h=>?_) (fun h=>?_)<;>first|(exact absurd h (by decide))|(exfalso;omega;done)|skip)|refine XaF ?_|refine Xai ?_|(refine Xaa rfl ?_;(first|((refine Xaj 22 Tryz.f22 [_,_] _ _ _ rfl rfl Tryz.func22 (by decide) rfl (List.perm_append_comm (l₁:=[_]) (l₂:=[_,_])) (VwL.refl _ _) (hA.out ss _ _ 2 0 next 0 _ _ _ _ _ _ _ rfl rfl rfl (by rw [XaI];rfl) (by rw [XaI];rfl) (by rw [XaI];rfl) (by rw [XaI];rfl) (by omega)) ?_;rintro _ _ ⟨g,cap,rfl,rfl⟩);refine XaO ?_)|((refine Xaj 22 Tryz.f22 [_,_] _ _ _ rfl rfl Tryz.func22 (by decide) rfl (Xvt _) (VwL.refl _ _) (hA.out ss _ _ 2 0 next 0 _ _ _ _ _ _ _ rfl rfl rfl (by rw [XaI];rfl) (by rw [XaI];rfl) (by rw [XaI];rfl) (by rw [XaI];rfl) (by omega)) ?_;rintro _ _ ⟨g,cap,rfl,rfl⟩);refine XaO ?_)|((refine Xaj 23 Tryz.f23 [_,_] _ _ _ rfl rfl Tryz.func23 (by decide) rfl (List.perm_append_comm (l₁:=[_]) (l₂:=[_,_])) (VwL.refl _ _) (hc.out _ _) ?_;rintro _ _ ⟨g,cap,rfl,rfl⟩);refine XaO ?_)|((refine Xaj 23 Tryz.f23 [_,_] _ _ _ rfl rfl Tryz.func23 (by decide) rfl (Xvt _) (VwL.refl _ _) (hc.out _ _) ?_;rintro _ _ ⟨g,cap,rfl,rfl⟩);refine XaO ?_)|refine Xax ?_|refine Xaw ?_|refine Xav (fun ad cap=>?_)|refine Xat (fun b=>?_)|refine Xas (fun b=>?_)|refine Xau (fun b=>?_)|fail))|fail)))<;>(try clear wx)
  all_goals
   have hlen:ss.length < ass.length:=by omega
   have hat:ass[ss.length]=⟨2,0,next,0⟩:=by
    have h9:ass[ss.length]?=some ⟨2,0,next,0⟩:=by rw [hpre];simp
    exact (List.getElem?_eq_some_iff.1 h9).2
   have hsp:spl (sxa ass) (ss.length*7+1) [.x (.int .i64 (a1:Nat))]=sxa (ass.set ss.length ⟨2,a1,next,0⟩):=by rw [Xgj _ _ _ hlen,hat]
   rw [hsp]
   first|refine Xab _ _ (Xa0 rfl (RV.tmp _) (Xaq.mk' [.box _ _] [.box bb _,.row (some ⟨g,_,_⟩) _ cap _ _ _] (Xvt _) (Xap.refl _ _) (VwL.refl _ _))) ⟨g,cap,?_,?_⟩|refine Xab _ _ (Xa0 rfl (RV.tmp _) (Xaq.mk' [.box _ _] [.box bb _,.row (some ⟨g,_,_⟩) _ cap _ _ _] (List.perm_append_comm (l₁:=[_,_]) (l₂:=[_])) (Xap.refl _ _) (VwL.refl _ _))) ⟨g,cap,?_,?_⟩
   ·first|(rw [if_pos (by omega)];rfl)|(rw [if_neg (by omega)];rfl)
   ·simp only [List.length_set]
theorem Xrx (l:List Nd) (hl:l.length≤256) (k m1 m2:Nat) (hk:k < l.length) (h0:Xc1 (l.getD k default).kind=some 2) (hlt:(l.getD k default).left < k) (hrt:(l.getD k default).right < k) (ht1:Xik l (l.getD k default).left m1) (ht2:Xik l (l.getD k default).right m2)
  (ih1:Xqu l (l.getD k default).left m1) (ih2:Xqu l (l.getD k default).right m2):Xqu l k (m1+m2+1):=by
 intro bb ss next g cap n hn hx hb
 obtain ⟨n,rfl⟩:∃q,n=q+1:=⟨n - 1,by omega⟩
 rw [Xer]
 have hg:l.getD k default=l[k]:=by rw [List.getD_eq_getElem?_getD,List.getElem?_eq_getElem hk];rfl
 rw [hg] at h0 hlt hrt ht1 ht2 ih1 ih2 ⊢
 have hA:=Xof bb l
 have h0:=Xrf h0
 refine Xbs Tryz.func23 Tryz.ntmps23 ?_
 rcases h0 with h3|h4
 ·simp only [h3,reduceCtorEq,Nat.reduceEqDiff,if_true,if_false]
  have hc:=ih2 bb ss next g cap n (by omega) hx (by omega)
  have hb2:=Xd9 ht2 n ss next (by omega) hx
  generalize bld n l ss l[k].right next=A at *
  obtain ⟨a1,ass⟩:=A
  simp only at hc hb2 ⊢
  have hc:=Lib.hid hc
  have hd:=fun g cap=>ih1 bb ass a1 g cap n (by omega) hb2.2.2 (by omega)
  generalize bld n l ass l[k].left a1=B at *
  obtain ⟨c1,css⟩:=B
  simp only at hd ⊢
  have hd:=Lib.hid hd
  clear ih1 ih2 ht1 ht2
  (have wx:=And.intro @XcB (And.intro @Nd.cells.eq_1 (And.intro @Xn1 @XbZ));(repeat' (first|refine Wkx.go ?_|refine XaG ?_|(refine XaE (fun h=>?_) (fun h=>?_)<;>first|(exact absurd h (by decide))|(exfalso;omega;done)|skip)|refine XaF ?_|refine Xai ?_|(refine Xaa rfl ?_;(first|refine Xax ?_|refine Xaw ?_|refine Xav (fun ad cap=>?_)|refine Xat (fun b=>?_)|refine Xas (fun b=>?_)|refine Xau (fun b=>?_)|fail))|fail)))<;>(try clear wx)
  refine XaP mixed [] [_] [_,_] (Xvt _) ?_
  ((first|refine Xbj 0 ?_|refine Xbt 0 ?_);(first|refine Xbj 1 ?_|refine Xbt 1 ?_);(first|refine Xbj 2 ?_|refine Xbt 2 ?_);(first|refine Xbj 3 ?_|refine Xbt 3 ?_);(first|refine Xbj 4 ?_|refine Xbt 4 ?_);(first|refine Xbj 5 ?_|refine Xbt 5 ?_);(first|refine Xbj 6 ?_|refine Xbt 6 ?_))
  (refine Xdd 7 ?_;(first|refine Xcb ?_|((refine Xaj 23 Tryz.f23 [_,_] _ _ _ rfl rfl Tryz.func23 (by decide) rfl (Xvt _) (VwL.refl _ _) (hc.out) ?_;rintro _ _ ⟨g,cap,rfl,rfl⟩);refine XaO ?_)|refine Xax ?_|refine Xaw ?_|refine Xav (fun ad cap=>?_)|refine Xat (fun b=>?_)|refine Xas (fun b=>?_)|refine Xau (fun b=>?_)|fail))
  (refine Xdd 8 ?_;(first|refine Xcb ?_|((refine Xaj 23 Tryz.f23 [_,_] _ _ _ rfl rfl Tryz.func23 (by decide) rfl (Xvt _) (VwL.refl _ _) (hd.out _ _) ?_;rintro _ _ ⟨g,cap,rfl,rfl⟩);refine XaO ?_)|refine Xax ?_|refine Xaw ?_|refine Xav (fun ad cap=>?_)|refine Xat (fun b=>?_)|refine Xas (fun b=>?_)|refine Xau (fun b=>?_)|fail))
  (refine Xdd 9 ?_;(first|refine Xcb ?_|refine Xax ?_|refine Xaw ?_|refine Xav (fun ad cap=>?_)|refine Xat (fun b=>?_)|refine Xas (fun b=>?_)|refine Xau (fun b=>?_)|fail))
  refine XaV (by decide +kernel) ?_
  refine Xag rfl (by simp only [XvE,XvD];rfl) ?_
  refine Xar (by decide +kernel) ?_
  (repeat' (first|refine Wkx.go ?_|refine XaJ ?_|refine XaG ?_|(refine XaE (fun h=>?_) (fun h=>?_)<;>first|(exact absurd h (by decide))|(exfalso;omega;done)|skip)|refine XaF ?_|refine Xai ?_|(refine Xaa rfl ?_;(first|refine Xax ?_|refine Xaw ?_|refine Xav (fun ad cap=>?_)|refine Xat (fun b=>?_)|refine Xas (fun b=>?_)|refine Xau (fun b=>?_)|fail))|fail))
  first|refine Xab _ _ (Xa0 rfl (RV.tmp _) (Xaq.mk' [.box _ _] [.box bb _,.row (some ⟨g,_,_⟩) _ cap _ _ _] (Xvt _) (Xap.refl _ _) (VwL.refl _ _))) ⟨g,cap,?_,?_⟩|refine Xab _ _ (Xa0 rfl (RV.tmp _) (Xaq.mk' [.box _ _] [.box bb _,.row (some ⟨g,_,_⟩) _ cap _ _ _] (List.perm_append_comm (l₁:=[_,_]) (l₂:=[_])) (Xap.refl _ _) (VwL.refl _ _))) ⟨g,cap,?_,?_⟩
  ·rfl
  ·rfl
 ·simp only [h4,reduceCtorEq,Nat.reduceEqDiff,if_true,if_false]
  have hc:=ih1 bb ss next g cap n (by omega) hx (by omega)
  have hb2:=Xd9 ht1 n ss next (by omega) hx
  generalize bld n l ss l[k].left next=A at *
  obtain ⟨a1,ass⟩:=A
  simp only at hc hb2 ⊢
  have hc:=Lib.hid hc
  have hd:=fun g cap=>ih2 bb ass next g cap n (by omega) (by omega) (by omega)
  have hb3:=Xd9 ht2 n ass next (by omega) (by omega)
  generalize bld n l ass l[k].right next=B at *
  obtain ⟨c1,css⟩:=B
  simp only at hd hb3 ⊢
  have hd:=Lib.hid hd
  clear ih1 ih2 ht1 ht2
  (have wx:=And.intro @XcB (And.intro @Nd.cells.eq_1 (And.intro @Xn1 @XbZ));(repeat' (first|refine Wkx.go ?_|refine XaJ ?_|refine XaG ?_|(refine XaE (fun h=>?_) (fun h=>?_)<;>first|(exact absurd h (by decide))|(exfalso;omega;done)|skip)|refine XaF ?_|refine Xai ?_|(refine Xaa rfl ?_;(first|((refine Xaj 23 Tryz.f23 [_,_] _ _ _ rfl rfl Tryz.func23 (by decide) rfl (List.perm_append_comm (l₁:=[_]) (l₂:=[_,_])) (VwL.refl _ _) (hc.out) ?_;rintro _ _ ⟨g,cap,rfl,rfl⟩);refine XaO ?_)|((refine Xaj 23 Tryz.f23 [_,_] _ _ _ rfl rfl Tryz.func23 (by decide) rfl (Xvt _) (VwL.refl _ _) (hc.out) ?_;rintro _ _ ⟨g,cap,rfl,rfl⟩);refine XaO ?_)|((refine Xaj 23 Tryz.f23 [_,_] _ _ _ rfl rfl Tryz.func23 (by decide) rfl (List.perm_append_comm (l₁:=[_]) (l₂:=[_,_])) (VwL.refl _ _) (hd.out _ _) ?_;rintro _ _ ⟨g,cap,rfl,rfl⟩);refine XaO ?_)|((refine Xaj 23 Tryz.f23 [_,_] _ _ _ rfl rfl Tryz.func23 (by decide) rfl (Xvt _) (VwL.refl _ _) (hd.out _ _) ?_;rintro _ _ ⟨g,cap,rfl,rfl⟩);refine XaO ?_)|((refine Xaj 22 Tryz.f22 [_,_] _ _ _ rfl rfl Tryz.func22 (by decide) rfl (List.perm_append_comm (l₁:=[_]) (l₂:=[_,_])) (VwL.refl _ _) (hA.out css _ _ 2 a1 c1 0 _ _ _ _ _ _ _ rfl rfl rfl (by rw [XaI];rfl) (by rw [XaI];rfl) (by rw [XaI];rfl) (by rw [XaI];rfl) (by omega)) ?_;rintro _ _ ⟨g,cap,rfl,rfl⟩);refine XaO ?_)|((refine Xaj 22 Tryz.f22 [_,_] _ _ _ rfl rfl Tryz.func22 (by decide) rfl (Xvt _) (VwL.refl _ _) (hA.out css _ _ 2 a1 c1 0 _ _ _ _ _ _ _ rfl rfl rfl (by rw [XaI];rfl) (by rw [XaI];rfl) (by rw [XaI];rfl) (by rw [XaI];rfl) (by omega)) ?_;rintro _ _ ⟨g,cap,rfl,rfl⟩);refine XaO ?_)|refine Xax ?_|refine Xaw ?_|refine Xav (fun ad cap=>?_)|refine Xat (fun b=>?_)|refine Xas (fun b=>?_)|refine Xau (fun b=>?_)|fail))|fail)))<;>(try clear wx)
  first|refine Xab _ _ (Xa0 rfl (RV.tmp _) (Xaq.mk' [.box _ _] [.box bb _,.row (some ⟨g,_,_⟩) _ cap _ _ _] (Xvt _) (Xap.refl _ _) (VwL.refl _ _))) ⟨g,cap,?_,?_⟩|refine Xab _ _ (Xa0 rfl (RV.tmp _) (Xaq.mk' [.box _ _] [.box bb _,.row (some ⟨g,_,_⟩) _ cap _ _ _] (List.perm_append_comm (l₁:=[_,_]) (l₂:=[_])) (Xap.refl _ _) (VwL.refl _ _))) ⟨g,cap,?_,?_⟩
  ·rfl
  ·rfl
theorem XqI (l:List Nd) (hl:l.length≤256) {k m:Nat} (h:Xik l k m):k < l.length→Xqu l k m:=by
 induction h with
 | leaf k h0=>exact fun hk=>Xtj l hl k hk h0
 | one k m h0 hlt ht ih=>exact fun hk=>Xrw l hl k m hk h0 hlt ht (ih (by omega))
 | two k m n h0 h1 h2 ht1 ht2 ih1 ih2=>exact fun hk=>Xrx l hl k m n hk h0 h1 h2 ht1 ht2 (ih1 (by omega)) (ih2 (by omega))
theorem Xpn (n:Nat):(n % 115792089237316195423570985008687907853269984665640564039457584007913129639936=0)↔wd n 0=0∧wd n 1=0∧wd n 2=0∧wd n 3=0:=by
 unfold wd
 simp only [Nat.mul_zero,Nat.pow_zero,Nat.div_one,Nat.mul_one,show (2:Nat) ^ 64=18446744073709551616 from rfl,show (2:Nat) ^ (64*2)=340282366920938463463374607431768211456 from rfl,show (2:Nat) ^ (64*3)=6277101735386680763835789423207666416102355444464034512896 from rfl]
 omega
section
variable {P:Program} {w:World} {H:List Hp} {o:Oper} {ρ:Operand→AV}
theorem XrS (t e:TypeId) (hu:P.underlying t=some (.array 4 e)) (he:P.underlying e=some (.int .u64)) {inf:TypeInfo} (hi:P.info? e=some inf) (hs:inf.size=1) (a0 a1 a2 a3 b0 b1 b2 b3:Int) :
  (Op.equal t (.agg #[.int .u64 a0,.int .u64 a1,.int .u64 a2,.int .u64 a3]) (.agg #[.int .u64 b0,.int .u64 b1,.int .u64 b2,.int .u64 b3])).run P w=.ok (a0 == b0 && a1 == b1 && a2 == b2 && a3 == b3) w:=by
 have hc:P.cellsOf e=1:=by simp [Program.cellsOf,hi,hs]
 have hq:∀(d:Nat) (x y:Int),(Op.equalIn (d+1) e (.int .u64 x) (.int .u64 y)).run P w=.ok (x == y) w:=fun d x y=>by
  simp [Op.equalIn,run_underlying he]
 have hp:∀(cs:Array Value) (i:Nat) (v:Int),cs[i]?=some (.int .u64 v)→(part e cs i).run P w=.ok (.int .u64 v) w:=fun cs i v h=>by
  simp [part,isAgg,run_underlying he,sizeOf,typeInfo,hi,hs,h,Result.andThen]
 simp only [Op.equal,Op.maxDepth]
 rw [run_equalIn_array w 9999 _ _ hu hi,hc]
 simp only [show List.range 4=[0,1,2,3] from rfl,Op.eqItems,Sem.run_bind,Nat.mul_one]
 rw [hp _ 0 a0 rfl,Result.andThen_ok,hp _ 0 b0 rfl,Result.andThen_ok,hq 9998,Result.andThen_ok]
 cases a0 == b0
 ·rfl
 simp only [Bool.not_true,Bool.false_eq_true,if_false,Bool.true_and,Sem.run_bind]
 rw [hp _ 1 a1 rfl,Result.andThen_ok,hp _ 1 b1 rfl,Result.andThen_ok,hq 9998,Result.andThen_ok]
 cases a1 == b1
 ·rfl
 simp only [Bool.not_true,Bool.false_eq_true,if_false,Bool.true_and,Sem.run_bind]
 rw [hp _ 2 a2 rfl,Result.andThen_ok,hp _ 2 b2 rfl,Result.andThen_ok,hq 9998,Result.andThen_ok]
 cases a2 == b2
 ·rfl
 simp only [Bool.not_true,Bool.false_eq_true,if_false,Bool.true_and,Sem.run_bind]
 rw [hp _ 3 a3 rfl,Result.andThen_ok,hp _ 3 b3 rfl,Result.andThen_ok,hq 9998,Result.andThen_ok]
 cases a3 == b3<;>rfl
theorem Xen (t u e:TypeId) (x y:Operand) (n:Nat) (ho:o.op=.binOp .neq t x y u)
  (hx:ρ x=.x (.agg #[.int .u64 (wd n 0:Nat),.int .u64 (wd n 1:Nat),.int .u64 (wd n 2:Nat),.int .u64 (wd n 3:Nat)])) (hy:ρ y=.x (.agg #[.int .u64 0,.int .u64 0,.int .u64 0,.int .u64 0]))
  (hA:P.underlying t=some (.array 4 e)∧(P.info? e).map (·.size)=some 1) (he:P.underlying e=some (.int .u64)) (hg:P.eqGuardType P.depth t=false) :
  XeR P o ρ H (.x (.bool (decide (n % 115792089237316195423570985008687907853269984665640564039457584007913129639936≠0)))):=by
 intro V a w ok
 have e1:=ok.evx (by simp [ho,Op.operands]) hx
 have e2:=ok.evx (by simp [ho,Op.operands]) hy
 obtain ⟨hu,hs⟩:=hA
 obtain ⟨inf,hi1,hi2⟩:=Option.map_eq_some_iff.1 hs
 refine ⟨_,fun w'=>?_,by rw [Den]⟩
 have hr:=XrS (w:=w') t e hu he hi1 hi2 (wd n 0:Nat) (wd n 1:Nat) (wd n 2:Nat) (wd n 3:Nat) 0 0 0 0
 have hb:(!(((wd n 0:Nat):Int) == 0 && ((wd n 1:Nat):Int) == 0 && ((wd n 2:Nat):Int) == 0 && ((wd n 3:Nat):Int) == 0))=decide (n % 115792089237316195423570985008687907853269984665640564039457584007913129639936≠0):=by
  rw [Bool.eq_iff_iff,decide_eq_true_eq,ne_eq,Xpn]
  simp only [Bool.not_eq_true',Bool.and_eq_false_iff,XvK,ne_eq]
  omega
 have hrun:(binOp .neq t (.agg #[.int .u64 (wd n 0:Nat),.int .u64 (wd n 1:Nat),.int .u64 (wd n 2:Nat),.int .u64 (wd n 3:Nat)]) (.agg #[.int .u64 0,.int .u64 0,.int .u64 0,.int .u64 0])).run P w'=.ok (.bool (decide (n % 115792089237316195423570985008687907853269984665640564039457584007913129639936≠0))) w':=by
  rw [←hb]
  simp only [binOp,Sem.run_bind,hr,Result.andThen_ok,Sem.run_pure]
 have hgd:∀a b:Array Value,(eqGuard .neq t x y (.agg a) (.agg b)).run P w'=.ok () w':=fun a b=>by
  simp [eqGuard,hg,Result.andThen]
 simp only [execOp,ho,e1,e2,Sem.run_bind,hgd,hrun,Result.andThen_ok,Sem.run_pure]
end
end Go.Proofs.YtdlblokjfoggpaaGreatDoor

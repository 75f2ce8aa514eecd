import Derived.Test.YtdlblokjfoggpaaGreatDoorW7
import Derived.Test.YtdlblokjfoggpaaGreatDoorW16
/- The program's patterns: single, element, class. -/
set_option linter.unusedSimpArgs false
set_option linter.unusedVariables false
set_option maxRecDepth 100000
set_option maxHeartbeats 8000000
namespace Go.Proofs.YtdlblokjfoggpaaGreatDoor
open Go.RowKit
set_option linter.defProp false
theorem XnF (pb:Nat) (s:List UInt8) (p:RS) (ad:Option Addr) (cap:Nat) (hs:s.length≤128) (hp:p.at_ < s.length):XaM Tryz.prog 207 [.box pb (pcx s p ad cap)] [.x (.pointer (some ⟨pb,0,none⟩))] (fun r H'=>
  r=.tup [.x (.int .i64 (XcH s p.at_).1),.x (v4 (XcH s p.at_).2.1),.x (.int .i64 ((XcH s p.at_).2.2.1:Nat))]∧H'=[.box pb (pcx s { p with at_:=(XcH s p.at_).2.2.2 } ad cap)]):=by
 have he:=XsU pb s p ad cap hs hp
 unfold pcx at he ⊢
 have hq:=Xdz s p.at_
 refine Xbs Tryz.func207 Tryz.ntmps207 ?_
 (have wx:=And.intro @Xcr (And.intro @Xdt (And.intro @Xgc @w4r));(repeat' (first|refine Wkx.go ?_|refine XaJ ?_|refine XaG ?_|(refine XaE (fun h=>?_) (fun h=>?_)<;>first|(exact absurd h (by decide))|(exfalso;omega;done)|skip)|refine XaF ?_|refine Xai ?_ (h:=by first|exact fun _=>Xb3 rfl rfl Tryz.func201 (Xb9 _ _ hq hq)|fail)|refine Xai ?_ (h:=by first|exact fun _=>Xak _ _ _ _ _ _ _ rfl rfl rfl (by kernel_rfl) Xdb.out (by omega)|fail)|refine Xai ?_|(refine Xaa rfl ?_;(first|((refine Xa5 Tryz.func199 [_] rfl rfl (.refl _) (he) ?_;rintro _ _ ⟨rfl,rfl⟩);refine XaO ?_)|((refine Xa5 Tryz.func199 [_] rfl rfl (XvG (l₁:=[_])) (he) ?_;rintro _ _ ⟨rfl,rfl⟩);refine XaO ?_)|refine Xax ?_|refine Xaw ?_|refine Xav (fun ad cap=>?_)|refine Xat (fun b=>?_)|refine Xas (fun b=>?_)|refine Xau (fun b=>?_)|fail))|fail)))<;>(try clear wx)
 all_goals
  first|refine Xab _ _ (Xuk rfl (RV.tmp _) (RV.cell 0 rfl rfl XaR.out (by simp) (by simp)) (RV.tmp _) (Xaq.mk' [.box b _] [.box pb _] (by (repeat' (first|exact Xvt _|exact List.Perm.nil|refine XvJ _ ?_|refine (XvG (l₁:=[_])).trans (XvJ _ ?_)|refine (XvG (l₁:=[_,_])).trans (XvJ _ ?_)|refine (XvG (l₁:=[_,_,_])).trans (XvJ _ ?_)|refine (XvG (l₁:=[_,_,_,_])).trans (XvJ _ ?_)|refine (XvG (l₁:=[_,_,_,_,_])).trans (XvJ _ ?_)|refine (XvG (l₁:=[_,_,_,_,_,_])).trans (XvJ _ ?_)|refine (XvG (l₁:=[_,_,_,_,_,_,_])).trans (XvJ _ ?_)|refine (XvG (l₁:=[_,_,_,_,_,_,_,_])).trans (XvJ _ ?_)))) (Xap.refl _ _) (VwL.refl _ _))) ⟨?_,?_⟩|refine Xab _ _ (Xuk rfl (RV.tmp _) (RV.cell 1 rfl rfl XaR.out (by simp) (by simp)) (RV.tmp _) (Xaq.mk' [.box b _] [.box pb _] (by (repeat' (first|exact Xvt _|exact List.Perm.nil|refine XvJ _ ?_|refine (XvG (l₁:=[_])).trans (XvJ _ ?_)|refine (XvG (l₁:=[_,_])).trans (XvJ _ ?_)|refine (XvG (l₁:=[_,_,_])).trans (XvJ _ ?_)|refine (XvG (l₁:=[_,_,_,_])).trans (XvJ _ ?_)|refine (XvG (l₁:=[_,_,_,_,_])).trans (XvJ _ ?_)|refine (XvG (l₁:=[_,_,_,_,_,_])).trans (XvJ _ ?_)|refine (XvG (l₁:=[_,_,_,_,_,_,_])).trans (XvJ _ ?_)|refine (XvG (l₁:=[_,_,_,_,_,_,_,_])).trans (XvJ _ ?_)))) (Xap.refl _ _) (VwL.refl _ _))) ⟨?_,?_⟩
  all_goals (unfold XcH;(repeat' split)<;>first|rfl|(rw [Xci];rfl)|(exfalso;omega)|(exfalso;simp_all;done))
theorem Xgm (n:Nat) (a b c d:AV):w4 n++List.drop (w4 n).length [a,b,c,d]=w4 n:=by simp [w4]
theorem Xho (m n:Nat):w4 n++List.drop (w4 n).length (w4 m)=w4 n:=by simp [w4]
theorem XpU (s:List UInt8) (p:RS) (ad:Option Addr) (cap:Nat) (hs:s.length≤128):RowKit.Hid (∀k,k≤s.length→XaM Tryz.prog 132 [] [.at_ [.x (.string (bs s)),.x (.int .i64 (k:Nat)),.x (.int .i64 p.opn),.x (.slice ad p.ns.length cap)]] (fun r H'=>r=.x (.bool (k == s.length))∧H'=[])):=
 Lib.hid fun k h=>XiS s { p with at_:=k } ad cap hs h
theorem XnC (s:List UInt8) (k:Nat) : -1≤(XcS s k).1∧(XcS s k).1 < 256:=by
 have hc:=Xdz s (k+1)
 unfold XcS
 repeat' (split;· simp<;>omega)
 simp
theorem XnD (s:List UInt8) (k:Nat) : -1≤(XcH s k).1∧(XcH s k).1 < 256:=by
 have hc:=Xdz s k
 unfold XcH
 split
 ·simp
 split
 ·exact XnC s k
 ·simp<;>omega
theorem XbZ (k:Nat):(k:Int)+1=((k+1:Nat):Int):=rfl
theorem Xqi (x y:Int) (hx:0≤x∧x < 256) (hy:0≤y∧y < 256):XaM Tryz.prog 201 [] [.x (.int .u8 x),.x (.int .u8 y)] (fun r H'=>r=.x (v4 (XcK x.toNat y.toNat))∧H'=[]):=by
 have h:=Xb9 x.toNat y.toNat (by omega) (by omega)
 rw [Int.toNat_of_nonneg hx.1,Int.toNat_of_nonneg hy.1] at h
 exact h
theorem XsS (pb:Nat) (s:List UInt8) (p:RS) (ad:Option Addr) (cap:Nat) (hs:s.length≤128) (hp:p.at_ < s.length):XaM Tryz.prog 203 [.box pb (pcx s p ad cap)] [.x (.pointer (some ⟨pb,0,none⟩))] (fun r H'=>
  r=.tup [.x (v4 (Xcj s p.at_).1),.x (.int .i64 ((Xcj s p.at_).2.1:Nat))]∧H'=[.box pb (pcx s { p with at_:=(Xcj s p.at_).2.2 } ad cap)]):=by
 have h1:=XnF pb s p ad cap hs hp
 have a:=XeL s p.at_ hp
 unfold Xcj
 simp only
 generalize XcH s p.at_=A at *
 obtain ⟨v1,n1,c1,k1⟩:=A
 simp only at a h1 ⊢
 obtain ⟨a1,a2,a3,a4,a5,a6⟩:=a
 have h2:k1+1 < s.length→XaM Tryz.prog 207 [.box pb (pcx s { p with at_:=k1+1 } ad cap)] [.x (.pointer (some ⟨pb,0,none⟩))] (fun r H'=>
  r=.tup [.x (.int .i64 (XcH s (k1+1)).1),.x (v4 (XcH s (k1+1)).2.1),.x (.int .i64 ((XcH s (k1+1)).2.2.1:Nat))]∧H'=[.box pb (pcx s { p with at_:=(XcH s (k1+1)).2.2.2 } ad cap)]):=fun h=>XnF pb s { p with at_:=k1+1 } ad cap hs h
 have b:=XeL s (k1+1)
 have bv:=XnD s (k1+1)
 generalize XcH s (k1+1)=B at *
 obtain ⟨v2,n2,c2,k2⟩:=B
 simp only at b bv h2 ⊢
 have h3:=XpU s p ad cap hs
 have hq:=Xdz s k1
 unfold pcx at h1 h2 ⊢
 have h2':=Lib.hid h2
 have b':=Lib.hid b
 clear h2 b
 refine Xbs Tryz.func203 Tryz.ntmps203 ?_
 (have wx:=And.intro @Xcr (And.intro @Xdt (And.intro @Xgc (And.intro @w4r (And.intro @Xgm @XbZ))));(repeat' (first|refine Wkx.go ?_|refine XaJ ?_|refine XaG ?_|(refine XaE (fun h=>?_) (fun h=>?_)<;>first|(exact absurd h (by decide))|(exfalso;omega;done)|skip)|refine XaF ?_|refine Xai ?_ (h:=by first|exact fun _=>XeY rfl rfl Tryz.func132 (hS:=h3.out _ (by omega))|fail)|refine Xai ?_ (h:=by first|(intro hp;(try simp only [wgp] at hp);(try simp only [hp,wte]);(try simp only [whn] at hp);exact XeY rfl rfl Tryz.func132 (hS:=h3.out _ (by omega)))|fail)|refine Xai ?_ (h:=by first|exact fun _=>Xb3 rfl rfl Tryz.func201 (Xqi _ _ (by omega) (by omega))|fail)|refine Xai ?_ (h:=by first|(intro hp;(try simp only [wgp] at hp);(try simp only [hp,wte]);(try simp only [whn] at hp);exact Xb3 rfl rfl Tryz.func201 (Xqi _ _ (by omega) (by omega)))|fail)|refine Xai ?_ (h:=by first|exact fun _=>Xak _ _ _ _ _ _ _ rfl rfl rfl (by kernel_rfl) Xdb.out (by omega)|fail)|refine Xai ?_ (h:=by first|(intro hp;(try simp only [wgp] at hp);(try simp only [hp,wte]);(try simp only [whn] at hp);exact Xak _ _ _ _ _ _ _ rfl rfl rfl (by kernel_rfl) Xdb.out (by omega))|fail)|refine Xai ?_|(refine Xaa rfl ?_;(first|((refine Xa5 Tryz.func207 [_] rfl rfl (.refl _) (h1) ?_;rintro _ _ ⟨rfl,rfl⟩);refine XaO ?_)|((refine Xa5 Tryz.func207 [_] rfl rfl (XvG (l₁:=[_])) (h1) ?_;rintro _ _ ⟨rfl,rfl⟩);refine XaO ?_)|((refine Xa5 Tryz.func207 [_] rfl rfl (.refl _) (h2'.out (by omega)) ?_;rintro _ _ ⟨rfl,rfl⟩);refine XaO ?_)|((refine Xa5 Tryz.func207 [_] rfl rfl (XvG (l₁:=[_])) (h2'.out (by omega)) ?_;rintro _ _ ⟨rfl,rfl⟩);refine XaO ?_)|((refine Xa5 Tryz.func207 [_] rfl rfl (XvG (l₁:=[_,_])) (h2'.out (by omega)) ?_;rintro _ _ ⟨rfl,rfl⟩);refine XaO ?_)|refine Xax ?_|refine Xaw ?_|refine Xav (fun ad cap=>?_)|refine Xat (fun b=>?_)|refine Xas (fun b=>?_)|refine Xau (fun b=>?_)|fail))|fail)))<;>(try clear wx)
 ·rename_i br
  refine Xab _ _ (Xcn rfl (RV.cell 2 rfl rfl XaR.out (by simp) (by simp)) (RV.tmp _) (Xaq.mk' [.box b _,.box br _] [.box pb _] (by (repeat' (first|exact Xvt _|exact List.Perm.nil|refine XvJ _ ?_|refine (XvG (l₁:=[_])).trans (XvJ _ ?_)|refine (XvG (l₁:=[_,_])).trans (XvJ _ ?_)|refine (XvG (l₁:=[_,_,_])).trans (XvJ _ ?_)|refine (XvG (l₁:=[_,_,_,_])).trans (XvJ _ ?_)|refine (XvG (l₁:=[_,_,_,_,_])).trans (XvJ _ ?_)|refine (XvG (l₁:=[_,_,_,_,_,_])).trans (XvJ _ ?_)|refine (XvG (l₁:=[_,_,_,_,_,_,_])).trans (XvJ _ ?_)|refine (XvG (l₁:=[_,_,_,_,_,_,_,_])).trans (XvJ _ ?_)))) (Xap.refl _ _) (VwL.refl _ _))) ⟨?_,?_⟩
  all_goals ((repeat' split)<;>first|rfl|(rw [Xci];rfl)|(exfalso;omega)|(exfalso;simp_all;done))
 ·rename_i br _
  refine Xab _ _ (Xcn rfl (RV.cell 2 rfl rfl XaR.out (by simp) (by simp)) (RV.tmp _) (Xaq.mk' [.box b _,.box br _] [.box pb _] (by (repeat' (first|exact Xvt _|exact List.Perm.nil|refine XvJ _ ?_|refine (XvG (l₁:=[_])).trans (XvJ _ ?_)|refine (XvG (l₁:=[_,_])).trans (XvJ _ ?_)|refine (XvG (l₁:=[_,_,_])).trans (XvJ _ ?_)|refine (XvG (l₁:=[_,_,_,_])).trans (XvJ _ ?_)|refine (XvG (l₁:=[_,_,_,_,_])).trans (XvJ _ ?_)|refine (XvG (l₁:=[_,_,_,_,_,_])).trans (XvJ _ ?_)|refine (XvG (l₁:=[_,_,_,_,_,_,_])).trans (XvJ _ ?_)|refine (XvG (l₁:=[_,_,_,_,_,_,_,_])).trans (XvJ _ ?_)))) (Xap.refl _ _) (VwL.refl _ _))) ⟨?_,?_⟩
  all_goals ((repeat' split)<;>first|rfl|(rw [Xci];rfl)|(exfalso;omega)|(exfalso;simp_all;done))
 ·rename_i br bq _ _
  refine Xab _ _ (Xcn rfl (RV.cell 3 rfl rfl XaR.out (by simp) (by simp)) (RV.tmp _) (Xaq.mk' [.box b _,.box bq _,.box br _] [.box pb _] (by (repeat' (first|exact Xvt _|exact List.Perm.nil|refine XvJ _ ?_|refine (XvG (l₁:=[_])).trans (XvJ _ ?_)|refine (XvG (l₁:=[_,_])).trans (XvJ _ ?_)|refine (XvG (l₁:=[_,_,_])).trans (XvJ _ ?_)|refine (XvG (l₁:=[_,_,_,_])).trans (XvJ _ ?_)|refine (XvG (l₁:=[_,_,_,_,_])).trans (XvJ _ ?_)|refine (XvG (l₁:=[_,_,_,_,_,_])).trans (XvJ _ ?_)|refine (XvG (l₁:=[_,_,_,_,_,_,_])).trans (XvJ _ ?_)|refine (XvG (l₁:=[_,_,_,_,_,_,_,_])).trans (XvJ _ ?_)))) (Xap.refl _ _) (VwL.refl _ _))) ⟨?_,?_⟩
  all_goals ((repeat' split)<;>first|rfl|(rw [Xci];rfl)|(exfalso;omega)|(exfalso;simp_all;done))
 ·rename_i br bq _ _ _
  refine Xab _ _ (Xcn rfl (RV.cell 3 rfl rfl XaR.out (by simp) (by simp)) (RV.tmp _) (Xaq.mk' [.box b _,.box bq _,.box br _] [.box pb _] (by (repeat' (first|exact Xvt _|exact List.Perm.nil|refine XvJ _ ?_|refine (XvG (l₁:=[_])).trans (XvJ _ ?_)|refine (XvG (l₁:=[_,_])).trans (XvJ _ ?_)|refine (XvG (l₁:=[_,_,_])).trans (XvJ _ ?_)|refine (XvG (l₁:=[_,_,_,_])).trans (XvJ _ ?_)|refine (XvG (l₁:=[_,_,_,_,_])).trans (XvJ _ ?_)|refine (XvG (l₁:=[_,_,_,_,_,_])).trans (XvJ _ ?_)|refine (XvG (l₁:=[_,_,_,_,_,_,_])).trans (XvJ _ ?_)|refine (XvG (l₁:=[_,_,_,_,_,_,_,_])).trans (XvJ _ ?_)))) (Xap.refl _ _) (VwL.refl _ _))) ⟨?_,?_⟩
  all_goals ((repeat' split)<;>first|rfl|(rw [Xci];rfl)|(exfalso;omega)|(exfalso;simp_all;done))
 ·rename_i br bq _ _ _
  refine Xab _ _ (Xcn rfl (RV.cell 3 rfl rfl XaR.out (by simp) (by simp)) (RV.tmp _) (Xaq.mk' [.box b _,.box bq _,.box br _] [.box pb _] (by (repeat' (first|exact Xvt _|exact List.Perm.nil|refine XvJ _ ?_|refine (XvG (l₁:=[_])).trans (XvJ _ ?_)|refine (XvG (l₁:=[_,_])).trans (XvJ _ ?_)|refine (XvG (l₁:=[_,_,_])).trans (XvJ _ ?_)|refine (XvG (l₁:=[_,_,_,_])).trans (XvJ _ ?_)|refine (XvG (l₁:=[_,_,_,_,_])).trans (XvJ _ ?_)|refine (XvG (l₁:=[_,_,_,_,_,_])).trans (XvJ _ ?_)|refine (XvG (l₁:=[_,_,_,_,_,_,_])).trans (XvJ _ ?_)|refine (XvG (l₁:=[_,_,_,_,_,_,_,_])).trans (XvJ _ ?_)))) (Xap.refl _ _) (VwL.refl _ _))) ⟨?_,?_⟩
  all_goals ((repeat' split)<;>first|rfl|(rw [Xci];rfl)|(exfalso;omega)|(exfalso;simp_all;done))
theorem elems (pb:Nat) (s:List UInt8) (p:RS) (ad:Option Addr) (cap:Nat) (hs:s.length≤128):RowKit.Hid (∀k,k < s.length→XaM Tryz.prog 203 [.box pb [.x (.string (bs s)),.x (.int .i64 (k:Nat)),.x (.int .i64 p.opn),.x (.slice ad p.ns.length cap)]] [.x (.pointer (some ⟨pb,0,none⟩))] (fun r H'=>
  r=.tup [.x (v4 (Xcj s k).1),.x (.int .i64 ((Xcj s k).2.1:Nat))]∧H'=[.box pb [.x (.string (bs s)),.x (.int .i64 ((Xcj s k).2.2:Nat)),.x (.int .i64 p.opn),.x (.slice ad p.ns.length cap)]])):=
 Lib.hid fun k h=>XsS pb s { p with at_:=k } ad cap hs h
theorem XqN (pb:Nat) (s:List UInt8) (p:RS) (ad:Option Addr) (cap:Nat) (hs:s.length≤128) (hp:p.at_≤s.length):XaM Tryz.prog 198 [.box pb (pcx s p ad cap)] [.x (.pointer (some ⟨pb,0,none⟩))] (fun r H'=>
  r=.tup [.x (v4 (XbU s p.at_).1),.x (.int .i64 ((XbU s p.at_).2.1:Nat))]∧H'=[.box pb (pcx s { p with at_:=(XbU s p.at_).2.2 } ad cap)]):=by
 have h3:=XpU s p ad cap hs
 have he:=elems pb s p ad cap hs
 have hq:=Xdz s p.at_
 have hR:XbU s p.at_=Xeg (decide (p.at_≠s.length∧chr s p.at_=94)) (s.length+1) s (if p.at_≠s.length∧chr s p.at_=94 then p.at_+1 else p.at_) 0 false:=by
  unfold XbU
  split
  ·rename_i h;rw [decide_eq_true h]
  ·rename_i h;rw [decide_eq_false h]
 generalize XbU s p.at_=R at *
 generalize hng:decide (p.at_≠s.length∧chr s p.at_=94)=ng at *
 have hng:=Lib.hid hng
 unfold pcx
 refine Xbs Tryz.func198 Tryz.ntmps198 ?_
 (have wx:=And.intro @Xcr (And.intro @Xdt (And.intro @Xgc (And.intro @w4r (And.intro @Xgm @XbZ))));(repeat' (first|refine Wkx.go ?_|refine XaJ ?_|refine XaG ?_|(refine XaE (fun h=>?_) (fun h=>?_)<;>first|(exact absurd h (by decide))|(exfalso;omega;done)|skip)|refine XaF ?_|refine Xai ?_ (h:=by first|exact fun _=>XeY rfl rfl Tryz.func132 (hS:=h3.out _ (by omega))|fail)|refine Xai ?_ (h:=by first|exact fun _=>Xak _ _ _ _ _ _ _ rfl rfl rfl (by kernel_rfl) Xdb.out (by omega)|fail)|refine Xai ?_ (h:=by first|(intro hp;(try simp only [wgp] at hp);(try simp only [hp,wte]);(try simp only [whn] at hp);exact Xak _ _ _ _ _ _ _ rfl rfl rfl (by kernel_rfl) Xdb.out (by omega))|fail)|refine Xai ?_|(refine Xaa rfl ?_;(first|refine Xax ?_|refine Xaw ?_|refine Xav (fun ad cap=>?_)|refine Xat (fun b=>?_)|refine Xas (fun b=>?_)|refine Xau (fun b=>?_)|fail))|fail)))<;>(try clear wx)
 ·have hh:p.at_≠s.length∧chr s p.at_=94:=by omega
  rename_i br
  revert b
  intro bt
  rw [←XjG]
  refine XaA (S:=Nat × Nat × Nat × Nat) (fun q=>frm 75 [(0,.x (.pointer (some ⟨pb,0,none⟩))),(2,.x (.pointer (some ⟨br,0,none⟩))),(3,.x (.int .i64 0)),(4,.x (.pointer (some ⟨bt,0,none⟩))),(5,.x (.bool (!p.at_ == s.length && (chr s p.at_:Int) == 94))),(6,.x (.int .i64 (q.2.2.1:Nat)))]) (fun q=>[.box bt (w4 q.2.1),.box br (w4 0),.box pb [.x (.string (bs s)),.x (.int .i64 (q.1:Nat)),.x (.int .i64 p.opn),.x (.slice ad p.ns.length cap)]]) (fun q=>q.1≤s.length∧q.2.2.1≤q.1∧s.length < q.2.2.2+q.1∧R=Xeg ng q.2.2.2 s q.1 q.2.1 (decide (0 < q.2.2.1))) (fun q=>s.length - q.1) (p.at_+1,0,0,s.length+1) (XbQ (D:=[])) ⟨by simp only;omega,Nat.zero_le _,by simp only;omega,by rw [hR,if_pos hh];rfl⟩ fun q hq=>?_
  obtain ⟨k,n,c,m⟩:=q
  obtain ⟨hk,hc,hm,hr⟩:=hq
  simp only at hk hc hm hr
  obtain ⟨m,rfl⟩:∃q,m=q+1:=⟨m - 1,by omega⟩
  rw [Xeg] at hr
  simp only [decide_eq_true_eq] at hr
  have hr:=Lib.hid hr
  have ha:=Xfb s k
  have hqk:=Xdz s k
  simp only [wfr]
  (have wx:=And.intro @Xcr (And.intro @Xdt (And.intro @Xgc (And.intro @w4r (And.intro @Xgm (And.intro @Xho @XbZ)))));(repeat' (first|refine Wkx.go ?_|refine XaJ ?_|refine XaG ?_|(refine XaE (fun h=>?_) (fun h=>?_)<;>first|(exact absurd h (by decide))|(exfalso;omega;done)|skip)|refine XaF ?_|refine Xai ?_ (h:=by first|exact fun _=>XeY rfl rfl Tryz.func132 (hS:=h3.out _ (by omega))|fail)|refine Xai ?_ (h:=by first|exact fun _=>Xb3 rfl rfl Tryz.func200 (Xhe _)|fail)|refine Xai ?_ (h:=by first|exact fun _=>Xb3 rfl rfl Tryz.func204 (XjF _ _)|fail)|refine Xai ?_ (h:=by first|exact fun _=>Xak _ _ _ _ _ _ _ rfl rfl rfl (by kernel_rfl) Xdb.out (by omega)|fail)|refine Xai ?_ (h:=by first|(intro hp;(try simp only [wgp] at hp);(try simp only [hp,wte]);(try simp only [whn] at hp);exact Xak _ _ _ _ _ _ _ rfl rfl rfl (by kernel_rfl) Xdb.out (by omega))|fail)|refine Xai ?_|(refine Xaa rfl ?_;(first|((refine Xa5 Tryz.func203 [_] rfl rfl (.refl _) (he.out k (by omega)) ?_;rintro _ _ ⟨rfl,rfl⟩);refine XaO ?_)|((refine Xa5 Tryz.func203 [_] rfl rfl (XvG (l₁:=[_])) (he.out k (by omega)) ?_;rintro _ _ ⟨rfl,rfl⟩);refine XaO ?_)|((refine Xa5 Tryz.func203 [_] rfl rfl (XvG (l₁:=[_,_])) (he.out k (by omega)) ?_;rintro _ _ ⟨rfl,rfl⟩);refine XaO ?_)|refine Xax ?_|refine Xaw ?_|refine Xav (fun ad cap=>?_)|refine Xat (fun b=>?_)|refine Xas (fun b=>?_)|refine Xau (fun b=>?_)|fail))|fail)))<;>(try clear wx)
  ·skip
   have hrr:=hr.out
   have hngv:=hng.out
   rw [decide_eq_true hh] at hngv
   subst hngv
   refine Xab _ _ (Xcn rfl (RV.cell 1 rfl rfl XaR.out (by simp) (by simp)) (RV.tmp _) (Xaq.mk' [.box bt _,.box br _] [.box pb _] (by (repeat' (first|exact Xvt _|exact List.Perm.nil|refine XvJ _ ?_|refine (XvG (l₁:=[_])).trans (XvJ _ ?_)|refine (XvG (l₁:=[_,_])).trans (XvJ _ ?_)|refine (XvG (l₁:=[_,_,_])).trans (XvJ _ ?_)|refine (XvG (l₁:=[_,_,_,_])).trans (XvJ _ ?_)|refine (XvG (l₁:=[_,_,_,_,_])).trans (XvJ _ ?_)|refine (XvG (l₁:=[_,_,_,_,_,_])).trans (XvJ _ ?_)|refine (XvG (l₁:=[_,_,_,_,_,_,_])).trans (XvJ _ ?_)|refine (XvG (l₁:=[_,_,_,_,_,_,_,_])).trans (XvJ _ ?_)))) (Xap.refl _ _) (VwL.refl _ _))) ⟨?_,?_⟩
   all_goals (rw [hrr];(try simp only);(repeat' split)<;>first|rfl|(rw [Xci];rfl)|(exfalso;omega)|(exfalso;simp_all;done))
  ·skip
   have hrr:=hr.out
   have hngv:=hng.out
   rw [decide_eq_true hh] at hngv
   subst hngv
   refine Xab _ _ (Xcn rfl (RV.cell 3 rfl rfl XaR.out (by simp) (by simp)) (RV.tmp _) (Xaq.mk' [.box b _,.box bt _,.box br _] [.box pb _] (by (repeat' (first|exact Xvt _|exact List.Perm.nil|refine XvJ _ ?_|refine (XvG (l₁:=[_])).trans (XvJ _ ?_)|refine (XvG (l₁:=[_,_])).trans (XvJ _ ?_)|refine (XvG (l₁:=[_,_,_])).trans (XvJ _ ?_)|refine (XvG (l₁:=[_,_,_,_])).trans (XvJ _ ?_)|refine (XvG (l₁:=[_,_,_,_,_])).trans (XvJ _ ?_)|refine (XvG (l₁:=[_,_,_,_,_,_])).trans (XvJ _ ?_)|refine (XvG (l₁:=[_,_,_,_,_,_,_])).trans (XvJ _ ?_)|refine (XvG (l₁:=[_,_,_,_,_,_,_,_])).trans (XvJ _ ?_)))) (Xap.refl _ _) (VwL.refl _ _))) ⟨?_,?_⟩
   all_goals (rw [hrr];(try simp only);(repeat' split)<;>first|rfl|(rw [Xci];rfl)|(exfalso;omega)|(exfalso;simp_all;done))
  ·have hrr:=hr.out
   rw [if_neg (by omega),if_neg (by omega),if_neg (by omega)] at hrr
   exact ⟨((Xcj s k).2.2,n ||| (Xcj s k).1,c+1,m),by simp only;omega,⟨by simp only;omega,by simp only;omega,by simp only;omega,by simp only;rw [hrr];simp⟩,(Xaq.mk' [.box b _] [.box bt _,.box br _,.box pb _] (by (repeat' (first|exact Xvt _|exact List.Perm.nil|refine XvJ _ ?_|refine (XvG (l₁:=[_])).trans (XvJ _ ?_)|refine (XvG (l₁:=[_,_])).trans (XvJ _ ?_)|refine (XvG (l₁:=[_,_,_])).trans (XvJ _ ?_)|refine (XvG (l₁:=[_,_,_,_])).trans (XvJ _ ?_)|refine (XvG (l₁:=[_,_,_,_,_])).trans (XvJ _ ?_)|refine (XvG (l₁:=[_,_,_,_,_,_])).trans (XvJ _ ?_)|refine (XvG (l₁:=[_,_,_,_,_,_,_])).trans (XvJ _ ?_)|refine (XvG (l₁:=[_,_,_,_,_,_,_,_])).trans (XvJ _ ?_)))) (Xap.refl _ _) (by (repeat' (first|exact VwL.nil|(refine VwL.cons ?_ ?_)|exact Vw.refl _|exact Vw.top _|exact Vw.nil|(refine Vw.eq ?_;first|rfl|(simp;done)|(congr 3;omega)|(congr 2;omega))))))⟩
  ·skip
   have hrr:=hr.out
   have hngv:=hng.out
   rw [decide_eq_true hh] at hngv
   subst hngv
   refine Xab _ _ (Xcn rfl (RV.cell 1 rfl rfl XaR.out (by simp) (by simp)) (RV.tmp _) (Xaq.mk' [.box bt _,.box br _] [.box pb _] (by (repeat' (first|exact Xvt _|exact List.Perm.nil|refine XvJ _ ?_|refine (XvG (l₁:=[_])).trans (XvJ _ ?_)|refine (XvG (l₁:=[_,_])).trans (XvJ _ ?_)|refine (XvG (l₁:=[_,_,_])).trans (XvJ _ ?_)|refine (XvG (l₁:=[_,_,_,_])).trans (XvJ _ ?_)|refine (XvG (l₁:=[_,_,_,_,_])).trans (XvJ _ ?_)|refine (XvG (l₁:=[_,_,_,_,_,_])).trans (XvJ _ ?_)|refine (XvG (l₁:=[_,_,_,_,_,_,_])).trans (XvJ _ ?_)|refine (XvG (l₁:=[_,_,_,_,_,_,_,_])).trans (XvJ _ ?_)))) (Xap.refl _ _) (VwL.refl _ _))) ⟨?_,?_⟩
   all_goals (rw [hrr];(try simp only);(repeat' split)<;>first|rfl|(rw [Xci];rfl)|(exfalso;omega)|(exfalso;simp_all;done))
 ·have hh:¬(p.at_≠s.length∧chr s p.at_=94):=by omega
  rename_i br
  revert b
  intro bt
  rw [←XjG]
  refine XaA (S:=Nat × Nat × Nat × Nat) (fun q=>frm 75 [(0,.x (.pointer (some ⟨pb,0,none⟩))),(2,.x (.pointer (some ⟨br,0,none⟩))),(3,.x (.int .i64 0)),(4,.x (.pointer (some ⟨bt,0,none⟩))),(5,.x (.bool (!p.at_ == s.length && (chr s p.at_:Int) == 94))),(6,.x (.int .i64 (q.2.2.1:Nat)))]) (fun q=>[.box bt (w4 q.2.1),.box br (w4 0),.box pb [.x (.string (bs s)),.x (.int .i64 (q.1:Nat)),.x (.int .i64 p.opn),.x (.slice ad p.ns.length cap)]]) (fun q=>q.1≤s.length∧q.2.2.1≤q.1∧s.length < q.2.2.2+q.1∧R=Xeg ng q.2.2.2 s q.1 q.2.1 (decide (0 < q.2.2.1))) (fun q=>s.length - q.1) (p.at_,0,0,s.length+1) (XbQ (D:=[])) ⟨by simp only;omega,Nat.zero_le _,by simp only;omega,by rw [hR,if_neg hh];rfl⟩ fun q hq=>?_
  obtain ⟨k,n,c,m⟩:=q
  obtain ⟨hk,hc,hm,hr⟩:=hq
  simp only at hk hc hm hr
  obtain ⟨m,rfl⟩:∃q,m=q+1:=⟨m - 1,by omega⟩
  rw [Xeg] at hr
  simp only [decide_eq_true_eq] at hr
  have hr:=Lib.hid hr
  have ha:=Xfb s k
  have hqk:=Xdz s k
  simp only [wfr]
  (have wx:=And.intro @Xcr (And.intro @Xdt (And.intro @Xgc (And.intro @w4r (And.intro @Xgm (And.intro @Xho @XbZ)))));(repeat' (first|refine Wkx.go ?_|refine XaJ ?_|refine XaG ?_|(refine XaE (fun h=>?_) (fun h=>?_)<;>first|(exact absurd h (by decide))|(exfalso;omega;done)|skip)|refine XaF ?_|refine Xai ?_ (h:=by first|exact fun _=>XeY rfl rfl Tryz.func132 (hS:=h3.out _ (by omega))|fail)|refine Xai ?_ (h:=by first|exact fun _=>Xb3 rfl rfl Tryz.func200 (Xhe _)|fail)|refine Xai ?_ (h:=by first|exact fun _=>Xb3 rfl rfl Tryz.func204 (XjF _ _)|fail)|refine Xai ?_ (h:=by first|exact fun _=>Xak _ _ _ _ _ _ _ rfl rfl rfl (by kernel_rfl) Xdb.out (by omega)|fail)|refine Xai ?_ (h:=by first|(intro hp;(try simp only [wgp] at hp);(try simp only [hp,wte]);(try simp only [whn] at hp);exact Xak _ _ _ _ _ _ _ rfl rfl rfl (by kernel_rfl) Xdb.out (by omega))|fail)|refine Xai ?_|(refine Xaa rfl ?_;(first|((refine Xa5 Tryz.func203 [_] rfl rfl (.refl _) (he.out k (by omega)) ?_;rintro _ _ ⟨rfl,rfl⟩);refine XaO ?_)|((refine Xa5 Tryz.func203 [_] rfl rfl (XvG (l₁:=[_])) (he.out k (by omega)) ?_;rintro _ _ ⟨rfl,rfl⟩);refine XaO ?_)|((refine Xa5 Tryz.func203 [_] rfl rfl (XvG (l₁:=[_,_])) (he.out k (by omega)) ?_;rintro _ _ ⟨rfl,rfl⟩);refine XaO ?_)|refine Xax ?_|refine Xaw ?_|refine Xav (fun ad cap=>?_)|refine Xat (fun b=>?_)|refine Xas (fun b=>?_)|refine Xau (fun b=>?_)|fail))|fail)))<;>(try clear wx)
  ·skip
   have hrr:=hr.out
   have hngv:=hng.out
   rw [decide_eq_false hh] at hngv
   subst hngv
   refine Xab _ _ (Xcn rfl (RV.cell 1 rfl rfl XaR.out (by simp) (by simp)) (RV.tmp _) (Xaq.mk' [.box bt _,.box br _] [.box pb _] (by (repeat' (first|exact Xvt _|exact List.Perm.nil|refine XvJ _ ?_|refine (XvG (l₁:=[_])).trans (XvJ _ ?_)|refine (XvG (l₁:=[_,_])).trans (XvJ _ ?_)|refine (XvG (l₁:=[_,_,_])).trans (XvJ _ ?_)|refine (XvG (l₁:=[_,_,_,_])).trans (XvJ _ ?_)|refine (XvG (l₁:=[_,_,_,_,_])).trans (XvJ _ ?_)|refine (XvG (l₁:=[_,_,_,_,_,_])).trans (XvJ _ ?_)|refine (XvG (l₁:=[_,_,_,_,_,_,_])).trans (XvJ _ ?_)|refine (XvG (l₁:=[_,_,_,_,_,_,_,_])).trans (XvJ _ ?_)))) (Xap.refl _ _) (VwL.refl _ _))) ⟨?_,?_⟩
   all_goals (rw [hrr];(try simp only);(repeat' split)<;>first|rfl|(rw [Xci];rfl)|(exfalso;omega)|(exfalso;simp_all;done))
  ·skip
   have hrr:=hr.out
   have hngv:=hng.out
   rw [decide_eq_false hh] at hngv
   subst hngv
   refine Xab _ _ (Xcn rfl (RV.cell 3 rfl rfl XaR.out (by simp) (by simp)) (RV.tmp _) (Xaq.mk' [.box b _,.box bt _,.box br _] [.box pb _] (by (repeat' (first|exact Xvt _|exact List.Perm.nil|refine XvJ _ ?_|refine (XvG (l₁:=[_])).trans (XvJ _ ?_)|refine (XvG (l₁:=[_,_])).trans (XvJ _ ?_)|refine (XvG (l₁:=[_,_,_])).trans (XvJ _ ?_)|refine (XvG (l₁:=[_,_,_,_])).trans (XvJ _ ?_)|refine (XvG (l₁:=[_,_,_,_,_])).trans (XvJ _ ?_)|refine (XvG (l₁:=[_,_,_,_,_,_])).trans (XvJ _ ?_)|refine (XvG (l₁:=[_,_,_,_,_,_,_])).trans (XvJ _ ?_)|refine (XvG (l₁:=[_,_,_,_,_,_,_,_])).trans (XvJ _ ?_)))) (Xap.refl _ _) (VwL.refl _ _))) ⟨?_,?_⟩
   all_goals (rw [hrr];(try simp only);(repeat' split)<;>first|rfl|(rw [Xci];rfl)|(exfalso;omega)|(exfalso;simp_all;done))
  ·have hrr:=hr.out
   rw [if_neg (by omega),if_neg (by omega),if_neg (by omega)] at hrr
   exact ⟨((Xcj s k).2.2,n ||| (Xcj s k).1,c+1,m),by simp only;omega,⟨by simp only;omega,by simp only;omega,by simp only;omega,by simp only;rw [hrr];simp⟩,(Xaq.mk' [.box b _] [.box bt _,.box br _,.box pb _] (by (repeat' (first|exact Xvt _|exact List.Perm.nil|refine XvJ _ ?_|refine (XvG (l₁:=[_])).trans (XvJ _ ?_)|refine (XvG (l₁:=[_,_])).trans (XvJ _ ?_)|refine (XvG (l₁:=[_,_,_])).trans (XvJ _ ?_)|refine (XvG (l₁:=[_,_,_,_])).trans (XvJ _ ?_)|refine (XvG (l₁:=[_,_,_,_,_])).trans (XvJ _ ?_)|refine (XvG (l₁:=[_,_,_,_,_,_])).trans (XvJ _ ?_)|refine (XvG (l₁:=[_,_,_,_,_,_,_])).trans (XvJ _ ?_)|refine (XvG (l₁:=[_,_,_,_,_,_,_,_])).trans (XvJ _ ?_)))) (Xap.refl _ _) (by (repeat' (first|exact VwL.nil|(refine VwL.cons ?_ ?_)|exact Vw.refl _|exact Vw.top _|exact Vw.nil|(refine Vw.eq ?_;first|rfl|(simp;done)|(congr 3;omega)|(congr 2;omega))))))⟩
  ·skip
   have hrr:=hr.out
   have hngv:=hng.out
   rw [decide_eq_false hh] at hngv
   subst hngv
   refine Xab _ _ (Xcn rfl (RV.cell 1 rfl rfl XaR.out (by simp) (by simp)) (RV.tmp _) (Xaq.mk' [.box bt _,.box br _] [.box pb _] (by (repeat' (first|exact Xvt _|exact List.Perm.nil|refine XvJ _ ?_|refine (XvG (l₁:=[_])).trans (XvJ _ ?_)|refine (XvG (l₁:=[_,_])).trans (XvJ _ ?_)|refine (XvG (l₁:=[_,_,_])).trans (XvJ _ ?_)|refine (XvG (l₁:=[_,_,_,_])).trans (XvJ _ ?_)|refine (XvG (l₁:=[_,_,_,_,_])).trans (XvJ _ ?_)|refine (XvG (l₁:=[_,_,_,_,_,_])).trans (XvJ _ ?_)|refine (XvG (l₁:=[_,_,_,_,_,_,_])).trans (XvJ _ ?_)|refine (XvG (l₁:=[_,_,_,_,_,_,_,_])).trans (XvJ _ ?_)))) (Xap.refl _ _) (VwL.refl _ _))) ⟨?_,?_⟩
   all_goals (rw [hrr];(try simp only);(repeat' split)<;>first|rfl|(rw [Xci];rfl)|(exfalso;omega)|(exfalso;simp_all;done))
def Xt2 (s:List UInt8) (n:Nat):Prop:=∀(pb:Nat) (p:RS) (ad:Option Addr) (cap:Nat),p.at_≤s.length→p.opn≤24→p.ns.length≤3*p.at_→5*(s.length - p.at_)+4≤n→XaM Tryz.prog 131 [.box pb [.x (.string (bs s)),.x (.int .i64 (p.at_:Nat)),.x (.int .i64 (p.opn:Nat)),.x (.slice ad (p.ns).length cap)],.row ad (p.ns).length cap 127 7 (nda (p.ns))] [.x (.pointer (some ⟨pb,0,none⟩))] (fun r H'=>∃ad' cap',r=.tup [.x (.int .i64 ((rxPat n s p).v:Nat)),.x (.int .i64 ((rxPat n s p).c:Nat))]∧H'=[.box pb [.x (.string (bs s)),.x (.int .i64 ((rxPat n s p).p.at_:Nat)),.x (.int .i64 ((rxPat n s p).p.opn:Nat)),.x (.slice ad' ((rxPat n s p).p.ns).length cap')],.row ad' ((rxPat n s p).p.ns).length cap' 127 7 (nda ((rxPat n s p).p.ns))])
def Xuj (s:List UInt8) (n:Nat):Prop:=∀(pb:Nat) (p:RS) (ad:Option Addr) (cap:Nat),p.at_≤s.length→p.opn≤24→p.ns.length≤3*p.at_→5*(s.length - p.at_)+2≤n→XaM Tryz.prog 159 [.box pb [.x (.string (bs s)),.x (.int .i64 (p.at_:Nat)),.x (.int .i64 (p.opn:Nat)),.x (.slice ad (p.ns).length cap)],.row ad (p.ns).length cap 127 7 (nda (p.ns))] [.x (.pointer (some ⟨pb,0,none⟩))] (fun r H'=>∃ad' cap',r=.tup [.x (.int .i64 ((Xb4 n s p none).v:Nat)),.x (.int .i64 ((Xb4 n s p none).c:Nat))]∧H'=[.box pb [.x (.string (bs s)),.x (.int .i64 ((Xb4 n s p none).p.at_:Nat)),.x (.int .i64 ((Xb4 n s p none).p.opn:Nat)),.x (.slice ad' ((Xb4 n s p none).p.ns).length cap')],.row ad' ((Xb4 n s p none).p.ns).length cap' 127 7 (nda ((Xb4 n s p none).p.ns))])
def Xqx (s:List UInt8) (n:Nat):Prop:=∀(pb:Nat) (p:RS) (ad:Option Addr) (cap:Nat),p.at_ < s.length→p.opn≤24→p.ns.length≤3*p.at_+1→5*(s.length - p.at_)+1≤n→XaM Tryz.prog 177 [.box pb [.x (.string (bs s)),.x (.int .i64 (p.at_:Nat)),.x (.int .i64 (p.opn:Nat)),.x (.slice ad (p.ns).length cap)],.row ad (p.ns).length cap 127 7 (nda (p.ns))] [.x (.pointer (some ⟨pb,0,none⟩))] (fun r H'=>∃ad' cap',r=.tup [.x (.int .i64 ((Xbl n s p).v:Nat)),.x (.int .i64 ((Xbl n s p).c:Nat))]∧H'=[.box pb [.x (.string (bs s)),.x (.int .i64 ((Xbl n s p).p.at_:Nat)),.x (.int .i64 ((Xbl n s p).p.opn:Nat)),.x (.slice ad' ((Xbl n s p).p.ns).length cap')],.row ad' ((Xbl n s p).p.ns).length cap' 127 7 (nda ((Xbl n s p).p.ns))])
def Xqt (s:List UInt8) (n:Nat):Prop:=∀(pb:Nat) (p:RS) (ad:Option Addr) (cap:Nat),p.at_ < s.length→p.opn≤24→p.ns.length≤3*p.at_+1→5*(s.length - p.at_)≤n→XaM Tryz.prog 192 [.box pb [.x (.string (bs s)),.x (.int .i64 (p.at_:Nat)),.x (.int .i64 (p.opn:Nat)),.x (.slice ad (p.ns).length cap)],.row ad (p.ns).length cap 127 7 (nda (p.ns))] [.x (.pointer (some ⟨pb,0,none⟩))] (fun r H'=>∃ad' cap',r=.tup [.x (.int .i64 ((XbS n s p).v:Nat)),.x (.int .i64 ((XbS n s p).c:Nat))]∧H'=[.box pb [.x (.string (bs s)),.x (.int .i64 ((XbS n s p).p.at_:Nat)),.x (.int .i64 ((XbS n s p).p.opn:Nat)),.x (.slice ad' ((XbS n s p).p.ns).length cap')],.row ad' ((XbS n s p).p.ns).length cap' 127 7 (nda ((XbS n s p).p.ns))])
theorem Xu1 (pb:Nat) (s:List UInt8):RowKit.Hid (∀(k o:Nat) (ns:List Nd) (ad:Option Addr) (cap:Nat) (n:Nd),ns.length≤1000→XaM Tryz.prog 160 [.box pb [.x (.string (bs s)),.x (.int .i64 (k:Nat)),.x (.int .i64 (o:Nat)),.x (.slice ad (ns).length cap)],.row ad (ns).length cap 127 7 (nda (ns))] [.x (.pointer (some ⟨pb,0,none⟩)),.x (.agg #[.int .i64 n.kind,.int .i64 n.left,.int .i64 n.right,.int .u64 (wd n.set 0:Nat),.int .u64 (wd n.set 1:Nat),.int .u64 (wd n.set 2:Nat),.int .u64 (wd n.set 3:Nat)])] (fun r H'=>∃ad' cap',r=.x (.int .i64 ns.length)∧H'=[.box pb [.x (.string (bs s)),.x (.int .i64 (k:Nat)),.x (.int .i64 (o:Nat)),.x (.slice ad' (ns++[n]).length cap')],.row ad' (ns++[n]).length cap' 127 7 (nda (ns++[n]))])):=
 Lib.hid fun k o ns ad cap n h=>Xun pb s ⟨k,o,ns⟩ ad cap n h
def Xda (n:Nat) (s:List UInt8) (p:RS):RxR:=
 if p.opn=24 then ⟨0,84,p⟩ else
 if (rxPat n s { p with at_:=p.at_+1,opn:=p.opn+1 }).c≠0 then ⟨0,(rxPat n s { p with at_:=p.at_+1,opn:=p.opn+1 }).c,(rxPat n s { p with at_:=p.at_+1,opn:=p.opn+1 }).p⟩ else
 if (rxPat n s { p with at_:=p.at_+1,opn:=p.opn+1 }).p.at_=s.length then ⟨0,83,(rxPat n s { p with at_:=p.at_+1,opn:=p.opn+1 }).p⟩ else
 ⟨(rxPat n s { p with at_:=p.at_+1,opn:=p.opn+1 }).v,0,{ (rxPat n s { p with at_:=p.at_+1,opn:=p.opn+1 }).p with at_:=(rxPat n s { p with at_:=p.at_+1,opn:=p.opn+1 }).p.at_+1,opn:=(rxPat n s { p with at_:=p.at_+1,opn:=p.opn+1 }).p.opn - 1 }⟩
theorem Xuy (k:Nat) (h:1≤k):(k:Int) - 1=((k - 1:Nat):Int):=by omega
theorem Xq5 (s:List UInt8) (n:Nat) (hs:s.length≤128) (ih:Xt2 s n) (pb:Nat) (p:RS) (ad:Option Addr) (cap:Nat) (hp:p.at_ < s.length) (ho:p.opn≤24) (hn:p.ns.length≤3*p.at_+1) (hf:5*(s.length - p.at_)≤n+1):XaM Tryz.prog 197 [.box pb [.x (.string (bs s)),.x (.int .i64 (p.at_:Nat)),.x (.int .i64 (p.opn:Nat)),.x (.slice ad (p.ns).length cap)],.row ad (p.ns).length cap 127 7 (nda (p.ns))] [.x (.pointer (some ⟨pb,0,none⟩))] (fun r H'=>∃ad' cap',r=.tup [.x (.int .i64 ((Xda n s p).v:Nat)),.x (.int .i64 ((Xda n s p).c:Nat))]∧H'=[.box pb [.x (.string (bs s)),.x (.int .i64 ((Xda n s p).p.at_:Nat)),.x (.int .i64 ((Xda n s p).p.opn:Nat)),.x (.slice ad' ((Xda n s p).p.ns).length cap')],.row ad' ((Xda n s p).p.ns).length cap' 127 7 (nda ((Xda n s p).p.ns))]):=by
 have hc:=fun h=>ih pb { p with at_:=p.at_+1,opn:=p.opn+1 } ad cap (by simp only;omega) h (by simp only;omega) (by simp only;omega)
 have ha:=fun h=>(XgK s n).pat { p with at_:=p.at_+1,opn:=p.opn+1 } (by simp only;omega) h
 simp only at hc ha
 unfold Xda
 generalize rxPat n s { p with at_:=p.at_+1,opn:=p.opn+1 }=R at *
 obtain ⟨v,c,q⟩:=R
 obtain ⟨k,o,ns⟩:=q
 simp only at hc ha ⊢
 clear ih
 refine Xbs Tryz.func197 Tryz.ntmps197 ?_
 by_cases h24:p.opn=24
 ·clear hc ha
  (have wx:=@XbZ;(repeat' (first|refine Wkx.go ?_|refine XaJ ?_|refine XaG ?_|(refine XaE (fun h=>?_) (fun h=>?_)<;>first|(exact absurd h (by decide))|(exfalso;omega;done)|skip)|refine XaF ?_|refine Xai ?_|(refine Xaa rfl ?_;(first|refine Xax ?_|refine Xaw ?_|refine Xav (fun ad cap=>?_)|refine Xat (fun b=>?_)|refine Xas (fun b=>?_)|refine Xau (fun b=>?_)|fail))|fail)))<;>(try clear wx)
  refine Xab _ _ (Xcn rfl (RV.tmp _) (RV.tmp _) (Xaq.mk' [] [_,_] (Xvt _) (Xap.refl _ _) (VwL.refl _ _))) ⟨ad,cap,?_,?_⟩
  ·rw [if_pos h24];rfl
  ·rw [if_pos h24]
 obtain ⟨a1,a2,a3,a4,a5,a6⟩:=ha (by omega)
 have hc:=hc (by omega)
 clear ha
 simp only at a1 a2 a3 a4 a5 a6
 (have wx:=And.intro @XbZ @Xuy;(repeat' (first|refine Wkx.go ?_|refine XaJ ?_|refine XaG ?_|(refine XaE (fun h=>?_) (fun h=>?_)<;>first|(exact absurd h (by decide))|(exfalso;omega;done)|skip)|refine XaF ?_|refine Xai ?_ (h:=by first|exact fun _=>XeY rfl rfl Tryz.func132 (hS:=XiS s ⟨k,o,ns⟩ ad cap hs a2)|fail)|refine Xai ?_|(refine Xaa rfl ?_;(first|((refine Xa5 Tryz.func131 ([_,_]) rfl rfl (.refl _) (hc) ?_;rintro _ _ ⟨ad,cap,rfl,rfl⟩);refine XaO ?_)|refine Xax ?_|refine Xaw ?_|refine Xav (fun ad cap=>?_)|refine Xat (fun b=>?_)|refine Xas (fun b=>?_)|refine Xau (fun b=>?_)|fail))|fail)))<;>(try clear wx)
 all_goals
  refine Xab _ _ (Xcn rfl (RV.tmp _) (RV.tmp _) (Xaq.mk' [] [_,_] (Xvt _) (Xap.refl _ _) (VwL.refl _ _))) ⟨ad,cap,?_,?_⟩
  all_goals ((repeat' split)<;>first|rfl|(rw [Xci];rfl)|(exfalso;omega)|(exfalso;simp_all;done))
theorem XnB (n:Nat) (s:List UInt8) (p:RS):XbS (n+1) s p =
  if chr s p.at_=42∨chr s p.at_=43∨chr s p.at_=63 then ⟨0,81,p⟩ else
  if chr s p.at_=93 then ⟨0,80,p⟩ else
  if chr s p.at_=40 then Xda n s p else
  if chr s p.at_=91 then
   if (XbU s (p.at_+1)).2.1≠0 then ⟨0,(XbU s (p.at_+1)).2.1,{ p with at_:=(XbU s (p.at_+1)).2.2 }⟩ else ({ p with at_:=(XbU s (p.at_+1)).2.2 }:RS).ok { kind:=2,set:=(XbU s (p.at_+1)).1 } else
  if chr s p.at_=92 then
   if (XcS s p.at_).2.2.1≠0 then ⟨0,(XcS s p.at_).2.2.1,{ p with at_:=(XcS s p.at_).2.2.2 }⟩ else ({ p with at_:=(XcS s p.at_).2.2.2 }:RS).ok { kind:=2,set:=(XcS s p.at_).2.1 } else
  ({ p with at_:=p.at_+1 }:RS).ok (if chr s p.at_=94 then { kind:=8 } else if chr s p.at_=36 then { kind:=9 } else if chr s p.at_=46 then { kind:=2,set:=XhL (XcK 10 10) } else { kind:=2,set:=XcK (chr s p.at_) (chr s p.at_) }):=by
 rw [XbS];rfl
end Go.Proofs.YtdlblokjfoggpaaGreatDoor

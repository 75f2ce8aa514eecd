import Derived.Test.YtdlblokjfoggpaaGreatDoorW7
import Derived.Test.YtdlblokjfoggpaaGreatDoorW15
import Derived.Test.YtdlblokjfoggpaaGreatDoorW16
import Derived.Test.YtdlblokjfoggpaaGreatDoorW20
import Derived.Test.YtdlblokjfoggpaaGreatDoorW10
import Derived.Test.YtdlblokjfoggpaaGreatDoorW6
import Derived.Test.YtdlblokjfoggpaaGreatDoorW18
import Derived.Test.YtdlblokjfoggpaaGreatDoorW11
/- The search: Sample, exactly. -/
set_option linter.unusedSimpArgs false
set_option linter.unusedVariables false
set_option maxRecDepth 100000
set_option maxHeartbeats 8000000
namespace Go.Proofs.YtdlblokjfoggpaaGreatDoor
open Go.RowKit
theorem XgI {l:List Sx} {q:List Sp} {e:Bool} {k:Nat} (h:q.findIdx? (mtF l e)=some k):∃hk:k < q.length,XcZ l q e=some q[k]:=by
 obtain ⟨h1,h2,h3⟩:=List.findIdx?_eq_some_iff_getElem.1 h
 refine ⟨h1,?_⟩
 unfold XcZ
 rw [List.find?_eq_some_iff_getElem]
 exact ⟨h2,k,h1,rfl,fun j hj=>by rw [Bool.not_eq_true'];exact Bool.eq_false_iff.2 (h3 j hj)⟩
theorem XgH {l:List Sx} {q:List Sp} {e:Bool} (h:q.findIdx? (mtF l e)=none):XcZ l q e=none:=by
 rw [List.findIdx?_eq_none_iff] at h
 unfold XcZ
 rw [List.find?_eq_none]
 intro x hx
 have:=h x hx
 unfold mtF at this
 rw [this];simp
def Xjp:Option (List UInt8)→AV
 | none=>.tup [.x (.slice none 0 0),.x (.bool false)]
 | some t=>.tup [.sq t.length (u8a t),.x (.bool true)]
structure GoI (l:List Sx) (R:Option (List UInt8)) (sn:SnL) (list:List Sp):Prop where
 ok:Xfv l.length sn
 in_:In sn list
 le:list.length≤sn.length
 eq:∃f,Xts l f sn list=R∧(list≠[]→4*l.length+1≤f+sn.length)
theorem GoI.done {l:List Sx} {R:Option (List UInt8)} {sn:SnL} (h:GoI l R sn []):R=none:=by
 obtain ⟨f,h1,_⟩:=h.eq
 cases f with
 | zero=>exact h1.symm
 | succ f=>rw [Xts,if_pos rfl] at h1;exact h1.symm
structure GoR (l:List Sx) (R:Option (List UInt8)) (sn:SnL) (Q:SnL × List Sp):Prop where
 ok:Xfv l.length Q.1
 in_:In Q.1 Q.2
 st:∀s∈Q.2,s.st < l.length
 len:Q.2.length≤4*l.length
 r1:∀p,XcZ l Q.2 false=some p→R=some (Xcv Q.1 (4*l.length+1) p).reverse
 r2:∀p,XcZ l Q.2 false=none→XcZ l Q.2 true=some p→R=some ((Xcv Q.1 (4*l.length+1) p).reverse++[10])
 r3:XcZ l Q.2 false=none→XcZ l Q.2 true=none→GoI l R (XcN l Q.1 Q.2).1 (XcN l Q.1 Q.2).2∧sn.length+(XcN l Q.1 Q.2).2.length≤(XcN l Q.1 Q.2).1.length
theorem GoI.round {l:List Sx} (hv:Xbw l=true) {R:Option (List UInt8)} {sn:SnL} {list:List Sp} (h:GoI l R sn list) (hne:list≠[]):GoR l R sn (XbF l (4*l.length+1) 0 (sn,list)):=by
 obtain ⟨f,h1,h2⟩:=h.eq
 have h2:=h2 hne
 have h3:=h.ok.len
 obtain ⟨f,rfl⟩:∃k,f=k+1:=⟨f - 1,by omega⟩
 rw [Xts,if_neg hne] at h1
 simp only at h1
 have hG:Xdm l.length sn list (XbF l (4*l.length+1) 0 (sn,list)):=Xdm.spread hv h.in_ _ 0 _ (Xdm.refl h.ok)
 generalize XbF l (4*l.length+1) 0 (sn,list)=Q at *
 have hin:=hG.in_ h.in_
 have hS:Xdm l.length Q.1 [] (XcN l Q.1 Q.2):=Xdm.step hv Q.2 (Q.1,[]) (Xdm.refl hG.ok) hin
 obtain ⟨t,e1,e2⟩:=hG.ext
 obtain ⟨u,f1,f2⟩:=hS.ext
 refine ⟨hG.ok,hin,fun s hs=>?_,hG.len h.le,fun p hp=>?_,fun p hn hp=>?_,fun hn hn2=>?_⟩
 ·obtain ⟨y,hy,rfl⟩:=hin s hs;exact hG.ok.st y hy
 ·rw [hp] at h1;exact h1.symm
 ·rw [hn] at h1;simp only [hp] at h1;exact h1.symm
 ·rw [hn] at h1;simp only [hn2] at h1
  have hl:(XcN l Q.1 Q.2).2.length=u.length:=by rw [f2];simp
  have hl1:(XcN l Q.1 Q.2).1.length=sn.length+t.length+u.length:=by rw [f1,e1,XvF,XvF]
  refine ⟨⟨hS.ok,hS.in_ (fun p hp=>by cases hp),by omega,f,h1,fun hne2=>?_⟩,by omega⟩
  have:0 < u.length:=by
   rcases Nat.eq_zero_or_pos u.length with h0|h0
   ·exact absurd (List.eq_nil_of_length_eq_zero (by omega)) hne2
   ·exact h0
  omega
theorem Xlk {l:List Sx} (hv:Xbw l=false):XcD l=none:=by unfold XcD;rw [if_pos hv]
theorem Xjq {l:List Sx} (hv:Xbw l=true):GoI l (XcD l) [(⟨0,true,false⟩,{ root:=true })] [⟨0,true,false⟩]:=by
 have h0:0 < l.length:=by
  unfold Xbw at hv;simp only [Bool.and_eq_true,decide_eq_true_eq] at hv;omega
 refine ⟨⟨by simp,fun x hx=>?_,fun i x hx=>?_⟩,fun p hp=>⟨(⟨0,true,false⟩,{ root:=true }),List.mem_singleton.2 rfl,(List.mem_singleton.1 hp).symm⟩,Nat.le_refl _,4*l.length+1,?_,fun _=>by simp⟩
 ·rw [List.mem_singleton] at hx;subst hx;exact h0
 ·cases i with
  | zero=>simp at hx;subst hx;exact .inl rfl
  | succ i=>simp at hx
 ·unfold XcD;rw [if_neg (by rw [hv];decide)]
theorem XtQ {l:List Sx} (hv:Xbw l=true):0 < l.length∧l.length≤513:=by
 unfold Xbw at hv;simp only [Bool.and_eq_true,decide_eq_true_eq] at hv;omega
theorem XnH (l:List Sx) (hl:l.length≤1000000) (hv:Xbw l=false):XaM Tryz.prog 9 [] [.sq l.length (sxa l)] (fun r H'=>r=Xjp (XcD l)∧H'=[]):=by
 rw [Xlk hv]
 have hV:=Xj7 l (by omega)
 rw [hv] at hV
 have hV:=Lib.hid hV
 refine Xbs Tryz.func9 Tryz.ntmps9 ?_
 (repeat' (first|refine Wkx.go ?_|refine XaJ ?_|refine XaG ?_|(refine XaE (fun h=>?_) (fun h=>?_)<;>first|(exact absurd h (by decide))|(exfalso;omega;done)|skip)|refine XaF ?_|refine Xai ?_ (h:=by first|exact fun _=>Xb3 rfl rfl Tryz.func24 (hV.out)|fail)|refine Xai ?_|(refine Xaa rfl ?_;(first|refine Xax ?_|refine Xaw ?_|refine Xav (fun ad cap=>?_)|refine Xat (fun b=>?_)|refine Xas (fun b=>?_)|refine Xau (fun b=>?_)|fail))|fail))
 refine Xab _ _ (Xcn rfl (RV.tmp _) (RV.tmp _) (Xaq.mk' [] [] (Xvt _) Xap.nil (VwL.refl _ _))) ⟨rfl,rfl⟩
theorem Xll (l:List Sx) (hv:Xbw l=true):XaM Tryz.prog 9 [] [.sq l.length (sxa l)] (fun r H'=>r=Xjp (XcD l)∧H'=[]):=by
 obtain ⟨hl0,hl1⟩:=XtQ hv
 have hI:=Xjq hv
 generalize XcD l=R at *
 have hV:=Xj7 l (by omega)
 rw [hv] at hV
 have hV:=Lib.hid hV
 have hR0:=fun sb mb=>XeJ sb mb l ([],[]) none 0 ⟨0,true,false⟩ { root:=true } ⟨by simp,(fun x hx=>by cases hx),(fun i x hx=>by simp at hx)⟩ (by omega) hl0 (by simp)
 rw [show XaL ([],[]) ⟨0,true,false⟩ { root:=true }=([(⟨0,true,false⟩,{ root:=true })],[⟨0,true,false⟩]) from rfl] at hR0
 have hR0:=Lib.hid hR0
 refine Xbs Tryz.func9 Tryz.ntmps9 ?_
 refine Xa7 86 3 ?_
 (repeat' (first|refine Wkx.go ?_|refine XaJ ?_|refine XaG ?_|(refine XaE (fun h=>?_) (fun h=>?_)<;>first|(exact absurd h (by decide))|(exfalso;omega;done)|skip)|refine XaF ?_|refine Xai ?_ (h:=by first|exact fun _=>Xb3 rfl rfl Tryz.func24 (hV.out)|fail)|refine Xai ?_|(refine Xaa rfl ?_;(first|((refine Xip _ rfl (fun b=>?_));refine XaO ?_)|((refine Xa5 Tryz.func25 [_,_,_] rfl rfl (Xvt _) (hR0.out _ _) ?_;rintro _ _ ⟨ad',cap',rfl,rfl⟩);refine XaO ?_)|refine Xax ?_|refine Xaw ?_|refine Xav (fun ad cap=>?_)|refine Xat (fun b=>?_)|refine Xas (fun b=>?_)|refine Xau (fun b=>?_)|fail))|fail))
 rename_i mb
 revert b;intro sb
 refine XaA (S:=SnL × List Sp × Option Addr × Nat) (fun s=>frm 52 [(4,.x (.pointer (some ⟨sb,0,none⟩))),(5,.x (.slice s.2.2.1 s.2.1.length s.2.2.2))])
  (fun s=>[.box sb [.sq l.length (sxa l),.x (.map (some mb))],.map mb (snv s.1),.row s.2.2.1 s.2.1.length s.2.2.2 86 3 (spa s.2.1)]) (fun s=>GoI l R s.1 s.2.1) (fun s=>if s.2.1.length=0 then 0 else 4*l.length+2 - s.1.length) ([(⟨0,true,false⟩,{ root:=true })],[⟨0,true,false⟩],ad',cap') (Xaq.mk' [] [.box sb _,.map mb _,.row _ _ _ _ _ _] (by (repeat' (first|exact Xvt _|exact List.Perm.nil|refine XvJ _ ?_|refine (XvG (l₁:=[_])).trans (XvJ _ ?_)|refine (XvG (l₁:=[_,_])).trans (XvJ _ ?_)|refine (XvG (l₁:=[_,_,_])).trans (XvJ _ ?_)|refine (XvG (l₁:=[_,_,_,_])).trans (XvJ _ ?_)|refine (XvG (l₁:=[_,_,_,_,_])).trans (XvJ _ ?_)|refine (XvG (l₁:=[_,_,_,_,_,_])).trans (XvJ _ ?_)|refine (XvG (l₁:=[_,_,_,_,_,_,_])).trans (XvJ _ ?_)|refine (XvG (l₁:=[_,_,_,_,_,_,_,_])).trans (XvJ _ ?_)))) (Xap.refl _ _) (by (repeat' (first|exact VwL.nil|(refine VwL.cons ?_ ?_)|exact Vw.refl _|exact Vw.top _|exact Vw.nil|(refine Vw.eq ?_;first|rfl|(simp;done)|(congr 3;omega)|(congr 2;omega)))))) hI fun s hs=>?_
 clear hI
 obtain ⟨sn,list,ad,cap⟩:=s
 simp only at hs
 simp only [wfr]
 by_cases hne:list=[]
 ·subst hne
  have e:=hs.done
  subst e
  (repeat' (first|refine Wkx.go ?_|refine XaJ ?_|refine XaG ?_|(refine XaE (fun h=>?_) (fun h=>?_)<;>first|(exact absurd h (by decide))|(exfalso;omega;done)|skip)|refine XaF ?_|refine Xai ?_|(refine Xaa rfl ?_;(first|refine Xax ?_|refine Xaw ?_|refine Xav (fun ad cap=>?_)|refine Xat (fun b=>?_)|refine Xas (fun b=>?_)|refine Xau (fun b=>?_)|fail))|fail))
  refine Xab _ _ (Xcn rfl (RV.tmp _) (RV.tmp _) (Xaq.mk' [_,_,_] [] (Xvt _) Xap.nil (VwL.refl _ _))) ⟨rfl,rfl⟩
 ·have hr:=hs.round hv hne
  have hpos:0 < list.length:=List.length_pos_iff.2 hne
  have hsn:=hs.ok.len
  have hS:=Xpt sb mb l sn list ad cap hv hs.ok (by omega) hs.in_ hs.le
  generalize XbF l (4*l.length+1) 0 (sn,list)=Q at *
  clear hs
  have hS:=Lib.hid hS
  have hst:=hr.st
  have hQl:=hr.len
  have hM:=fun e=>Xrp sb l [.x (.map (some mb))] Q.2 e (by omega) (by omega) hst
  have hM1:=hM false
  have hM2:=hM true
  have hT:=fun p hp=>XoY sb mb l Q.1 p hr.ok (by omega) hp
  have hin:=hr.in_
  clear hM
  cases h1:Q.2.findIdx? (mtF l false) with
  | some k=>
    obtain ⟨hk,e⟩:=XgI h1
    have e:=hr.r1 _ e
    subst e
    have hd1:=Lib.hid (Xkl Q.2 k hk)
    have hT:=Lib.hid (hT Q.2[k] (hin _ (List.getElem_mem hk)))
    rw [h1] at hM1
    simp only [fiv] at hM1
    clear hM2 h1 hr
    generalize Q.2[k]=p at *
    generalize (Xcv Q.1 (4*l.length+1) p).reverse=tx at *
    have hM1:=Lib.hid hM1
    (repeat' (first|refine Wkx.go ?_|refine XaJ ?_|refine XaG ?_|(refine XaE (fun h=>?_) (fun h=>?_)<;>first|(exact absurd h (by decide))|(exfalso;omega;done)|skip)|refine XaF ?_|refine Xai ?_|(refine Xaa rfl ?_;(first|((refine Xa5 Tryz.func26 [_,_,_] rfl rfl (Xvt _) hS.out ?_;rintro _ _ ⟨ad',cap',rfl,rfl⟩);refine XaO ?_)|refine Xax ?_|refine Xaw ?_|refine Xav (fun ad cap=>?_)|refine Xat (fun b=>?_)|refine Xas (fun b=>?_)|refine Xau (fun b=>?_)|fail))|fail))
    apply XdF;(case h=>(apply Xaq.mk' [.row _ _ _ _ _ _] [.box sb _,.map mb _] (by (repeat' (first|exact Xvt _|exact List.Perm.nil|refine XvJ _ ?_|refine (XvG (l₁:=[_])).trans (XvJ _ ?_)|refine (XvG (l₁:=[_,_])).trans (XvJ _ ?_)|refine (XvG (l₁:=[_,_,_])).trans (XvJ _ ?_)|refine (XvG (l₁:=[_,_,_,_])).trans (XvJ _ ?_)|refine (XvG (l₁:=[_,_,_,_,_])).trans (XvJ _ ?_)|refine (XvG (l₁:=[_,_,_,_,_,_])).trans (XvJ _ ?_)|refine (XvG (l₁:=[_,_,_,_,_,_,_])).trans (XvJ _ ?_)|refine (XvG (l₁:=[_,_,_,_,_,_,_,_])).trans (XvJ _ ?_)))) (Xap.refl _ _);(repeat' (first|exact VwL.nil|apply VwL.cons|exact Vw.row (List.Mem.head _) (VwL.refl _ _)|exact Vw.row (List.Mem.tail _ (List.Mem.head _)) (VwL.refl _ _)|exact Vw.refl _))))
    (have wx:=@hd1.out;(repeat' (first|refine Wkx.go ?_|refine XaJ ?_|refine XaG ?_|(refine XaE (fun h=>?_) (fun h=>?_)<;>first|(exact absurd h (by decide))|(exfalso;omega;done)|skip)|refine XaF ?_|refine Xai ?_|(refine Xaa rfl ?_;(first|((refine Xa5 Tryz.func27 [_] rfl rfl (Xvt _) hM1.out ?_;rintro _ _ ⟨rfl,rfl⟩);refine XaO ?_)|((refine Xa5 Tryz.func28 [_,_] rfl rfl (Xvt _) hT.out ?_;rintro _ _ ⟨ad'',cap'',rfl,rfl⟩);refine XaO ?_)|refine Xax ?_|refine Xaw ?_|refine Xav (fun ad cap=>?_)|refine Xat (fun b=>?_)|refine Xas (fun b=>?_)|refine Xau (fun b=>?_)|fail))|fail)))<;>(try clear wx)
    refine Xab _ _ (Xcn rfl (RV.tmp _) (RV.tmp _) (Xaq.mk' [_,_,_] [] (Xvt _) Xap.nil (VwL.cons (Vw.row (List.Mem.tail _ (List.Mem.tail _ (List.Mem.head _))) (VwL.refl _ _)) (VwL.refl _ _)))) ⟨rfl,rfl⟩
  | none=>
    have n1:=XgH h1
    rw [h1] at hM1
    simp only [fiv] at hM1
    have hM1:=Lib.hid hM1
    clear h1
    cases h2:Q.2.findIdx? (mtF l true) with
    | some k=>
      obtain ⟨hk,e⟩:=XgI h2
      have e:=hr.r2 _ n1 e
      subst e
      have hd1:=Lib.hid (Xkl Q.2 k hk)
      have hT:=Lib.hid (hT Q.2[k] (hin _ (List.getElem_mem hk)))
      rw [h2] at hM2
      simp only [fiv] at hM2
      have hM2:=Lib.hid hM2
      clear h2 hr n1
      generalize Q.2[k]=p at *
      have htl:=Xhn Q.1 (4*l.length+1) p
      rw [←List.length_reverse] at htl
      generalize (Xcv Q.1 (4*l.length+1) p).reverse=tx at *
      rw [show Xjp (some (tx++[10]))=.tup [.sq (tx.length+1) (u8a tx++[.x (.int .u8 10)]),.x (.bool true)] from by simp [Xjp,XnT,XdX,XnU]]
      (repeat' (first|refine Wkx.go ?_|refine XaJ ?_|refine XaG ?_|(refine XaE (fun h=>?_) (fun h=>?_)<;>first|(exact absurd h (by decide))|(exfalso;omega;done)|skip)|refine XaF ?_|refine Xai ?_|(refine Xaa rfl ?_;(first|((refine Xa5 Tryz.func26 [_,_,_] rfl rfl (Xvt _) hS.out ?_;rintro _ _ ⟨ad',cap',rfl,rfl⟩);refine XaO ?_)|refine Xax ?_|refine Xaw ?_|refine Xav (fun ad cap=>?_)|refine Xat (fun b=>?_)|refine Xas (fun b=>?_)|refine Xau (fun b=>?_)|fail))|fail))
      apply XdF;(case h=>(apply Xaq.mk' [.row _ _ _ _ _ _] [.box sb _,.map mb _] (by (repeat' (first|exact Xvt _|exact List.Perm.nil|refine XvJ _ ?_|refine (XvG (l₁:=[_])).trans (XvJ _ ?_)|refine (XvG (l₁:=[_,_])).trans (XvJ _ ?_)|refine (XvG (l₁:=[_,_,_])).trans (XvJ _ ?_)|refine (XvG (l₁:=[_,_,_,_])).trans (XvJ _ ?_)|refine (XvG (l₁:=[_,_,_,_,_])).trans (XvJ _ ?_)|refine (XvG (l₁:=[_,_,_,_,_,_])).trans (XvJ _ ?_)|refine (XvG (l₁:=[_,_,_,_,_,_,_])).trans (XvJ _ ?_)|refine (XvG (l₁:=[_,_,_,_,_,_,_,_])).trans (XvJ _ ?_)))) (Xap.refl _ _);(repeat' (first|exact VwL.nil|apply VwL.cons|exact Vw.row (List.Mem.head _) (VwL.refl _ _)|exact Vw.row (List.Mem.tail _ (List.Mem.head _)) (VwL.refl _ _)|exact Vw.refl _))))
      (have wx:=@hd1.out;(repeat' (first|refine Wkx.go ?_|refine XaJ ?_|refine XaG ?_|(refine XaE (fun h=>?_) (fun h=>?_)<;>first|(exact absurd h (by decide))|(exfalso;omega;done)|skip)|refine XaF ?_|refine Xai ?_|(refine Xaa rfl ?_;(first|((refine Xa5 Tryz.func27 [_] rfl rfl (Xvt _) hM1.out ?_;rintro _ _ ⟨rfl,rfl⟩);refine XaO ?_)|((refine Xa5 Tryz.func27 [_] rfl rfl (Xvt _) hM2.out ?_;rintro _ _ ⟨rfl,rfl⟩);refine XaO ?_)|((refine Xa5 Tryz.func28 [_,_] rfl rfl (Xvt _) hT.out ?_;rintro _ _ ⟨ad'',cap'',rfl,rfl⟩);refine XaO ?_)|refine Xax ?_|refine Xaw ?_|refine Xav (fun ad cap=>?_)|refine Xat (fun b=>?_)|refine Xas (fun b=>?_)|refine Xau (fun b=>?_)|fail))|fail)))<;>(try clear wx)
      refine Xab _ _ (Xcn rfl (RV.tmp _) (RV.tmp _) (Xaq.mk' [.row (some _) 1 1 _ _ _,.box sb _,.map mb _,.row _ (tx.length+1) _ _ _ _] [] (by (repeat' (first|exact Xvt _|exact List.Perm.nil|refine XvJ _ ?_|refine (XvG (l₁:=[_])).trans (XvJ _ ?_)|refine (XvG (l₁:=[_,_])).trans (XvJ _ ?_)|refine (XvG (l₁:=[_,_,_])).trans (XvJ _ ?_)|refine (XvG (l₁:=[_,_,_,_])).trans (XvJ _ ?_)|refine (XvG (l₁:=[_,_,_,_,_])).trans (XvJ _ ?_)|refine (XvG (l₁:=[_,_,_,_,_,_])).trans (XvJ _ ?_)|refine (XvG (l₁:=[_,_,_,_,_,_,_])).trans (XvJ _ ?_)|refine (XvG (l₁:=[_,_,_,_,_,_,_,_])).trans (XvJ _ ?_)))) Xap.nil (VwL.cons (Vw.row (List.Mem.tail _ (List.Mem.tail _ (List.Mem.tail _ (List.Mem.head _)))) (VwL.refl _ _)) (VwL.refl _ _)))) ⟨rfl,rfl⟩
    | none=>
      have n2:=XgH h2
      rw [h2] at hM2
      simp only [fiv] at hM2
      have hM2:=Lib.hid hM2
      obtain ⟨hg,hlen⟩:=hr.r3 n1 n2
      have hP:=Lib.hid (XtM sb mb l Q.1 Q.2 hv hr.ok (by omega) hr.in_ (by omega))
      clear h2 hr n1 n2 hT
      generalize XcN l Q.1 Q.2=Q2 at *
      (repeat' (first|refine Wkx.go ?_|refine XaJ ?_|refine XaG ?_|(refine XaE (fun h=>?_) (fun h=>?_)<;>first|(exact absurd h (by decide))|(exfalso;omega;done)|skip)|refine XaF ?_|refine Xai ?_|(refine Xaa rfl ?_;(first|((refine Xa5 Tryz.func26 [_,_,_] rfl rfl (Xvt _) hS.out ?_;rintro _ _ ⟨ad',cap',rfl,rfl⟩);refine XaO ?_)|refine Xax ?_|refine Xaw ?_|refine Xav (fun ad cap=>?_)|refine Xat (fun b=>?_)|refine Xas (fun b=>?_)|refine Xau (fun b=>?_)|fail))|fail))
      apply XdF;(case h=>(apply Xaq.mk' [.row _ _ _ _ _ _] [.box sb _,.map mb _] (by (repeat' (first|exact Xvt _|exact List.Perm.nil|refine XvJ _ ?_|refine (XvG (l₁:=[_])).trans (XvJ _ ?_)|refine (XvG (l₁:=[_,_])).trans (XvJ _ ?_)|refine (XvG (l₁:=[_,_,_])).trans (XvJ _ ?_)|refine (XvG (l₁:=[_,_,_,_])).trans (XvJ _ ?_)|refine (XvG (l₁:=[_,_,_,_,_])).trans (XvJ _ ?_)|refine (XvG (l₁:=[_,_,_,_,_,_])).trans (XvJ _ ?_)|refine (XvG (l₁:=[_,_,_,_,_,_,_])).trans (XvJ _ ?_)|refine (XvG (l₁:=[_,_,_,_,_,_,_,_])).trans (XvJ _ ?_)))) (Xap.refl _ _);(repeat' (first|exact VwL.nil|apply VwL.cons|exact Vw.row (List.Mem.head _) (VwL.refl _ _)|exact Vw.row (List.Mem.tail _ (List.Mem.head _)) (VwL.refl _ _)|exact Vw.refl _))))
      (repeat' (first|refine Wkx.go ?_|refine XaJ ?_|refine XaG ?_|(refine XaE (fun h=>?_) (fun h=>?_)<;>first|(exact absurd h (by decide))|(exfalso;omega;done)|skip)|refine XaF ?_|refine Xai ?_|(refine Xaa rfl ?_;(first|((refine Xa5 Tryz.func27 [_] rfl rfl (Xvt _) hM1.out ?_;rintro _ _ ⟨rfl,rfl⟩);refine XaO ?_)|((refine Xa5 Tryz.func27 [_] rfl rfl (Xvt _) hM2.out ?_;rintro _ _ ⟨rfl,rfl⟩);refine XaO ?_)|((refine Xa5 Tryz.func29 [_,_] rfl rfl (Xvt _) hP.out ?_;rintro _ _ ⟨ad',cap',rfl,rfl⟩);refine XaO ?_)|refine Xax ?_|refine Xaw ?_|refine Xav (fun ad cap=>?_)|refine Xat (fun b=>?_)|refine Xas (fun b=>?_)|refine Xau (fun b=>?_)|fail))|fail))
      exact ⟨(Q2.1,Q2.2,_,_),(by show (if Q2.2.length=0 then 0 else 4*l.length+2 - Q2.1.length) < (if list.length=0 then 0 else 4*l.length+2 - sn.length);rw [if_neg (show ¬list.length=0 by omega)];split<;>omega),hg,(Xaq.mk' [] [.box sb _,.map mb _,.row _ _ _ _ _ _] (by (repeat' (first|exact Xvt _|exact List.Perm.nil|refine XvJ _ ?_|refine (XvG (l₁:=[_])).trans (XvJ _ ?_)|refine (XvG (l₁:=[_,_])).trans (XvJ _ ?_)|refine (XvG (l₁:=[_,_,_])).trans (XvJ _ ?_)|refine (XvG (l₁:=[_,_,_,_])).trans (XvJ _ ?_)|refine (XvG (l₁:=[_,_,_,_,_])).trans (XvJ _ ?_)|refine (XvG (l₁:=[_,_,_,_,_,_])).trans (XvJ _ ?_)|refine (XvG (l₁:=[_,_,_,_,_,_,_])).trans (XvJ _ ?_)|refine (XvG (l₁:=[_,_,_,_,_,_,_,_])).trans (XvJ _ ?_)))) (Xap.refl _ _) (by (repeat' (first|exact VwL.nil|(refine VwL.cons ?_ ?_)|exact Vw.refl _|exact Vw.top _|exact Vw.nil|(refine Vw.eq ?_;first|rfl|(simp;done)|(congr 3;omega)|(congr 2;omega))))))⟩
theorem Xpi (l:List Sx) (hl:l.length≤1000000):XaM Tryz.prog 9 [] [.sq l.length (sxa l)] (fun r H'=>r=Xjp (XcD l)∧H'=[]):=by
 cases hv:Xbw l with
 | true=>exact Xll l hv
 | false=>exact XnH l hl hv
class Xt0 (H:List Hp) (p:outParam Nat) (ad:outParam (Nat→Addr)):Prop where out:H[p]?=some (.sen ad)
instance {x:Hp} {H:List Hp} {p:Nat} {ad:Nat→Addr} [h:Xt0 H p ad]:Xt0 (x :: H) (p+1) ad:=⟨by simpa using h.out⟩
instance {H:List Hp} {ad:Nat→Addr}:Xt0 (.sen ad :: H) 0 ad:=⟨rfl⟩
class XpJ (g:Nat) (i:outParam Nat):Prop where out:Xpk[i]?=some g
instance:XpJ 0 0:=⟨rfl⟩
instance:XpJ 2 1:=⟨rfl⟩
instance:XpJ 3 2:=⟨rfl⟩
instance:XpJ 4 3:=⟨rfl⟩
instance:XpJ 5 4:=⟨rfl⟩
instance:XpJ 6 5:=⟨rfl⟩
instance:XpJ 1 6:=⟨rfl⟩
section
variable {P:Program} {H:List Hp} {o:Oper} {ρ:Operand→AV}
theorem XfW {t:TypeId} {x:Operand} {g i p:Nat} {ad:Nat→Addr} (ho:o.op=.load t x:=by first|rfl|fail) (hx:ρ x=.x (.pointer (some ⟨g,0,none⟩)):=by first|rfl|fail) (hp:H[p]?=some (.sen ad):=by first|exact Xt0.out|fail) (hi:Xpk[i]?=some g:=by first|exact XpJ.out|fail) (ht:Xhq P t=some (false,1):=by first|exact XaR.out|fail):Evl P o ρ H (.x (Xhg ad i)):=by
 intro V a w Kc Q r hKc
 obtain ⟨hs,-⟩:=r.hp p _ hp
 have hc:=hs.sens i g hi
 obtain ⟨v,hr,hdv⟩:=XbW (P:=P) t false 1 ht w (FB V H) g 0 [.x (Xhg ad i)] [Xhg ad i] (DenL.exact (l:=[Xhg ad i])) (by simp) (fun _=>by simp)
 have hrun:=hr w fun j u hj=>by
  cases j with
  | zero=>simp only [List.getElem?_cons_zero,Option.some.injEq] at hj;subst hj;simpa using hc
  | succ j=>simp at hj
 have hv:v=Xhg ad i:=by
  have:ldA false 1 [AV.x (Xhg ad i)]=.x (Xhg ad i):=rfl
  rw [this,Den] at hdv
  exact hdv
 subst hv
 unfold Oper.wp
 have:(execOp a.eval o).run P w=.ok (.value (Xhg ad i)) w:=by
  simp [execOp,ho,r.evx (x:=x) (by simp [ho,Op.operands]) hx,Instr.loadAt,Instr.sureAddr,hrun]
 rw [this]
 exact hKc _ _ (Below.refl _ _) (by rw [Den])
theorem XlJ {f:FuncId} {args:List Value} {res:Value}
  (h:∀w,(∀b (cells:List Value),Hp.box b (cells.map .x)∈H→∀j u,cells[j]?=some u→w.cell? ⟨b,j,none⟩=some u)→(∀ad,Hp.sen ad∈H→Xgr ad w)→Calls P f args.toArray w fun e w'=>e=.returned res∧w'=w) :
  XaM P f H (args.map .x) fun r H'=>r=.x res∧H'=H:=by
 intro V w vs hV hH hd hgl
 rw [hd.exact']
 refine (h w (fun b cells hm j u hj=>?_) (fun ad hm=>(hH.ok _ hm).1)).mono ?_
 ·obtain ⟨vals,hd,hl,hc⟩:=hH.ok _ hm
  rw [hd.exact'] at hc
  exact (hc j u hj).1
 ·rintro e w' ⟨rfl,rfl⟩
  exact ⟨.x res,_,res,⟨rfl,rfl⟩,rfl,Xov _,hH,Fr.refl _ _,fun x hx k hk=>.inl ⟨x,hx,hk⟩⟩
end
def Xt7 (ad:Nat→Addr):Option Nat→Value
 | none=>.nilIface
 | some i=>Xhg ad i
def Xfg (ad:Nat→Addr):Prop:=∀i j,i < 7→j < 7→ad i=ad j→i=j
open Go.RowKit
def Xqb (s:List UInt8):Option Nat:=
 match XdM s with
 | .error _=>some 4
 | .ok l=>if Xc0 l=false then some 4 else if (XcD (XeF l)).isNone then some 5 else none
theorem Xlf {s:List UInt8} {c:Nat} (h:XdM s=.error c):c≠0:=by
 unfold XdM at h
 split at h
 ·cases h;decide
 simp only at h
 split at h
 ·cases h;assumption
 split at h
 ·cases h;decide
 split at h
 ·cases h;decide
 ·cases h
theorem Xni {s:List UInt8} {l:List Nd} (h:XdM s=.ok l):l.length≤256:=by
 unfold XdM at h
 split at h
 ·cases h
 simp only at h
 split at h
 ·cases h
 split at h
 ·cases h
 split at h
 ·cases h
 ·cases h;omega
theorem Xou {l:List Nd} (hv:Xc0 l=true):(XeF l).length≤600:=by
 obtain ⟨hl,h0,ht⟩:=XgN hv
 have:=Xd9 ht l.length ([]++[⟨2,0,0,0⟩]++[⟨5,0,0,0⟩]) ([]++[(⟨2,0,0,0⟩:Sx)]).length (by omega) (by decide)
 rw [Xh6,List.length_set]
 simp only [XvD,XvF,Xvw,Xvz] at this ⊢
 omega
theorem XqM (ad:Nat→Addr) (s:List UInt8) (hs:s.length≤100000000):XaM Tryz.prog 80 [.sen ad] [.x (.string (bs s))] (fun r H'=>r=.x (Xt7 ad (Xqb s))∧H'=[.sen ad]):=by
 have hP:=XrN s hs
 unfold Xqb
 unfold XrT at hP
 cases h1:XdM s with
 | error c=>
   have hc:=Xlf h1
   rw [h1] at hP
   simp only at hP ⊢
   have hP:=Lib.hid hP
   refine Xbs Tryz.func80 Tryz.ntmps80 ?_
   (repeat' (first|refine Wkx.go ?_|refine XaJ ?_|refine XaG ?_|(refine XaE (fun h=>?_) (fun h=>?_)<;>first|(exact absurd h (by decide))|(exfalso;omega;done)|skip)|refine XaF ?_|refine Xai ?_ (h:=by first|exact fun _=>Xb3 rfl rfl Tryz.func112 (hP.out)|fail)|refine Xai ?_ (h:=by first|exact fun _=>XfW|fail)|refine Xai ?_|(refine Xaa rfl ?_;(first|refine Xax ?_|refine Xaw ?_|refine Xav (fun ad cap=>?_)|refine Xat (fun b=>?_)|refine Xas (fun b=>?_)|refine Xau (fun b=>?_)|fail))|fail))
   refine Xab _ _ (Xa0 rfl (RV.tmp _) (XcJ (D:=[]))) ?_
   exact ⟨rfl,rfl⟩
 | ok l=>
   rw [h1] at hP
   simp only at hP ⊢
   have hP:=Lib.hid hP
   have hl:=Xni h1
   have hC:=Xmj l hl
   unfold XqP at hC
   cases hv:Xc0 l with
   | false=>
     rw [hv] at hC
     rw [if_pos rfl]
     rw [if_neg (by decide)] at hC
     have hC:=Lib.hid hC
     refine Xbs Tryz.func80 Tryz.ntmps80 ?_
     (repeat' (first|refine Wkx.go ?_|refine XaJ ?_|refine XaG ?_|(refine XaE (fun h=>?_) (fun h=>?_)<;>first|(exact absurd h (by decide))|(exfalso;omega;done)|skip)|refine XaF ?_|refine Xai ?_ (h:=by first|exact fun _=>Xb3 rfl rfl Tryz.func112 (hP.out)|fail)|refine Xai ?_ (h:=by first|exact fun _=>Xb3 rfl rfl Tryz.func8 (hC.out)|fail)|refine Xai ?_ (h:=by first|exact fun _=>XfW|fail)|refine Xai ?_|(refine Xaa rfl ?_;(first|refine Xax ?_|refine Xaw ?_|refine Xav (fun ad cap=>?_)|refine Xat (fun b=>?_)|refine Xas (fun b=>?_)|refine Xau (fun b=>?_)|fail))|fail))
     refine Xab _ _ (Xa0 rfl (RV.tmp _) (XcJ (D:=[]))) ?_
     exact ⟨rfl,rfl⟩
   | true=>
     rw [hv] at hC
     rw [if_neg (by decide)]
     rw [if_pos rfl] at hC
     have hC:=Lib.hid hC
     have hcl:=Xou hv
     have hS:=Xpi (XeF l) (by omega)
     cases hn:XcD (XeF l) with
     | none=>
       rw [hn] at hS
       simp only [Option.isNone,if_true]
       unfold Xjp at hS
       simp only at hS
       have hS:=Lib.hid hS
       refine Xbs Tryz.func80 Tryz.ntmps80 ?_
       (repeat' (first|refine Wkx.go ?_|refine XaJ ?_|refine XaG ?_|(refine XaE (fun h=>?_) (fun h=>?_)<;>first|(exact absurd h (by decide))|(exfalso;omega;done)|skip)|refine XaF ?_|refine Xai ?_ (h:=by first|exact fun _=>Xb3 rfl rfl Tryz.func112 (hP.out)|fail)|refine Xai ?_ (h:=by first|exact fun _=>Xb3 rfl rfl Tryz.func8 (hC.out)|fail)|refine Xai ?_ (h:=by first|exact fun _=>Xb3 rfl rfl Tryz.func9 (hS.out)|fail)|refine Xai ?_ (h:=by first|exact fun _=>XfW|fail)|refine Xai ?_|(refine Xaa rfl ?_;(first|refine Xax ?_|refine Xaw ?_|refine Xav (fun ad cap=>?_)|refine Xat (fun b=>?_)|refine Xas (fun b=>?_)|refine Xau (fun b=>?_)|fail))|fail))
       refine Xab _ _ (Xa0 rfl (RV.tmp _) (XcJ (D:=[]))) ?_
       exact ⟨rfl,rfl⟩
     | some t=>
       rw [hn] at hS
       simp only [Option.isNone,Bool.false_eq_true,if_false]
       unfold Xjp at hS
       simp only at hS
       have hS:=Lib.hid hS
       refine Xbs Tryz.func80 Tryz.ntmps80 ?_
       (repeat' (first|refine Wkx.go ?_|refine XaJ ?_|refine XaG ?_|(refine XaE (fun h=>?_) (fun h=>?_)<;>first|(exact absurd h (by decide))|(exfalso;omega;done)|skip)|refine XaF ?_|refine Xai ?_ (h:=by first|exact fun _=>Xb3 rfl rfl Tryz.func112 (hP.out)|fail)|refine Xai ?_ (h:=by first|exact fun _=>Xb3 rfl rfl Tryz.func8 (hC.out)|fail)|refine Xai ?_ (h:=by first|exact fun _=>Xb3 rfl rfl Tryz.func9 (hS.out)|fail)|refine Xai ?_ (h:=by first|exact fun _=>XfW|fail)|refine Xai ?_|(refine Xaa rfl ?_;(first|refine Xax ?_|refine Xaw ?_|refine Xav (fun ad cap=>?_)|refine Xat (fun b=>?_)|refine Xas (fun b=>?_)|refine Xau (fun b=>?_)|fail))|fail))
       refine Xab _ _ (Xa0 rfl (RV.tmp _) (XcJ (D:=[]))) ?_
       exact ⟨rfl,rfl⟩
theorem Xq6 (l:List (List UInt8)) (H:List Hp) (g:Nat) (fn:Func) (cs:Array Value) (p:List UInt8→Bool) (hl:l.length≤140737488355328) (hf:Tryz.prog.funcs[g]?=some fn) (hnn:fn.name≠ "runtime.NumGoroutine") (hb:fn.body.isSome=true)
  (hp:∀j∈l,XaM Tryz.prog g H (.x (.string (bs j)) :: cs.toList.map .x) (fun r H'=>r=.x (.bool (p j))∧H'=H)) :
  XaM Tryz.prog 108 H [.sq l.length (sa l),.x (.func (.func g) #[] cs)] (fun r H'=>r=.x (.int .i64 (fiv (l.findIdx? p)))∧H'=H):=by
 have hp:=Lib.hid hp
 refine Xbs Tryz.func108 Tryz.ntmps108 ?_
 (repeat' (first|refine Wkx.go ?_|refine XaJ ?_|refine XaG ?_|(refine XaE (fun h=>?_) (fun h=>?_)<;>first|(exact absurd h (by decide))|(exfalso;omega;done)|skip)|refine XaF ?_|refine Xai ?_|(refine Xaa rfl ?_;(first|refine Xax ?_|refine Xaw ?_|refine Xav (fun ad cap=>?_)|refine Xat (fun b=>?_)|refine Xas (fun b=>?_)|refine Xau (fun b=>?_)|fail))|fail))
 refine XaA (S:=Nat) (fun k=>frm 19 [(0,.sq l.length (sa l)),(1,.x (.func (.func g) #[] cs)),(7,.x (.int .i64 l.length)),(8,.x (.int .i64 k))]) (fun _=>H) (fun k=>k≤l.length∧∀j∈l.take k,p j=false) (fun k=>l.length - k) 0 (XbQ (D:=[])) ⟨Nat.zero_le _,by simp⟩ fun k hk=>?_
 simp only [wfr]
 obtain ⟨hk,hn⟩:=hk
 have hn:=Lib.hid hn
 (have wx:=@Xei;(repeat' (first|refine Wkx.go ?_|refine XaJ ?_|refine XaG ?_|(refine XaE (fun h=>?_) (fun h=>?_)<;>first|(exact absurd h (by decide))|(exfalso;omega;done)|skip)|refine XaF ?_|refine Xai ?_|(refine Xaa rfl ?_;(first|((refine Xaj g fn H [] _ _ rfl rfl hf hnn hb (by simp) (VwL.refl _ _) (hp.out l[k] (List.getElem_mem h)) ?_;rintro _ _ ⟨rfl,rfl⟩);refine XaO ?_)|refine Xax ?_|refine Xaw ?_|refine Xav (fun ad cap=>?_)|refine Xat (fun b=>?_)|refine Xas (fun b=>?_)|refine Xau (fun b=>?_)|fail))|fail)))<;>(try clear wx)
 ·refine Xab _ _ (Xa0 rfl (RV.tmp _) (XcJ (D:=[]))) ?_
  exact ⟨by rw [Xec p (by assumption) hn.out h];rfl,rfl⟩
 ·exact ⟨k+1,by omega,⟨by omega,by rw [XbC l k (by assumption)];intro j hj;simp only [List.mem_append,List.mem_singleton] at hj;rcases hj with hj|rfl;exact hn.out j hj;exact h⟩,(XbQ (D:=[]))⟩
 ·refine Xab _ _ (Xa0 rfl (RV.tmp _) (XcJ (D:=[]))) ?_
  have hn:=hn.out
  rw [List.take_of_length_le (by omega)] at hn
  exact ⟨by rw [Xeb p hn];rfl,rfl⟩
theorem Xoy {α:Type} (l:List α) (p:α→Bool):decide ((0:Int)≤fiv (l.findIdx? p))=l.any p:=by
 rw [Bool.eq_iff_iff,decide_eq_true_iff,List.any_eq_true]
 rcases h:l.findIdx? p with _|k
 ·rw [List.findIdx?_eq_none_iff] at h
  constructor
  ·intro q;simp [fiv] at q
  ·rintro ⟨x,hx,q⟩;rw [h x hx] at q;cases q
 ·rw [List.findIdx?_eq_some_iff_getElem] at h
  obtain ⟨hk,h,-⟩:=h
  exact ⟨fun _=>⟨_,List.getElem_mem hk,h⟩,fun _=>Int.natCast_nonneg k⟩
theorem XqL (l:List (List UInt8)) (H:List Hp) (g:Nat) (fn:Func) (cs:Array Value) (p:List UInt8→Bool) (hl:l.length≤140737488355328) (hf:Tryz.prog.funcs[g]?=some fn) (hnn:fn.name≠ "runtime.NumGoroutine") (hb:fn.body.isSome=true)
  (hp:∀j∈l,XaM Tryz.prog g H (.x (.string (bs j)) :: cs.toList.map .x) (fun r H'=>r=.x (.bool (p j))∧H'=H)) :
  XaM Tryz.prog 77 H [.sq l.length (sa l),.x (.func (.func g) #[] cs)] (fun r H'=>r=.x (.bool (l.any p))∧H'=H):=by
 have h1:=Lib.hid (Xq6 l H g fn cs p hl hf hnn hb hp)
 rw [←Xoy]
 generalize fiv (l.findIdx? p)=k at *
 refine Xbs Tryz.func77 Tryz.ntmps77 ?_
 (repeat' (first|refine Wkx.go ?_|refine XaJ ?_|refine XaG ?_|(refine XaE (fun h=>?_) (fun h=>?_)<;>first|(exact absurd h (by decide))|(exfalso;omega;done)|skip)|refine XaF ?_|refine Xai ?_|(refine Xaa rfl ?_;(first|((refine Xa5 Tryz.func108 H (R:=[]) rfl rfl (by simp) h1.out ?_;rintro _ _ ⟨rfl,rfl⟩);refine XaO ?_)|refine Xax ?_|refine Xaw ?_|refine Xav (fun ad cap=>?_)|refine Xat (fun b=>?_)|refine Xas (fun b=>?_)|refine Xau (fun b=>?_)|fail))|fail))
 refine Xab _ _ (Xa0 rfl (RV.tmp _) (XcJ (D:=[]))) ?_
 exact ⟨rfl,by simp⟩
def ra (l:List (Int × Int)):List AV:=l.flatMap fun s=>[.x (.int .i64 s.1),.x (.int .u64 s.2)]
@[simp] theorem Xva (l:List (Int × Int)):(ra l).length=l.length*2:=by
 induction l with
 | nil=>rfl
 | cons j l ih=>simp only [ra,List.flatMap_cons,XvF,Xvw] at ih ⊢;rw [ih];simp;omega
theorem Xqd (l m:List (Int × Int)):ra (l++m)=ra l++ra m:=by simp [ra]
def ea (l:List (List UInt8 × List UInt8)):List AV:=l.flatMap fun s=>[.x (.string (bs s.1)),.x (.string (bs s.2))]
@[simp] theorem Xu7 (l:List (List UInt8 × List UInt8)):(ea l).length=l.length*2:=by
 induction l with
 | nil=>rfl
 | cons j l ih=>simp only [ea,List.flatMap_cons,XvF,Xvw] at ih ⊢;rw [ih];simp;omega
theorem XsR (l m:List (List UInt8 × List UInt8)):ea (l++m)=ea l++ea m:=by simp [ea]
structure JF where
 name:List UInt8
 run:List UInt8
 env:List (List UInt8 × List UInt8)
 needs:List (List UInt8)
 hasr:Bool
 ready:List UInt8
 restart:Int
 base:Int
 cap:Int
 stable:Int
 burst:Int
 window:Int
 ladder:List (Int × Int)
 line:Int
 col:Int
def JF.cells (j:JF):List AV:=[.x (.string (bs j.name)),.x (.string (bs j.run)),.sq j.env.length (ea j.env),.sq j.needs.length (sa j.needs),.x (.bool j.hasr),.x (.string (bs j.ready)),.x (.int .i64 j.restart),.x (.int .u64 j.base),.x (.int .u64 j.cap),.x (.int .u64 j.stable),.x (.int .i64 j.burst),.x (.int .u64 j.window),.sq j.ladder.length (ra j.ladder),.x (.int .i64 j.line),.x (.int .i64 j.col)]
def U64 (v:Int):Prop:=0≤v∧v≤18446744073709551615
structure XpK (j:JF):Prop where
 name:j.name.length≤8
 run:j.run.length≤16
 env:j.env.length≤2
 enve:∀p∈j.env,p.1.length≤8∧p.2.length≤8
 needs:j.needs.length≤4
 neede:∀s∈j.needs,s.length≤8
 ready:j.ready.length≤16
 ladder:j.ladder.length≤4
 laddere:∀p∈j.ladder,U64 p.2
 base:U64 j.base
 cap:U64 j.cap
 stable:U64 j.stable
 window:U64 j.window
 burst : -9223372036854775808≤j.burst∧j.burst≤9223372036854775807
theorem XiR (l:List (List UInt8 × List UInt8)) (k:Nat) (h:k < l.length):(ea l).drop (k*2)=.x (.string (bs l[k].1)) :: .x (.string (bs l[k].2)) :: ea (l.drop (k+1)):=by
 induction l generalizing k with
 | nil=>simp at h
 | cons j l ih=>
   cases k with
   | zero=>simp [ea]
   | succ k=>
     simp only [ea,List.flatMap_cons,List.drop_succ_cons,List.getElem_cons_succ] at ih ⊢
     rw [show (k+1)*2=2+k*2 from by omega,←List.drop_drop]
     exact ih k (by simpa using h)
theorem XrR (l:List (Int × Int)) (k:Nat) (h:k < l.length):(ra l).drop (k*2)=.x (.int .i64 l[k].1) :: .x (.int .u64 l[k].2) :: ra (l.drop (k+1)):=by
 induction l generalizing k with
 | nil=>simp at h
 | cons j l ih=>
   cases k with
   | zero=>simp [ra]
   | succ k=>
     simp only [ra,List.flatMap_cons,List.drop_succ_cons,List.getElem_cons_succ] at ih ⊢
     rw [show (k+1)*2=2+k*2 from by omega,←List.drop_drop]
     exact ih k (by simpa using h)
def jfa (l:List JF):List AV:=l.flatMap JF.cells
@[simp] theorem Xrb (l:List JF):(jfa l).length=l.length*15:=by
 induction l with
 | nil=>rfl
 | cons j l ih=>simp only [jfa,List.flatMap_cons,XvF,Xvw] at ih ⊢;rw [ih];simp [JF.cells];omega
theorem XeB (l:List JF) (k:Nat) (h:k < l.length):(jfa l).drop (k*15)=l[k].cells++jfa (l.drop (k+1)):=by
 induction l generalizing k with
 | nil=>simp at h
 | cons j l ih=>
   cases k with
   | zero=>simp [jfa]
   | succ k=>
     simp only [jfa,List.flatMap_cons,List.drop_succ_cons,List.getElem_cons_succ] at ih ⊢
     rw [show (k+1)*15=j.cells.length+k*15 from by simp [JF.cells];omega,←List.drop_drop,List.drop_append_length]
     exact ih k (by simpa using h)
theorem XhZ (l:List JF) (k:Nat) (h:k < l.length):(jfa l).drop (k*15)=.x (.string (bs l[k].name)) :: .x (.string (bs l[k].run)) :: .sq l[k].env.length (ea l[k].env) :: .sq l[k].needs.length (sa l[k].needs) :: .x (.bool l[k].hasr) :: .x (.string (bs l[k].ready)) :: .x (.int .i64 l[k].restart) :: .x (.int .u64 l[k].base) :: .x (.int .u64 l[k].cap) :: .x (.int .u64 l[k].stable) :: .x (.int .i64 l[k].burst) :: .x (.int .u64 l[k].window) :: .sq l[k].ladder.length (ra l[k].ladder) :: .x (.int .i64 l[k].line) :: .x (.int .i64 l[k].col) :: jfa (l.drop (k+1)):=XeB l k h
end Go.Proofs.YtdlblokjfoggpaaGreatDoor

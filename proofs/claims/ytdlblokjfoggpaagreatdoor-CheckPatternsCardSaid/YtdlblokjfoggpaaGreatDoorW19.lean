import Derived.Test.YtdlblokjfoggpaaGreatDoorW7
import Derived.Test.YtdlblokjfoggpaaGreatDoorW16
import Derived.Test.YtdlblokjfoggpaaGreatDoorW17
import Derived.Test.YtdlblokjfoggpaaGreatDoorW18
/- The search: Sample, exactly. -/
set_option linter.unusedSimpArgs false
set_option linter.unusedVariables false
set_option maxRecDepth 100000
set_option maxHeartbeats 8000000
namespace Go.Proofs.YtdlblokjfoggpaaGreatDoor
open Go.RowKit
theorem Xhg {l:List Sx} {q:List Sp} {e:Bool} {k:Nat} (h:q.findIdx? (mtF l e)=some k):∃hk:k < q.length,Xcp l q e=some q[k]:=by
 obtain ⟨h1,h2,h3⟩:=List.findIdx?_eq_some_iff_getElem.1 h
 refine ⟨h1,?_⟩
 unfold Xcp
 rw [List.find?_eq_some_iff_getElem]
 exact ⟨h2,k,h1,rfl,fun j hj=>by rw [Bool.not_eq_true'];exact Bool.eq_false_iff.2 (h3 j hj)⟩
theorem Xhf {l:List Sx} {q:List Sp} {e:Bool} (h:q.findIdx? (mtF l e)=none):Xcp l q e=none:=by
 rw [List.findIdx?_eq_none_iff] at h
 unfold Xcp
 rw [List.find?_eq_none]
 intro x hx
 have:=h x hx
 unfold mtF at this
 rw [this];simp
def Xh3:Option (List UInt8)→AV
 | none=>.tup [.x (.slice none 0 0),.x (.bool false)]
 | some t=>.tup [.sq t.length (u8a t),.x (.bool true)]
structure GoI (l:List Sx) (R:Option (List UInt8)) (sn:SnL) (list:List Sp):Prop where
 ok:XfF l.length sn
 in_:In sn list
 le:list.length≤sn.length
 eq:∃f,Xt3 l f sn list=R∧(list≠[]→4*l.length+1≤f+sn.length)
theorem GoI.done {l:List Sx} {R:Option (List UInt8)} {sn:SnL} (h:GoI l R sn []):R=none:=by
 obtain ⟨f,h1,_⟩:=h.eq
 cases f with
 | zero=>exact h1.symm
 | succ f=>rw [Xt3,if_pos rfl] at h1;exact h1.symm
structure GoR (l:List Sx) (R:Option (List UInt8)) (sn:SnL) (Q:SnL × List Sp):Prop where
 ok:XfF l.length Q.1
 in_:In Q.1 Q.2
 st:∀s∈Q.2,s.st < l.length
 len:Q.2.length≤4*l.length
 r1:∀p,Xcp l Q.2 false=some p→R=some (Xcw Q.1 (4*l.length+1) p).reverse
 r2:∀p,Xcp l Q.2 false=none→Xcp l Q.2 true=some p→R=some ((Xcw Q.1 (4*l.length+1) p).reverse++[10])
 r3:Xcp l Q.2 false=none→Xcp l Q.2 true=none→GoI l R (Xcv l Q.1 Q.2).1 (Xcv l Q.1 Q.2).2∧sn.length+(Xcv l Q.1 Q.2).2.length≤(Xcv l Q.1 Q.2).1.length
theorem GoI.round {l:List Sx} (hv:Xa5 l=true) {R:Option (List UInt8)} {sn:SnL} {list:List Sp} (h:GoI l R sn list) (hne:list≠[]):GoR l R sn (Xbe l (4*l.length+1) 0 (sn,list)):=by
 obtain ⟨f,h1,h2⟩:=h.eq
 have h2:=h2 hne
 have h3:=h.ok.len
 obtain ⟨f,rfl⟩:∃k,f=k+1:=⟨f - 1,by omega⟩
 rw [Xt3,if_neg hne] at h1
 simp only at h1
 have hG:XcP l.length sn list (Xbe l (4*l.length+1) 0 (sn,list)):=XcP.spread hv h.in_ _ 0 _ (XcP.refl h.ok)
 generalize Xbe l (4*l.length+1) 0 (sn,list)=Q at *
 have hin:=hG.in_ h.in_
 have hS:XcP l.length Q.1 [] (Xcv l Q.1 Q.2):=XcP.step hv Q.2 (Q.1,[]) (XcP.refl hG.ok) hin
 obtain ⟨t,e1,e2⟩:=hG.ext
 obtain ⟨u,f1,f2⟩:=hS.ext
 refine ⟨hG.ok,hin,fun s hs=>?_,hG.len h.le,fun p hp=>?_,fun p hn hp=>?_,fun hn hn2=>?_⟩
 ·obtain ⟨y,hy,rfl⟩:=hin s hs;exact hG.ok.st y hy
 ·rw [hp] at h1;exact h1.symm
 ·rw [hn] at h1;simp only [hp] at h1;exact h1.symm
 ·rw [hn] at h1;simp only [hn2] at h1
  have hl:(Xcv l Q.1 Q.2).2.length=u.length:=by rw [f2];simp
  have hl1:(Xcv l Q.1 Q.2).1.length=sn.length+t.length+u.length:=by rw [f1,e1,XyA,XyA]
  refine ⟨⟨hS.ok,hS.in_ (fun p hp=>by cases hp),by omega,f,h1,fun hne2=>?_⟩,by omega⟩
  have:0 < u.length:=by
   rcases Nat.eq_zero_or_pos u.length with h0|h0
   ·exact absurd (List.eq_nil_of_length_eq_zero (by omega)) hne2
   ·exact h0
  omega
theorem XmN {l:List Sx} (hv:Xa5 l=false):Xbk l=none:=by unfold Xbk;rw [if_pos hv]
theorem Xkn {l:List Sx} (hv:Xa5 l=true):GoI l (Xbk l) [(⟨0,true,false⟩,{ root:=true })] [⟨0,true,false⟩]:=by
 have h0:0 < l.length:=by
  unfold Xa5 at hv;simp only [Bool.and_eq_true,decide_eq_true_eq] at hv;omega
 refine ⟨⟨by simp,fun x hx=>?_,fun i x hx=>?_⟩,fun p hp=>⟨(⟨0,true,false⟩,{ root:=true }),List.mem_singleton.2 rfl,(List.mem_singleton.1 hp).symm⟩,Nat.le_refl _,4*l.length+1,?_,fun _=>by simp⟩
 ·rw [List.mem_singleton] at hx;subst hx;exact h0
 ·cases i with
  | zero=>simp at hx;subst hx;exact .inl rfl
  | succ i=>simp at hx
 ·unfold Xbk;rw [if_neg (by rw [hv];decide)]
theorem XwB {l:List Sx} (hv:Xa5 l=true):0 < l.length∧l.length≤513:=by
 unfold Xa5 at hv;simp only [Bool.and_eq_true,decide_eq_true_eq] at hv;omega
theorem Xpb (l:List Sx) (hl:l.length≤1000000) (hv:Xa5 l=false):Xay Tryz.prog 9 [] [.sq l.length (sxa l)] (fun r H'=>r=Xh3 (Xbk l)∧H'=[]):=by
 rw [XmN hv]
 have hV:=Xla l (by omega)
 rw [hv] at hV
 have hV:=Lib.hid hV
 refine XaV Tryz.func9 Tryz.ntmps9 ?_
 (repeat' (first|refine Wkx.go ?_|(refine Xaz (fun h=>?_) (fun h=>?_)<;>first|(exact absurd h (by decide))|skip)|refine Xad ?_ (h:=by exact fun _=>Xbb rfl rfl Tryz.func24 (hV.out))|refine Xad ?_|fail))
 refine Xaa _ _ (XbR rfl (RV.tmp _) (RV.tmp _) (Xaj.mk' [] [] (Xyo _) Xak.nil (VwL.refl _ _))) ⟨rfl,rfl⟩
theorem XmO (l:List Sx) (hv:Xa5 l=true):Xay Tryz.prog 9 [] [.sq l.length (sxa l)] (fun r H'=>r=Xh3 (Xbk l)∧H'=[]):=by
 obtain ⟨hl0,hl1⟩:=XwB hv
 have hI:=Xkn hv
 generalize Xbk l=R at *
 have hV:=Xla l (by omega)
 rw [hv] at hV
 have hV:=Lib.hid hV
 have hR0:=fun sb mb=>Xe1 sb mb l ([],[]) none 0 ⟨0,true,false⟩ { root:=true } ⟨by simp,(fun x hx=>by cases hx),(fun i x hx=>by simp at hx)⟩ (by omega) hl0 (by simp)
 rw [show XaB ([],[]) ⟨0,true,false⟩ { root:=true }=([(⟨0,true,false⟩,{ root:=true })],[⟨0,true,false⟩]) from rfl] at hR0
 have hR0:=Lib.hid hR0
 refine XaV Tryz.func9 Tryz.ntmps9 ?_
 refine Xa3 86 3 ?_
 (repeat' (first|refine Wkx.go ?_|(refine Xaz (fun h=>?_) (fun h=>?_)<;>first|(exact absurd h (by decide))|skip)|refine Xad ?_ (h:=by exact fun _=>Xbb rfl rfl Tryz.func24 (hV.out))|refine Xad ?_|(refine Xab rfl ?_;(first|((refine Xjm _ rfl (fun b=>?_));refine XaJ ?_)|((refine Xa7 Tryz.func25 [_,_,_] rfl rfl (Xyo _) (hR0.out _ _) ?_;rintro _ _ ⟨ad',cap',rfl,rfl⟩);refine XaJ ?_)|refine Xd9 (fun b=>?_)))|fail))
 rename_i mb
 revert b;intro sb
 refine Xah (S:=SnL × List Sp × Option Addr × Nat) (fun s=>frm 52 [(4,.x (.pointer (some ⟨sb,0,none⟩))),(5,.x (.slice s.2.2.1 s.2.1.length s.2.2.2))])
  (fun s=>[.box sb [.sq l.length (sxa l),.x (.map (some mb))],.map mb (snv s.1),.row s.2.2.1 s.2.1.length s.2.2.2 86 3 (spa s.2.1)]) (fun s=>GoI l R s.1 s.2.1) (fun s=>if s.2.1.length=0 then 0 else 4*l.length+2 - s.1.length) ([(⟨0,true,false⟩,{ root:=true })],[⟨0,true,false⟩],ad',cap') (Xaj.mk' [] [.box sb _,.map mb _,.row _ _ _ _ _ _] (by (repeat' (first|exact Xyo _|fail))) (Xak.refl _ _) (by (repeat' (first|exact VwL.nil|(refine VwL.cons ?_ ?_)|exact Vw.refl _|exact Vw.top _|fail)))) hI fun s hs=>?_
 clear hI
 obtain ⟨sn,list,ad,cap⟩:=s
 simp only at hs
 simp only [wfr]
 by_cases hne:list=[]
 ·subst hne
  have e:=hs.done
  subst e
  (repeat' (first|refine Wkx.go ?_|(refine Xaz (fun h=>?_) (fun h=>?_)<;>first|(exact absurd h (by decide))|skip)|refine Xad ?_|fail))
  refine Xaa _ _ (XbR rfl (RV.tmp _) (RV.tmp _) (Xaj.mk' [_,_,_] [] (Xyo _) Xak.nil (VwL.refl _ _))) ⟨rfl,rfl⟩
 ·have hr:=hs.round hv hne
  have hpos:0 < list.length:=List.length_pos_iff.2 hne
  have hsn:=hs.ok.len
  have hS:=Xrw sb mb l sn list ad cap hv hs.ok (by omega) hs.in_ hs.le
  generalize Xbe l (4*l.length+1) 0 (sn,list)=Q at *
  clear hs
  have hS:=Lib.hid hS
  have hst:=hr.st
  have hQl:=hr.len
  have hM:=fun e=>XtT sb l [.x (.map (some mb))] Q.2 e (by omega) (by omega) hst
  have hM1:=hM false
  have hM2:=hM true
  have hT:=fun p hp=>XqT sb mb l Q.1 p hr.ok (by omega) hp
  have hin:=hr.in_
  clear hM
  cases h1:Q.2.findIdx? (mtF l false) with
  | some k=>
    obtain ⟨hk,e⟩:=Xhg h1
    have e:=hr.r1 _ e
    subst e
    have hd1:=Lib.hid (Xlt Q.2 k hk)
    have hT:=Lib.hid (hT Q.2[k] (hin _ (List.getElem_mem hk)))
    rw [h1] at hM1
    simp only [fiv] at hM1
    clear hM2 h1 hr
    generalize Q.2[k]=p at *
    generalize (Xcw Q.1 (4*l.length+1) p).reverse=tx at *
    have hM1:=Lib.hid hM1
    (repeat' (first|refine Wkx.go ?_|(refine Xaz (fun h=>?_) (fun h=>?_)<;>first|(exfalso;omega;done)|skip)|refine Xad ?_|(refine Xab rfl ?_;((refine Xa7 Tryz.func26 [_,_,_] rfl rfl (Xyo _) hS.out ?_;rintro _ _ ⟨ad',cap',rfl,rfl⟩);refine XaJ ?_))|fail))
    apply XeI;(case h=>(apply Xaj.mk' [.row _ _ _ _ _ _] [.box sb _,.map mb _] (by (repeat' (first|exact Xyo _|refine (XyB (l₁:=[_,_])).trans (XyE _ ?_)|fail))) (Xak.refl _ _);(repeat' (first|exact VwL.nil|apply VwL.cons|exact Vw.row (List.Mem.head _) (VwL.refl _ _)|exact Vw.refl _|fail))))
    (have wx:=@hd1.out;(repeat' (first|refine Wkx.go ?_|(refine Xaz (fun h=>?_) (fun h=>?_)<;>first|(exact absurd h (by decide))|skip)|refine Xad ?_|(refine Xab rfl ?_;(first|((refine Xa7 Tryz.func27 [_] rfl rfl (Xyo _) hM1.out ?_;rintro _ _ ⟨rfl,rfl⟩);refine XaJ ?_)|((refine Xa7 Tryz.func28 [_,_] rfl rfl (Xyo _) hT.out ?_;rintro _ _ ⟨ad'',cap'',rfl,rfl⟩);refine XaJ ?_)))|fail)))<;>(try clear wx)
    refine Xaa _ _ (XbR rfl (RV.tmp _) (RV.tmp _) (Xaj.mk' [_,_,_] [] (Xyo _) Xak.nil (VwL.cons (Vw.row (List.Mem.tail _ (List.Mem.tail _ (List.Mem.head _))) (VwL.refl _ _)) (VwL.refl _ _)))) ⟨rfl,rfl⟩
  | none=>
    have n1:=Xhf h1
    rw [h1] at hM1
    simp only [fiv] at hM1
    have hM1:=Lib.hid hM1
    clear h1
    cases h2:Q.2.findIdx? (mtF l true) with
    | some k=>
      obtain ⟨hk,e⟩:=Xhg h2
      have e:=hr.r2 _ n1 e
      subst e
      have hd1:=Lib.hid (Xlt Q.2 k hk)
      have hT:=Lib.hid (hT Q.2[k] (hin _ (List.getElem_mem hk)))
      rw [h2] at hM2
      simp only [fiv] at hM2
      have hM2:=Lib.hid hM2
      clear h2 hr n1
      generalize Q.2[k]=p at *
      have htl:=Xic Q.1 (4*l.length+1) p
      rw [←List.length_reverse] at htl
      generalize (Xcw Q.1 (4*l.length+1) p).reverse=tx at *
      rw [show Xh3 (some (tx++[10]))=.tup [.sq (tx.length+1) (u8a tx++[.x (.int .u8 10)]),.x (.bool true)] from by simp [Xh3,Xpw,Xd6,Xpx]]
      (repeat' (first|refine Wkx.go ?_|(refine Xaz (fun h=>?_) (fun h=>?_)<;>first|(exfalso;omega;done)|skip)|refine Xad ?_|(refine Xab rfl ?_;((refine Xa7 Tryz.func26 [_,_,_] rfl rfl (Xyo _) hS.out ?_;rintro _ _ ⟨ad',cap',rfl,rfl⟩);refine XaJ ?_))|fail))
      apply XeI;(case h=>(apply Xaj.mk' [.row _ _ _ _ _ _] [.box sb _,.map mb _] (by (repeat' (first|exact Xyo _|refine (XyB (l₁:=[_,_])).trans (XyE _ ?_)|fail))) (Xak.refl _ _);(repeat' (first|exact VwL.nil|apply VwL.cons|exact Vw.row (List.Mem.head _) (VwL.refl _ _)|exact Vw.refl _|fail))))
      (have wx:=@hd1.out;(repeat' (first|refine Wkx.go ?_|(refine Xaz (fun h=>?_) (fun h=>?_)<;>first|(exact absurd h (by decide))|skip)|refine Xad ?_|(refine Xab rfl ?_;(first|((refine Xa7 Tryz.func27 [_] rfl rfl (Xyo _) hM1.out ?_;rintro _ _ ⟨rfl,rfl⟩);refine XaJ ?_)|((refine Xa7 Tryz.func27 [_] rfl rfl (Xyo _) hM2.out ?_;rintro _ _ ⟨rfl,rfl⟩);refine XaJ ?_)|((refine Xa7 Tryz.func28 [_,_] rfl rfl (Xyo _) hT.out ?_;rintro _ _ ⟨ad'',cap'',rfl,rfl⟩);refine XaJ ?_)|refine XfK (fun ad cap=>?_)|refine Xfr (fun b=>?_)))|fail)))<;>(try clear wx)
      refine Xaa _ _ (XbR rfl (RV.tmp _) (RV.tmp _) (Xaj.mk' [.row (some _) 1 1 _ _ _,.box sb _,.map mb _,.row _ (tx.length+1) _ _ _ _] [] (by (repeat' (first|exact Xyo _|fail))) Xak.nil (VwL.cons (Vw.row (List.Mem.tail _ (List.Mem.tail _ (List.Mem.tail _ (List.Mem.head _)))) (VwL.refl _ _)) (VwL.refl _ _)))) ⟨rfl,rfl⟩
    | none=>
      have n2:=Xhf h2
      rw [h2] at hM2
      simp only [fiv] at hM2
      have hM2:=Lib.hid hM2
      obtain ⟨hg,hlen⟩:=hr.r3 n1 n2
      have hP:=Lib.hid (Xwx sb mb l Q.1 Q.2 hv hr.ok (by omega) hr.in_ (by omega))
      clear h2 hr n1 n2 hT
      generalize Xcv l Q.1 Q.2=Q2 at *
      (repeat' (first|refine Wkx.go ?_|(refine Xaz (fun h=>?_) (fun h=>?_)<;>first|(exfalso;omega;done)|skip)|refine Xad ?_|(refine Xab rfl ?_;((refine Xa7 Tryz.func26 [_,_,_] rfl rfl (Xyo _) hS.out ?_;rintro _ _ ⟨ad',cap',rfl,rfl⟩);refine XaJ ?_))|fail))
      apply XeI;(case h=>(apply Xaj.mk' [.row _ _ _ _ _ _] [.box sb _,.map mb _] (by (repeat' (first|exact Xyo _|refine (XyB (l₁:=[_,_])).trans (XyE _ ?_)|fail))) (Xak.refl _ _);(repeat' (first|exact VwL.nil|apply VwL.cons|exact Vw.row (List.Mem.head _) (VwL.refl _ _)|exact Vw.refl _|fail))))
      (repeat' (first|refine Wkx.go ?_|(refine Xaz (fun h=>?_) (fun h=>?_)<;>first|(exact absurd h (by decide))|skip)|refine Xad ?_|(refine Xab rfl ?_;(first|((refine Xa7 Tryz.func27 [_] rfl rfl (Xyo _) hM1.out ?_;rintro _ _ ⟨rfl,rfl⟩);refine XaJ ?_)|((refine Xa7 Tryz.func27 [_] rfl rfl (Xyo _) hM2.out ?_;rintro _ _ ⟨rfl,rfl⟩);refine XaJ ?_)|((refine Xa7 Tryz.func29 [_,_] rfl rfl (Xyo _) hP.out ?_;rintro _ _ ⟨ad',cap',rfl,rfl⟩);refine XaJ ?_)))|fail))
      exact ⟨(Q2.1,Q2.2,_,_),(by show (if Q2.2.length=0 then 0 else 4*l.length+2 - Q2.1.length) < (if list.length=0 then 0 else 4*l.length+2 - sn.length);rw [if_neg (show ¬list.length=0 by omega)];split<;>omega),hg,(Xaj.mk' [] [.box sb _,.map mb _,.row _ _ _ _ _ _] (by (repeat' (first|exact Xyo _|fail))) (Xak.refl _ _) (by (repeat' (first|exact VwL.nil|(refine VwL.cons ?_ ?_)|exact Vw.refl _|exact Vw.top _|fail))))⟩
theorem Xlp (l:List Sx) (hl:l.length≤1000000):Xay Tryz.prog 9 [] [.sq l.length (sxa l)] (fun r H'=>r=Xh3 (Xbk l)∧H'=[]):=by
 cases hv:Xa5 l with
 | true=>exact XmO l hv
 | false=>exact Xpb l hl hv
end Go.Proofs.YtdlblokjfoggpaaGreatDoor

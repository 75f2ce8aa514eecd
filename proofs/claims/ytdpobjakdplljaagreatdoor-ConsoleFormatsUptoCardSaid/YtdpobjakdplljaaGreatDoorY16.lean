import Derived.Test.YtdpobjakdplljaaGreatDoorY14
import Derived.Test.YtdpobjakdplljaaGreatDoorY10
import Derived.Test.YtdpobjakdplljaaGreatDoorY8
import Derived.Test.YtdpobjakdplljaaGreatDoorY12
/- The reference's parser, exact: a fault noted, a token taken, a sign. -/
set_option linter.unusedSimpArgs false
set_option linter.unusedVariables false
set_option maxRecDepth 100000
set_option maxHeartbeats 8000000
namespace Go.Proofs.YtdpobjakdplljaaGreatDoor
open Go.RowKit
theorem Xbm {ts:List Tok} {k:Nat} (h:k < ts.length):tkA ts k=ts[k]:=by simp [tkA,List.getD_eq_getElem?_getD,h]
structure PS where
 k:Nat
 e:Int
 l:Int
 c:Int
def PS.cells (s:PS) (ts:List Tok) (sv:AV):List AV:=pc ts s.k s.e s.l s.c sv
def PS.fail (s:PS) (e:Int) (t:Tok):PS:=if s.e=0 then ⟨s.k,e,t.line,t.col⟩ else s
def PS.flt (s:PS) (f:Flt):PS:=if s.e=0 then ⟨s.k,f.code,f.line,f.col⟩ else s
def PS.on (s:PS) (n:Nat):PS:=if s.e=0 then ⟨s.k+n,0,s.l,s.c⟩ else s
def PS.upon {α:Type} (s:PS) (x:Except Flt α) (n:Nat):PS:=match x with
 | .ok _=>s.on n
 | .error f=>s.flt f
theorem Xgr (b:Nat) (ts:List Tok) (s:PS) (sv:AV) (hsv:sv.one=true) (e2:Int) (t:Tok):Xa3 Tryz.prog 202 [.box b (s.cells ts sv)] [.x (.pointer (some ⟨b,0,none⟩)),.x (.int .i64 e2),t.av] (fun r H'=>r=.x (.tuple #[])∧H'=[.box b ((s.fail e2 t).cells ts sv)]):=by
 obtain ⟨k,e,l,c⟩:=s
 unfold Tok.av
 simp only [pc,PS.cells,PS.fail]
 refine XaD Tryz.func202 rfl ?_
 simp only [Tryz.ntmps202,Xvy,XvB,XvC,XvD,XvG,XvF,Nat.reduceAdd,Nat.reduceSub]
 (repeat' (first|with_reducible (first|refine Xag ?_|refine Xac ?_|refine Xau ?_|refine Xae ?_|refine Xaa ?_)|(refine Xak _ rfl (fun h=>?_) (fun h=>?_)<;>((try (simp only [whn] at h));skip))|((apply Xad rfl);(case h=>(first|(apply Xab 0 rfl;(exact Xap _ rfl))|(apply Xab 4 rfl;(exact Xbl _ rfl (by first|exact .inl ⟨_,rfl⟩|fail)))|(apply Xab 5 rfl;(exact Xal _ _ _ _ _ _ rfl rfl Xa5.out))|(apply Xab 6 rfl;(exact Xaz _ _ _ _ _ _ _ _ rfl rfl XaS.out XaN.out (by first|exact Xvu rfl|fail) (by first|exact Xvu rfl|fail)))|(apply Xab 10 rfl;(exact Xa1 _ _ _ _ _ rfl HPl.out (by first|rfl|fail) rfl))|(apply XaC;(case hs=>(intro _ _ h;cases h));(case hx=>rfl);(case hrun=>(intro w;simp [wtb,AV.val,go_sem];skip;rfl)))));(case hT=>((try simp only [wtn,↓reduceIte]);rfl)))|(refine Xai rfl ?_;((first|(refine Xas 15 rfl ?_;(refine Xbo _ _ rfl (by first|rfl|fail) (fun b=>?_)))|(refine Xas 16 rfl ?_;(refine Xaw _ _ _ _ _ _ _ rfl rfl XaS.out XaR.out (by first|rfl|fail) (by first|exact Xvu rfl|fail) ?_)));apply Xah;(case hT=>((try simp only [wtn]);rfl));(case hH=>((try simp only [wtn,Nat.reduceAdd]);rfl))))|fail))
 ·refine Xc8 _ _ (XrH rfl (XaH.mk' [_] [_] (Xvv _) (XaB.refl _ _) VwL.nil)) ?_
  exact ⟨rfl,by rw [if_pos h]⟩
 ·refine Xc8 _ _ (XrH rfl (XaH.mk' [_] [_] (Xvv _) (XaB.refl _ _) VwL.nil)) ?_
  exact ⟨rfl,by rw [if_neg h]⟩
theorem XrC (b:Nat) (ts:List Tok) (s:PS) (sv:AV) (hsv:sv.one=true) (kind:Int) (most:Nat) (hk:s.k < ts.length) (hl:ts.length≤1000000) :
  Xa3 Tryz.prog 203 [.box b (s.cells ts sv)] [.x (.pointer (some ⟨b,0,none⟩)),.x (.int .i64 kind),.x (.int .i64 most)] (fun r H'=>r=(tkA ts s.k).av∧H'=[.box b ((s.upon (Xbf ts s.k kind most) 1).cells ts sv)]):=by
 obtain ⟨k,e,l,c⟩:=s
 simp only at hk
 have hn:=Xkx ts k e l c sv hk hl
 have hf:=Xca ts k e l c sv
 have hF1:=Xgr b ts ⟨k,e,l,c⟩ sv hsv 60 ts[k]
 have hF2:=Xgr b ts ⟨k,e,l,c⟩ sv hsv 1 ts[k]
 simp only [Xbm hk]
 unfold Tok.av at hn hF1 hF2 ⊢
 simp only [pc,PS.cells] at hF1 hF2 ⊢
 have hg:Xbf ts k kind most=if ts[k].kind≠kind then .error (flt 60 ts[k]) else if most < ts[k].text.length then .error (flt 1 ts[k]) else .ok ts[k]:=by simp only [Xbf,Xbm hk]
 have hg':=Lib.hid hg
 clear hg
 refine XaD Tryz.func203 rfl ?_
 simp only [Tryz.ntmps203,Xvy,XvB,XvC,XvD,XvG,XvF,Nat.reduceAdd,Nat.reduceSub]
 (repeat' (first|with_reducible (first|refine Xag ?_|refine Xac ?_|refine Xar ?_|refine Xau ?_|refine Xae ?_|refine Xaa ?_|refine Xax ?_)|(refine Xak _ rfl (fun h=>?_) (fun h=>?_)<;>((try (simp only [whn] at h));skip))|((apply Xad rfl);(case h=>(first|(apply Xab 0 rfl;(exact Xap _ rfl))|(apply Xab 4 rfl;(exact Xbl _ rfl (by first|exact .inl ⟨_,rfl⟩|fail)))|(apply Xab 5 rfl;(exact Xal _ _ _ _ _ _ rfl rfl Xa5.out))|(apply Xab 6 rfl;(exact Xaz _ _ _ _ _ _ _ _ rfl rfl XaS.out XaN.out (by first|exact Xvu rfl|fail) (by first|exact Xvu rfl|fail)))|(apply Xab 11 rfl;(first|exact Xa9 187 Tryz.f187 _ _ rfl rfl Tryz.func187 (by decide) rfl (by (repeat' (first|exact VwL.nil|(refine VwL.cons ?_ ?_)|exact Vw.box (List.Mem.tail _ (List.Mem.head _)) (VwL.refl _ _)|fail));done) (hn)|exact Xa9 189 Tryz.f189 _ _ rfl rfl Tryz.func189 (by decide) rfl (by (repeat' (first|exact VwL.nil|(refine VwL.cons ?_ ?_)|exact Vw.box (List.Mem.tail _ (List.Mem.tail _ (List.Mem.head _))) (VwL.refl _ _)|fail));done) (hf)))|(apply XaC;(case hs=>(intro _ _ h;cases h));(case hx=>rfl);(case hrun=>(intro w;simp [wtb,AV.val,go_sem];(try go_bits);rfl)))));(case hT=>((try simp (disch:=omega) only [wtn,pc,Xvz,Xvw,Xvx,XvA,XvE,Nat.reduceAdd,Nat.reduceMul,Nat.reduceSub,↓reduceIte,Nat.reduceEqDiff]);rfl)))|(refine Xai rfl ?_;((first|(refine Xas 11 rfl ?_;(first|(refine Xam 202 Tryz.f202 [_] [_,_] _ _ rfl rfl Tryz.func202 (by decide) rfl (XvI (l₁:=[_,_]) (l₂:=[])) (VwL.refl _ _) hF1 ?_;rintro _ _ ⟨rfl,rfl⟩)|(refine Xam 202 Tryz.f202 [_] [_,_] _ _ rfl rfl Tryz.func202 (by decide) rfl (XvI (l₁:=[_,_]) (l₂:=[])) (VwL.refl _ _) hF2 ?_;rintro _ _ ⟨rfl,rfl⟩)))|(refine Xas 14 rfl ?_;(refine XaK _ _ rfl Xbk.out rfl (fun b=>?_)))|(refine Xas 16 rfl ?_;(refine Xaw _ _ _ _ _ _ _ rfl rfl XaS.out XaR.out (by first|rfl|fail) (by first|exact Xvu rfl|fail) ?_)));apply Xah;(case hT=>((try simp (disch:=omega) only [wtn,pc,Xvz,Xvw,Xvx,XvA,XvE,Nat.reduceAdd,Nat.reduceMul,Nat.reduceSub,↓reduceIte,Nat.reduceEqDiff]);rfl));(case hH=>((try simp (disch:=omega) only [wtn,pc,Xvz,Xvw,Xvx,XvA,XvE,Nat.reduceAdd,Nat.reduceMul,Nat.reduceSub,↓reduceIte,Nat.reduceEqDiff]);rfl))))|fail))
 all_goals first
  | refine Xaf _ _ (Xbh rfl (RV.cell 1 rfl rfl XaN.out (by simp) (by simp)) (XaH.mk' [_,_] [_] (Xvv _) (XaB.refl _ _) (VwL.refl _ _))) ?_
  | refine Xaf _ _ (Xbh rfl (RV.cell 2 rfl rfl XaN.out (by simp) (by simp)) (XaH.mk' [_,_] [_] (XvI (l₁:=[_,_]) (l₂:=[])).symm (XaB.refl _ _) (VwL.refl _ _))) ?_
 all_goals refine ⟨rfl,?_⟩
 all_goals
  by_cases ha:ts[k].kind=kind
  ·by_cases hb:most < ts[k].text.length
   ·have e:=(hg'.out).trans ((if_neg (by simpa using ha)).trans (if_pos hb))
    rw [e];clear hg' e
    simp_all [PS.upon,PS.on,PS.flt,PS.fail,flt];done
   ·have e:=(hg'.out).trans ((if_neg (by simpa using ha)).trans (if_neg hb))
    rw [e];clear hg' e
    simp_all [PS.upon,PS.on,PS.flt,PS.fail,flt];done
  ·have e:=(hg'.out).trans (if_pos ha)
   rw [e];clear hg' e
   simp_all [PS.upon,PS.on,PS.flt,PS.fail,flt];done
theorem Xoi {ts:List Tok} {k:Nat} (hk:k < ts.length) (e:Int) (s:List UInt8):isP ts k e 5 s=(e == 0 && gIs ts k s):=by
 simp only [isP,gIs,Xbm hk,List.getElem?_eq_getElem hk]
theorem Xum (b:Nat) (ts:List Tok) (s:PS) (sv:AV) (hsv:sv.one=true) (t:List UInt8) (hk:s.k < ts.length) (hl:ts.length≤1000000) :
  Xa3 Tryz.prog 204 [.box b (s.cells ts sv)] [.x (.pointer (some ⟨b,0,none⟩)),.x (.string (bs t))] (fun r H'=>r=.x (.tuple #[])∧H'=[.box b ((s.upon (Xb5 ts s.k t) 1).cells ts sv)]):=by
 obtain ⟨k,e,l,c⟩:=s
 simp only at hk
 have hn:=Xkx ts k e l c sv hk hl
 have hf:=Xca ts k e l c sv
 have hi:=XuW ts k e l c sv 5 t hk hl
 have hF:=Xgr b ts ⟨k,e,l,c⟩ sv hsv 60 ts[k]
 rw [Xoi hk] at hi
 unfold Tok.av at hn hF
 simp only [pc,PS.cells] at hF ⊢
 have hg:Xb5 ts k t=if gIs ts k t then .ok () else .error (flt 60 ts[k]):=by simp only [Xb5,Xbm hk]
 have hg':=Lib.hid hg
 clear hg
 generalize gIs ts k t=gi at hi hg'
 refine XaD Tryz.func204 rfl ?_
 simp only [Tryz.ntmps204,Xvy,XvB,XvC,XvD,XvG,XvF,Nat.reduceAdd,Nat.reduceSub]
 (repeat' (first|with_reducible (first|refine Xag ?_|refine Xac ?_|refine Xau ?_|refine Xae ?_|refine Xaa ?_)|(refine Xak _ rfl (fun h=>?_) (fun h=>?_)<;>((try (simp only [whn] at h));skip))|((first|apply Xad rfl|apply Xa8 _ _ rfl rfl rfl);(case h=>((try (intro (hp:(_:Bool)=true);((try simp only [hp,wte]);(try simp only [whn] at hp))));(first|(apply Xab 0 rfl;(exact Xap _ rfl))|(apply Xab 1 rfl;(exact XbC _ _ _ _ _ rfl rfl rfl rfl))|(apply Xab 4 rfl;(exact Xbl _ rfl (by first|exact .inl ⟨_,rfl⟩|fail)))|(apply Xab 5 rfl;(exact Xal _ _ _ _ _ _ rfl rfl Xa5.out))|(apply Xab 6 rfl;(exact Xaz _ _ _ _ _ _ _ _ rfl rfl XaS.out XaN.out (by first|exact Xvu rfl|fail) (by first|exact Xvu rfl|fail)))|(apply Xab 11 rfl;(first|exact Xa9 187 Tryz.f187 _ _ rfl rfl Tryz.func187 (by decide) rfl (by (repeat' (first|exact VwL.nil|(refine VwL.cons ?_ ?_)|exact Vw.box (List.Mem.head _) (VwL.refl _ _)|fail));done) (hn)|exact Xa9 189 Tryz.f189 _ _ rfl rfl Tryz.func189 (by decide) rfl (by (repeat' (first|exact VwL.nil|(refine VwL.cons ?_ ?_)|exact Vw.box (List.Mem.head _) (VwL.refl _ _)|fail));done) (Xca ts _ _ _ _ sv)|exact Xa9 201 Tryz.f201 _ _ rfl rfl Tryz.func201 (by decide) rfl (by (repeat' (first|exact VwL.nil|(refine VwL.cons ?_ ?_)|exact Vw.refl _|exact Vw.box (List.Mem.head _) (VwL.refl _ _)|fail));done) (hi)))|(apply XaC;(case hs=>(intro _ _ h;cases h));(case hx=>rfl);(case hrun=>(intro w;simp [wtb,AV.val,go_sem];(try go_bits);rfl))))));(case hT=>((try simp (disch:=omega) only [wtn,pc,Xvz,Xvw,Xvx,XvA,XvE,Nat.reduceAdd,Nat.reduceMul,Nat.reduceSub,↓reduceIte,Nat.reduceEqDiff]);rfl)))|(refine Xai rfl ?_;((first|(refine Xas 11 rfl ?_;(refine Xam 202 Tryz.f202 [_] [] _ _ rfl rfl Tryz.func202 (by decide) rfl (Xvv _) (VwL.refl _ _) hF ?_;rintro _ _ ⟨rfl,rfl⟩))|(refine Xas 16 rfl ?_;(refine Xaw _ _ _ _ _ _ _ rfl rfl XaS.out XaR.out (by first|rfl|fail) (by first|exact Xvu rfl|fail) ?_)));apply Xah;(case hT=>((try simp (disch:=omega) only [wtn,pc,Xvz,Xvw,Xvx,XvA,XvE,Nat.reduceAdd,Nat.reduceMul,Nat.reduceSub,↓reduceIte,Nat.reduceEqDiff]);rfl));(case hH=>((try simp (disch:=omega) only [wtn,pc,Xvz,Xvw,Xvx,XvA,XvE,Nat.reduceAdd,Nat.reduceMul,Nat.reduceSub,↓reduceIte,Nat.reduceEqDiff]);rfl))))|fail))
 all_goals
  refine Xc8 _ _ (XrH rfl (XaH.mk' [] [_] (Xvv _) (XaB.refl _ _) VwL.nil)) ?_
  refine ⟨rfl,?_⟩
  rw [hg'.out]
  cases gi<;>simp_all [PS.upon,PS.on,PS.flt,PS.fail,flt]
theorem Xgz (l:List UInt8) (c:UInt8):Xdm (l++[c])=10*Xdm l+(c.toNat - 48):=by simp [Xdm]
def Xel (l:List UInt8):Prop:=∀c∈l,48≤c.toNat∧c.toNat≤57
theorem Xky (l:List UInt8) (hd:Xel l):∀n,n≤l.length→0≤Xdm (l.take n)∧Xdm (l.take n) < ((10 ^ n:Nat):Int):=by
 intro n
 induction n with
 | zero=>intro _;simp [Xdm]
 | succ n ih=>
   intro hn
   have h1:=ih (by omega)
   have h2:=hd l[n] (List.getElem_mem (by omega))
   rw [Xa0 l n (by omega),Xgz,Nat.pow_succ]
   generalize 10 ^ n=p at h1 ⊢
   omega
def XeI (ts:List Tok):Prop:=∀t∈ts,t.kind=2→t.text.length≤18∧Xel t.text
theorem Xsm {ts:List Tok} (hN:XeI ts) {k:Nat} (hk:k < ts.length):Xbf ts k 2 8192=Xbf ts k 2 18:=by
 have h:=hN ts[k] (List.getElem_mem hk)
 simp only [Xbf,Xbm hk]
 by_cases h2:ts[k].kind=2
 ·have h3:=(h h2).1
  rw [if_neg (fun h=>h h2),if_neg (by omega),if_neg (fun h=>h h2),if_neg (by omega)]
 ·rw [if_pos h2,if_pos h2]
theorem Xqz (b:Nat) (ts:List Tok) (s:PS) (sv:AV) (hsv:sv.one=true) (hk:s.k < ts.length) (hl:ts.length≤1000000) (hN:XeI ts) :
  Xa3 Tryz.prog 212 [.box b (s.cells ts sv)] [.x (.pointer (some ⟨b,0,none⟩))] (fun r H'=>r=.x (.int .u64 (if (s.upon (Xbf ts s.k 2 18) 1).e=0 then Xdm (tkA ts s.k).text else 0))∧H'=[.box b ((s.upon (Xbf ts s.k 2 18) 1).cells ts sv)]):=by
 have hT:=XrC b ts s sv hsv 2 18 hk hl
 obtain ⟨k,e,l,c⟩:=s
 simp only at hk
 simp only [Xbm hk] at hT ⊢
 have hTk:(({ k:=k,e:=e,l:=l,c:=c }:PS).upon (Xbf ts k 2 18) 1).e=0→ts[k].text.length≤18∧Xel ts[k].text:=by
  intro h
  have h2:=hN ts[k] (List.getElem_mem hk)
  simp only [Xbf,Xbm hk] at h
  by_cases h3:ts[k].kind=2
  ·exact h2 h3
  ·exfalso
   rw [if_pos h3] at h
   simp only [PS.upon,PS.flt,flt] at h
   split at h<;>simp_all
 generalize ({ k:=k,e:=e,l:=l,c:=c }:PS).upon (Xbf ts k 2 18) 1=s1 at hT hTk
 obtain ⟨k1,e1,l1,c1⟩:=s1
 simp only [PS.cells] at hT hTk ⊢
 have hTk':=Lib.hid hTk
 clear hTk
 clear hN
 refine XaD Tryz.func212 rfl ?_
 simp only [Tryz.ntmps212,Xvy,XvB,XvC,XvD,XvG,XvF,Nat.reduceAdd,Nat.reduceSub]
 (repeat' (first|with_reducible (first|refine Xag ?_|refine Xac ?_|refine Xao ?_|refine Xar ?_|refine Xau ?_|refine Xae ?_|refine Xaa ?_|refine Xax ?_)|(refine Xak _ rfl (fun h=>?_) (fun h=>?_)<;>((try (simp only [whn] at h));skip))|((apply Xad rfl);(case h=>(first|(apply Xab 0 rfl;(first|exact Xap _ rfl|exact Xan _ rfl))|(apply Xab 11 rfl;(exact Xa9 189 Tryz.f189 _ _ rfl rfl Tryz.func189 (by decide) rfl (by (repeat' (first|exact VwL.nil|(refine VwL.cons ?_ ?_)|exact Vw.box (List.Mem.tail _ (List.Mem.head _)) (VwL.refl _ _)|fail));done) (Xca ts _ _ _ _ sv)))));(case hT=>((try simp (disch:=omega) only [wtn,pc,Tok.av,Xvz,Xvw,Xvx,XvA,XvE,Nat.reduceAdd,Nat.reduceMul,Nat.reduceSub,↓reduceIte,Nat.reduceEqDiff]);rfl)))|(refine Xai rfl ?_;((first|(refine Xas 11 rfl ?_;(refine Xam 203 Tryz.f203 [_] _ _ _ rfl rfl Tryz.func203 (by decide) rfl (Xvv _) (VwL.refl _ _) (hT) ?_;rintro _ _ ⟨rfl,rfl⟩))|(refine Xas 14 rfl ?_;(refine XaK _ _ rfl Xbk.out rfl (fun b=>?_)))|(refine Xas 16 rfl ?_;(refine Xaw _ _ _ _ _ _ _ rfl rfl XaS.out XaR.out (by first|rfl|fail) (by first|exact Xvu rfl|fail) ?_)));apply Xah;(case hT=>((try simp (disch:=omega) only [wtn,pc,Tok.av,Xvz,Xvw,Xvx,XvA,XvE,Nat.reduceAdd,Nat.reduceMul,Nat.reduceSub,↓reduceIte,Nat.reduceEqDiff]);rfl));(case hH=>((try simp (disch:=omega) only [wtn,pc,Tok.av,Xvz,Xvw,Xvx,XvA,XvE,Nat.reduceAdd,Nat.reduceMul,Nat.reduceSub,↓reduceIte,Nat.reduceEqDiff]);rfl))))|fail))
 ·refine Xaf _ _ (Xbh rfl (RV.tmp _) (XaH.mk' [_] [_] (Xvv _) (XaB.refl _ _) (VwL.refl _ _))) ?_
  exact ⟨by rw [if_neg h];rfl,rfl⟩
 obtain ⟨hl18,hdig⟩:=hTk'.out h
 have hdig':=Lib.hid hdig
 clear hdig hTk'
 refine XaQ (S:=Nat) (fun i=>frm 27 [(3,.x (.pointer (some ⟨b,0,none⟩))),(4,.x (.int .u64 (Xdm (ts[k].text.take i)))),(5,.x (.int .i64 i))]) (fun _=>[.box b [.x (.int .i64 ts[k].kind),.x (.string (bs ts[k].text)),.x (.int .i64 (ts[k].line:Nat)),.x (.int .i64 (ts[k].col:Nat))],.box _ (pc ts k1 e1 l1 c1 sv)]) (fun i=>i≤ts[k].text.length) (fun i=>ts[k].text.length - i) 0 (XaH.mk' [] _ (Xvv _) (XaB.refl _ _) (by (repeat' (first|exact VwL.nil|(refine VwL.cons ?_ ?_)|exact Vw.refl _|exact Vw.top _|fail)))) (Nat.zero_le _) fun i hs=>?_
 have hv1:=Xky ts[k].text hdig'.out i hs
 have hpw:=Nat.pow_le_pow_right (n:=10) (by decide) (show i≤18 by omega)
 generalize 10 ^ i=p at hv1 hpw
 have hv2:Xdm (ts[k].text.take i) < 1000000000000000000:=by omega
 have hv3:=hv1.1
 clear hv1 hpw
 generalize hnv:Xdm (ts[k].text.take i)=nv at hv2 hv3 ⊢
 have hnv':=Lib.hid hnv
 clear hnv
 have hT':=Lib.hid hT
 clear hT
 simp only [frm,XvC,XvD,Xvw,Xvx,XvJ,XvK]
 (repeat' (first|with_reducible (first|refine Xag ?_|refine Xac ?_|refine Xao ?_|refine Xar ?_|refine Xau ?_|refine XaW ?_|refine Xae ?_|refine Xaa ?_|refine XaL ?_|refine XaJ ?_|refine Xaj ?_)|(refine Xak _ rfl (fun h=>?_) (fun h=>?_)<;>((try (simp only [whn] at h));skip))|((apply Xad rfl);(case h=>(first|(apply Xab 0 rfl;(first|exact Xap _ rfl|exact Xan _ rfl))|(apply Xab 5 rfl;(exact Xal _ _ _ _ _ _ rfl rfl Xa5.out))|(apply Xab 6 rfl;(exact Xaz _ _ _ _ _ _ _ _ rfl rfl XaS.out XaN.out (by first|exact Xvu rfl|fail) (by first|exact Xvu rfl|fail)))|(apply Xab 8 rfl;(exact Xbb _ _ _ _ _ _ _ rfl rfl rfl (by kernel_rfl) rfl (by omega)))|(apply XaC;(case hs=>(intro _ _ h;cases h));(case hx=>rfl);(case hrun=>(intro w;simp [wtb,AV.val,go_sem];(try go_bits);rfl)))));(case hT=>((try simp only [wtn]);rfl)))|fail))
 ·have hd:=hdig'.out ts[k].text[i] (List.getElem_mem h)
  have e:Xdm (ts[k].text.take (i+1))=10*nv+(((ts[k].text[i]?.getD 0).toNat:Int) - 48) % 256:=by
   rw [Xa0 _ _ h,Xgz,hnv'.out,List.getElem?_eq_getElem h]
   simp only [Option.getD_some]
   omega
  refine ⟨i+1,by omega,by omega,?_⟩
  rw [e]
  exact (XaH.mk' [] _ (Xvv _) (XaB.refl _ _) (by (repeat' (first|exact VwL.nil|(refine VwL.cons ?_ ?_)|exact Vw.refl _|exact Vw.top _|fail))))
 ·refine Xaf _ _ (Xbh rfl (RV.tmp _) (XaH.mk' [_] [_] (Xvv _) (XaB.refl _ _) (VwL.refl _ _))) ?_
  have e:=hnv'.out
  rw [List.take_of_length_le (by omega)] at e
  exact ⟨by rw [if_pos (by assumption),e];rfl,rfl⟩
def ia (l:List Int):List AV:=l.map fun n=>.x (.int .i64 n)
@[simp] theorem Xvk (l:List Int):(ia l).length=l.length:=by simp [ia]
theorem Xfn (l:List Int) (k:Nat) (h:k < l.length):(ia l).drop k=.x (.int .i64 l[k]) :: ia (l.drop (k+1)):=by
 rw [ia,←List.map_drop,List.drop_eq_getElem_cons h];rfl
def Xk8 (b:Nat) (l:List Int) (k:Nat):Hp:=.box b [.sq l.length (ia l),.x (.int .i64 k)]
theorem Xjc (b:Nat) (l:List Int) (k:Nat) (hl:l.length≤140737488355328):Xa3 Tryz.prog 77 [Xk8 b l k] [.x (.pointer (some ⟨b,0,none⟩))] (fun r H'=>r=.x (.bool (decide (k < l.length)))∧H'=[Xk8 b l k]):=by
 unfold Xk8
 refine XaD Tryz.func77 rfl ?_
 simp only [Tryz.ntmps77,Xvy,XvB,XvC,XvD,XvG,XvF,Nat.reduceAdd,Nat.reduceSub]
 (repeat' (first|with_reducible (first|refine Xag ?_|refine Xac ?_|refine Xar ?_|refine Xae ?_|refine Xch ?_|refine Xaa ?_)|(with_reducible refine Xbe mixed ?_ ?_;(decide +kernel))|((first|apply Xad rfl|apply XbO rfl);(case h=>(first|(apply Xab 0 rfl;(first|exact Xap _ rfl|exact Xan _ rfl))|(apply Xab 3 rfl;(exact XaX _ _ _ _ _ _ HEl.out rfl rfl))|(apply Xab 4 rfl;(exact Xbl _ rfl (by first|exact .inl ⟨_,rfl⟩|fail)))|(apply Xab 5 rfl;(exact Xal _ _ _ _ _ _ rfl rfl Xa5.out))|(apply Xab 6 rfl;(exact Xaz _ _ _ _ _ _ _ _ rfl rfl XaS.out XaN.out (by first|exact Xvu rfl|fail) (by first|exact Xvu rfl|fail)))|(apply XaC;(case hs=>(intro _ _ h;cases h));(case hx=>rfl);(case hrun=>(intro w;simp [wtb,AV.val,go_sem];skip;rfl)))));(case hT=>((try simp only [wtn]);rfl)))|fail))
 refine Xaf _ _ (Xbh rfl (RV.tmp _) (XaH.mk' [] _ (Xvv _) (XaB.refl _ _) (VwL.refl _ _))) ?_
 exact ⟨rfl,rfl⟩
theorem Xlm (v n:Int) (hn:1≤n) (hn2:n≤9223372036854775807) (hv : -9223372036854775808≤v∧v≤9223372036854775807) (H:List Hp):Xa3 Tryz.prog 16 H [.x (.int .i64 v),.x (.int .i64 n)] (fun r H'=>r=.x (.int .i64 (v % n))∧H'=H):=
 Xb9 (args:=[.int .i64 v,.int .i64 n]) (fun w=>(XsE v n w hn hn2 hv.1 hv.2).mono fun e w' ⟨h1,h2⟩=>⟨h1,h2▸Below.refl _ _⟩) H
def XoF (l:List Int) (k:Nat) (n:Nat):Int:=if h:k < l.length then l[k] % n else 0
def I64 (l:List Int):Prop:=∀x∈l,-9223372036854775808≤x∧x≤9223372036854775807
theorem XoE (b:Nat) (l:List Int) (k n:Nat) (hl:l.length≤140737488355328) (hk:k≤l.length) (hn:1≤n) (hn2:n≤1000000) (hI:I64 l):Xa3 Tryz.prog 43 [Xk8 b l k] [.x (.pointer (some ⟨b,0,none⟩)),.x (.int .i64 n)] (fun r H'=>r=.x (.int .i64 (XoF l k n))∧H'=[Xk8 b l (min (k+1) l.length)]):=by
 have hI:=Lib.hid hI
 have hd:Xk8 b l k=.box b [.sq l.length (ia l),.x (.int .i64 k)]:=rfl
 rw [hd]
 refine XaD Tryz.func43 rfl ?_
 simp only [Tryz.ntmps43,Xvy,XvB,XvC,XvD,XvG,XvF,Nat.reduceAdd,Nat.reduceSub]
 (repeat' (first|with_reducible (first|refine Xag ?_|refine Xac ?_|refine Xar ?_|refine Xau ?_|refine Xae ?_|refine Xch ?_|refine Xaa ?_|refine Xax ?_)|(with_reducible refine Xbe mixed ?_ ?_;(decide +kernel))|(refine Xak _ rfl (fun h=>?_) (fun h=>?_)<;>((try (simp only [whn] at h));skip))|((first|apply Xad rfl|apply XbO rfl);(case h=>(first|(apply Xab 0 rfl;(first|exact Xap _ rfl|exact Xan _ rfl))|(apply Xab 4 rfl;(exact Xbl _ rfl (by first|exact .inl ⟨_,rfl⟩|fail)))|(apply Xab 5 rfl;(exact Xal _ _ _ _ _ _ rfl rfl Xa5.out))|(apply Xab 6 rfl;(first|exact XaF _ _ _ _ _ rfl rfl XaN.out (by first|exact Xvu rfl|fail) (by first|exact Xvu rfl|fail)|exact Xaz _ _ _ _ _ _ _ _ rfl rfl XaS.out XaN.out (by first|exact Xvu rfl|fail) (by first|exact Xvu rfl|fail)))|(apply Xab 7 rfl;(exact XaG _ _ _ _ _ _ _ _ _ _ rfl rfl rfl HEl.out rfl (by first|omega|fail) (by simp;first|omega|fail)))|(apply Xab 11 rfl;(exact Xay 16 Tryz.f16 _ _ rfl rfl Tryz.func16 (by decide) rfl (VwL.refl _ _) (Xlm _ _ (by omega) (by omega) (hI.out _ (List.getElem_mem _)) [])))|(apply XaC;(case hs=>(intro _ _ h;cases h));(case hx=>rfl);(case hrun=>(intro w;simp [wtb,AV.val,go_sem];(try go_bits);rfl)))));(case hT=>((try simp (disch:=assumption) only [wtn,Xk8,Xfn,Xvz,Xvw,Xvx,XvA,XvE,Nat.reduceAdd,Nat.reduceMul,Nat.reduceSub,↓reduceIte,Nat.reduceEqDiff]);rfl)))|(refine Xai rfl ?_;((first|(refine Xas 11 rfl ?_;(refine Xam 77 Tryz.f77 ([Xk8 b l k]) _ _ _ rfl rfl Tryz.func77 (by decide) rfl (Xvv _) (VwL.refl _ _) (Xjc b l k hl) ?_;rintro _ _ ⟨rfl,rfl⟩))|(refine Xas 16 rfl ?_;(refine Xaw _ _ _ _ _ _ _ rfl rfl XaS.out XaR.out (by first|rfl|fail) (by first|exact Xvu rfl|fail) ?_)));apply Xah;(case hT=>((try simp (disch:=omega) only [wtn,Xk8,Xfn,Xvz,Xvw,Xvx,XvA,XvE,Nat.reduceAdd,Nat.reduceMul,Nat.reduceSub,↓reduceIte,Nat.reduceEqDiff]);rfl));(case hH=>((try simp (disch:=omega) only [wtn,Xk8,Xfn,Xvz,Xvw,Xvx,XvA,XvE,Nat.reduceAdd,Nat.reduceMul,Nat.reduceSub,↓reduceIte,Nat.reduceEqDiff]);rfl))))|fail))
 ·refine Xaf _ _ (Xbh rfl (RV.tmp _) (XaH.mk' [] _ (Xvv _) (XaB.refl _ _) (VwL.refl _ _))) ?_
  exact ⟨by rw [XoF,dif_neg h];rfl,by rw [show min (k+1) l.length=k from by omega];rfl⟩
 ·refine Xaf _ _ (Xbh rfl (RV.tmp _) (XaH.mk' [] _ (Xvv _) (XaB.refl _ _) (VwL.refl _ _))) ?_
  exact ⟨by rw [XoF,dif_pos h];rfl,by rw [show min (k+1) l.length=k+1 from by omega];rfl⟩
structure DK (l:List Int):Prop where
 len:l.length≤140737488355328
 vals:I64 l
theorem Xqw (l:List Int) (k n:Nat) (hn:1≤n):∃v:Nat,XoF l k n=v∧v < n:=by
 unfold XoF
 split
 ·refine ⟨(l[k] % n).toNat,?_,?_⟩
  ·have:=Int.emod_nonneg l[k] (show (n:Int)≠0 by omega);omega
  ·have h1:=Int.emod_nonneg l[k] (show (n:Int)≠0 by omega)
   have h2:=Int.emod_lt_of_pos l[k] (show (0:Int) < n by omega);omega
 ·exact ⟨0,rfl,by omega⟩
def dk (b:Nat) (l:List Int) (k:Nat):List AV:=[.sq l.length (ia l),.x (.int .i64 k)]
theorem XbF (b:Nat) (l:List Int) (k n:Nat) (hd:DK l) (hk:k≤l.length) (hn:1≤n) (hn2:n≤1000000):Xa3 Tryz.prog 43 [.box b [.sq l.length (ia l),.x (.int .i64 k)]] [.x (.pointer (some ⟨b,0,none⟩)),.x (.int .i64 n)] (fun r H'=>∃v k':Nat,r=.x (.int .i64 v)∧H'=[.box b [.sq l.length (ia l),.x (.int .i64 k')]]∧v < n∧k'≤l.length):=by
 refine (XoE b l k n hd.len hk hn hn2 hd.vals).mono ?_
 rintro r H' ⟨rfl,rfl⟩
 obtain ⟨v,e,hv⟩:=Xqw l k n hn
 exact ⟨v,min (k+1) l.length,by rw [e],rfl,hv,by omega⟩
theorem XcW (b:Nat) (l:List Int) (k lo hi:Nat) (hd:DK l) (hk:k≤l.length) (hn:lo≤hi) (hn2:hi≤1000):Xa3 Tryz.prog 59 [.box b [.sq l.length (ia l),.x (.int .i64 k)]] [.x (.pointer (some ⟨b,0,none⟩)),.x (.int .i64 lo),.x (.int .i64 hi)] (fun r H'=>∃v k':Nat,r=.x (.int .i64 v)∧H'=[.box b [.sq l.length (ia l),.x (.int .i64 k')]]∧lo≤v∧v≤hi∧k'≤l.length):=by
 refine XaD Tryz.func59 rfl ?_
 simp only [Tryz.ntmps59,Xvy,XvB,XvC,XvD,XvG,XvF,Nat.reduceAdd,Nat.reduceSub]
 have e:(hi:Int) - lo+1=((hi - lo+1:Nat):Int):=by omega
 (repeat' (first|with_reducible (first|refine Xag ?_|refine Xac ?_|refine Xar ?_|refine Xae ?_|refine Xaa ?_)|((apply Xad rfl);(case h=>(first|(apply Xab 0 rfl;(first|exact Xap _ rfl|exact Xan _ rfl))|(apply XaC;(case hs=>(intro _ _ h;cases h));(case hx=>rfl);(case hrun=>(intro w;simp [wtb,AV.val,go_sem];(try go_bits);rfl)))));(case hT=>((try simp (disch:=omega) only [wtn,e,Xvz,Xvw,Xvx,XvA,XvE,Nat.reduceAdd,Nat.reduceMul,Nat.reduceSub,↓reduceIte,Nat.reduceEqDiff]);rfl)))|(refine Xai rfl ?_;((refine Xas 11 rfl ?_;(refine Xam 43 Tryz.f43 ([_]) _ _ _ rfl rfl Tryz.func43 (by decide) rfl (Xvv _) (VwL.refl _ _) (XbF b l k (hi - lo+1) hd hk (by omega) (by omega)) ?_;rintro _ _ ⟨v,k',rfl,rfl,hv,hk'⟩));apply Xah;(case hT=>((try simp (disch:=omega) only [wtn,e,Xvz,Xvw,Xvx,XvA,XvE,Nat.reduceAdd,Nat.reduceMul,Nat.reduceSub,↓reduceIte,Nat.reduceEqDiff]);rfl));(case hH=>((try simp (disch:=omega) only [wtn,e,Xvz,Xvw,Xvx,XvA,XvE,Nat.reduceAdd,Nat.reduceMul,Nat.reduceSub,↓reduceIte,Nat.reduceEqDiff]);rfl))))|fail))
 refine Xaf _ _ (Xbh rfl (RV.tmp _) (XaH.mk' [] _ (Xvv _) (XaB.refl _ _) (VwL.refl _ _))) ?_
 exact ⟨lo+v,k',by congr 2,rfl,by omega,by omega,hk'⟩
theorem Xvt (l:List (List UInt8)) (k:Nat) (h:k < l.length):(sa l).drop k=.x (.string (bs (l.getD k []))) :: sa (l.drop (k+1)):=by
 rw [XdF l k h,List.getD_eq_getElem?_getD,List.getElem?_eq_getElem h];rfl
theorem Xfq (l:List (List UInt8)) (v:Nat) (h:v < l.length):((sa l).drop v).getD 0 .top=.x (.string (bs (l.getD v []))):=by
 rw [Xvt l v h];rfl
theorem Xtn (l:List (List UInt8)) (p:List UInt8→Prop) (h:∀s∈l,p s) (v:Nat) (hv:v < l.length):p (l.getD v []):=by
 rw [List.getD_eq_getElem?_getD,List.getElem?_eq_getElem hv];exact h _ (List.getElem_mem hv)
def Xkw:List (List UInt8):=[[97],[98],[99],[100],[120]]
theorem Xt6 (bd:Nat) (l:List Int) (k:Nat) (hd:DK l) (hk:k≤l.length):Xa3 Tryz.prog 44 [.box bd [.sq l.length (ia l),.x (.int .i64 k)]] [.x (.pointer (some ⟨bd,0,none⟩))] (fun r H'=>∃(s:List UInt8) (k':Nat),r=.x (.string (bs s))∧H'=[.box bd [.sq l.length (ia l),.x (.int .i64 k')]]∧s.length=1∧k'≤l.length):=by
 refine XaD Tryz.func44 rfl ?_
 simp only [Tryz.ntmps44,Xvy,XvB,XvC,XvD,XvG,XvF,Nat.reduceAdd,Nat.reduceSub]
 (repeat' (first|with_reducible (first|refine Xag ?_|refine Xac ?_|refine Xar ?_|refine Xae ?_|refine Xaa ?_)|((apply Xad rfl);(case h=>(first|(apply Xab 0 rfl;(first|exact Xap _ rfl|exact Xan _ rfl))|(apply Xab 6 rfl;(exact XaF _ _ _ _ _ rfl rfl XaN.out (by first|(simp [wlq];omega)|fail) (by first|(simp [wlq];omega)|fail)))|(apply Xab 7 rfl;(exact XaG _ _ _ _ _ _ _ _ _ _ rfl rfl rfl HEl.out rfl (by first|omega|fail) (by simp;first|done|fail)))|(apply Xab 17 rfl;(exact XbI _ _ _ _ _ _ rfl XaY.out rfl (by first|rfl|fail) rfl rfl (by decide)))));(case hT=>((try simp only [wtn]);rfl)))|(refine Xai rfl ?_;((refine Xas 11 rfl ?_;(refine Xam 43 Tryz.f43 [_] _ _ _ rfl rfl Tryz.func43 (by decide) rfl (Xvv _) (VwL.refl _ _) (XbF _ l k 5 hd hk (by omega) (by omega)) ?_;rintro _ _ ⟨v,k',rfl,rfl,hv,hk'⟩));apply Xah;(case hT=>((try simp only [wtn]);rfl));(case hH=>((try simp only [wtn]);rfl))))|fail))
 refine Xaf _ _ (Xbh rfl (RV.tmp _) (XaH.mk' [] [_] (Xvv _) (XaB.refl _ _) (VwL.refl _ _))) ⟨Xkw.getD v [],k',Xfq Xkw v hv,rfl,?_,hk'⟩
 exact Xtn Xkw (fun s=>s.length=1) (by decide) v hv
def Xry:List (List UInt8):=[[111,107],[111],[107],[114,101,97,100,121,10],[117,112],[10,103,111,111],[49,50,120],[97,98,97,98,99],[99],[10],[122,122],[27,91,49,109,104,105,13,10]]
theorem Xms {l:List AV} (h:l=sa Xry) {v:Nat} (hv:v < Xry.length):(l.drop v).getD 0 .top=.x (.string (bs (Xry.getD v []))):=h▸Xfq Xry v hv
theorem Xib (bd:Nat) (l:List Int) (k:Nat) (hd:DK l) (hk:k≤l.length):Xa3 Tryz.prog 62 [.box bd [.sq l.length (ia l),.x (.int .i64 k)]] [.x (.pointer (some ⟨bd,0,none⟩))] (fun r H'=>∃(s:List UInt8) (k':Nat),r=.sq s.length (u8a s)∧H'=[.box bd [.sq l.length (ia l),.x (.int .i64 k')]]∧s.length≤8∧k'≤l.length):=by
 refine XaD Tryz.func62 rfl ?_
 simp only [Tryz.ntmps62,Xvy,XvB,XvC,XvD,XvG,XvF,Nat.reduceAdd,Nat.reduceSub]
 (repeat' (first|with_reducible (first|refine Xag ?_|refine Xac ?_|refine Xar ?_|refine Xae ?_|refine Xaa ?_)|((apply Xad rfl);(case h=>(first|(apply Xab 0 rfl;(first|exact Xap _ rfl|exact Xan _ rfl))|(apply Xab 6 rfl;(exact XaF _ _ _ _ _ rfl rfl XaN.out (by first|(simp [wlq];omega)|fail) (by first|(simp [wlq];omega)|fail)))|(apply Xab 7 rfl;(exact XaG _ _ _ _ _ _ _ _ _ _ rfl rfl rfl HEl.out rfl (by first|omega|fail) (by simp;first|done|fail)))|(apply Xab 12 rfl;(exact XcP _ _ 5 _ (Xry.getD v []) rfl (by kernel_rfl) (by kernel_rfl) (by kernel_rfl) (by kernel_rfl) (Xms rfl hv) (Nat.le_trans (Xtn Xry (fun s=>s.length≤8) (by decide) v hv) (by decide))))|(apply Xab 17 rfl;(exact XbI _ _ _ _ _ _ rfl XaY.out rfl (by first|rfl|fail) rfl rfl (by decide)))));(case hT=>((try simp only [wtn]);rfl)))|(refine Xai rfl ?_;((refine Xas 11 rfl ?_;(refine Xam 43 Tryz.f43 [_] _ _ _ rfl rfl Tryz.func43 (by decide) rfl (Xvv _) (VwL.refl _ _) (XbF _ l k 12 hd hk (by omega) (by omega)) ?_;rintro _ _ ⟨v,k',rfl,rfl,hv,hk'⟩));apply Xah;(case hT=>((try simp only [wtn]);rfl));(case hH=>((try simp only [wtn]);rfl))))|fail))
 refine Xaf _ _ (Xbh rfl (RV.tmp _) (XaH.mk' [] [_] (Xvv _) (XaB.refl _ _) (VwL.refl _ _))) ⟨Xry.getD v [],k',rfl,rfl,?_,hk'⟩
 exact Xtn Xry (fun s=>s.length≤8) (by decide) v hv
def XmX:List (List UInt8):=[[111,107],[],[114,46,42,121,36],[94,117,112,124,103,111,43],[91,48,45,57,93,43,120,63],[40,97,98,41,42,99],[94,36]]
theorem XmG:Xa3 Tryz.prog 118 [] [] (fun r H'=>r=.sq 7 (sa XmX)∧H'=[]):=by
 refine XaD Tryz.func118 rfl ?_
 simp only [Tryz.ntmps118,XvB,XvC,XvD,XvF,Nat.reduceSub]
 (repeat' (first|with_reducible (first|refine Xag ?_|refine Xac ?_|refine Xar ?_|refine Xae ?_|refine Xaa ?_)|((apply Xad rfl);(case h=>(first|(apply Xab 0 rfl;(exact Xan _ rfl))|(apply Xab 17 rfl;(exact XbI _ _ _ _ _ _ rfl XaY.out rfl (by first|rfl|fail) rfl rfl (by decide)))));(case hT=>((try simp only [wtn]);rfl)))|fail))
 refine Xaf _ _ (Xbh rfl (RV.tmp _) (XaH.mk' [] _ (Xvv _) (XaB.refl _ _) (VwL.refl _ _))) ?_
 exact ⟨rfl,rfl⟩
end Go.Proofs.YtdpobjakdplljaaGreatDoor

import Derived.Test.YtdpobjakdplljaaGreatDoorV14
import Derived.Test.YtdpobjakdplljaaGreatDoorV10
import Derived.Test.YtdpobjakdplljaaGreatDoorV8
import Derived.Test.YtdpobjakdplljaaGreatDoorV12
import Derived.Test.YtdpobjakdplljaaGreatDoorV15
import Derived.Shelf.RegionOpenPlain
import Derived.Test.YtdpobjakdplljaaGreatDoorV7
/- The reference's parser, exact: a fault noted, a token taken, a sign. -/
set_option linter.unusedSimpArgs false
set_option linter.unusedVariables false
set_option maxRecDepth 100000
set_option maxHeartbeats 8000000
namespace Go.Proofs.YtdpobjakdplljaaGreatDoor
open Go.RowKit
theorem Xbj {ts:List Tok} {k:Nat} (h:k < ts.length):tkA ts k=ts[k]:=by simp [tkA,List.getD_eq_getElem?_getD,h]
structure PS where
 k:Nat
 e:Int
 l:Int
 c:Int
def PS.cells (s:PS) (ts:List Tok) (sv:AV):List AV:=pc ts s.k s.e s.l s.c sv
def PS.fail (s:PS) (e:Int) (t:Tok):PS:=if s.e=0 then ⟨s.k,e,t.line,t.col⟩ else s
def PS.flt (s:PS) (f:Flt):PS:=if s.e=0 then ⟨s.k,f.code,f.line,f.col⟩ else s
def PS.on (s:PS) (n:Nat):PS:=if s.e=0 then ⟨s.k+n,0,s.l,s.c⟩ else s
def PS.upon {α:Type} (s:PS) (x:Except Flt α) (n:Nat):PS:=match x with
 | .ok _=>s.on n
 | .error f=>s.flt f
theorem Xgr (b:Nat) (ts:List Tok) (s:PS) (sv:AV) (hsv:sv.one=true) (e2:Int) (t:Tok):Xa8 Tryz.prog 202 [.box b (s.cells ts sv)] [.x (.pointer (some ⟨b,0,none⟩)),.x (.int .i64 e2),t.av] (fun r H'=>r=.x (.tuple #[])∧H'=[.box b ((s.fail e2 t).cells ts sv)]):=by
 obtain ⟨k,e,l,c⟩:=s
 unfold Tok.av
 simp only [pc,PS.cells,PS.fail]
 refine XaE Tryz.func202 rfl ?_
 simp only [Tryz.ntmps202,Xu8,Xvb,Xvc,Xvd,Xvg,Xvf,Nat.reduceAdd,Nat.reduceSub]
 (repeat' (first|with_reducible (first|refine Xai ?_|refine Xac ?_|refine Xaw ?_|refine Xae ?_|refine Xaa ?_)|(refine Xal _ rfl (fun h=>?_) (fun h=>?_)<;>((try (simp only [whn] at h));skip))|((apply Xad rfl);(case h=>(first|(apply Xab 0 rfl;(exact Xar _ rfl))|(apply Xab 4 rfl;(exact Xbk _ rfl (by first|exact .inl ⟨_,rfl⟩|fail)))|(apply Xab 5 rfl;(exact Xam _ _ _ _ _ _ rfl rfl Xa3.out))|(apply Xab 6 rfl;(exact Xaz _ _ _ _ _ _ _ _ rfl rfl XaU.out XaM.out (by first|exact Xu4 rfl|fail) (by first|exact Xu4 rfl|fail)))|(apply Xab 10 rfl;(exact XaY _ _ _ _ _ rfl HPl.out (by first|rfl|fail) rfl))|(apply XaD;(case hs=>(intro _ _ h;cases h));(case hx=>rfl);(case hrun=>(intro w;simp [wtb,AV.val,go_sem];skip;rfl)))));(case hT=>((try simp only [wtn,↓reduceIte]);rfl)))|(refine Xah rfl ?_;((first|(refine Xaq 15 rfl ?_;(refine Xbx _ _ rfl (by first|rfl|fail) (fun b=>?_)))|(refine Xaq 16 rfl ?_;(refine Xau _ _ _ _ _ _ _ rfl rfl XaU.out XaS.out (by first|rfl|fail) (by first|exact Xu4 rfl|fail) ?_)));apply Xag;(case hT=>((try simp only [wtn]);rfl));(case hH=>((try simp only [wtn,Nat.reduceAdd]);rfl))))|fail))
 ·refine Xc4 _ _ (Xrv rfl (XaH.mk' [_] [_] (Xu5 _) (XaB.refl _ _) VwL.nil)) ?_
  exact ⟨rfl,by rw [if_pos h]⟩
 ·refine Xc4 _ _ (Xrv rfl (XaH.mk' [_] [_] (Xu5 _) (XaB.refl _ _) VwL.nil)) ?_
  exact ⟨rfl,by rw [if_neg h]⟩
theorem Xro (b:Nat) (ts:List Tok) (s:PS) (sv:AV) (hsv:sv.one=true) (kind:Int) (most:Nat) (hk:s.k < ts.length) (hl:ts.length≤1000000) :
  Xa8 Tryz.prog 203 [.box b (s.cells ts sv)] [.x (.pointer (some ⟨b,0,none⟩)),.x (.int .i64 kind),.x (.int .i64 most)] (fun r H'=>r=(tkA ts s.k).av∧H'=[.box b ((s.upon (Xbd ts s.k kind most) 1).cells ts sv)]):=by
 obtain ⟨k,e,l,c⟩:=s
 simp only at hk
 have hn:=Xkx ts k e l c sv hk hl
 have hf:=Xb7 ts k e l c sv
 have hF1:=Xgr b ts ⟨k,e,l,c⟩ sv hsv 60 ts[k]
 have hF2:=Xgr b ts ⟨k,e,l,c⟩ sv hsv 1 ts[k]
 simp only [Xbj hk]
 unfold Tok.av at hn hF1 hF2 ⊢
 simp only [pc,PS.cells] at hF1 hF2 ⊢
 have hg:Xbd ts k kind most=if ts[k].kind≠kind then .error (flt 60 ts[k]) else if most < ts[k].text.length then .error (flt 1 ts[k]) else .ok ts[k]:=by simp only [Xbd,Xbj hk]
 have hg':=Lib.hid hg
 clear hg
 refine XaE Tryz.func203 rfl ?_
 simp only [Tryz.ntmps203,Xu8,Xvb,Xvc,Xvd,Xvg,Xvf,Nat.reduceAdd,Nat.reduceSub]
 (repeat' (first|with_reducible (first|refine Xai ?_|refine Xac ?_|refine Xas ?_|refine Xaw ?_|refine Xae ?_|refine Xaa ?_|refine Xay ?_)|(refine Xal _ rfl (fun h=>?_) (fun h=>?_)<;>((try (simp only [whn] at h));skip))|((apply Xad rfl);(case h=>(first|(apply Xab 0 rfl;(exact Xar _ rfl))|(apply Xab 4 rfl;(exact Xbk _ rfl (by first|exact .inl ⟨_,rfl⟩|fail)))|(apply Xab 5 rfl;(exact Xam _ _ _ _ _ _ rfl rfl Xa3.out))|(apply Xab 6 rfl;(exact Xaz _ _ _ _ _ _ _ _ rfl rfl XaU.out XaM.out (by first|exact Xu4 rfl|fail) (by first|exact Xu4 rfl|fail)))|(apply Xab 11 rfl;(first|exact Xa7 187 Tryz.f187 _ _ rfl rfl Tryz.func187 (by decide) rfl (by (repeat' (first|exact VwL.nil|(refine VwL.cons ?_ ?_)|exact Vw.box (List.Mem.tail _ (List.Mem.head _)) (VwL.refl _ _)|fail));done) (hn)|exact Xa7 189 Tryz.f189 _ _ rfl rfl Tryz.func189 (by decide) rfl (by (repeat' (first|exact VwL.nil|(refine VwL.cons ?_ ?_)|exact Vw.box (List.Mem.tail _ (List.Mem.tail _ (List.Mem.head _))) (VwL.refl _ _)|fail));done) (hf)))|(apply XaD;(case hs=>(intro _ _ h;cases h));(case hx=>rfl);(case hrun=>(intro w;simp [wtb,AV.val,go_sem];(try go_bits);rfl)))));(case hT=>((try simp (disch:=omega) only [wtn,pc,Xu9,Xu6,Xu7,Xva,Xve,Nat.reduceAdd,Nat.reduceMul,Nat.reduceSub,↓reduceIte,Nat.reduceEqDiff]);rfl)))|(refine Xah rfl ?_;((first|(refine Xaq 11 rfl ?_;(first|(refine Xak 202 Tryz.f202 [_] [_,_] _ _ rfl rfl Tryz.func202 (by decide) rfl (Xvi (l₁:=[_,_]) (l₂:=[])) (VwL.refl _ _) hF1 ?_;rintro _ _ ⟨rfl,rfl⟩)|(refine Xak 202 Tryz.f202 [_] [_,_] _ _ rfl rfl Tryz.func202 (by decide) rfl (Xvi (l₁:=[_,_]) (l₂:=[])) (VwL.refl _ _) hF2 ?_;rintro _ _ ⟨rfl,rfl⟩)))|(refine Xaq 14 rfl ?_;(refine XaJ _ _ rfl Xbl.out rfl (fun b=>?_)))|(refine Xaq 16 rfl ?_;(refine Xau _ _ _ _ _ _ _ rfl rfl XaU.out XaS.out (by first|rfl|fail) (by first|exact Xu4 rfl|fail) ?_)));apply Xag;(case hT=>((try simp (disch:=omega) only [wtn,pc,Xu9,Xu6,Xu7,Xva,Xve,Nat.reduceAdd,Nat.reduceMul,Nat.reduceSub,↓reduceIte,Nat.reduceEqDiff]);rfl));(case hH=>((try simp (disch:=omega) only [wtn,pc,Xu9,Xu6,Xu7,Xva,Xve,Nat.reduceAdd,Nat.reduceMul,Nat.reduceSub,↓reduceIte,Nat.reduceEqDiff]);rfl))))|fail))
 all_goals first
  | refine Xaf _ _ (Xbi rfl (RV.cell 1 rfl rfl XaM.out (by simp) (by simp)) (XaH.mk' [_,_] [_] (Xu5 _) (XaB.refl _ _) (VwL.refl _ _))) ?_
  | refine Xaf _ _ (Xbi rfl (RV.cell 2 rfl rfl XaM.out (by simp) (by simp)) (XaH.mk' [_,_] [_] (Xvi (l₁:=[_,_]) (l₂:=[])).symm (XaB.refl _ _) (VwL.refl _ _))) ?_
 all_goals refine ⟨rfl,?_⟩
 all_goals
  by_cases ha:ts[k].kind=kind
  ·by_cases hb:most < ts[k].text.length
   ·have e:=(hg'.out).trans ((if_neg (by simpa using ha)).trans (if_pos hb))
    rw [e];clear hg' e
    simp_all [PS.upon,PS.on,PS.flt,PS.fail,flt];done
   ·have e:=(hg'.out).trans ((if_neg (by simpa using ha)).trans (if_neg hb))
    rw [e];clear hg' e
    simp_all [PS.upon,PS.on,PS.flt,PS.fail,flt];done
  ·have e:=(hg'.out).trans (if_pos ha)
   rw [e];clear hg' e
   simp_all [PS.upon,PS.on,PS.flt,PS.fail,flt];done
theorem Xod {ts:List Tok} {k:Nat} (hk:k < ts.length) (e:Int) (s:List UInt8):isP ts k e 5 s=(e == 0 && gIs ts k s):=by
 simp only [isP,gIs,Xbj hk,List.getElem?_eq_getElem hk]
theorem XtV (b:Nat) (ts:List Tok) (s:PS) (sv:AV) (hsv:sv.one=true) (t:List UInt8) (hk:s.k < ts.length) (hl:ts.length≤1000000) :
  Xa8 Tryz.prog 204 [.box b (s.cells ts sv)] [.x (.pointer (some ⟨b,0,none⟩)),.x (.string (bs t))] (fun r H'=>r=.x (.tuple #[])∧H'=[.box b ((s.upon (Xb2 ts s.k t) 1).cells ts sv)]):=by
 obtain ⟨k,e,l,c⟩:=s
 simp only at hk
 have hn:=Xkx ts k e l c sv hk hl
 have hf:=Xb7 ts k e l c sv
 have hi:=Xuy ts k e l c sv 5 t hk hl
 have hF:=Xgr b ts ⟨k,e,l,c⟩ sv hsv 60 ts[k]
 rw [Xod hk] at hi
 unfold Tok.av at hn hF
 simp only [pc,PS.cells] at hF ⊢
 have hg:Xb2 ts k t=if gIs ts k t then .ok () else .error (flt 60 ts[k]):=by simp only [Xb2,Xbj hk]
 have hg':=Lib.hid hg
 clear hg
 generalize gIs ts k t=gi at hi hg'
 refine XaE Tryz.func204 rfl ?_
 simp only [Tryz.ntmps204,Xu8,Xvb,Xvc,Xvd,Xvg,Xvf,Nat.reduceAdd,Nat.reduceSub]
 (repeat' (first|with_reducible (first|refine Xai ?_|refine Xac ?_|refine Xaw ?_|refine Xae ?_|refine Xaa ?_)|(refine Xal _ rfl (fun h=>?_) (fun h=>?_)<;>((try (simp only [whn] at h));skip))|((first|apply Xad rfl|apply Xbe _ _ rfl rfl rfl);(case h=>((try (intro (hp:(_:Bool)=true);((try simp only [hp,wte]);(try simp only [whn] at hp))));(first|(apply Xab 0 rfl;(exact Xar _ rfl))|(apply Xab 1 rfl;(exact XbH _ _ _ _ _ rfl rfl rfl rfl))|(apply Xab 4 rfl;(exact Xbk _ rfl (by first|exact .inl ⟨_,rfl⟩|fail)))|(apply Xab 5 rfl;(exact Xam _ _ _ _ _ _ rfl rfl Xa3.out))|(apply Xab 6 rfl;(exact Xaz _ _ _ _ _ _ _ _ rfl rfl XaU.out XaM.out (by first|exact Xu4 rfl|fail) (by first|exact Xu4 rfl|fail)))|(apply Xab 11 rfl;(first|exact Xa7 187 Tryz.f187 _ _ rfl rfl Tryz.func187 (by decide) rfl (by (repeat' (first|exact VwL.nil|(refine VwL.cons ?_ ?_)|exact Vw.box (List.Mem.head _) (VwL.refl _ _)|fail));done) (hn)|exact Xa7 189 Tryz.f189 _ _ rfl rfl Tryz.func189 (by decide) rfl (by (repeat' (first|exact VwL.nil|(refine VwL.cons ?_ ?_)|exact Vw.box (List.Mem.head _) (VwL.refl _ _)|fail));done) (Xb7 ts _ _ _ _ sv)|exact Xa7 201 Tryz.f201 _ _ rfl rfl Tryz.func201 (by decide) rfl (by (repeat' (first|exact VwL.nil|(refine VwL.cons ?_ ?_)|exact Vw.refl _|exact Vw.box (List.Mem.head _) (VwL.refl _ _)|fail));done) (hi)))|(apply XaD;(case hs=>(intro _ _ h;cases h));(case hx=>rfl);(case hrun=>(intro w;simp [wtb,AV.val,go_sem];(try go_bits);rfl))))));(case hT=>((try simp (disch:=omega) only [wtn,pc,Xu9,Xu6,Xu7,Xva,Xve,Nat.reduceAdd,Nat.reduceMul,Nat.reduceSub,↓reduceIte,Nat.reduceEqDiff]);rfl)))|(refine Xah rfl ?_;((first|(refine Xaq 11 rfl ?_;(refine Xak 202 Tryz.f202 [_] [] _ _ rfl rfl Tryz.func202 (by decide) rfl (Xu5 _) (VwL.refl _ _) hF ?_;rintro _ _ ⟨rfl,rfl⟩))|(refine Xaq 16 rfl ?_;(refine Xau _ _ _ _ _ _ _ rfl rfl XaU.out XaS.out (by first|rfl|fail) (by first|exact Xu4 rfl|fail) ?_)));apply Xag;(case hT=>((try simp (disch:=omega) only [wtn,pc,Xu9,Xu6,Xu7,Xva,Xve,Nat.reduceAdd,Nat.reduceMul,Nat.reduceSub,↓reduceIte,Nat.reduceEqDiff]);rfl));(case hH=>((try simp (disch:=omega) only [wtn,pc,Xu9,Xu6,Xu7,Xva,Xve,Nat.reduceAdd,Nat.reduceMul,Nat.reduceSub,↓reduceIte,Nat.reduceEqDiff]);rfl))))|fail))
 all_goals
  refine Xc4 _ _ (Xrv rfl (XaH.mk' [] [_] (Xu5 _) (XaB.refl _ _) VwL.nil)) ?_
  refine ⟨rfl,?_⟩
  rw [hg'.out]
  cases gi<;>simp_all [PS.upon,PS.on,PS.flt,PS.fail,flt]
theorem Xjh (l:List UInt8) (c:UInt8):XdN (l++[c])=10*XdN l+(c.toNat - 48):=by simp [XdN]
def Xel (l:List UInt8):Prop:=∀c∈l,48≤c.toNat∧c.toNat≤57
theorem XoD (l:List UInt8) (hd:Xel l):∀n,n≤l.length→0≤XdN (l.take n)∧XdN (l.take n) < ((10 ^ n:Nat):Int):=by
 intro n
 induction n with
 | zero=>intro _;simp [XdN]
 | succ n ih=>
   intro hn
   have h1:=ih (by omega)
   have h2:=hd l[n] (List.getElem_mem (by omega))
   rw [XaX l n (by omega),Xjh,Nat.pow_succ]
   generalize 10 ^ n=p at h1 ⊢
   omega
def XeL (ts:List Tok):Prop:=∀t∈ts,t.kind=2→t.text.length≤18∧Xel t.text
theorem XrW {ts:List Tok} (hN:XeL ts) {k:Nat} (hk:k < ts.length):Xbd ts k 2 8192=Xbd ts k 2 18:=by
 have h:=hN ts[k] (List.getElem_mem hk)
 simp only [Xbd,Xbj hk]
 by_cases h2:ts[k].kind=2
 ·have h3:=(h h2).1
  rw [if_neg (fun h=>h h2),if_neg (by omega),if_neg (fun h=>h h2),if_neg (by omega)]
 ·rw [if_pos h2,if_pos h2]
theorem Xqm (b:Nat) (ts:List Tok) (s:PS) (sv:AV) (hsv:sv.one=true) (hk:s.k < ts.length) (hl:ts.length≤1000000) (hN:XeL ts) :
  Xa8 Tryz.prog 212 [.box b (s.cells ts sv)] [.x (.pointer (some ⟨b,0,none⟩))] (fun r H'=>r=.x (.int .u64 (if (s.upon (Xbd ts s.k 2 18) 1).e=0 then XdN (tkA ts s.k).text else 0))∧H'=[.box b ((s.upon (Xbd ts s.k 2 18) 1).cells ts sv)]):=by
 have hT:=Xro b ts s sv hsv 2 18 hk hl
 obtain ⟨k,e,l,c⟩:=s
 simp only at hk
 simp only [Xbj hk] at hT ⊢
 have hTk:(({ k:=k,e:=e,l:=l,c:=c }:PS).upon (Xbd ts k 2 18) 1).e=0→ts[k].text.length≤18∧Xel ts[k].text:=by
  intro h
  have h2:=hN ts[k] (List.getElem_mem hk)
  simp only [Xbd,Xbj hk] at h
  by_cases h3:ts[k].kind=2
  ·exact h2 h3
  ·exfalso
   rw [if_pos h3] at h
   simp only [PS.upon,PS.flt,flt] at h
   split at h<;>simp_all
 generalize ({ k:=k,e:=e,l:=l,c:=c }:PS).upon (Xbd ts k 2 18) 1=s1 at hT hTk
 obtain ⟨k1,e1,l1,c1⟩:=s1
 simp only [PS.cells] at hT hTk ⊢
 have hTk':=Lib.hid hTk
 clear hTk
 clear hN
 refine XaE Tryz.func212 rfl ?_
 simp only [Tryz.ntmps212,Xu8,Xvb,Xvc,Xvd,Xvg,Xvf,Nat.reduceAdd,Nat.reduceSub]
 (repeat' (first|with_reducible (first|refine Xai ?_|refine Xac ?_|refine Xat ?_|refine Xas ?_|refine Xaw ?_|refine Xae ?_|refine Xaa ?_|refine Xay ?_)|(refine Xal _ rfl (fun h=>?_) (fun h=>?_)<;>((try (simp only [whn] at h));skip))|((apply Xad rfl);(case h=>(first|(apply Xab 0 rfl;(first|exact Xar _ rfl|exact Xap _ rfl))|(apply Xab 11 rfl;(exact Xa7 189 Tryz.f189 _ _ rfl rfl Tryz.func189 (by decide) rfl (by (repeat' (first|exact VwL.nil|(refine VwL.cons ?_ ?_)|exact Vw.box (List.Mem.tail _ (List.Mem.head _)) (VwL.refl _ _)|fail));done) (Xb7 ts _ _ _ _ sv)))));(case hT=>((try simp (disch:=omega) only [wtn,pc,Tok.av,Xu9,Xu6,Xu7,Xva,Xve,Nat.reduceAdd,Nat.reduceMul,Nat.reduceSub,↓reduceIte,Nat.reduceEqDiff]);rfl)))|(refine Xah rfl ?_;((first|(refine Xaq 11 rfl ?_;(refine Xak 203 Tryz.f203 [_] _ _ _ rfl rfl Tryz.func203 (by decide) rfl (Xu5 _) (VwL.refl _ _) (hT) ?_;rintro _ _ ⟨rfl,rfl⟩))|(refine Xaq 14 rfl ?_;(refine XaJ _ _ rfl Xbl.out rfl (fun b=>?_)))|(refine Xaq 16 rfl ?_;(refine Xau _ _ _ _ _ _ _ rfl rfl XaU.out XaS.out (by first|rfl|fail) (by first|exact Xu4 rfl|fail) ?_)));apply Xag;(case hT=>((try simp (disch:=omega) only [wtn,pc,Tok.av,Xu9,Xu6,Xu7,Xva,Xve,Nat.reduceAdd,Nat.reduceMul,Nat.reduceSub,↓reduceIte,Nat.reduceEqDiff]);rfl));(case hH=>((try simp (disch:=omega) only [wtn,pc,Tok.av,Xu9,Xu6,Xu7,Xva,Xve,Nat.reduceAdd,Nat.reduceMul,Nat.reduceSub,↓reduceIte,Nat.reduceEqDiff]);rfl))))|fail))
 ·refine Xaf _ _ (Xbi rfl (RV.tmp _) (XaH.mk' [_] [_] (Xu5 _) (XaB.refl _ _) (VwL.refl _ _))) ?_
  exact ⟨by rw [if_neg h];rfl,rfl⟩
 obtain ⟨hl18,hdig⟩:=hTk'.out h
 have hdig':=Lib.hid hdig
 clear hdig hTk'
 refine XaW (S:=Nat) (fun i=>frm 27 [(3,.x (.pointer (some ⟨b,0,none⟩))),(4,.x (.int .u64 (XdN (ts[k].text.take i)))),(5,.x (.int .i64 i))]) (fun _=>[.box b [.x (.int .i64 ts[k].kind),.x (.string (bs ts[k].text)),.x (.int .i64 (ts[k].line:Nat)),.x (.int .i64 (ts[k].col:Nat))],.box _ (pc ts k1 e1 l1 c1 sv)]) (fun i=>i≤ts[k].text.length) (fun i=>ts[k].text.length - i) 0 (XaH.mk' [] _ (Xu5 _) (XaB.refl _ _) (by (repeat' (first|exact VwL.nil|(refine VwL.cons ?_ ?_)|exact Vw.refl _|exact Vw.top _|fail)))) (Nat.zero_le _) fun i hs=>?_
 have hv1:=XoD ts[k].text hdig'.out i hs
 have hpw:=Nat.pow_le_pow_right (n:=10) (by decide) (show i≤18 by omega)
 generalize 10 ^ i=p at hv1 hpw
 have hv2:XdN (ts[k].text.take i) < 1000000000000000000:=by omega
 have hv3:=hv1.1
 clear hv1 hpw
 generalize hnv:XdN (ts[k].text.take i)=nv at hv2 hv3 ⊢
 have hnv':=Lib.hid hnv
 clear hnv
 have hT':=Lib.hid hT
 clear hT
 simp only [frm,Xvc,Xvd,Xu6,Xu7,Xvj,Xvk]
 (repeat' (first|with_reducible (first|refine Xai ?_|refine Xac ?_|refine Xat ?_|refine Xas ?_|refine Xaw ?_|refine Xa4 ?_|refine Xae ?_|refine Xaa ?_|refine XaN ?_|refine XaK ?_|refine Xaj ?_)|(refine Xal _ rfl (fun h=>?_) (fun h=>?_)<;>((try (simp only [whn] at h));skip))|((apply Xad rfl);(case h=>(first|(apply Xab 0 rfl;(first|exact Xar _ rfl|exact Xap _ rfl))|(apply Xab 5 rfl;(exact Xam _ _ _ _ _ _ rfl rfl Xa3.out))|(apply Xab 6 rfl;(exact Xaz _ _ _ _ _ _ _ _ rfl rfl XaU.out XaM.out (by first|exact Xu4 rfl|fail) (by first|exact Xu4 rfl|fail)))|(apply Xab 8 rfl;(exact Xbu _ _ _ _ _ _ _ rfl rfl rfl (by kernel_rfl) rfl (by omega)))|(apply XaD;(case hs=>(intro _ _ h;cases h));(case hx=>rfl);(case hrun=>(intro w;simp [wtb,AV.val,go_sem];(try go_bits);rfl)))));(case hT=>((try simp only [wtn]);rfl)))|fail))
 ·have hd:=hdig'.out ts[k].text[i] (List.getElem_mem h)
  have e:XdN (ts[k].text.take (i+1))=10*nv+(((ts[k].text[i]?.getD 0).toNat:Int) - 48) % 256:=by
   rw [XaX _ _ h,Xjh,hnv'.out,List.getElem?_eq_getElem h]
   simp only [Option.getD_some]
   omega
  refine ⟨i+1,by omega,by omega,?_⟩
  rw [e]
  exact (XaH.mk' [] _ (Xu5 _) (XaB.refl _ _) (by (repeat' (first|exact VwL.nil|(refine VwL.cons ?_ ?_)|exact Vw.refl _|exact Vw.top _|fail))))
 ·refine Xaf _ _ (Xbi rfl (RV.tmp _) (XaH.mk' [_] [_] (Xu5 _) (XaB.refl _ _) (VwL.refl _ _))) ?_
  have e:=hnv'.out
  rw [List.take_of_length_le (by omega)] at e
  exact ⟨by rw [if_pos (by assumption),e];rfl,rfl⟩
def ia (l:List Int):List AV:=l.map fun n=>.x (.int .i64 n)
@[simp] theorem XuT (l:List Int):(ia l).length=l.length:=by simp [ia]
theorem Xfp (l:List Int) (k:Nat) (h:k < l.length):(ia l).drop k=.x (.int .i64 l[k]) :: ia (l.drop (k+1)):=by
 rw [ia,←List.map_drop,List.drop_eq_getElem_cons h];rfl
def Xk4 (b:Nat) (l:List Int) (k:Nat):Hp:=.box b [.sq l.length (ia l),.x (.int .i64 k)]
theorem Xi8 (b:Nat) (l:List Int) (k:Nat) (hl:l.length≤140737488355328):Xa8 Tryz.prog 77 [Xk4 b l k] [.x (.pointer (some ⟨b,0,none⟩))] (fun r H'=>r=.x (.bool (decide (k < l.length)))∧H'=[Xk4 b l k]):=by
 unfold Xk4
 refine XaE Tryz.func77 rfl ?_
 simp only [Tryz.ntmps77,Xu8,Xvb,Xvc,Xvd,Xvg,Xvf,Nat.reduceAdd,Nat.reduceSub]
 (repeat' (first|with_reducible (first|refine Xai ?_|refine Xac ?_|refine Xas ?_|refine Xae ?_|refine Xcd ?_|refine Xaa ?_)|(with_reducible refine Xbc mixed ?_ ?_;(decide +kernel))|((first|apply Xad rfl|apply XbG rfl);(case h=>(first|(apply Xab 0 rfl;(first|exact Xar _ rfl|exact Xap _ rfl))|(apply Xab 3 rfl;(exact Xa2 _ _ _ _ _ _ HEl.out rfl rfl))|(apply Xab 4 rfl;(exact Xbk _ rfl (by first|exact .inl ⟨_,rfl⟩|fail)))|(apply Xab 5 rfl;(exact Xam _ _ _ _ _ _ rfl rfl Xa3.out))|(apply Xab 6 rfl;(exact Xaz _ _ _ _ _ _ _ _ rfl rfl XaU.out XaM.out (by first|exact Xu4 rfl|fail) (by first|exact Xu4 rfl|fail)))|(apply XaD;(case hs=>(intro _ _ h;cases h));(case hx=>rfl);(case hrun=>(intro w;simp [wtb,AV.val,go_sem];skip;rfl)))));(case hT=>((try simp only [wtn]);rfl)))|fail))
 refine Xaf _ _ (Xbi rfl (RV.tmp _) (XaH.mk' [] _ (Xu5 _) (XaB.refl _ _) (VwL.refl _ _))) ?_
 exact ⟨rfl,rfl⟩
theorem Xlk (v n:Int) (hn:1≤n) (hn2:n≤9223372036854775807) (hv : -9223372036854775808≤v∧v≤9223372036854775807) (H:List Hp):Xa8 Tryz.prog 16 H [.x (.int .i64 v),.x (.int .i64 n)] (fun r H'=>r=.x (.int .i64 (v % n))∧H'=H):=
 Xcm (args:=[.int .i64 v,.int .i64 n]) (fun w=>(Xse v n w hn hn2 hv.1 hv.2).mono fun e w' ⟨h1,h2⟩=>⟨h1,h2▸Below.refl _ _⟩) H
def XoB (l:List Int) (k:Nat) (n:Nat):Int:=if h:k < l.length then l[k] % n else 0
def I64 (l:List Int):Prop:=∀x∈l,-9223372036854775808≤x∧x≤9223372036854775807
theorem XoA (b:Nat) (l:List Int) (k n:Nat) (hl:l.length≤140737488355328) (hk:k≤l.length) (hn:1≤n) (hn2:n≤1000000) (hI:I64 l):Xa8 Tryz.prog 43 [Xk4 b l k] [.x (.pointer (some ⟨b,0,none⟩)),.x (.int .i64 n)] (fun r H'=>r=.x (.int .i64 (XoB l k n))∧H'=[Xk4 b l (min (k+1) l.length)]):=by
 have hI:=Lib.hid hI
 have hd:Xk4 b l k=.box b [.sq l.length (ia l),.x (.int .i64 k)]:=rfl
 rw [hd]
 refine XaE Tryz.func43 rfl ?_
 simp only [Tryz.ntmps43,Xu8,Xvb,Xvc,Xvd,Xvg,Xvf,Nat.reduceAdd,Nat.reduceSub]
 (repeat' (first|with_reducible (first|refine Xai ?_|refine Xac ?_|refine Xas ?_|refine Xaw ?_|refine Xae ?_|refine Xcd ?_|refine Xaa ?_|refine Xay ?_)|(with_reducible refine Xbc mixed ?_ ?_;(decide +kernel))|(refine Xal _ rfl (fun h=>?_) (fun h=>?_)<;>((try (simp only [whn] at h));skip))|((first|apply Xad rfl|apply XbG rfl);(case h=>(first|(apply Xab 0 rfl;(first|exact Xar _ rfl|exact Xap _ rfl))|(apply Xab 4 rfl;(exact Xbk _ rfl (by first|exact .inl ⟨_,rfl⟩|fail)))|(apply Xab 5 rfl;(exact Xam _ _ _ _ _ _ rfl rfl Xa3.out))|(apply Xab 6 rfl;(first|exact XaG _ _ _ _ _ rfl rfl XaM.out (by first|exact Xu4 rfl|fail) (by first|exact Xu4 rfl|fail)|exact Xaz _ _ _ _ _ _ _ _ rfl rfl XaU.out XaM.out (by first|exact Xu4 rfl|fail) (by first|exact Xu4 rfl|fail)))|(apply Xab 7 rfl;(exact XaI _ _ _ _ _ _ _ _ _ _ rfl rfl rfl HEl.out rfl (by first|omega|fail) (by simp;first|omega|fail)))|(apply Xab 11 rfl;(exact XaA 16 Tryz.f16 _ _ rfl rfl Tryz.func16 (by decide) rfl (VwL.refl _ _) (Xlk _ _ (by omega) (by omega) (hI.out _ (List.getElem_mem _)) [])))|(apply XaD;(case hs=>(intro _ _ h;cases h));(case hx=>rfl);(case hrun=>(intro w;simp [wtb,AV.val,go_sem];(try go_bits);rfl)))));(case hT=>((try simp (disch:=assumption) only [wtn,Xk4,Xfp,Xu9,Xu6,Xu7,Xva,Xve,Nat.reduceAdd,Nat.reduceMul,Nat.reduceSub,↓reduceIte,Nat.reduceEqDiff]);rfl)))|(refine Xah rfl ?_;((first|(refine Xaq 11 rfl ?_;(refine Xak 77 Tryz.f77 ([Xk4 b l k]) _ _ _ rfl rfl Tryz.func77 (by decide) rfl (Xu5 _) (VwL.refl _ _) (Xi8 b l k hl) ?_;rintro _ _ ⟨rfl,rfl⟩))|(refine Xaq 16 rfl ?_;(refine Xau _ _ _ _ _ _ _ rfl rfl XaU.out XaS.out (by first|rfl|fail) (by first|exact Xu4 rfl|fail) ?_)));apply Xag;(case hT=>((try simp (disch:=omega) only [wtn,Xk4,Xfp,Xu9,Xu6,Xu7,Xva,Xve,Nat.reduceAdd,Nat.reduceMul,Nat.reduceSub,↓reduceIte,Nat.reduceEqDiff]);rfl));(case hH=>((try simp (disch:=omega) only [wtn,Xk4,Xfp,Xu9,Xu6,Xu7,Xva,Xve,Nat.reduceAdd,Nat.reduceMul,Nat.reduceSub,↓reduceIte,Nat.reduceEqDiff]);rfl))))|fail))
 ·refine Xaf _ _ (Xbi rfl (RV.tmp _) (XaH.mk' [] _ (Xu5 _) (XaB.refl _ _) (VwL.refl _ _))) ?_
  exact ⟨by rw [XoB,dif_neg h];rfl,by rw [show min (k+1) l.length=k from by omega];rfl⟩
 ·refine Xaf _ _ (Xbi rfl (RV.tmp _) (XaH.mk' [] _ (Xu5 _) (XaB.refl _ _) (VwL.refl _ _))) ?_
  exact ⟨by rw [XoB,dif_pos h];rfl,by rw [show min (k+1) l.length=k+1 from by omega];rfl⟩
structure DK (l:List Int):Prop where
 len:l.length≤140737488355328
 vals:I64 l
theorem Xqj (l:List Int) (k n:Nat) (hn:1≤n):∃v:Nat,XoB l k n=v∧v < n:=by
 unfold XoB
 split
 ·refine ⟨(l[k] % n).toNat,?_,?_⟩
  ·have:=Int.emod_nonneg l[k] (show (n:Int)≠0 by omega);omega
  ·have h1:=Int.emod_nonneg l[k] (show (n:Int)≠0 by omega)
   have h2:=Int.emod_lt_of_pos l[k] (show (0:Int) < n by omega);omega
 ·exact ⟨0,rfl,by omega⟩
def dk (b:Nat) (l:List Int) (k:Nat):List AV:=[.sq l.length (ia l),.x (.int .i64 k)]
theorem XbB (b:Nat) (l:List Int) (k n:Nat) (hd:DK l) (hk:k≤l.length) (hn:1≤n) (hn2:n≤1000000):Xa8 Tryz.prog 43 [.box b [.sq l.length (ia l),.x (.int .i64 k)]] [.x (.pointer (some ⟨b,0,none⟩)),.x (.int .i64 n)] (fun r H'=>∃v k':Nat,r=.x (.int .i64 v)∧H'=[.box b [.sq l.length (ia l),.x (.int .i64 k')]]∧v < n∧k'≤l.length):=by
 refine (XoA b l k n hd.len hk hn hn2 hd.vals).mono ?_
 rintro r H' ⟨rfl,rfl⟩
 obtain ⟨v,e,hv⟩:=Xqj l k n hn
 exact ⟨v,min (k+1) l.length,by rw [e],rfl,hv,by omega⟩
theorem XcT (b:Nat) (l:List Int) (k lo hi:Nat) (hd:DK l) (hk:k≤l.length) (hn:lo≤hi) (hn2:hi≤1000):Xa8 Tryz.prog 59 [.box b [.sq l.length (ia l),.x (.int .i64 k)]] [.x (.pointer (some ⟨b,0,none⟩)),.x (.int .i64 lo),.x (.int .i64 hi)] (fun r H'=>∃v k':Nat,r=.x (.int .i64 v)∧H'=[.box b [.sq l.length (ia l),.x (.int .i64 k')]]∧lo≤v∧v≤hi∧k'≤l.length):=by
 refine XaE Tryz.func59 rfl ?_
 simp only [Tryz.ntmps59,Xu8,Xvb,Xvc,Xvd,Xvg,Xvf,Nat.reduceAdd,Nat.reduceSub]
 have e:(hi:Int) - lo+1=((hi - lo+1:Nat):Int):=by omega
 (repeat' (first|with_reducible (first|refine Xai ?_|refine Xac ?_|refine Xas ?_|refine Xae ?_|refine Xaa ?_)|((apply Xad rfl);(case h=>(first|(apply Xab 0 rfl;(first|exact Xar _ rfl|exact Xap _ rfl))|(apply XaD;(case hs=>(intro _ _ h;cases h));(case hx=>rfl);(case hrun=>(intro w;simp [wtb,AV.val,go_sem];(try go_bits);rfl)))));(case hT=>((try simp (disch:=omega) only [wtn,e,Xu9,Xu6,Xu7,Xva,Xve,Nat.reduceAdd,Nat.reduceMul,Nat.reduceSub,↓reduceIte,Nat.reduceEqDiff]);rfl)))|(refine Xah rfl ?_;((refine Xaq 11 rfl ?_;(refine Xak 43 Tryz.f43 ([_]) _ _ _ rfl rfl Tryz.func43 (by decide) rfl (Xu5 _) (VwL.refl _ _) (XbB b l k (hi - lo+1) hd hk (by omega) (by omega)) ?_;rintro _ _ ⟨v,k',rfl,rfl,hv,hk'⟩));apply Xag;(case hT=>((try simp (disch:=omega) only [wtn,e,Xu9,Xu6,Xu7,Xva,Xve,Nat.reduceAdd,Nat.reduceMul,Nat.reduceSub,↓reduceIte,Nat.reduceEqDiff]);rfl));(case hH=>((try simp (disch:=omega) only [wtn,e,Xu9,Xu6,Xu7,Xva,Xve,Nat.reduceAdd,Nat.reduceMul,Nat.reduceSub,↓reduceIte,Nat.reduceEqDiff]);rfl))))|fail))
 refine Xaf _ _ (Xbi rfl (RV.tmp _) (XaH.mk' [] _ (Xu5 _) (XaB.refl _ _) (VwL.refl _ _))) ?_
 exact ⟨lo+v,k',by congr 2,rfl,by omega,by omega,hk'⟩
theorem Xu3 (l:List (List UInt8)) (k:Nat) (h:k < l.length):(sa l).drop k=.x (.string (bs (l.getD k []))) :: sa (l.drop (k+1)):=by
 rw [Xd0 l k h,List.getD_eq_getElem?_getD,List.getElem?_eq_getElem h];rfl
theorem Xfu (l:List (List UInt8)) (v:Nat) (h:v < l.length):((sa l).drop v).getD 0 .top=.x (.string (bs (l.getD v []))):=by
 rw [Xu3 l v h];rfl
theorem XsX (l:List (List UInt8)) (p:List UInt8→Prop) (h:∀s∈l,p s) (v:Nat) (hv:v < l.length):p (l.getD v []):=by
 rw [List.getD_eq_getElem?_getD,List.getElem?_eq_getElem hv];exact h _ (List.getElem_mem hv)
def Xkw:List (List UInt8):=[[97],[98],[99],[100],[120]]
theorem XtF (bd:Nat) (l:List Int) (k:Nat) (hd:DK l) (hk:k≤l.length):Xa8 Tryz.prog 44 [.box bd [.sq l.length (ia l),.x (.int .i64 k)]] [.x (.pointer (some ⟨bd,0,none⟩))] (fun r H'=>∃(s:List UInt8) (k':Nat),r=.x (.string (bs s))∧H'=[.box bd [.sq l.length (ia l),.x (.int .i64 k')]]∧s.length=1∧k'≤l.length):=by
 refine XaE Tryz.func44 rfl ?_
 simp only [Tryz.ntmps44,Xu8,Xvb,Xvc,Xvd,Xvg,Xvf,Nat.reduceAdd,Nat.reduceSub]
 (repeat' (first|with_reducible (first|refine Xai ?_|refine Xac ?_|refine Xas ?_|refine Xae ?_|refine Xaa ?_)|((apply Xad rfl);(case h=>(first|(apply Xab 0 rfl;(first|exact Xar _ rfl|exact Xap _ rfl))|(apply Xab 6 rfl;(exact XaG _ _ _ _ _ rfl rfl XaM.out (by first|(simp [wlq];omega)|fail) (by first|(simp [wlq];omega)|fail)))|(apply Xab 7 rfl;(exact XaI _ _ _ _ _ _ _ _ _ _ rfl rfl rfl HEl.out rfl (by first|omega|fail) (by simp;first|done|fail)))|(apply Xab 17 rfl;(exact XbU _ _ _ _ _ _ rfl XaZ.out rfl (by first|rfl|fail) rfl rfl (by decide)))));(case hT=>((try simp only [wtn]);rfl)))|(refine Xah rfl ?_;((refine Xaq 11 rfl ?_;(refine Xak 43 Tryz.f43 [_] _ _ _ rfl rfl Tryz.func43 (by decide) rfl (Xu5 _) (VwL.refl _ _) (XbB _ l k 5 hd hk (by omega) (by omega)) ?_;rintro _ _ ⟨v,k',rfl,rfl,hv,hk'⟩));apply Xag;(case hT=>((try simp only [wtn]);rfl));(case hH=>((try simp only [wtn]);rfl))))|fail))
 refine Xaf _ _ (Xbi rfl (RV.tmp _) (XaH.mk' [] [_] (Xu5 _) (XaB.refl _ _) (VwL.refl _ _))) ⟨Xkw.getD v [],k',Xfu Xkw v hv,rfl,?_,hk'⟩
 exact XsX Xkw (fun s=>s.length=1) (by decide) v hv
def Xrk:List (List UInt8):=[[111,107],[111],[107],[114,101,97,100,121,10],[117,112],[10,103,111,111],[49,50,120],[97,98,97,98,99],[99],[10],[122,122],[27,91,49,109,104,105,13,10]]
theorem Xmo {l:List AV} (h:l=sa Xrk) {v:Nat} (hv:v < Xrk.length):(l.drop v).getD 0 .top=.x (.string (bs (Xrk.getD v []))):=h▸Xfu Xrk v hv
theorem Xh4 (bd:Nat) (l:List Int) (k:Nat) (hd:DK l) (hk:k≤l.length):Xa8 Tryz.prog 62 [.box bd [.sq l.length (ia l),.x (.int .i64 k)]] [.x (.pointer (some ⟨bd,0,none⟩))] (fun r H'=>∃(s:List UInt8) (k':Nat),r=.sq s.length (u8a s)∧H'=[.box bd [.sq l.length (ia l),.x (.int .i64 k')]]∧s.length≤8∧k'≤l.length):=by
 refine XaE Tryz.func62 rfl ?_
 simp only [Tryz.ntmps62,Xu8,Xvb,Xvc,Xvd,Xvg,Xvf,Nat.reduceAdd,Nat.reduceSub]
 (repeat' (first|with_reducible (first|refine Xai ?_|refine Xac ?_|refine Xas ?_|refine Xae ?_|refine Xaa ?_)|((apply Xad rfl);(case h=>(first|(apply Xab 0 rfl;(first|exact Xar _ rfl|exact Xap _ rfl))|(apply Xab 6 rfl;(exact XaG _ _ _ _ _ rfl rfl XaM.out (by first|(simp [wlq];omega)|fail) (by first|(simp [wlq];omega)|fail)))|(apply Xab 7 rfl;(exact XaI _ _ _ _ _ _ _ _ _ _ rfl rfl rfl HEl.out rfl (by first|omega|fail) (by simp;first|done|fail)))|(apply Xab 12 rfl;(exact Xdp _ _ 5 _ (Xrk.getD v []) rfl (by kernel_rfl) (by kernel_rfl) (by kernel_rfl) (by kernel_rfl) (Xmo rfl hv) (Nat.le_trans (XsX Xrk (fun s=>s.length≤8) (by decide) v hv) (by decide))))|(apply Xab 17 rfl;(exact XbU _ _ _ _ _ _ rfl XaZ.out rfl (by first|rfl|fail) rfl rfl (by decide)))));(case hT=>((try simp only [wtn]);rfl)))|(refine Xah rfl ?_;((refine Xaq 11 rfl ?_;(refine Xak 43 Tryz.f43 [_] _ _ _ rfl rfl Tryz.func43 (by decide) rfl (Xu5 _) (VwL.refl _ _) (XbB _ l k 12 hd hk (by omega) (by omega)) ?_;rintro _ _ ⟨v,k',rfl,rfl,hv,hk'⟩));apply Xag;(case hT=>((try simp only [wtn]);rfl));(case hH=>((try simp only [wtn]);rfl))))|fail))
 refine Xaf _ _ (Xbi rfl (RV.tmp _) (XaH.mk' [] [_] (Xu5 _) (XaB.refl _ _) (VwL.refl _ _))) ⟨Xrk.getD v [],k',rfl,rfl,?_,hk'⟩
 exact XsX Xrk (fun s=>s.length≤8) (by decide) v hv
def XmT:List (List UInt8):=[[111,107],[],[114,46,42,121,36],[94,117,112,124,103,111,43],[91,48,45,57,93,43,120,63],[40,97,98,41,42,99],[94,36]]
theorem XmC:Xa8 Tryz.prog 118 [] [] (fun r H'=>r=.sq 7 (sa XmT)∧H'=[]):=by
 refine XaE Tryz.func118 rfl ?_
 simp only [Tryz.ntmps118,Xvb,Xvc,Xvd,Xvf,Nat.reduceSub]
 (repeat' (first|with_reducible (first|refine Xai ?_|refine Xac ?_|refine Xas ?_|refine Xae ?_|refine Xaa ?_)|((apply Xad rfl);(case h=>(first|(apply Xab 0 rfl;(exact Xap _ rfl))|(apply Xab 17 rfl;(exact XbU _ _ _ _ _ _ rfl XaZ.out rfl (by first|rfl|fail) rfl rfl (by decide)))));(case hT=>((try simp only [wtn]);rfl)))|fail))
 refine Xaf _ _ (Xbi rfl (RV.tmp _) (XaH.mk' [] _ (Xu5 _) (XaB.refl _ _) (VwL.refl _ _))) ?_
 exact ⟨rfl,rfl⟩
def Xs5 (t:Tok):Prop:=t.kind=2→t.text.length≤18∧Xel t.text
theorem Xln {t:Tok} (h:Xs5 t) (hk:t.kind=2):0≤XdN t.text∧XdN t.text < 1000000000000000000:=by
 obtain ⟨h1,h2⟩:=h hk
 have:=XoD t.text h2 t.text.length (Nat.le_refl _)
 rw [List.take_length] at this
 have hpw:=Nat.pow_le_pow_right (n:=10) (by decide) h1
 generalize 10 ^ t.text.length=p at this hpw
 omega
def Xgj (e:EF) (f:UInt8) (t:Tok):EF:=
 if f.toNat=78 then { e with job:=t.text } else if f.toNat=75 then { e with ok:=decide (t.text=wOk) } else if f.toNat=68 then { e with data:=t.text }
 else if f.toNat=84 then { e with time:=if t.kind=2 then XdN t.text else 0 }
 else if f.toNat=67 then { e with code:=if t.kind=2 then XdN t.text else 0 } else if f.toNat=76 then { e with client:=if t.kind=2 then XdN t.text else 0 } else { e with num:=if t.kind=2 then XdN t.text else 0 }
def XbD (f:UInt8) (t:Tok):Bool:=
 if f.toNat=78 then decide (t.kind=1) else if f.toNat=75 then decide (t.kind=1∧(t.text=wOk∨t.text=Xdn)) else if f.toNat=68 then decide (t.kind=3)
 else if f.toNat=84 then decide (t.kind=2) else decide (t.kind=2∧XdN t.text≤999999999)
theorem Xgh (e:EF) (f:UInt8) (t:Tok):XeU e f t=if XbD f t then some (Xgj e f t) else none:=by
 unfold XeU XbD Xgj
 by_cases h1:f.toNat=78
 ·simp [h1]
 by_cases h2:f.toNat=75
 ·simp [h2]
 by_cases h3:f.toNat=68
 ·simp [h3]
 simp only [h1,h2,h3,if_false]
 by_cases hk:t.kind=2
 ·by_cases h4:f.toNat=84
  ·simp [h4,hk]
  ·by_cases hn:XdN t.text≤999999999
   ·by_cases h5:f.toNat=67
    ·simp [h5,hk,hn]<;>skip
    ·by_cases h6:f.toNat=76
     ·simp [h6,hk,hn]<;>skip
     ·simp [h4,h5,h6,hk,hn]<;>skip
   ·simp [h4,hk,hn]<;>skip
 ·by_cases h4:f.toNat=84
  ·simp [h4,hk]
  ·simp [h4,hk]
open Go.RowKit Go.Shelf
theorem XrJ {w:List UInt8} (h:∀i,i < 14→XcU.getD i []≠w):XiK w=none:=by
 unfold XiK
 rw [if_neg]
 intro hm
 obtain ⟨i,hi,e⟩:=List.mem_iff_getElem.1 hm
 exact h i hi (by rw [List.getD_eq_getElem?_getD,List.getElem?_eq_getElem hi];exact e)
theorem XrH {w:List UInt8} {k:Nat} (hk:k < 14) (h:XcU.getD k []=w):XiK w=some k:=by
 unfold XiK
 subst h
 match k,hk with
 | 0,_=>decide
 | 1,_=>decide
 | 2,_=>decide
 | 3,_=>decide
 | 4,_=>decide
 | 5,_=>decide
 | 6,_=>decide
 | 7,_=>decide
 | 8,_=>decide
 | 9,_=>decide
 | 10,_=>decide
 | 11,_=>decide
 | 12,_=>decide
 | 13,_=>decide
def XrP:Option EF→AV
 | some e=>.tup [.agg e.cells,.x (.bool true)]
 | none=>.tup [.x (.agg #[.int .i64 0,.string (bs []),.bool false,.int .i64 0,.slice none 0 0,.int .u64 0,.int .i64 0,.int .i64 0]),.x (.bool false)]
theorem Xpj (l:List Tok) (k:Nat) (h:k < l.length):(ta l).drop (k*4)=.x (.int .i64 l[k].kind) :: .x (.string (bs l[k].text)) :: .x (.int .i64 (l[k].line:Nat)) :: .x (.int .i64 (l[k].col:Nat)) :: ta (l.drop (k+1)):=XeD l k h
theorem XbX (v:Nat):(v:Int)+1=((v+1:Nat):Int):=by omega
theorem XiJ (e:EF) (fs:List UInt8) (ts:List Tok) (i:Nat) (h1:i < fs.length) (h2:i < ts.length):Xci e (fs.drop i) (ts.drop i)=(XeU e fs[i] ts[i]).bind fun e=>Xci e (fs.drop (i+1)) (ts.drop (i+1)):=by
 rw [List.drop_eq_getElem_cons h1,List.drop_eq_getElem_cons h2];rfl
theorem XiI {l:List Tok} (h1:1≤l.length) (h:l[0].kind=1→∀i,i < 14→XcU.getD i []≠l[0].text):Xcz l=none:=by
 cases l with
 | nil=>simp at h1
 | cons t r=>
   unfold Xcz
   simp only [List.getElem_cons_zero] at h ⊢
   by_cases hk:t.kind=1
   ·rw [if_neg (fun q=>q hk),XrJ (h hk)]
   ·rw [if_pos hk]
theorem Xgg {l:List Tok} (h1:1≤l.length) (hk:l[0].kind=1) {k:Nat} (h14:k < 14) (hw:XcU.getD k []=l[0].text):Xcz l=if l.length≠(Xa6.getD k []).length+1 then none else Xci (ev0 (k+1:Nat)) (Xa6.getD k []) (l.drop 1):=by
 cases l with
 | nil=>simp at h1
 | cons t r=>
   unfold Xcz
   simp only [List.getElem_cons_zero] at hk hw ⊢
   rw [if_neg (fun q=>q hk),XrH h14 hw]
   simp only [Xu8,List.drop_succ_cons,List.drop_zero]
   by_cases he:r.length=(Xa6.getD k []).length
   ·rw [if_neg (fun q=>q he),if_neg (by omega)]
   ·rw [if_pos he,if_pos (by omega)]
theorem Xny {k:Nat} (h:k < 14):(Xa6.getD k []).length≤2:=by
 match k,h with
 | 0,_=>decide
 | 1,_=>decide
 | 2,_=>decide
 | 3,_=>decide
 | 4,_=>decide
 | 5,_=>decide
 | 6,_=>decide
 | 7,_=>decide
 | 8,_=>decide
 | 9,_=>decide
 | 10,_=>decide
 | 11,_=>decide
 | 12,_=>decide
 | 13,_=>decide
end Go.Proofs.YtdpobjakdplljaaGreatDoor

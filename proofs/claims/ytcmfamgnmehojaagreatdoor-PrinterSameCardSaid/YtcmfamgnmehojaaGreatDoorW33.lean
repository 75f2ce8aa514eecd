import Derived.Test.YtcmfamgnmehojaaGreatDoorW28
import Derived.Test.YtcmfamgnmehojaaGreatDoorW29
import Derived.Test.YtcmfamgnmehojaaGreatDoorW32
import Derived.Test.YtcmfamgnmehojaaGreatDoorW9
import Derived.Test.YtcmfamgnmehojaaGreatDoorW10
import Derived.Test.YtcmfamgnmehojaaGreatDoorW19
import Derived.Test.YtcmfamgnmehojaaGreatDoorW15
/- The program's parser: Parse. -/
set_option linter.unusedSimpArgs false
set_option linter.unusedVariables false
set_option maxRecDepth 100000
set_option maxHeartbeats 8000000
namespace Go.Proofs.YtcmfamgnmehojaaGreatDoor
open Go.RowKit
theorem Xm3 {p:UInt8→Bool} {c:UInt8} {r:List UInt8} (h:p c=true):1≤spn p (c :: r):=by rw [Xd6 p c r h];omega
theorem Xk5 {l:List UInt8} {a:Int} {t:List UInt8} {m:Nat} (h:one l=.ok (a,t,m)):a=2→1≤t.length:=by
 intro h2
 subst h2
 cases l with
 | nil=>cases h
 | cons c r=>
   unfold one at h
   simp only at h
   split at h
   ·cases h
   ·split at h
    ·rename_i hd
     split at h
     ·cases h
     ·cases h
      have:=Xm3 (r:=r) hd
      rw [List.length_take]
      have:=Xh2 XbC (c :: r)
      omega
    ·split at h
     ·split at h<;>cases h
     ·split at h
      ·split at h<;>cases h
      ·split at h<;>cases h
theorem Xm8 {s:List UInt8} {ts:List Tok} (h:lex s=.ok ts):XiJ ts:=by
 obtain ⟨hp,hn,hv,-,hle⟩:=(XdP s).2 ts h
 obtain ⟨hN,hS⟩:=Xiz s ts h
 refine ⟨by omega,hv,?_,hS⟩
 have h1:∀t∈ts,t.kind=2→1≤t.text.length:=by
  unfold lex at h
  split at h
  ·cases h
  ·exact XeU (P:=fun t=>t.kind=2→1≤t.text.length) (fun p q h=>by simp at h) (fun l a t m h p q=>Xk5 h) s.length (1,1) 0 s ts (Nat.le_refl _) h
 exact fun t ht h2=>⟨h1 t ht h2,(hN t ht h2).1,(hN t ht h2).2⟩
theorem Xiw (s:List UInt8) (hl:s.length≤1000000) (f:Flt) (hx:lex s=.error f):Xbv Tryz.prog 10 [] [.x (.string (bs s))] (fun r H'=>r=XnM (Xcz s)∧H'=[]):=by
 have hall:=XlN s hl
 have hf0:=(XdP s).1 f hx
 have hg:Xcz s=.error f:=by simp only [Xcz,hx]
 rw [hg]
 rw [hx] at hall
 simp only [Xh4,Xml,Flt.av] at hall
 clear hx hg
 refine Xhw Tryz.func10 rfl ?_
 simp only [Tryz.ntmps10,Xpq,Xpt,Xpu,Xpv,Xpy,Xpx,Nat.reduceAdd,Nat.reduceSub]
 refine Xdg ?_
 (repeat' (first|with_reducible (first|refine Xac ?_|refine Xaf ?_|refine Xaa ?_)|(refine Xak rfl ?_;((refine Xap 14 rfl ?_;(refine XaQ _ _ rfl XbK.out rfl (fun b=>?_)));apply Xai;(case hT=>((try simp only [wtn,Xpr,Xpo,Xpp,Xps,Xpw,Nat.reduceAdd,Nat.reduceMul,Nat.reduceSub,↓reduceIte,Nat.reduceEqDiff]);rfl));(case hH=>((try simp only [wtn,Xpr,Xpo,Xpp,Xps,Xpw,Nat.reduceAdd,Nat.reduceMul,Nat.reduceSub,↓reduceIte,Nat.reduceEqDiff]);rfl))))|fail))
 refine Xdg ?_
 (repeat' (first|with_reducible (first|refine Xac ?_|refine Xaf ?_|refine Xaa ?_)|((apply Xad rfl);(case h=>((try (intro (hp:(_:Bool)=true);((try simp only [Bool.and_eq_true,Bool.not_eq_true',Bool.not_eq_true] at hp);(try simp only [hp,wte]);(try simp only [whn] at hp))));(first|(apply Xab 0 rfl;(first|exact Xar _ rfl|exact Xav _ rfl))|(apply Xab 2 rfl;(exact Xa9 _ _ _ _ rfl rfl rfl))|(apply Xab 11 rfl;(exact XaE 18 Tryz.f18 _ _ rfl rfl Tryz.func18 (by decide) rfl (VwL.refl _ _) (hall))))));(case hT=>((try simp only [wtn,Xpr,Xpo,Xpp,Xps,Xpw,Nat.reduceAdd,Nat.reduceMul,Nat.reduceSub,↓reduceIte,Nat.reduceEqDiff]);rfl)))|(refine Xak rfl ?_;((refine Xap 16 rfl ?_;(refine Xat _ _ _ _ _ _ _ rfl rfl Xa0.out XaS.out (by first|rfl|fail) (by first|exact Xpm rfl|fail) ?_));apply Xai;(case hT=>((try simp only [wtn,Xpr,Xpo,Xpp,Xps,Xpw,Nat.reduceAdd,Nat.reduceMul,Nat.reduceSub,↓reduceIte,Nat.reduceEqDiff]);rfl));(case hH=>((try simp only [wtn,Xpr,Xpo,Xpp,Xps,Xpw,Nat.reduceAdd,Nat.reduceMul,Nat.reduceSub,↓reduceIte,Nat.reduceEqDiff]);rfl))))|fail))
 refine Xdg ?_
 (repeat' (first|with_reducible (first|refine Xaj ?_|refine Xac ?_|refine Xaf ?_|refine Xaa ?_)|(refine Xal _ rfl (fun h=>?_) (fun h=>?_)<;>((try (simp only [whn] at h));first|(exfalso;omega;done)|skip))|((apply Xad rfl);(case h=>((try (intro (hp:(_:Bool)=true);((try simp only [Bool.and_eq_true,Bool.not_eq_true',Bool.not_eq_true] at hp);(try simp only [hp,wte]);(try simp only [whn] at hp))));(first|(apply Xab 5 rfl;(exact Xag _ _ _ _ _ _ rfl rfl Xbb.out))|(apply Xab 6 rfl;(exact Xay _ _ _ _ _ _ _ _ rfl rfl Xa0.out XaT.out (by first|exact Xpm rfl|fail) (by first|exact Xpm rfl|fail)))|(apply XaJ;(case hs=>(intro _ _ h;cases h));(case hx=>rfl);(case hrun=>(intro w;simp [wtb,AV.val,go_sem];(try go_bits);rfl))))));(case hT=>((try simp only [wtn,Xpr,Xpo,Xpp,Xps,Xpw,Nat.reduceAdd,Nat.reduceMul,Nat.reduceSub,↓reduceIte,Nat.reduceEqDiff]);rfl)))|fail))
 refine Xch mixed ?_
 refine Xi6 0 1 (by decide +kernel) rfl rfl rfl rfl ?_ ?_
 ·(first|(apply XaU;(case h=>(apply Xab 6 rfl;(exact Xay _ _ _ _ _ _ _ _ rfl rfl Xa0.out XaT.out (by first|exact Xpm rfl|fail) (by first|exact Xpm rfl|fail))));(apply Xao;(case hT=>((try simp only [wtn,Xpr,Xpo,Xpp,Xps,Xpw,Nat.reduceAdd,Nat.reduceMul,Nat.reduceSub,↓reduceIte,Nat.reduceEqDiff]);rfl));(case hH=>rfl)))|fail)
  (refine Xbw 1 (by decide +kernel) rfl rfl ?_;(first|((refine Xap 16 rfl ?_;(refine Xat _ _ _ _ _ _ _ rfl rfl Xa0.out XaS.out (by first|rfl|fail) (by first|exact Xpm rfl|fail) ?_));apply Xao;(case hT=>((try simp only [wtn,Xpr,Xpo,Xpp,Xps,Xpw,Nat.reduceAdd,Nat.reduceMul,Nat.reduceSub,↓reduceIte,Nat.reduceEqDiff]);rfl));(case hH=>((try simp only [wtn,Xpr,Xpo,Xpp,Xps,Xpw,Nat.reduceAdd,Nat.reduceMul,Nat.reduceSub,↓reduceIte,Nat.reduceEqDiff]);rfl)))|fail))
  (refine Xbw 2 (by decide +kernel) rfl rfl ?_;(first|((refine Xap 16 rfl ?_;(refine Xat _ _ _ _ _ _ _ rfl rfl Xa0.out XaS.out (by first|rfl|fail) (by first|exact Xpm rfl|fail) ?_));apply Xao;(case hT=>((try simp only [wtn,Xpr,Xpo,Xpp,Xps,Xpw,Nat.reduceAdd,Nat.reduceMul,Nat.reduceSub,↓reduceIte,Nat.reduceEqDiff]);rfl));(case hH=>((try simp only [wtn,Xpr,Xpo,Xpp,Xps,Xpw,Nat.reduceAdd,Nat.reduceMul,Nat.reduceSub,↓reduceIte,Nat.reduceEqDiff]);rfl)))|fail))
  refine XaV (by decide +kernel) ?_
  (repeat' (first|with_reducible (first|refine Xaw ?_|refine Xaa ?_|refine XaA ?_)|fail))
  refine Xan _ _ (Xe9 rfl (RV.cell 1 rfl rfl XaT.out (by simp) (by simp)) (RV.cell 0 rfl rfl XaT.out (by simp) (by simp)) (XaK.mk' [_,_] [] (Xpn _) XaI.nil (VwL.cons Vw.nil (VwL.refl _ _)))) ⟨?_,rfl⟩
  rfl
 ·(first|((refine Xap 16 rfl ?_;(refine Xat _ _ _ _ _ _ _ rfl rfl Xa0.out XaS.out (by first|rfl|fail) (by first|exact Xpm rfl|fail) ?_));apply Xao;(case hT=>((try simp only [wtn,Xpr,Xpo,Xpp,Xps,Xpw,Nat.reduceAdd,Nat.reduceMul,Nat.reduceSub,↓reduceIte,Nat.reduceEqDiff]);rfl));(case hH=>((try simp only [wtn,Xpr,Xpo,Xpp,Xps,Xpw,Nat.reduceAdd,Nat.reduceMul,Nat.reduceSub,↓reduceIte,Nat.reduceEqDiff]);rfl)))|fail)
  (refine Xbw 0 (by decide +kernel) rfl rfl ?_;(first|(apply XaU;(case h=>(apply Xab 6 rfl;(exact Xay _ _ _ _ _ _ _ _ rfl rfl Xa0.out XaT.out (by first|exact Xpm rfl|fail) (by first|exact Xpm rfl|fail))));(apply Xao;(case hT=>((try simp only [wtn,Xpr,Xpo,Xpp,Xps,Xpw,Nat.reduceAdd,Nat.reduceMul,Nat.reduceSub,↓reduceIte,Nat.reduceEqDiff]);rfl));(case hH=>rfl)))|fail))
  (refine Xbw 2 (by decide +kernel) rfl rfl ?_;(first|((refine Xap 16 rfl ?_;(refine Xat _ _ _ _ _ _ _ rfl rfl Xa0.out XaS.out (by first|rfl|fail) (by first|exact Xpm rfl|fail) ?_));apply Xao;(case hT=>((try simp only [wtn,Xpr,Xpo,Xpp,Xps,Xpw,Nat.reduceAdd,Nat.reduceMul,Nat.reduceSub,↓reduceIte,Nat.reduceEqDiff]);rfl));(case hH=>((try simp only [wtn,Xpr,Xpo,Xpp,Xps,Xpw,Nat.reduceAdd,Nat.reduceMul,Nat.reduceSub,↓reduceIte,Nat.reduceEqDiff]);rfl)))|fail))
  refine XaV (by decide +kernel) ?_
  (repeat' (first|with_reducible (first|refine Xaw ?_|refine Xaa ?_|refine XaA ?_)|fail))
  refine Xan _ _ (Xe9 rfl (RV.cell 1 rfl rfl XaT.out (by simp) (by simp)) (RV.cell 0 rfl rfl XaT.out (by simp) (by simp)) (XaK.mk' [_,_] [] (Xpn _) XaI.nil (VwL.cons Vw.nil (VwL.refl _ _)))) ⟨?_,rfl⟩
  rfl
theorem Xns (n:Nat):decide ((32:Int)≤(n:Int))=decide (32≤n):=decide_eq_decide.2 (by omega)
theorem Xjw (s:List UInt8) (hl:s.length≤1000000) (ts:List Tok) (hx:lex s=.ok ts):Xbv Tryz.prog 10 [] [.x (.string (bs s))] (fun r H'=>r=XnM (Xcz s)∧H'=[]):=by
 have hall:=XlN s hl
 obtain ⟨hp,hn,-⟩:=(XdP s).2 ts hx
 have hT:=Xm8 hx
 have hg:Xcz s=Xdo ts 0 []:=by simp only [Xcz,hx]
 rw [hg]
 rw [hx] at hall
 simp only [Xh4,Xml,Flt.av] at hall
 clear hx hg
 refine Xhw Tryz.func10 rfl ?_
 simp only [Tryz.ntmps10,Xpq,Xpt,Xpu,Xpv,Xpy,Xpx,Nat.reduceAdd,Nat.reduceSub]
 refine Xdg ?_
 (repeat' (first|with_reducible (first|refine Xac ?_|refine Xaf ?_|refine Xaa ?_)|(refine Xak rfl ?_;((refine Xap 14 rfl ?_;(refine XaQ _ _ rfl XbK.out rfl (fun b=>?_)));apply Xai;(case hT=>((try simp only [wtn,Xpr,Xpo,Xpp,Xps,Xpw,Nat.reduceAdd,Nat.reduceMul,Nat.reduceSub,↓reduceIte,Nat.reduceEqDiff]);rfl));(case hH=>((try simp only [wtn,Xpr,Xpo,Xpp,Xps,Xpw,Nat.reduceAdd,Nat.reduceMul,Nat.reduceSub,↓reduceIte,Nat.reduceEqDiff]);rfl))))|fail))
 refine Xdg ?_
 (repeat' (first|with_reducible (first|refine Xac ?_|refine Xaf ?_|refine Xaa ?_)|((apply Xad rfl);(case h=>((try (intro (hp:(_:Bool)=true);((try simp only [Bool.and_eq_true,Bool.not_eq_true',Bool.not_eq_true] at hp);(try simp only [hp,wte]);(try simp only [whn] at hp))));(first|(apply Xab 0 rfl;(first|exact Xar _ rfl|exact Xav _ rfl))|(apply Xab 2 rfl;(exact Xa9 _ _ _ _ rfl rfl rfl))|(apply Xab 11 rfl;(exact XaE 18 Tryz.f18 _ _ rfl rfl Tryz.func18 (by decide) rfl (VwL.refl _ _) (hall))))));(case hT=>((try simp only [wtn,Xpr,Xpo,Xpp,Xps,Xpw,Nat.reduceAdd,Nat.reduceMul,Nat.reduceSub,↓reduceIte,Nat.reduceEqDiff]);rfl)))|(refine Xak rfl ?_;((refine Xap 16 rfl ?_;(refine Xat _ _ _ _ _ _ _ rfl rfl Xa0.out XaS.out (by first|rfl|fail) (by first|exact Xpm rfl|fail) ?_));apply Xai;(case hT=>((try simp only [wtn,Xpr,Xpo,Xpp,Xps,Xpw,Nat.reduceAdd,Nat.reduceMul,Nat.reduceSub,↓reduceIte,Nat.reduceEqDiff]);rfl));(case hH=>((try simp only [wtn,Xpr,Xpo,Xpp,Xps,Xpw,Nat.reduceAdd,Nat.reduceMul,Nat.reduceSub,↓reduceIte,Nat.reduceEqDiff]);rfl))))|fail))
 refine Xdg ?_
 (repeat' (first|with_reducible (first|refine Xaj ?_|refine Xac ?_|refine Xaz ?_|refine Xaf ?_|refine Xaa ?_)|(refine Xal _ rfl (fun h=>?_) (fun h=>?_)<;>first|(exact absurd h (by decide))|((try (simp only [whn] at h));skip))|((apply Xad rfl);(case h=>((try (intro (hp:(_:Bool)=true);((try simp only [Bool.and_eq_true,Bool.not_eq_true',Bool.not_eq_true] at hp);(try simp only [hp,wte]);(try simp only [whn] at hp))));(first|(apply Xab 5 rfl;(exact Xag _ _ _ _ _ _ rfl rfl Xbb.out))|(apply Xab 6 rfl;(exact Xay _ _ _ _ _ _ _ _ rfl rfl Xa0.out XaT.out (by first|exact Xpm rfl|fail) (by first|exact Xpm rfl|fail)))|(apply XaJ;(case hs=>(intro _ _ h;cases h));(case hx=>rfl);(case hrun=>(intro w;simp [wtb,AV.val,go_sem];(try go_bits);rfl))))));(case hT=>((try simp only [wtn,Xpr,Xpo,Xpp,Xps,Xpw,Nat.reduceAdd,Nat.reduceMul,Nat.reduceSub,↓reduceIte,Nat.reduceEqDiff]);rfl)))|fail))
 refine XgU (l:=[_,_]) ?_
 rename_i b2
 obtain ⟨b3,rfl⟩:∃x,x=b:=⟨b,rfl⟩
 refine Xjd (T':=_) rfl (.x (.func (.func 19) #[] #[.pointer (some ⟨b2,0,none⟩),.pointer (some ⟨b3,0,none⟩)])) ?h rfl ?_
 case h=>(apply XaJ;(case hs=>(intro _ _ h;cases h));(case hx=>rfl);(case hrun=>(intro w;simp [wtb,AV.val,go_sem];try rfl)))
 simp only [XbH,XpB,XpC]
 refine XgT rfl rfl rfl rfl rfl ?_
 refine Xje ?_
 simp only
 refine Xl8 ?_
 refine XbT 34 15 ?_
 (repeat' (first|with_reducible (first|refine Xaj ?_|refine Xac ?_|refine Xas ?_|refine Xaf ?_|refine Xaa ?_)|((apply Xad rfl);(case h=>((try (intro (hp:(_:Bool)=true);((try simp only [Bool.and_eq_true,Bool.not_eq_true',Bool.not_eq_true] at hp);(try simp only [hp,wte]);(try simp only [whn] at hp))));(first|(apply Xab 0 rfl;(first|exact Xar _ rfl|exact Xav _ rfl))|(apply Xab 10 rfl;(exact XaZ _ _ _ _ _ rfl HPl.out (by first|rfl|fail) rfl)))));(case hT=>((try simp only [wtn,Xpr,Xpo,Xpp,Xps,Xpw,Nat.reduceAdd,Nat.reduceMul,Nat.reduceSub,↓reduceIte,Nat.reduceEqDiff]);rfl)))|(refine Xak rfl ?_;((refine Xap 15 rfl ?_;(refine XbB _ _ rfl (by first|rfl|fail) (fun b=>?_)));apply Xai;(case hT=>((try simp only [wtn,Xpr,Xpo,Xpp,Xps,Xpw,Nat.reduceAdd,Nat.reduceMul,Nat.reduceSub,↓reduceIte,Nat.reduceEqDiff]);rfl));(case hH=>((try simp only [wtn,Xpr,Xpo,Xpp,Xps,Xpw,Nat.reduceAdd,Nat.reduceMul,Nat.reduceSub,↓reduceIte,Nat.reduceEqDiff]);rfl))))|fail))
 obtain ⟨pb,rfl⟩:∃x,x=b:=⟨b,rfl⟩
 apply Xbn (S:=Nat × List JF × Option Addr × Nat) (fun q=>frm 33 [(2,.x (.pointer (some ⟨b2,0,none⟩))),(3,.x (.pointer (some ⟨b3,0,none⟩))),(5,.x (.pointer (some ⟨pb,0,none⟩)))])
  (fun q=>[.box pb (tc ts q.1),.box b2 [.x (.slice q.2.2.1 q.2.1.length q.2.2.2)],.row q.2.2.1 q.2.1.length q.2.2.2 34 15 (jfa q.2.1),.box b3 [.x (.int .i64 0),.x (.int .i64 0),.x (.int .i64 0)]])
  (fun q=>q.1 < ts.length∧q.2.1.length≤q.1∧Xdo ts q.1 q.2.1=Xdo ts 0 []) (fun q=>ts.length - q.1) (0,[],none,0)
 case h0=>exact XaK.mk' [] [.box pb _,.box b2 _,.row none 0 0 _ _ _,.box b3 _] (by (repeat' (first|exact Xpn _|refine XpD _ ?_|refine (XpA (l₁:=[_,_])).trans (XpD _ ?_)|fail))) (XaI.refl _ _) (by (repeat' (first|exact VwL.nil|(refine VwL.cons ?_ ?_)|exact Vw.refl _|exact Vw.top _|fail)))
 case hi=>exact ⟨hp,Nat.zero_le _,rfl⟩
 rintro ⟨kk,js,ad,cap⟩ ⟨g1,g4,g6⟩
 simp only at g1 g4 g6
 have g6':=Lib.hid g6
 clear g6
 have hPk:=XhR ts kk g1 hT.len
 unfold Tok.av at hPk
 have hJ:=XoI pb ts kk (decide ((32:Int)≤(js.length:Int))) g1 hT
 simp only [tc] at hJ hPk ⊢
 simp only [frm,Xpu,Xpv,Xpo,Xpp,XpB,XpC]
 (repeat' (first|with_reducible (first|refine Xaj ?_|refine Xac ?_|refine Xas ?_|refine Xaw ?_|refine Xaz ?_|refine Xa4 ?_|refine Xaf ?_|refine Xaa ?_|refine XaO ?_|refine XaH ?_)|(refine Xal _ rfl (fun h=>?_) (fun h=>?_)<;>((try (simp only [whn] at h));skip))|((apply Xad rfl);(case h=>((try (intro (hp:(_:Bool)=true);((try simp only [Bool.and_eq_true,Bool.not_eq_true',Bool.not_eq_true] at hp);(try simp only [hp,wte]);(try simp only [whn] at hp))));(first|(apply Xab 0 rfl;(exact Xar _ rfl))|(apply Xab 6 rfl;(exact Xay _ _ _ _ _ _ _ _ rfl rfl Xa0.out XaT.out (by first|exact Xpm rfl|fail) (by first|exact Xpm rfl|fail)))|(apply Xab 10 rfl;(exact XaZ _ _ _ _ _ rfl HPl.out (by first|rfl|fail) rfl))|(apply Xab 11 rfl;(exact Xca 20 Tryz.f20 _ _ rfl rfl Tryz.func20 (by decide) rfl (by (repeat' (first|exact VwL.nil|(refine VwL.cons ?_ ?_)|exact Vw.box (List.Mem.head _) (VwL.refl _ _)|fail));done) (hPk)))|(apply Xab 12 rfl;(exact XlZ _ _ _ _ _ _ _ rfl rfl HFv.out (by first|(simp;done)|fail) (by first|(simp;done)|fail)))|(apply XaJ;(case hs=>(intro _ _ h;cases h));(case hx=>rfl);(case hrun=>(intro w;simp [wtb,AV.val,go_sem];(try go_bits);rfl))))));(case hT=>((try simp only [wtn,Xpr,Xpo,Xpp,Xps,Xpw,Nat.reduceAdd,Nat.reduceMul,Nat.reduceSub,↓reduceIte,Nat.reduceEqDiff]);rfl)))|(refine Xak rfl ?_;((refine Xap 16 rfl ?_;(refine Xat _ _ _ _ _ _ _ rfl rfl Xa0.out XaS.out (by first|rfl|fail) (by first|exact Xpm rfl|fail) ?_));apply Xai;(case hT=>((try simp only [wtn,Xpr,Xpo,Xpp,Xps,Xpw,Nat.reduceAdd,Nat.reduceMul,Nat.reduceSub,↓reduceIte,Nat.reduceEqDiff]);rfl));(case hH=>((try simp only [wtn,Xpr,Xpo,Xpp,Xps,Xpw,Nat.reduceAdd,Nat.reduceMul,Nat.reduceSub,↓reduceIte,Nat.reduceEqDiff]);rfl))))|fail))
 ·have hk6:(tkA ts kk).kind≠6:=by rw [Xba g1];exact h
  refine XkE (X:=XmT [(2,.x (.pointer (some ⟨b2,0,none⟩))),(3,.x (.pointer (some ⟨b3,0,none⟩)))] fun c H=>∃f,c=Xku (fv f)∧Xdo ts 0 []=.error f∧∃R:List Hp,H.Perm ([.box b2 [.x (.slice ad js.length cap)],.box b3 [.x (.int .i64 0),.x (.int .i64 0),.x (.int .i64 0)]]++R)) ?_ ?_
  ·refine Xbl mixed [8] [.box b2 _] [.box pb _,.row ad _ _ _ _ _,.box b3 _] (by (repeat' (first|exact Xpn _|refine (XpA (l₁:=[_])).trans (XpD _ ?_)|fail))) ?_
   (first|refine XeC 0 rfl rfl (by kernel_rfl) (fun _ _ _ hp=>XdS rfl hp) _ _ _ _ _ _ _ _ rfl rfl Xa0.out XaT.out (by first|exact Xpm rfl|fail) (by first|exact Xpm rfl|fail) ?_|fail);(apply Xae;(case hT=>((try simp only [wtn,Xpr,Xpo,Xpp,Xps,Xpw,Nat.reduceAdd,Nat.reduceMul,Nat.reduceSub,↓reduceIte,Nat.reduceEqDiff]);rfl));(case hH=>rfl));(first|(apply Xdv 1 rfl rfl (by kernel_rfl) (fun _ _ _ hp=>XdS rfl hp);(case h=>(exact Xbc _ rfl)))|fail);(apply Xae;(case hT=>((try simp only [wtn,Xpr,Xpo,Xpp,Xps,Xpw,Nat.reduceAdd,Nat.reduceMul,Nat.reduceSub,↓reduceIte,Nat.reduceEqDiff]);rfl));(case hH=>rfl));(first|refine XeC 2 rfl rfl (by kernel_rfl) (fun _ _ _ hp=>XdS rfl hp) _ _ _ _ _ _ _ _ rfl rfl Xa0.out XaT.out (by first|exact Xpm rfl|fail) (by first|exact Xpm rfl|fail) ?_|fail);(apply Xae;(case hT=>((try simp only [wtn,Xpr,Xpo,Xpp,Xps,Xpw,Nat.reduceAdd,Nat.reduceMul,Nat.reduceSub,↓reduceIte,Nat.reduceEqDiff]);rfl));(case hH=>rfl));(first|(apply Xdv 3 rfl rfl (by kernel_rfl) (fun _ _ _ hp=>XdS rfl hp);(case h=>(apply Xly;(case hs=>(intro _ _ h;cases h));(case hx=>rfl);(case hrun=>(intro w;simp [wtb,AV.val,go_sem];(try go_bits);rfl)))))|fail);(apply Xae;(case hT=>((try simp only [wtn,Xpr,Xpo,Xpp,Xps,Xpw,Nat.reduceAdd,Nat.reduceMul,Nat.reduceSub,↓reduceIte,Nat.reduceEqDiff]);rfl));(case hH=>rfl));(first|(apply Xdv 4 rfl rfl (by kernel_rfl) (fun _ _ _ hp=>XdS rfl hp);(case h=>(apply Xly;(case hs=>(intro _ _ h;cases h));(case hx=>rfl);(case hrun=>(intro w;simp [wtb,AV.val,go_sem];(try go_bits);rfl)))))|fail);(apply Xae;(case hT=>((try simp only [wtn,Xpr,Xpo,Xpp,Xps,Xpw,Nat.reduceAdd,Nat.reduceMul,Nat.reduceSub,↓reduceIte,Nat.reduceEqDiff]);rfl));(case hH=>rfl))
   (first|(refine XcE 5 (by decide +kernel) rfl rfl ?_;refine XaG 21 Tryz.f21 [.box pb _] _ _ _ _ rfl rfl Tryz.func21 (by decide) rfl (Xpn _) (VwL.refl _ _) (hJ) ?_ ?_;(case' refine_1=>(rintro _ _ ⟨j1,k1,rfl,rfl,hx,hk2,hj2,hk3⟩;(apply Xae;(case hT=>((try simp (disch:=omega) only [wtn,JF.cells,Xpr,Xpo,Xpp,Xps,Xpw,Nat.reduceAdd,Nat.reduceMul,Nat.reduceSub,↓reduceIte,Nat.reduceEqDiff]);rfl));(case hH=>((try simp (disch:=omega) only [wtn,JF.cells,Xpr,Xpo,Xpp,Xps,Xpw,Nat.reduceAdd,Nat.reduceMul,Nat.reduceSub,↓reduceIte,Nat.reduceEqDiff]);rfl)))));(case' refine_2=>(rintro _ Hq ⟨f,hx,rfl⟩)))|fail)
   ·refine ⟨⟨f,rfl,g6'.out.symm.trans (Xjs hk6 (by rw [←Xns];exact hx)),Hq++[.row ad js.length cap 34 15 (jfa js)],?_⟩,?_⟩
    ·refine List.Perm.trans (List.Perm.of_eq ?_) (XpD _ (List.perm_append_comm (l₁:=Hq++[.row ad js.length cap 34 15 (jfa js)]) (l₂:=[.box b3 [.x (.int .i64 0),.x (.int .i64 0),.x (.int .i64 0)]])))
     simp
    ·intro p hp
     simp only [List.mem_cons,List.not_mem_nil,or_false] at hp
     rcases hp with rfl|rfl<;>rfl
   ·(refine XaY 6 (by decide +kernel) rfl rfl ?_;(first|((refine Xap 17 rfl ?_;(refine XaF _ _ _ _ _ _ _ _ rfl Xa6.out (by first|rfl|fail) rfl (by decide) rfl (fun b=>?_)));apply Xae;(case hT=>((try simp (disch:=omega) only [wtn,JF.cells,Xpr,Xpo,Xpp,Xps,Xpw,Nat.reduceAdd,Nat.reduceMul,Nat.reduceSub,↓reduceIte,Nat.reduceEqDiff]);rfl));(case hH=>((try simp (disch:=omega) only [wtn,JF.cells,Xpr,Xpo,Xpp,Xps,Xpw,Nat.reduceAdd,Nat.reduceMul,Nat.reduceSub,↓reduceIte,Nat.reduceEqDiff]);rfl)))|fail))
    (refine XaY 7 (by decide +kernel) rfl rfl ?_;(first|((refine Xap 13 rfl ?_;(refine XaL _ _ _ _ _ _ _ _ _ _ _ _ _ _ rfl rfl XbA.out (Src.row _ rfl XbA.out) Xa6.out (by first|rfl|fail) (Xdj _ _ (by omega) (by decide)) (fun ad cap=>?_)));apply Xae;(case hT=>((try simp (disch:=omega) only [wtn,JF.cells,Xpr,Xpo,Xpp,Xps,Xpw,Nat.reduceAdd,Nat.reduceMul,Nat.reduceSub,↓reduceIte,Nat.reduceEqDiff]);rfl));(case hH=>((try simp (disch:=omega) only [wtn,JF.cells,Xpr,Xpo,Xpp,Xps,Xpw,Nat.reduceAdd,Nat.reduceMul,Nat.reduceSub,↓reduceIte,Nat.reduceEqDiff]);rfl)))|fail))
    refine Xbu (by decide +kernel) ?_
    refine Xao rfl (by simp only [Xpy,Xpx];rfl) ?_
    (refine Xbw 8 (by decide +kernel) rfl rfl ?_;(first|((refine Xap 16 rfl ?_;(refine Xat _ _ _ _ _ _ _ rfl rfl Xa0.out XaS.out (by first|rfl|fail) (by first|exact Xpm rfl|fail) ?_));apply Xao;(case hT=>((try simp only [wtn,Xpr,Xpo,Xpp,Xps,Xpw,Nat.reduceAdd,Nat.reduceMul,Nat.reduceSub,↓reduceIte,Nat.reduceEqDiff]);rfl));(case hH=>((try simp only [wtn,Xpr,Xpo,Xpp,Xps,Xpw,Nat.reduceAdd,Nat.reduceMul,Nat.reduceSub,↓reduceIte,Nat.reduceEqDiff]);rfl)))|fail))
    refine XaV (by decide +kernel) ?_
    refine Xhd ?_
    (repeat' (first|with_reducible (first|refine Xaa ?_|refine Xah ?_)|fail))
    refine ⟨(k1,js++[j1],ad,cap),by simp only;omega,⟨hk2,by simp only [Xpz,Xpq,Xpt];omega,?_⟩,?_⟩
    ·rw [←g6'.out]
     exact (Xiu (x:=(j1,k1)) hk6 (by rw [←Xns];exact hx) ⟨hk3,g1⟩).symm
    ·simp only [Xmt,Xpz,Xpq,Xpt]
     exact XaK.mk' [.row (some ⟨b,0,none⟩) _ _ _ _ _] [.box pb _,.box b2 _,.row ad _ cap _ _ _,.box b3 _] (by (repeat' (first|exact Xpn _|refine (XpA (l₁:=[_])).trans (XpD _ ?_)|fail))) (XaI.refl _ _) (by (repeat' (first|exact VwL.nil|(refine VwL.cons ?_ ?_)|exact Vw.refl _|exact Vw.top _|fail)))
  ·rintro ch T H ⟨⟨f,rfl,hg,R,hpm⟩,hs⟩
   (repeat (with_reducible first|refine Xam ?_|refine Xa5 ?_|fail))
   have h2:=hs (2,_) (List.Mem.head _)
   have h3:=hs (3,_) (List.Mem.tail _ (List.Mem.head _))
   simp only at h2 h3
   rw [hg]
   refine ⟨.panicking (Xku (fv f)),.panicking [{ v:=fv f,recovered:=true }],19,.func 19,#[.pointer (some ⟨b2,0,none⟩),.pointer (some ⟨b3,0,none⟩)],#[],[.pointer (some ⟨b2,0,none⟩),.pointer (some ⟨b3,0,none⟩)],[.box b2 _,.box b3 _],R,_,.inr (.inr ⟨_,rfl,rfl⟩),rfl,hpm,rfl,fun w=>by simp [go_sem],Xl9 b2 b3 _ _ _ _ f,fun r' H' hh=>?_⟩
   subst hh
   exact ⟨_,[],Xe9 rfl (RV.cell 0 (by simp [ev,List.getD_eq_getElem?_getD,h2]) rfl XaT.out (by simp) (by simp)) (RV.cell 1 (by simp [ev,List.getD_eq_getElem?_getD,h3]) rfl XaT.out (by simp) (by simp)) (XaK.mk' (_ :: _ :: R) [] (by rw [List.append_nil];exact Xpn _) XaI.nil (VwL.cons Vw.nil (VwL.refl _ _))),rfl,rfl⟩
 ·have hk6:(tkA ts kk).kind=6:=by rw [Xba g1];exact h
  have hg:Xdo ts 0 []=.ok js:=g6'.out.symm.trans (Xjt hk6)
  rw [hg]
  refine ⟨.returning,.returning,19,.func 19,#[.pointer (some ⟨b2,0,none⟩),.pointer (some ⟨b3,0,none⟩)],#[],[.pointer (some ⟨b2,0,none⟩),.pointer (some ⟨b3,0,none⟩)],[.box b2 _,.box b3 _],[.row ad _ _ _ _ _,.box pb _],_,.inl ⟨rfl,rfl⟩,rfl,by (repeat' (first|exact Xpn _|refine (XpA (l₁:=[_])).trans (XpD _ ?_)|refine (XpA (l₁:=[_,_])).trans (XpD _ ?_)|fail)),rfl,fun w=>by simp [go_sem],XnH b2 b3 _,fun r' H' hh=>?_⟩
  subst hh
  exact ⟨_,[],Xe9 rfl (RV.cell 0 rfl rfl XaT.out (by simp) (by simp)) (RV.cell 1 rfl rfl XaT.out (by simp) (by simp)) (XaK.mk' [.row ad _ _ _ _ _,.box pb _,.box b2 _,.box b3 _] [] (by (repeat' (first|exact Xpn _|refine (XpA (l₁:=[_,_])).trans (XpD _ ?_)|fail))) XaI.nil (VwL.cons (Vw.row (List.Mem.head _) (VwL.refl _ _)) (VwL.refl _ _))),rfl,rfl⟩
theorem XhK (s:List UInt8) (hl:s.length≤1000000):Xbv Tryz.prog 10 [] [.x (.string (bs s))] (fun r H'=>r=XnM (Xcz s)∧H'=[]):=by
 cases hx:lex s with
 | error f=>rw [show Xcz s=.error f by simp only [Xcz,hx]];exact (Xiw s hl f hx).mono fun r H' ⟨h1,h2⟩=>⟨by rw [h1];simp only [Xcz,hx],h2⟩
 | ok ts=>exact Xjw s hl ts hx
def Xot:Nat→List UInt8→Option (List UInt8 × Nat)
 | 0,_=>none
 | _+1,[]=>none
 | q+1,c :: r=>if c.toNat=34 then some ([],1) else match part (c :: r) with
   | none=>none
   | some x=>(Xot q ((c :: r).drop (max x.2 1))).map fun y=>(x.1 :: y.1,x.2+y.2)
theorem Xj7:∀(q:Nat) (l:List UInt8),l.length < q→Xot q l=quo l
 | 0,_,h=>by omega
 | q+1,[],_=>by rw [quo];rfl
 | q+1,c :: r,h=>by
   rw [quo,Xot]
   split
   ·rfl
   ·cases part (c :: r) with
    | none=>rfl
    | some x=>
      simp only
      rw [Xj7 q _ (by simp only [List.length_drop,Xpq] at *;omega)]
def XiN:Nat→List UInt8→Nat
 | 0,_=>0
 | _+1,[]=>0
 | q+1,c :: r=>if c.toNat=32∨c.toNat=9∨c.toNat=10∨c.toNat=13 then XiN q r+1 else if c.toNat=35 then cmt (c :: r)+XiN q ((c :: r).drop (max (cmt (c :: r)) 1)) else 0
theorem Xhn:∀(q:Nat) (l:List UInt8),l.length < q→XiN q l=skp l
 | 0,_,h=>by omega
 | q+1,[],_=>by rw [skp];rfl
 | q+1,c :: r,h=>by
   rw [skp,XiN]
   split
   ·rw [Xhn q r (by simp only [Xpq] at h;omega)]
   ·split
    ·rw [Xhn q _ (by simp only [List.length_drop,Xpq] at *;omega)]
    ·rfl
def XoN (q:Nat):List UInt8→Except Int (Int × List UInt8 × Nat)
 | []=>.error 50
 | c :: r=>
   if Xc3 c then .ok (1,(c :: r).take (spn XcZ (c :: r)),spn XcZ (c :: r))
   else if XbC c then
    if 18 < spn XbC (c :: r)∨1 < spn XbC (c :: r)∧c.toNat=48 then .error 53 else .ok (2,(c :: r).take (spn XbC (c :: r)),spn XbC (c :: r))
   else if c.toNat=34 then match Xot q r with
    | none=>.error 51
    | some x=>.ok (3,x.1,x.2+1)
   else if c.toNat=47 then match sla r with
    | none=>.error 52
    | some x=>.ok (4,x.1,x.2+1)
   else if c.toNat=123∨c.toNat=125∨c.toNat=44∨c.toNat=61 then .ok (5,[c],1)
   else .error 50
theorem XmJ (q:Nat):∀l:List UInt8,l.length≤q→XoN q l=one l
 | [],_=>rfl
 | c :: r,h=>by
   unfold XoN one
   simp only
   rw [Xj7 q r (by simp only [Xpq] at h;omega)]
   rfl
def Xoq:Nat→Nat × Nat→Nat→List UInt8→Except Flt (List Tok)
 | 0,_,_,_=>.ok []
 | q+1,p,n,l=>
   match l.drop (XiN (q+2) l) with
   | []=>.ok [⟨6,[],(plc p l).1,(plc p l).2⟩]
   | c :: r=>
     match XoN (q+2) (c :: r) with
     | .error e=>.error ⟨e,(plc p (l.take (XiN (q+2) l))).1,(plc p (l.take (XiN (q+2) l))).2⟩
     | .ok x=>if 2000≤n then .error ⟨1,(plc p (l.take (XiN (q+2) l))).1,(plc p (l.take (XiN (q+2) l))).2⟩
       else (Xoq q (plc p (l.take (XiN (q+2) l+x.2.2))) (n+1) ((c :: r).drop (max x.2.2 1))).map (⟨x.1,x.2.1,(plc p (l.take (XiN (q+2) l))).1,(plc p (l.take (XiN (q+2) l))).2⟩ :: ·)
theorem XjH:∀(q:Nat) (p:Nat × Nat) (n:Nat) (l:List UInt8),l.length < q→Xoq q p n l=Xb8 p n l
 | 0,_,_,_,h=>by omega
 | q+1,p,n,l,h=>by
   unfold Xoq
   rw [Xhn (q+2) l (by omega)]
   cases hd:l.drop (skp l) with
   | nil=>rw [Xdc p n l hd]
   | cons c r=>
     have hlen:=congrArg List.length hd
     simp only [List.length_drop,Xpq] at hlen
     simp only
     rw [XmJ (q+2) (c :: r) (by simp only [Xpq];omega)]
     cases h1:one (c :: r) with
     | error e=>rw [Xdb p n l c r e hd h1]
     | ok x=>
       simp only
       by_cases hn:2000≤n
       ·rw [if_pos hn,XcN p n l c r x hd h1 hn]
       ·obtain ⟨a,b,k⟩:=x
        have g:=XeV h1
        simp only at g
        rw [if_neg hn,XcO p n l c r a b k hd h1 g.1 (by omega),show max k 1=k from by omega,XjH q _ _ _ (by simp only [List.length_drop,Xpq];omega)]
def XoL (l:List UInt8):Except Flt (List Tok):=if 8192 < l.length then .error ⟨1,0,0⟩ else Xoq (l.length+1) (1,1) 0 l
theorem XmE (l:List UInt8):XoL l=lex l:=by
 unfold XoL lex
 rw [XjH _ _ _ _ (Nat.lt_succ_self _)]
def Xgb {α:Type} (el:Nat→List α→Except Flt α) (st:Nat) (ts:List Tok):Nat→Nat→List α→Except Flt (List α × Nat)
 | 0,_,_=>.ok ([],0)
 | q+1,k,out=>match el k out with
   | .error f=>.error f
   | .ok x=>if k+st < ts.length∧gIs ts (k+st) [44]=true then Xgb el st ts q (k+st+1) (out++[x]) else .ok (out++[x],k+st)
theorem XeQ {α:Type} (el:Nat→List α→Except Flt α) (st:Nat) (ts:List Tok):∀(q k:Nat) (out:List α),ts.length - k < q→Xgb el st ts q k out=XcF el st ts k out
 | 0,_,_,h=>by omega
 | q+1,k,out,h=>by
   rw [XcF,Xgb]
   cases el k out with
   | error f=>rfl
   | ok x=>
     simp only
     by_cases hc:k+st < ts.length∧gIs ts (k+st) [44]=true
     ·rw [if_pos hc,dif_pos hc,XeQ el st ts q _ _ (by omega)]
     ·rw [if_neg hc,dif_neg hc]
def Xjq (ts:List Tok) (k:Nat) (w:List UInt8) (j:JF):Except Flt (JF × Nat):=
 if w=Xh6 then (Xb0 ts k 3 512).map fun t=>({ j with run:=t.text },k+1)
 else if w=XfS then (Xmp ts k j.env).map fun v=>({ j with env:=j.env++[v] },k+3)
 else if w=Xdd then (Xgb (Xej ts) 1 ts (ts.length+1) k []).map fun x=>({ j with needs:=x.1 },x.2)
 else if w=Xeh then (Xb0 ts k 4 128).map fun t=>({ j with hasr:=true,ready:=t.text },k+1)
 else if w=XcC then (XkP ts k).map fun n=>({ j with restart:=n },k+1)
 else if w=Xcm then do
  let a ←Xdk ts k
  let b ←Xdk ts (k+1)
  let c ←Xdk ts (k+2)
  .ok ({ j with base:=a,cap:=b,stable:=c },k+3)
 else if w=XdX then do
  let n ←Xdk ts k
  if n < 1∨16 < n then .error (flt 2 (tkA ts k)) else
  let m ←Xdk ts (k+1)
  .ok ({ j with burst:=n,window:=m },k+2)
 else (Xgb (Xd4 ts) 2 ts (ts.length+1) k []).map fun x=>({ j with ladder:=x.1 },x.2)
theorem Xjr (ts:List Tok) (k:Nat) (w:List UInt8) (j:JF):Xjq ts k w j=Xco ts k w j:=by
 unfold Xjq Xco
 rw [XeQ _ _ _ _ _ _ (by omega),XeQ _ _ _ _ _ _ (by omega)]
def XeO (ts:List Tok) (name:Tok):Nat→Nat→List (List UInt8)→JF→Except Flt (JF × Nat)
 | 0,_,_,j=>.ok (j,0)
 | q+1,k,seen,j=>
   if gIs ts k [125] then (if seen.contains Xh6 then .ok (j,k+1) else .error (flt 6 name))
   else if (tkA ts k).kind≠1∨¬Xek.contains (tkA ts k).text then .error (flt 60 (tkA ts k))
   else if (tkA ts k).text≠XfS∧seen.contains (tkA ts k).text then .error (flt 5 (tkA ts k))
   else match Xjq ts (k+1) (tkA ts k).text j with
    | .error f=>.error f
    | .ok x=>if k < x.2∧k < ts.length then XeO ts name q x.2 (if (tkA ts k).text=XfS then seen else seen++[(tkA ts k).text]) x.1 else .error (flt 60 (tkA ts k))
theorem Xfm (ts:List Tok) (name:Tok):∀(q k:Nat) (seen:List (List UInt8)) (j:JF),ts.length - k < q→XeO ts name q k seen j=Xcc ts name k seen j
 | 0,_,_,_,h=>by omega
 | q+1,k,seen,j,h=>by
   rw [Xcc,XeO,Xjr]
   split
   ·rfl
   split
   ·rfl
   split
   ·rfl
   cases Xco ts (k+1) (tkA ts k).text j with
   | error f=>rfl
   | ok x=>
     simp only
     by_cases hc:k < x.2∧k < ts.length
     ·rw [if_pos hc,dif_pos hc,Xfm ts name q _ _ _ (by omega)]
     ·rw [if_neg hc,dif_neg hc]
def Xmm (ts:List Tok) (k:Nat) (full:Bool):Except Flt (JF × Nat):=do
 let w ←Xb0 ts k 1 8192
 if w.text≠Xou then .error (flt 60 w) else
 let t ←Xdw ts (k+1) full
 Xfe ts (k+2) [123]
 XeO ts t (ts.length+1) (k+3) [] (XfR t)
theorem XkO (ts:List Tok) (k:Nat) (full:Bool):Xmm ts k full=XhH ts k full:=by
 unfold Xmm XhH
 have e:∀t,XeO ts t (ts.length+1) (k+3) [] (XfR t)=Xcc ts t (k+3) [] (XfR t):=fun t=>Xfm _ _ _ _ _ _ (by omega)
 simp only [e]
def XhI (ts:List Tok):Nat→Nat→List JF→Except Flt (List JF)
 | 0,_,out=>.ok out
 | q+1,k,out=>if (tkA ts k).kind=6 then .ok out
   else match Xmm ts k (decide (32≤out.length)) with
    | .error f=>.error f
    | .ok x=>if k < x.2∧k < ts.length then XhI ts q x.2 (out++[x.1]) else .ok out
theorem Xga (ts:List Tok):∀(q k:Nat) (out:List JF),ts.length - k < q→XhI ts q k out=Xdo ts k out
 | 0,_,_,h=>by omega
 | q+1,k,out,h=>by
   rw [Xdo,XhI,XkO]
   split
   ·rfl
   cases XhH ts k (decide (32≤out.length)) with
   | error f=>rfl
   | ok x=>
     simp only
     by_cases hc:k < x.2∧k < ts.length
     ·rw [if_pos hc,dif_pos hc,Xga ts q _ _ (by omega)]
     ·rw [if_neg hc,dif_neg hc]
def Xju (s:List UInt8):Except Flt (List JF):=match XoL s with
 | .error f=>.error f
 | .ok ts=>XhI ts (ts.length+1) 0 []
theorem Xfo (s:List UInt8):Xju s=Xcz s:=by
 unfold Xju Xcz
 rw [XmE]
 cases lex s with
 | error f=>rfl
 | ok ts=>exact Xga ts _ _ _ (by omega)
def ex1:List UInt8:=[106,111,98,32,97,32,123,32,114,117,110,32,34,120,34,32,125]
theorem Xiv:Xcz ex1=.ok [{ XfR ⟨1,[97],1,5⟩ with run:=[120] }]:=by rw [←Xfo];rfl
end Go.Proofs.YtcmfamgnmehojaaGreatDoor

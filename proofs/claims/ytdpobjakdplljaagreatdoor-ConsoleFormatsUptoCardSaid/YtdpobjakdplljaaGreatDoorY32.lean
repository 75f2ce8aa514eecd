import Derived.Test.YtdpobjakdplljaaGreatDoorY18
import Derived.Test.YtdpobjakdplljaaGreatDoorY28
import Derived.Test.YtdpobjakdplljaaGreatDoorY31
import Derived.Test.YtdpobjakdplljaaGreatDoorY8
import Derived.Test.YtdpobjakdplljaaGreatDoorY29
import Derived.Test.YtdpobjakdplljaaGreatDoorY22
import Derived.Test.YtdpobjakdplljaaGreatDoorY16
/- The reference of scripts: Parse, exactly. -/
set_option linter.unusedSimpArgs false
set_option linter.unusedVariables false
set_option maxRecDepth 100000
set_option maxHeartbeats 8000000
namespace Go.Proofs.YtdpobjakdplljaaGreatDoor
open Go.RowKit
theorem Xhn {x:List UInt8} {ts:List Tok} (h:lex x=.ok ts):1≤ts.length∧ts.length≤2001∧(∀t∈ts,Xpr t)∧∀t∈ts,t.text.length≤70000:=by
 obtain ⟨p1,p2,-,-,p5⟩:=(Xdu x).2 ts h
 refine ⟨p1,p2,fun t ht hk=>(Xhm x ts h).1 t ht hk,fun t ht=>?_⟩
 unfold lex at h
 split at h
 ·cases h
 ·obtain ⟨qs,e,-,-,-,hl⟩:=Xf0 _ _ _ _ _ (Nat.le_refl _) h
  have:=hl t ht
  omega
theorem XeT {xs:List (List UInt8)} {i:Nat} (h:i < xs.length) (out:List EF):cGo (xs.drop i) i out=match lex xs[i] with
  | .error _=>([],i,320)
  | .ok ts=>if ts.length≤1 then cGo (xs.drop (i+1)) (i+1) out else match Xcf ts.dropLast with
    | none=>([],i,320)
    | some e=>if 1000≤out.length then ([],i,1) else cGo (xs.drop (i+1)) (i+1) (out++[e]):=by
 rw [List.drop_eq_getElem_cons h,cGo]
 rfl
section
variable {xs:List (List UInt8)} {i:Nat} (h:i < xs.length) (out:List EF)
theorem XrQ {f:Flt} (h1:lex xs[i]=.error f):cGo (xs.drop i) i out=([],i,320):=by rw [XeT h,h1]
theorem XpJ {ts:List Tok} (h1:lex xs[i]=.ok ts) (h2:ts.length≤1):cGo (xs.drop i) i out=cGo (xs.drop (i+1)) (i+1) out:=by rw [XeT h,h1];exact if_pos h2
theorem XpI {ts:List Tok} (h1:lex xs[i]=.ok ts) (h2:¬ts.length≤1) (h3:Xcf ts.dropLast=none):cGo (xs.drop i) i out=([],i,320):=by rw [XeT h,h1];simp only [if_neg h2,h3]
theorem XpH {ts:List Tok} {e:EF} (h1:lex xs[i]=.ok ts) (h2:¬ts.length≤1) (h3:Xcf ts.dropLast=some e) (h4:1000≤out.length):cGo (xs.drop i) i out=([],i,1):=by rw [XeT h,h1];simp only [if_neg h2,h3,if_pos h4]
theorem XtB {ts:List Tok} {e:EF} (h1:lex xs[i]=.ok ts) (h2:¬ts.length≤1) (h3:Xcf ts.dropLast=some e) (h4:¬1000≤out.length):cGo (xs.drop i) i out=cGo (xs.drop (i+1)) (i+1) (out++[e]):=by rw [XeT h,h1];simp only [if_neg h2,h3,if_neg h4]
end
theorem Xpj (l:List Tok) (k:Nat):(ta l).take (k*4)=ta (l.take k):=by
 induction l generalizing k with
 | nil=>simp [ta]
 | cons t l ih=>
   cases k with
   | zero=>simp [ta]
   | succ k=>
     have:=ih k
     simp only [ta,List.flatMap_cons,List.take_succ_cons] at this ⊢
     rw [show (k+1)*4=t.cells.length+k*4 from by simp [Tok.cells];omega,List.take_length_add_append,this]
theorem Xpn (l:List EF) (e:EF):va l++[.x (.int .i64 e.kind),.x (.string (bs e.job)),.x (.bool e.ok),.x (.int .i64 e.code),.sq e.data.length (u8a e.data),.x (.int .u64 e.time),.x (.int .i64 e.client),.x (.int .i64 e.num)]=va (l++[e]):=by
 rw [XjH];simp [va,EF.cells]
theorem XqD (s:List UInt8) (h65:65536 < s.length) (hs:s.length≤1000000):Xa3 Tryz.prog 11 [] [.x (.string (bs s))] (fun r H'=>r=XtC (XcT s)∧H'=[]):=by
 have e:XcT s=([],0,1):=if_pos h65
 rw [e]
 refine XaD Tryz.func11 rfl ?_
 simp only [Tryz.ntmps11,Xvy,XvB,XvC,XvD,XvG,XvF,Nat.reduceAdd,Nat.reduceSub]
 (repeat' (first|with_reducible (first|refine Xag ?_|refine Xac ?_|refine Xar ?_|refine Xae ?_|refine Xaa ?_|refine Xax ?_)|(refine Xak _ rfl (fun h=>?_) (fun h=>?_)<;>((try (simp only [whn] at h));first|(exfalso;omega;done)|skip))|((apply Xad rfl);(case h=>(first|(apply Xab 0 rfl;(first|exact Xap _ rfl|exact Xan _ rfl))|(apply XaC;(case hs=>(intro _ _ h;cases h));(case hx=>rfl);(case hrun=>(intro w;simp [wtb,AV.val,go_sem];skip;rfl)))));(case hT=>((try simp only [wtn]);rfl)))|fail))
 refine Xaf _ _ (Xm2 rfl (RV.tmp _) (RV.tmp _) (RV.tmp _) (XaH.mk' [] _ (Xvv _) (XaB.refl _ _) (VwL.cons Vw.nil (VwL.refl _ _)))) ?_
 exact ⟨rfl,rfl⟩
theorem XsO (s:List UInt8) (hs:s.length≤1000000):Xa3 Tryz.prog 11 [] [.x (.string (bs s))] (fun r H'=>r=XtC (XcT s)∧H'=[]):=by
 by_cases h65:65536 < s.length
 ·exact XqD s h65 hs
 have e:XcT s=cGo (Xb2 s) 0 []:=if_neg h65
 rw [e]
 clear e
 have hL:=XsB s (by omega)
 have hll:=Xff s []
 have hle:=Lib.hid (Xgk s [])
 unfold Xb2 at *
 generalize Xcg [] s=xs at *
 refine XaD Tryz.func11 rfl ?_
 simp only [Tryz.ntmps11,Xvy,XvB,XvC,XvD,XvG,XvF,Nat.reduceAdd,Nat.reduceSub]
 refine Xbt 41 8 ?_
 (repeat' (first|with_reducible (first|refine Xag ?_|refine Xac ?_|refine Xao ?_|refine Xau ?_|refine Xae ?_|refine Xaa ?_)|(refine Xak _ rfl (fun h=>?_) (fun h=>?_)<;>((try (simp only [whn] at h));first|(exfalso;omega;done)|skip))|((apply Xad rfl);(case h=>(first|(apply Xab 0 rfl;(first|exact Xap _ rfl|exact Xan _ rfl))|(apply Xab 11 rfl;(exact Xay 26 Tryz.f26 _ _ rfl rfl Tryz.func26 (by decide) rfl (VwL.refl _ _) (hL)))|(apply XaC;(case hs=>(intro _ _ h;cases h));(case hx=>rfl);(case hrun=>(intro w;simp [wtb,AV.val,go_sem];skip;rfl)))));(case hT=>((try simp only [wtn]);rfl)))|fail))
 apply XaQ (S:=Nat × List EF × Option Addr × Nat) (fun q=>frm 62 [(5,.x (.slice q.2.2.1 q.2.1.length q.2.2.2)),(6,.sq xs.length (sa xs)),(7,.x (.int .i64 q.1))]) (fun q=>[.row q.2.2.1 q.2.1.length q.2.2.2 41 8 (va q.2.1)])
  (fun q=>q.1≤xs.length∧q.2.1.length≤q.1∧cGo xs 0 []=cGo (xs.drop q.1) q.1 q.2.1) (fun q=>xs.length - q.1) (0,[],none,0)
 case h0=>exact (XaH.mk' [] _ (Xvv _) (XaB.refl _ _) (by (repeat' (first|exact VwL.nil|(refine VwL.cons ?_ ?_)|exact Vw.refl _|exact Vw.top _|fail))))
 case hi=>exact ⟨Nat.zero_le _,Nat.le_refl _,rfl⟩
 rintro ⟨i,out,ad0,cap0⟩ ⟨h1,h2,h3⟩
 simp only at h1 h2 h3
 have h3':=Lib.hid h3
 clear h3
 simp only [frm,XvC,XvD,Xvw,Xvx,XvJ,XvK]
 by_cases hlt:i < xs.length
 ·have hA:=XrI xs[i] (by have:=hle.out xs[i] (List.getElem_mem _);simp at this;omega)
  have hsd:=XdF xs i hlt
  cases hlx:lex xs[i] with
  | error f=>
    have hc:=(Xdu xs[i]).1 f hlx
    have hg:=Lib.hid (XrQ hlt out hlx)
    rw [hlx] at hA
    clear hlx
    simp only [Xd4,XhY,Flt.av] at hA
    have hc':(f.code != 0)=true:=bne_iff_ne.2 hc
    (repeat' (first|with_reducible (first|refine Xag ?_|refine Xac ?_|refine Xao ?_|refine Xar ?_|refine Xau ?_|refine Xae ?_|refine Xaa ?_|refine Xax ?_|refine Xav ?_)|(refine Xak _ rfl (fun h=>?_) (fun h=>?_)<;>first|(exact absurd h (by decide))|((try (simp only [whn] at h));first|(exfalso;omega;done)|skip))|((apply Xad rfl);(case h=>(first|(apply Xab 0 rfl;(first|exact Xap _ rfl|exact Xan _ rfl))|(apply Xab 2 rfl;(exact XaM _ _ _ _ rfl rfl rfl))|(apply Xab 3 rfl;(exact XaX _ _ _ _ _ _ HEl.out rfl rfl))|(apply Xab 5 rfl;(exact Xal _ _ _ _ _ _ rfl rfl Xa5.out))|(apply Xab 6 rfl;(first|exact XaF _ _ _ _ _ rfl rfl XaN.out (by first|exact Xvu rfl|fail) (by first|exact Xvu rfl|fail)|exact Xaz _ _ _ _ _ _ _ _ rfl rfl XaS.out XaN.out (by first|exact Xvu rfl|fail) (by first|exact Xvu rfl|fail)))|(apply Xab 7 rfl;(exact XaG _ _ _ _ _ _ _ _ _ _ rfl rfl rfl HEl.out rfl (by first|omega|fail) (by simp;first|omega|fail)))|(apply Xab 11 rfl;(exact Xay 27 Tryz.f27 _ _ rfl rfl Tryz.func27 (by decide) rfl (VwL.refl _ _) (hA)))|(apply XaC;(case hs=>(intro _ _ h;cases h));(case hx=>rfl);(case hrun=>(intro w;simp [wtb,AV.val,go_sem];skip;rfl)))));(case hT=>((try simp (disch:=omega) only [wtn,hc',hsd,Xvz,Xvw,Xvx,XvA,XvE,Nat.reduceAdd,Nat.reduceMul,Nat.reduceSub,↓reduceIte,Nat.reduceEqDiff]);rfl)))|(refine Xai rfl ?_;((first|(refine Xas 14 rfl ?_;(refine XaK _ _ rfl Xbk.out rfl (fun b=>?_)))|(refine Xas 16 rfl ?_;(refine Xaw _ _ _ _ _ _ _ rfl rfl XaS.out XaR.out (by first|rfl|fail) (by first|exact Xvu rfl|fail) ?_)));apply Xah;(case hT=>((try simp (disch:=omega) only [wtn,hc',hsd,Xvz,Xvw,Xvx,XvA,XvE,Nat.reduceAdd,Nat.reduceMul,Nat.reduceSub,↓reduceIte,Nat.reduceEqDiff]);rfl));(case hH=>((try simp (disch:=omega) only [wtn,hc',hsd,Xvz,Xvw,Xvx,XvA,XvE,Nat.reduceAdd,Nat.reduceMul,Nat.reduceSub,↓reduceIte,Nat.reduceEqDiff]);rfl))))|fail))
    refine Xaf _ _ (Xm2 rfl (RV.tmp _) (RV.tmp _) (RV.tmp _) (XaH.mk' [_,_] [] (Xvv _) XaB.nil (VwL.cons Vw.nil (VwL.refl _ _)))) ?_
    refine ⟨?_,rfl⟩
    rw [h3'.out,hg.out]
    rfl
  | ok ts=>
    obtain ⟨p1,p2,p3,p4⟩:=Xhn hlx
    rw [hlx] at hA
    simp only [Xd4,XhY,Flt.av] at hA
    obtain ⟨td,hd⟩:∃td,td=ts.dropLast:=⟨_,rfl⟩
    have hdl:ts.length=td.length+1:=by rw [hd];simp;omega
    have hdt:(ta ts).take (td.length*4)=ta td:=by rw [Xpj,hd,List.dropLast_eq_take];simp
    rw [hdl] at hA
    by_cases ht1:td.length=0
    ·have hg:=Lib.hid (XpJ hlt out hlx (by omega))
     clear hlx hd p3 p4
     (repeat' (first|with_reducible (first|refine Xag ?_|refine Xac ?_|refine Xao ?_|refine Xau ?_|refine XaW ?_|refine Xae ?_|refine Xaa ?_|refine XaL ?_|refine XaJ ?_)|(refine Xak _ rfl (fun h=>?_) (fun h=>?_)<;>first|(exact absurd h (by decide))|((try (simp only [whn] at h));first|(exfalso;omega;done)|skip))|((apply Xad rfl);(case h=>(first|(apply Xab 0 rfl;(first|exact Xap _ rfl|exact Xan _ rfl))|(apply Xab 2 rfl;(exact XaM _ _ _ _ rfl rfl rfl))|(apply Xab 3 rfl;(exact XaX _ _ _ _ _ _ HEl.out rfl rfl))|(apply Xab 5 rfl;(exact Xal _ _ _ _ _ _ rfl rfl Xa5.out))|(apply Xab 6 rfl;(first|exact XaF _ _ _ _ _ rfl rfl XaN.out (by first|exact Xvu rfl|fail) (by first|exact Xvu rfl|fail)|exact Xaz _ _ _ _ _ _ _ _ rfl rfl XaS.out XaN.out (by first|exact Xvu rfl|fail) (by first|exact Xvu rfl|fail)))|(apply Xab 7 rfl;(exact XaG _ _ _ _ _ _ _ _ _ _ rfl rfl rfl HEl.out rfl (by first|omega|fail) (by simp;first|omega|fail)))|(apply Xab 9 rfl;(exact XbK _ _ _ _ _ _ _ _ _ _ rfl rfl HEl.out (by first|exact .inl ⟨rfl,rfl⟩|fail) (by first|exact .inr ⟨_,_,rfl,rfl⟩|fail) (by omega) (by omega)))|(apply Xab 11 rfl;(exact Xay 27 Tryz.f27 _ _ rfl rfl Tryz.func27 (by decide) rfl (VwL.refl _ _) (hA)))|(apply XaC;(case hs=>(intro _ _ h;cases h));(case hx=>rfl);(case hrun=>(intro w;simp [wtb,AV.val,go_sem];(try go_bits);rfl)))));(case hT=>((try simp (disch:=omega) only [wtn,hsd,hdt,Nat.sub_zero,Xvz,Xvw,Xvx,XvA,XvE,Nat.reduceAdd,Nat.reduceMul,Nat.reduceSub,↓reduceIte,Nat.reduceEqDiff]);rfl)))|(refine Xai rfl ?_;((first|(refine Xas 14 rfl ?_;(refine XaK _ _ rfl Xbk.out rfl (fun b=>?_)))|(refine Xas 16 rfl ?_;(refine Xaw _ _ _ _ _ _ _ rfl rfl XaS.out XaR.out (by first|rfl|fail) (by first|exact Xvu rfl|fail) ?_)));apply Xah;(case hT=>((try simp (disch:=omega) only [wtn,hsd,hdt,Nat.sub_zero,Xvz,Xvw,Xvx,XvA,XvE,Nat.reduceAdd,Nat.reduceMul,Nat.reduceSub,↓reduceIte,Nat.reduceEqDiff]);rfl));(case hH=>((try simp (disch:=omega) only [wtn,hsd,hdt,Nat.sub_zero,Xvz,Xvw,Xvx,XvA,XvE,Nat.reduceAdd,Nat.reduceMul,Nat.reduceSub,↓reduceIte,Nat.reduceEqDiff]);rfl))))|fail))
     exact ⟨(i+1,out,ad0,cap0),by simp only;omega,⟨by simp only;omega,by simp only;omega,by simp only;rw [h3'.out,hg.out]⟩,(XaH.mk' [_] [_] (Xvv _) (XaB.refl _ _) (by (repeat' (first|exact VwL.nil|(refine VwL.cons ?_ ?_)|exact Vw.refl _|exact Vw.top _|fail))))⟩
    ·have hE:=Xr6 td (by omega) (by omega) (fun t ht=>p3 t (by rw [hd,List.dropLast_eq_take] at ht;exact List.mem_of_mem_take ht)) (fun t ht=>p4 t (by rw [hd,List.dropLast_eq_take] at ht;exact List.mem_of_mem_take ht))
     cases hev:Xcf td with
     | none=>
       have hg:=Lib.hid (XpI hlt out hlx (by omega) (by rw [←hd];exact hev))
       rw [hev] at hE
       clear hlx hd p3 p4 hev
       unfold Xmh at hE
       (repeat' (first|with_reducible (first|refine Xag ?_|refine Xac ?_|refine Xao ?_|refine Xar ?_|refine Xau ?_|refine Xae ?_|refine Xaa ?_|refine Xax ?_|refine Xav ?_)|(refine Xak _ rfl (fun h=>?_) (fun h=>?_)<;>first|(exact absurd h (by decide))|((try (simp only [whn] at h));first|(exfalso;omega;done)|skip))|((apply Xad rfl);(case h=>(first|(apply Xab 0 rfl;(first|exact Xap _ rfl|exact Xan _ rfl))|(apply Xab 2 rfl;(exact XaM _ _ _ _ rfl rfl rfl))|(apply Xab 3 rfl;(exact XaX _ _ _ _ _ _ HEl.out rfl rfl))|(apply Xab 5 rfl;(exact Xal _ _ _ _ _ _ rfl rfl Xa5.out))|(apply Xab 6 rfl;(first|exact XaF _ _ _ _ _ rfl rfl XaN.out (by first|exact Xvu rfl|fail) (by first|exact Xvu rfl|fail)|exact Xaz _ _ _ _ _ _ _ _ rfl rfl XaS.out XaN.out (by first|exact Xvu rfl|fail) (by first|exact Xvu rfl|fail)))|(apply Xab 7 rfl;(exact XaG _ _ _ _ _ _ _ _ _ _ rfl rfl rfl HEl.out rfl (by first|omega|fail) (by simp;first|omega|fail)))|(apply Xab 9 rfl;(exact XbK _ _ _ _ _ _ _ _ _ _ rfl rfl HEl.out (by first|exact .inl ⟨rfl,rfl⟩|fail) (by first|exact .inr ⟨_,_,rfl,rfl⟩|fail) (by omega) (by omega)))|(apply Xab 11 rfl;(first|exact Xay 27 Tryz.f27 _ _ rfl rfl Tryz.func27 (by decide) rfl (VwL.refl _ _) (hA)|exact Xay 28 Tryz.f28 _ _ rfl rfl Tryz.func28 (by decide) rfl (VwL.refl _ _) (hE)))|(apply XaC;(case hs=>(intro _ _ h;cases h));(case hx=>rfl);(case hrun=>(intro w;simp [wtb,AV.val,go_sem];(try go_bits);rfl)))));(case hT=>((try simp (disch:=omega) only [wtn,hsd,hdt,Nat.sub_zero,Xvz,Xvw,Xvx,XvA,XvE,Nat.reduceAdd,Nat.reduceMul,Nat.reduceSub,↓reduceIte,Nat.reduceEqDiff]);rfl)))|(refine Xai rfl ?_;((first|(refine Xas 14 rfl ?_;(refine XaK _ _ rfl Xbk.out rfl (fun b=>?_)))|(refine Xas 16 rfl ?_;(refine Xaw _ _ _ _ _ _ _ rfl rfl XaS.out XaR.out (by first|rfl|fail) (by first|exact Xvu rfl|fail) ?_)));apply Xah;(case hT=>((try simp (disch:=omega) only [wtn,hsd,hdt,Nat.sub_zero,Xvz,Xvw,Xvx,XvA,XvE,Nat.reduceAdd,Nat.reduceMul,Nat.reduceSub,↓reduceIte,Nat.reduceEqDiff]);rfl));(case hH=>((try simp (disch:=omega) only [wtn,hsd,hdt,Nat.sub_zero,Xvz,Xvw,Xvx,XvA,XvE,Nat.reduceAdd,Nat.reduceMul,Nat.reduceSub,↓reduceIte,Nat.reduceEqDiff]);rfl))))|fail))
       refine Xaf _ _ (Xm2 rfl (RV.tmp _) (RV.tmp _) (RV.tmp _) (XaH.mk' [_,_,_] [] (Xvv _) XaB.nil (VwL.cons Vw.nil (VwL.refl _ _)))) ?_
       refine ⟨?_,rfl⟩
       rw [h3'.out,hg.out]
       rfl
     | some e=>
       have hg1:=Lib.hid (XpH hlt out hlx (by omega) (e:=e) (by rw [←hd];exact hev))
       have hg2:=Lib.hid (XtB hlt out hlx (by omega) (e:=e) (by rw [←hd];exact hev))
       rw [hev] at hE
       clear hlx hd p3 p4 hev
       unfold Xmh EF.cells at hE
       (repeat' (first|with_reducible (first|refine Xag ?_|refine Xac ?_|refine Xao ?_|refine Xar ?_|refine Xau ?_|refine Xae ?_|refine Xaa ?_|refine Xax ?_|refine Xaj ?_|refine Xav ?_)|(refine Xak _ rfl (fun h=>?_) (fun h=>?_)<;>first|(exact absurd h (by decide))|((try (simp only [whn] at h));first|(exfalso;omega;done)|skip))|((apply Xad rfl);(case h=>(first|(apply Xab 0 rfl;(first|exact Xap _ rfl|exact Xan _ rfl))|(apply Xab 2 rfl;(exact XaM _ _ _ _ rfl rfl rfl))|(apply Xab 3 rfl;(exact XaX _ _ _ _ _ _ HEl.out rfl rfl))|(apply Xab 5 rfl;(exact Xal _ _ _ _ _ _ rfl rfl Xa5.out))|(apply Xab 6 rfl;(first|exact XaF _ _ _ _ _ rfl rfl XaN.out (by first|exact Xvu rfl|fail) (by first|exact Xvu rfl|fail)|exact Xaz _ _ _ _ _ _ _ _ rfl rfl XaS.out XaN.out (by first|exact Xvu rfl|fail) (by first|exact Xvu rfl|fail)))|(apply Xab 7 rfl;(exact XaG _ _ _ _ _ _ _ _ _ _ rfl rfl rfl HEl.out rfl (by first|omega|fail) (by simp;first|omega|fail)))|(apply Xab 9 rfl;(exact XbK _ _ _ _ _ _ _ _ _ _ rfl rfl HEl.out (by first|exact .inl ⟨rfl,rfl⟩|fail) (by first|exact .inr ⟨_,_,rfl,rfl⟩|fail) (by omega) (by omega)))|(apply Xab 11 rfl;(first|exact Xay 27 Tryz.f27 _ _ rfl rfl Tryz.func27 (by decide) rfl (VwL.refl _ _) (hA)|exact Xay 28 Tryz.f28 _ _ rfl rfl Tryz.func28 (by decide) rfl (VwL.refl _ _) (hE)))|(apply XaC;(case hs=>(intro _ _ h;cases h));(case hx=>rfl);(case hrun=>(intro w;simp [wtb,AV.val,go_sem];(try go_bits);rfl)))));(case hT=>((try simp (disch:=omega) only [wtn,hsd,hdt,Nat.sub_zero,Xvz,Xvw,Xvx,XvA,XvE,Nat.reduceAdd,Nat.reduceMul,Nat.reduceSub,↓reduceIte,Nat.reduceEqDiff]);rfl)))|(refine Xai rfl ?_;((first|(refine Xas 13 rfl ?_;(refine XaP _ _ _ _ _ _ _ _ _ _ _ _ _ _ rfl rfl Xb3.out (Src.row _ rfl Xb3.out) XaY.out (by first|rfl|fail) (XdQ _ _ (by omega) (by decide)) (fun ad cap=>?_)))|(refine Xas 14 rfl ?_;(refine XaK _ _ rfl Xbk.out rfl (fun b=>?_)))|(refine Xas 16 rfl ?_;(refine Xaw _ _ _ _ _ _ _ rfl rfl XaS.out XaR.out (by first|rfl|fail) (by first|exact Xvu rfl|fail) ?_))|(refine Xas 17 rfl ?_;(refine XaE _ _ _ _ _ _ _ _ rfl XaY.out (by first|rfl|fail) rfl (by decide) rfl (fun b=>?_))));apply Xah;(case hT=>((try simp (disch:=omega) only [wtn,hsd,hdt,Nat.sub_zero,Xvz,Xvw,Xvx,XvA,XvE,Nat.reduceAdd,Nat.reduceMul,Nat.reduceSub,↓reduceIte,Nat.reduceEqDiff]);rfl));(case hH=>((try simp (disch:=omega) only [wtn,hsd,hdt,Nat.sub_zero,Xvz,Xvw,Xvx,XvA,XvE,Nat.reduceAdd,Nat.reduceMul,Nat.reduceSub,↓reduceIte,Nat.reduceEqDiff]);rfl))))|fail))
       ·refine Xaf _ _ (Xm2 rfl (RV.tmp _) (RV.tmp _) (RV.tmp _) (XaH.mk' [_,_,_] [] (Xvv _) XaB.nil (VwL.cons Vw.nil (VwL.refl _ _)))) ?_
        refine ⟨?_,rfl⟩
        rw [h3'.out,hg1.out (by omega)]
        rfl
       ·refine ⟨(i+1,out++[e],ad,cap),by simp only;omega,⟨by simp only;omega,by simp only [XvH,Xvy,XvB];omega,by simp only;rw [h3'.out,hg2.out (by omega)]⟩,?_⟩
        simp only [XvH,Xvy,XvB,←Xpn]
        exact (XaH.mk' [_,_,_] [_] (Xvv _) (XaB.refl _ _) (by (repeat' (first|exact VwL.nil|(refine VwL.cons ?_ ?_)|exact Vw.refl _|exact Vw.top _|fail))))
 ·obtain rfl:i=xs.length:=by omega
  have h3:=h3'.out
  rw [List.drop_length,cGo] at h3
  (repeat' (first|with_reducible (first|refine Xag ?_|refine Xac ?_|refine Xar ?_|refine XaW ?_|refine Xae ?_|refine Xaa ?_|refine XaL ?_|refine XaJ ?_)|(refine Xak _ rfl (fun h=>?_) (fun h=>?_)<;>first|(exact absurd h (by decide))|((try (simp only [] at h));skip))|((apply Xad rfl);(case h=>(first|(apply Xab 0 rfl;(first|exact Xap _ rfl|exact Xan _ rfl))|(apply Xab 3 rfl;(exact XaX _ _ _ _ _ _ HEl.out rfl rfl))|(apply XaC;(case hs=>(intro _ _ h;cases h));(case hx=>rfl);(case hrun=>(intro w;simp [wtb,AV.val,go_sem];skip;rfl)))));(case hT=>((try simp only [wtn]);rfl)))|fail))
  refine Xaf _ _ (Xm2 rfl (RV.tmp _) (RV.tmp _) (RV.tmp _) (XaH.mk' [_] [] (Xvv _) XaB.nil (VwL.cons (Vw.row (List.Mem.head _) (VwL.refl _ _)) (VwL.refl _ _)))) ?_
  rw [h3]
  exact ⟨rfl,rfl⟩
open Go.RowKit
def XuT (x:List UInt8 × Int):AV:=.tup [.x (.string (bs x.1)),.x (.int .i64 x.2)]
theorem Xk4 (e:EF) (he:EOk e) (f:UInt8):(Xcr e f).length≤4400010:=by
 have q0:=he.job
 have q1:=XcI e.data
 have q6:=he.data
 have q2:=XbM e.time.toNat (by have:=he.time;omega)
 have q3:=Xfi e.code he.code.1 he.code.2
 have q4:=Xfi e.client he.client.1 he.client.2
 have q5:=Xfi e.num he.num.1 he.num.2
 unfold Xcr
 split
 ·omega
 split
 ·split<;>simp [wOk,Xdb]
 split
 ·omega
 split
 ·omega
 split
 ·omega
 split<;>omega
theorem XiP (e:EF) (he:EOk e) (fs:List UInt8):(XbQ e fs).length≤fs.length*4500000:=by
 induction fs with
 | nil=>simp [XbQ]
 | cons f fs ih=>
   have hf:=Xk4 e he f
   simp only [XbQ,List.flatMap_cons,XvH,Xvy] at ih ⊢
   rw [Nat.succ_mul]
   omega
theorem Xnv (e:EF) (he:EOk e):(XdO e).length≤9000100:=by
 rw [XfV,XvH]
 have h1:=XhP e.kind
 have h2:=XhO e.kind
 have h3:=XiP e he (XfK e.kind)
 have h4:(XfK e.kind).length*4500000≤2*4500000:=Nat.mul_le_mul_right _ h2
 omega
theorem Xhg (l:List EF) (i:Nat) (h:i < l.length):Xby (l.take (i+1))=Xby (l.take i)++(XdO l[i]++[10]):=by
 rw [Xa0 l i h];simp only [Xby,List.flatMap_append,List.flatMap_cons,List.flatMap_nil,List.append_nil]
theorem XiR:∀l:List EF,(∀e∈l,EOk e)→(Xby l).length≤l.length*9000200
 | [],_=>by simp [Xby]
 | e :: l,h=>by
   have h1:=Xnv e (h e (by simp))
   have h2:=XiR l fun g hg=>h g (by simp [hg])
   simp only [Xby,List.flatMap_cons,XvH,Xvy,XvB] at h2 ⊢
   rw [Nat.succ_mul]
   omega
theorem Xp9 (l:List EF) (hl:∀e∈l,EOk e) (hn:l.length≤1000000) (ht:(Xby l).length≤900000000):Xa3 Tryz.prog 15 [] [.sq l.length (va l)] (fun r H'=>r=XuT (Xcu l)∧H'=[]):=by
 have hl':=Lib.hid hl
 clear hl
 have hpre:∀i,(Xby (l.take i)).length≤(Xby l).length:=fun i=>by
  have:=congrArg (fun z=>(Xby z).length) (List.take_append_drop i l)
  simp only [Xby,List.flatMap_append,XvH] at this ⊢
  omega
 have hpre':=Lib.hid hpre
 clear hpre
 refine XaD Tryz.func15 rfl ?_
 simp only [Tryz.ntmps15,Xvy,XvB,XvC,XvD,XvG,XvF,Nat.reduceAdd,Nat.reduceSub]
 (repeat' (first|with_reducible (first|refine Xag ?_|refine Xac ?_|refine Xao ?_|refine Xar ?_|refine Xau ?_|refine Xae ?_|refine Xaa ?_|refine Xax ?_)|(refine Xak _ rfl (fun h=>?_) (fun h=>?_)<;>((try (simp only [whn] at h));skip))|((apply Xad rfl);(case h=>((try (intro (hp:(_:Bool)=true);((try simp only [Bool.and_eq_true,Bool.not_eq_true',Bool.not_eq_true] at hp);(try simp only [hp,wte]);(try simp only [whn] at hp))));(first|(apply Xab 0 rfl;(first|exact Xap _ rfl|exact Xan _ rfl))|(apply Xab 3 rfl;(exact XaX _ _ _ _ _ _ HEl.out rfl rfl))|(apply XaC;(case hs=>(intro _ _ h;cases h));(case hx=>rfl);(case hrun=>(intro w;simp [wtb,AV.val,go_sem];(try go_bits);rfl))))));(case hT=>((try simp only [wtn,Xvz,Xvw,Xvx,XvA,XvE,Nat.reduceAdd,Nat.reduceMul,Nat.reduceSub,↓reduceIte,Nat.reduceEqDiff]);rfl)))|fail))
 ·refine Xaf _ _ (XcB rfl (RV.tmp _) (RV.tmp _) (XaH.mk' [] _ (Xvv _) (XaB.refl _ _) (VwL.refl _ _))) ?_
  refine ⟨?_,rfl⟩
  unfold Xcu
  rw [if_pos (by omega)]
  rfl
 have h1000:¬1000 < l.length:=by omega
 apply XaQ (S:=Nat) (fun q=>frm 43 [(0,.sq l.length (va l)),(4,.x (.string (bs (Xby (l.take q))))),(5,.x (.int .i64 q))]) (fun _=>[]) (fun q=>q≤l.length) (fun q=>l.length - q) 0
 case h0=>exact (XaH.mk' [] _ (Xvv _) (XaB.refl _ _) (by (repeat' (first|exact VwL.nil|(refine VwL.cons ?_ ?_)|exact Vw.refl _|exact Vw.top _|fail))))
 case hi=>exact Nat.zero_le _
 rintro i hi
 simp only [frm,XvC,XvD,Xvw,Xvx,XvJ,XvK]
 by_cases hlt:i < l.length
 ·have hL:=Xt3 l[i] (hl'.out _ (List.getElem_mem hlt))
  have hd:=XdH l i hlt
  have hp:=hpre'.out (i+1)
  have hs:=Xhg l i hlt
  have hlen:=congrArg List.length hs
  rw [XvH] at hlen
  have hs':=Lib.hid hs
  clear hs
  unfold EF.cells at hL
  (repeat' (first|with_reducible (first|refine Xag ?_|refine Xac ?_|refine Xao ?_|refine Xau ?_|refine Xae ?_|refine Xaa ?_|refine Xaj ?_)|(refine Xak _ rfl (fun h=>?_) (fun h=>?_)<;>((try (simp only [whn] at h));first|(exfalso;omega;done)|skip))|((apply Xad rfl);(case h=>((try (intro (hp:(_:Bool)=true);((try simp only [Bool.and_eq_true,Bool.not_eq_true',Bool.not_eq_true] at hp);(try simp only [hp,wte]);(try simp only [whn] at hp))));(first|(apply Xab 0 rfl;(first|exact Xap _ rfl|exact Xan _ rfl))|(apply Xab 3 rfl;(exact XaX _ _ _ _ _ _ HEl.out rfl rfl))|(apply Xab 6 rfl;(exact XaF _ _ _ _ _ rfl rfl XaN.out (by first|exact Xvu rfl|fail) (by first|exact Xvu rfl|fail)))|(apply Xab 7 rfl;(exact XaG _ _ _ _ _ _ _ _ _ _ rfl rfl rfl HEl.out rfl (by first|omega|fail) (by simp;first|omega|fail)))|(apply Xab 11 rfl;(exact Xay 39 Tryz.f39 _ _ rfl rfl Tryz.func39 (by decide) rfl (VwL.refl _ _) (hL)))|(apply Xab 12 rfl;(exact Xbv _ _ _ _ rfl rfl rfl (by omega)))|(apply XaC;(case hs=>(intro _ _ h;cases h));(case hx=>rfl);(case hrun=>(intro w;simp [wtb,AV.val,go_sem];(try go_bits);rfl))))));(case hT=>((try simp (disch:=omega) only [wtn,hd,Xvz,Xvw,Xvx,XvA,XvE,Nat.reduceAdd,Nat.reduceMul,Nat.reduceSub,↓reduceIte,Nat.reduceEqDiff]);rfl)))|fail))
  refine ⟨i+1,by omega,by omega,?_⟩
  rw [hs'.out]
  exact (XaH.mk' [] _ (Xvv _) (XaB.refl _ _) (by (repeat' (first|exact VwL.nil|(refine VwL.cons ?_ ?_)|exact Vw.refl _|exact Vw.top _|fail))))
 ·obtain rfl:i=l.length:=by omega
  rw [List.take_length]
  (repeat' (first|with_reducible (first|refine Xag ?_|refine Xac ?_|refine Xar ?_|refine Xau ?_|refine XaW ?_|refine Xae ?_|refine Xaa ?_|refine XaL ?_|refine Xax ?_|refine XaJ ?_)|(refine Xak _ rfl (fun h=>?_) (fun h=>?_)<;>first|(exact absurd h (by decide))|((try (simp only [whn] at h));skip))|((apply Xad rfl);(case h=>((try (intro (hp:(_:Bool)=true);((try simp only [Bool.and_eq_true,Bool.not_eq_true',Bool.not_eq_true] at hp);(try simp only [hp,wte]);(try simp only [whn] at hp))));(first|(apply Xab 0 rfl;(first|exact Xap _ rfl|exact Xan _ rfl))|(apply Xab 3 rfl;(exact XaX _ _ _ _ _ _ HEl.out rfl rfl))|(apply XaC;(case hs=>(intro _ _ h;cases h));(case hx=>rfl);(case hrun=>(intro w;simp [wtb,AV.val,go_sem];(try go_bits);rfl))))));(case hT=>((try simp only [wtn,Xvz,Xvw,Xvx,XvA,XvE,Nat.reduceAdd,Nat.reduceMul,Nat.reduceSub,↓reduceIte,Nat.reduceEqDiff]);rfl)))|fail))
  ·refine Xaf _ _ (XcB rfl (RV.tmp _) (RV.tmp _) (XaH.mk' [] _ (Xvv _) (XaB.refl _ _) (VwL.refl _ _))) ?_
   refine ⟨?_,rfl⟩
   unfold Xcu
   rw [if_neg (by omega),if_pos (by omega)]
   rfl
  have h65:¬65536 < (Xby l).length:=by omega
  have hP:=XsO (Xby l) (by omega)
  unfold XtC at hP
  generalize hp:XcT (Xby l)=p at hP
  have hS:=XsZ l p.1 (by omega)
  have hp':=Lib.hid hp
  clear hp h
  (repeat' (first|with_reducible (first|refine Xag ?_|refine Xac ?_|refine Xar ?_|refine Xau ?_|refine Xae ?_|refine Xaa ?_|refine Xax ?_)|(refine Xak _ rfl (fun h=>?_) (fun h=>?_)<;>((try (simp only [whn] at h));skip))|((first|apply Xad rfl|apply Xa8 _ _ rfl rfl rfl);(case h=>((try (intro (hp:(_:Bool)=true);((try simp only [Bool.and_eq_true,Bool.not_eq_true',Bool.not_eq_true] at hp);(try simp only [hp,wte]);(try simp only [whn] at hp))));(first|(apply Xab 0 rfl;(first|exact Xap _ rfl|exact Xan _ rfl))|(apply Xab 1 rfl;(exact XdJ _ _ _ _ _ rfl rfl rfl rfl))|(apply Xab 2 rfl;(exact XaM _ _ _ _ rfl rfl rfl))|(apply Xab 11 rfl;(first|exact Xay 11 Tryz.f11 _ _ rfl rfl Tryz.func11 (by decide) rfl (VwL.refl _ _) (hP)|exact Xay 12 Tryz.f12 _ _ rfl rfl Tryz.func12 (by decide) rfl (VwL.refl _ _) (hS)))|(apply XaC;(case hs=>(intro _ _ h;cases h));(case hx=>rfl);(case hrun=>(intro w;simp [wtb,AV.val,go_sem];(try go_bits);rfl))))));(case hT=>((try simp only [wtn,Xvz,Xvw,Xvx,XvA,XvE,Nat.reduceAdd,Nat.reduceMul,Nat.reduceSub,↓reduceIte,Nat.reduceEqDiff]);rfl)))|fail))
  ·refine Xaf _ _ (XcB rfl (RV.tmp _) (RV.tmp _) (XaH.mk' [] _ (Xvv _) (XaB.refl _ _) (VwL.refl _ _))) ?_
   refine ⟨?_,rfl⟩
   unfold Xcu
   rw [if_neg h1000,if_neg h65,hp'.out,if_neg (by rintro ⟨a,b⟩;rcases h with h|h<;>simp_all)]
   rfl
  ·refine Xaf _ _ (XcB rfl (RV.tmp _) (RV.tmp _) (XaH.mk' [] _ (Xvv _) (XaB.refl _ _) (VwL.refl _ _))) ?_
   refine ⟨?_,rfl⟩
   unfold Xcu
   rw [if_neg h1000,if_neg h65,hp'.out,if_pos (by simpa using h)]
   rfl
section
variable {P:Program} {Δ:List Deferred} {V O:Nat→Prop} {w0 w w':World} {B H H' R:List Hp} {T T':List AV} {a a':Act} {o:Oper} {ops:Array Oper} {Q:XcR} {listed:Array Bool} {fuel:Nat}
def XhJ (wr:World) (R:List Hp) (w:World):Prop:=∀k,k < wr.heap.size→¬XcS R k→w.heap[k]?=wr.heap[k]?
def Xri (P:Program) (ops:Array Oper) (Q:XcR) (fuel:Nat) (listed:Array Bool) (T:List AV) (H:List Hp):Prop:=
 ∀Δ V O w0 a w,Rel Δ V O w0 H T a w→XcF P .any ops (lift Δ V O w0 Q) [] (XhJ w H) fuel listed a w
def XrN (P:Program) (ops:Array Oper) (Q:XcR) (R:List Hp) (fuel:Nat) (listed:Array Bool) (T:List AV) (H:List Hp):Prop:=
 ∀Δ V O w0 wr a w,Rel Δ V O w0 H T a w→XhJ wr R w→wr.heap.size≤w.heap.size→(∀h∈H,∀k,h.blk=some k→XcS R k∨wr.heap.size≤k)→XcF P .any ops (lift Δ V O w0 Q) [] (XhJ wr R) fuel listed a w
theorem Xfd {id:Nat} {l:List Oper} (hm:P.follows .mixedOrders=true) (h:Xri P l.toArray Q l.length (Array.replicate l.length false) T H):awp P (.region id l.toArray true) Q T H:=
 XcH hm fun Δ V O w0 a w r=>(h Δ V O w0 a w r).any
theorem Xcc {T':List AV} {H':List Hp} (hT:T=T') (hH:H=H') (h:Xri P ops Q fuel listed T' H'):Xri P ops Q fuel listed T H:=hT▸hH▸h
theorem XbZ {T':List AV} {H':List Hp} (hT:T=T') (hH:H=H') (h:XrN P ops Q R fuel listed T' H'):XrN P ops Q R fuel listed T H:=hT▸hH▸h
theorem Xl1 (i:Nat) {o:Oper} {l:List Oper} (hi:Xe9 l i=some o) (hg:o.guard=none) (hc:XgO l.toArray listed i=true) (hpan:∀c T H,¬Q (.panic c) T H) (av:AV)
  (h:∀V a w,OK V H (ev T) o a w→∃v,(∀w',XhJ w H w'→(execOp a.eval o).run P w'=.ok (.value v) w')∧Den (FB V H) w av v) (hK:Xri P l.toArray Q fuel (listed.setIfInBounds i true) (Xb7 T o.dst av) H):Xri P l.toArray Q (fuel+1) listed T H:=by
 have hi:l.toArray[i]?=some o:=by rw [List.getElem?_toArray,←Xcm];exact hi
 intro Δ V O w0 a w r
 obtain ⟨v,hv,hd⟩:=h V a w (r.oks o)
 unfold XgO at hc
 simp only [Bool.and_eq_true] at hc
 exact XcF.first hi hc.1.1 (fun c a w ⟨T,H,_,hq⟩=>absurd hq (hpan c T H)) (fun j o hj=>by simp at hj) (Region.free_spec hi hc.1.2) (by simpa using hc.2) (.inl ⟨by simp [Region.wanted,hg],hv⟩) (fun _ _ _=>rfl) (hK Δ V O w0 _ w (r.put _ hd))
theorem Xcd (i:Nat) {o:Oper} {l:List Oper} (hi:Xe9 l i=some o) (hg:o.guard=none) (hc:XgO l.toArray listed i=true) (hpan:∀c T H,¬Q (.panic c) T H) (av:AV) (h:XlT P o (ev T) H av) (hK:Xri P l.toArray Q fuel (listed.setIfInBounds i true) (Xb7 T o.dst av) H):Xri P l.toArray Q (fuel+1) listed T H:=
 Xl1 i hi hg hc hpan av (fun V a w ok=>by obtain ⟨v,hv,hd⟩:=h V a w ok;exact ⟨v,fun w' _=>hv w',hd⟩) hK
theorem Xj0 {l:List Oper} (h:XrN P l.toArray Q H fuel listed T H):Xri P l.toArray Q fuel listed T H:=fun Δ V O w0 a w r=>
 h Δ V O w0 w a w r (fun _ _ _=>rfl) (Nat.le_refl _) fun x hx k hk=>.inl ⟨x,hx,hk⟩
theorem Xge (hr:Region.ready .any ops listed=[]) (h:Q .normal T H):XrN P ops Q R fuel listed T H:=fun Δ V O w0 wr a w r _ _ _=>by
 cases fuel with
 | zero=>exact ⟨hr,⟨T,H,r,h⟩⟩
 | succ n=>exact ⟨fun _=>⟨T,H,r,h⟩,fun j hj=>by rw [hr] at hj;cases hj⟩
theorem XjJ {j:Nat} (hi:ops[j]?=some o) (hg:o.guard=none) (h:Stp P o T H (XrN P ops Q R fuel (listed.setIfInBounds j true))) (Δ:List Deferred) (V O:Nat→Prop) (w0 wr:World) (r:Rel Δ V O w0 H T a w) (hS:XhJ wr R w) (hz:wr.heap.size≤w.heap.size) (hown:∀h∈H,∀k,h.blk=some k→XcS R k∨wr.heap.size≤k) :
  wpOp P ops (lift Δ V O w0 Q) j (fun a' w'=>(([]:List Nat).contains j=false→XhJ wr R w→XhJ wr R w')∧XcF P .any ops (lift Δ V O w0 Q) [] (XhJ wr R) fuel (listed.setIfInBounds j true) a' w') a w:=by
 unfold wpOp
 simp only [hi]
 rw [if_pos (by simp [Region.wanted,hg])]
 have r0:Rel Δ V O w0 ([]++H) T a w:=r
 refine .inl (h _ _ _ _ a w _ _ r0.aside fun T' H' a' w' hk hr=>?_)
 obtain ⟨r',_⟩:=r0.rejoin hr
 have hS':XhJ wr R w':=fun k hk hn=>by
  refine (hr.fr.block k (Nat.lt_of_lt_of_le hk hz) fun ⟨y,hy,e⟩=>?_).trans (hS k hk hn)
  rcases hown y hy k e with h1|h1
  ·exact hn h1
  ·omega
 refine ⟨fun _ _=>hS',hk Δ V O w0 wr a' w' r' hS' (Nat.le_trans hz hr.fr.size) fun x hx k e=>?_⟩
 rcases hr.own x hx k e with ⟨y,hy,e'⟩|h1
 ·exact hown y hy k e'
 ·exact .inr (Nat.le_trans hz h1)
theorem XdK (i:Nat) {o:Oper} {l:List Oper} (hr:Region.ready .any l.toArray listed=[i]) (hi:Xe9 l i=some o) (hg:o.guard=none) (h:Stp P o T H (XrN P l.toArray Q R fuel (listed.setIfInBounds i true))):XrN P l.toArray Q R (fuel+1) listed T H:=fun Δ V O w0 wr a w r hS hz hown=>
 ⟨fun h0=>(by rw [hr] at h0;cases h0),fun j hj=>by
  rw [hr,List.mem_singleton] at hj;subst hj
  exact XjJ (by rw [List.getElem?_toArray,←Xcm];exact hi) hg h Δ V O w0 wr r hS hz hown⟩
end
open Go.RowKit
section
variable {P:Program} {Δ:List Deferred} {V O:Nat→Prop} {w0 w w':World} {H H' D:List Hp} {T T':List AV} {a:Act} {o:Oper} {ρ:Operand→AV} {Q:XcR}
end
section
variable {P:Program} {H:List Hp} {T:List AV} {o:Oper} {ops:Array Oper} {Q:XcR}
end
open Go.RowKit
theorem Src.bytesOf {ρ:Operand→AV} {H:List Hp} {x:Operand} (q:Nat) {b n cap:Nat} (full:List UInt8) (hx:ρ x=.x (.slice (some ⟨b,0,none⟩) n cap)) (hq:H[q]?=some (.box b (u8a full))) (h1:n≤cap) (h2:cap≤maxLen) (h3:n≤full.length):Src ρ H x (full.take n).length (u8a (full.take n)):=by
 rw [List.length_take,Nat.min_eq_left h3]
 exact Src.part q hx hq h1 h2 (by simp [u8a,u8s])
attribute [local simp] XeD
theorem Xu0 (l:List Int) (H:List Hp):Xa3 Tryz.prog 19 H [.sq l.length (ia l)] (fun r H'=>∃b,r=.x (.pointer (some ⟨b,0,none⟩))∧H'=.box b [.sq l.length (ia l),.x (.int .i64 0)] :: H):=by
 refine XaD Tryz.func19 rfl ?_
 simp only [Tryz.ntmps19,Xvy,XvB,XvC,XvD,XvG,XvF,Nat.reduceAdd,Nat.reduceSub]
 (repeat' (first|with_reducible (first|refine Xag ?_|refine Xac ?_|refine Xar ?_|refine Xae ?_|refine Xaa ?_)|((apply Xad rfl);(case h=>((try (intro (hp:(_:Bool)=true);((try simp only [Bool.and_eq_true,Bool.not_eq_true',Bool.not_eq_true] at hp);(try simp only [hp,wte]);(try simp only [whn] at hp))));(first|(apply Xab 0 rfl;(first|exact Xap _ rfl|exact Xan _ rfl))|(apply Xab 10 rfl;(exact Xa1 _ _ _ _ _ rfl HPl.out (by first|rfl|fail) rfl)))));(case hT=>((try simp only [wtn,Xvz,Xvw,Xvx,XvA,XvE,Nat.reduceAdd,Nat.reduceMul,Nat.reduceSub,↓reduceIte,Nat.reduceEqDiff]);rfl)))|(refine Xai rfl ?_;((refine Xas 15 rfl ?_;(refine Xbo _ _ rfl (by first|rfl|fail) (fun b=>?_)));apply Xah;(case hT=>((try simp only [wtn,Xvz,Xvw,Xvx,XvA,XvE,Nat.reduceAdd,Nat.reduceMul,Nat.reduceSub,↓reduceIte,Nat.reduceEqDiff]);rfl));(case hH=>((try simp only [wtn,Xvz,Xvw,Xvx,XvA,XvE,Nat.reduceAdd,Nat.reduceMul,Nat.reduceSub,↓reduceIte,Nat.reduceEqDiff]);rfl))))|fail))
 refine Xaf _ _ (Xbh rfl (RV.tmp _) (XaH.mk' [] _ (Xvv _) (XaB.refl _ _) (VwL.refl _ _))) ?_
 exact ⟨_,rfl,rfl⟩
end Go.Proofs.YtdpobjakdplljaaGreatDoor

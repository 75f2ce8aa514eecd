import Derived.Test.YtdpobjakdplljaaGreatDoorU14
import Derived.Test.YtdpobjakdplljaaGreatDoorU17
import Derived.Test.YtdpobjakdplljaaGreatDoorU11
import Derived.Test.YtdpobjakdplljaaGreatDoorU9
import Derived.Test.YtdpobjakdplljaaGreatDoorU8
/- The reference of scripts: Parse, exactly. -/
set_option linter.unusedSimpArgs false
set_option linter.unusedVariables false
set_option maxRecDepth 100000
set_option maxHeartbeats 8000000
namespace Go.Proofs.YtdpobjakdplljaaGreatDoor
open Go.RowKit
theorem XfM {x:List UInt8} {ts:List Tok} (h:lex x=.ok ts):1≤ts.length∧ts.length≤2001∧(∀t∈ts,Xlt t)∧∀t∈ts,t.text.length≤70000:=by
 obtain ⟨p1,p2,-,-,p5⟩:=(XdY x).2 ts h
 refine ⟨p1,p2,fun t ht hk=>(Xjo x ts h).1 t ht hk,fun t ht=>?_⟩
 unfold lex at h
 split at h
 ·cases h
 ·obtain ⟨qs,e,-,-,-,hl⟩:=XeC _ _ _ _ _ (Nat.le_refl _) h
  have:=hl t ht
  omega
theorem XdT {xs:List (List UInt8)} {i:Nat} (h:i < xs.length) (out:List EF):cGo (xs.drop i) i out=match lex xs[i] with
  | .error _=>([],i,320)
  | .ok ts=>if ts.length≤1 then cGo (xs.drop (i+1)) (i+1) out else match XbZ ts.dropLast with
    | none=>([],i,320)
    | some e=>if 1000≤out.length then ([],i,1) else cGo (xs.drop (i+1)) (i+1) (out++[e]):=by
 rw [List.drop_eq_getElem_cons h,cGo]
 rfl
section
variable {xs:List (List UInt8)} {i:Nat} (h:i < xs.length) (out:List EF)
theorem Xnp {f:Flt} (h1:lex xs[i]=.error f):cGo (xs.drop i) i out=([],i,320):=by rw [XdT h,h1]
theorem XlJ {ts:List Tok} (h1:lex xs[i]=.ok ts) (h2:ts.length≤1):cGo (xs.drop i) i out=cGo (xs.drop (i+1)) (i+1) out:=by rw [XdT h,h1];exact if_pos h2
theorem XlI {ts:List Tok} (h1:lex xs[i]=.ok ts) (h2:¬ts.length≤1) (h3:XbZ ts.dropLast=none):cGo (xs.drop i) i out=([],i,320):=by rw [XdT h,h1];simp only [if_neg h2,h3]
theorem XlH {ts:List Tok} {e:EF} (h1:lex xs[i]=.ok ts) (h2:¬ts.length≤1) (h3:XbZ ts.dropLast=some e) (h4:1000≤out.length):cGo (xs.drop i) i out=([],i,1):=by rw [XdT h,h1];simp only [if_neg h2,h3,if_pos h4]
theorem XoQ {ts:List Tok} {e:EF} (h1:lex xs[i]=.ok ts) (h2:¬ts.length≤1) (h3:XbZ ts.dropLast=some e) (h4:¬1000≤out.length):cGo (xs.drop i) i out=cGo (xs.drop (i+1)) (i+1) (out++[e]):=by rw [XdT h,h1];simp only [if_neg h2,h3,if_neg h4]
end
theorem Xlm (l:List Tok) (k:Nat):(ta l).take (k*4)=ta (l.take k):=by
 induction l generalizing k with
 | nil=>simp [ta]
 | cons t l ih=>
   cases k with
   | zero=>simp [ta]
   | succ k=>
     have:=ih k
     simp only [ta,List.flatMap_cons,List.take_succ_cons] at this ⊢
     rw [show (k+1)*4=t.cells.length+k*4 from by simp [Tok.cells];omega,List.take_length_add_append,this]
theorem Xlq (l:List EF) (e:EF):va l++[.x (.int .i64 e.kind),.x (.string (bs e.job)),.x (.bool e.ok),.x (.int .i64 e.code),.sq e.data.length (u8a e.data),.x (.int .u64 e.time),.x (.int .i64 e.client),.x (.int .i64 e.num)]=va (l++[e]):=by
 rw [Xm6];simp [va,EF.cells]
theorem Xmo (s:List UInt8) (h65:65536 < s.length) (hs:s.length≤1000000):Xbb Tryz.prog 11 [] [.x (.string (bs s))] (fun r H'=>r=XoF (XbQ s)∧H'=[]):=by
 have e:XbQ s=([],0,1):=if_pos h65
 rw [e]
 refine XaI Tryz.func11 rfl ?_
 simp only [Tryz.ntmps11,Xqy,XqB,XqC,XqD,XqG,XqF,Nat.reduceAdd,Nat.reduceSub]
 (repeat' (first|with_reducible (first|refine Xal ?_|refine Xac ?_|refine Xaq ?_|refine Xae ?_|refine Xaa ?_|refine Xam ?_)|(refine Xai _ rfl (fun h=>?_) (fun h=>?_)<;>((try (simp only [whn] at h));first|(exfalso;omega;done)|skip))|((apply Xad rfl);(case h=>(first|(apply Xab 0 rfl;(first|exact Xas _ rfl|exact Xao _ rfl))|(apply XaB;(case hs=>(intro _ _ h;cases h));(case hx=>rfl);(case hrun=>(intro w;simp [wtb,AV.val,go_sem];skip;rfl)))));(case hT=>((try simp only [wtn]);rfl)))|fail))
 refine Xaf _ _ (XjH rfl (RV.tmp _) (RV.tmp _) (RV.tmp _) (XaH.mk' [] _ (Xqv _) (XaF.refl _ _) (VwL.cons Vw.nil (VwL.refl _ _)))) ?_
 exact ⟨rfl,rfl⟩
theorem Xk3 (s:List UInt8) (hs:s.length≤1000000):Xbb Tryz.prog 11 [] [.x (.string (bs s))] (fun r H'=>r=XoF (XbQ s)∧H'=[]):=by
 by_cases h65:65536 < s.length
 ·exact Xmo s h65 hs
 have e:XbQ s=cGo (XbG s) 0 []:=if_neg h65
 rw [e]
 clear e
 have hL:=Xn9 s (by omega)
 have hll:=Xea s []
 have hle:=Lib.hid (XeU s [])
 unfold XbG at *
 generalize XbL [] s=xs at *
 refine XaI Tryz.func11 rfl ?_
 simp only [Tryz.ntmps11,Xqy,XqB,XqC,XqD,XqG,XqF,Nat.reduceAdd,Nat.reduceSub]
 refine Xcm 41 8 ?_
 (repeat' (first|with_reducible (first|refine Xal ?_|refine Xac ?_|refine Xat ?_|refine Xaw ?_|refine Xae ?_|refine Xaa ?_)|(refine Xai _ rfl (fun h=>?_) (fun h=>?_)<;>((try (simp only [whn] at h));first|(exfalso;omega;done)|skip))|((apply Xad rfl);(case h=>(first|(apply Xab 0 rfl;(first|exact Xas _ rfl|exact Xao _ rfl))|(apply Xab 11 rfl;(exact Xan 26 Tryz.f26 _ _ rfl rfl Tryz.func26 (by decide) rfl (VwL.refl _ _) (hL)))|(apply XaB;(case hs=>(intro _ _ h;cases h));(case hx=>rfl);(case hrun=>(intro w;simp [wtb,AV.val,go_sem];skip;rfl)))));(case hT=>((try simp only [wtn]);rfl)))|fail))
 apply Xba (S:=Nat × List EF × Option Addr × Nat) (fun q=>frm 62 [(5,.x (.slice q.2.2.1 q.2.1.length q.2.2.2)),(6,.sq xs.length (sa xs)),(7,.x (.int .i64 q.1))]) (fun q=>[.row q.2.2.1 q.2.1.length q.2.2.2 41 8 (va q.2.1)])
  (fun q=>q.1≤xs.length∧q.2.1.length≤q.1∧cGo xs 0 []=cGo (xs.drop q.1) q.1 q.2.1) (fun q=>xs.length - q.1) (0,[],none,0)
 case h0=>exact (XaH.mk' [] _ (Xqv _) (XaF.refl _ _) (by (repeat' (first|exact VwL.nil|(refine VwL.cons ?_ ?_)|exact Vw.refl _|exact Vw.top _|fail))))
 case hi=>exact ⟨Nat.zero_le _,Nat.le_refl _,rfl⟩
 rintro ⟨i,out,ad0,cap0⟩ ⟨h1,h2,h3⟩
 simp only at h1 h2 h3
 have h3':=Lib.hid h3
 clear h3
 simp only [frm,XqC,XqD,Xqw,Xqx,XqJ,XqK]
 by_cases hlt:i < xs.length
 ·have hA:=XpG xs[i] (by have:=hle.out xs[i] (List.getElem_mem _);simp at this;omega)
  have hsd:=Xlh xs i hlt
  cases hlx:lex xs[i] with
  | error f=>
    have hc:=(XdY xs[i]).1 f hlx
    have hg:=Lib.hid (Xnp hlt out hlx)
    rw [hlx] at hA
    clear hlx
    simp only [Xd4,XhO,Flt.av] at hA
    have hc':(f.code != 0)=true:=bne_iff_ne.2 hc
    (repeat' (first|with_reducible (first|refine Xal ?_|refine Xac ?_|refine Xat ?_|refine Xaq ?_|refine Xaw ?_|refine Xae ?_|refine Xaa ?_|refine Xam ?_|refine Xak ?_)|(refine Xai _ rfl (fun h=>?_) (fun h=>?_)<;>first|(exact absurd h (by decide))|((try (simp only [whn] at h));first|(exfalso;omega;done)|skip))|((apply Xad rfl);(case h=>(first|(apply Xab 0 rfl;(first|exact Xas _ rfl|exact Xao _ rfl))|(apply Xab 2 rfl;(exact Xay _ _ _ _ rfl rfl rfl))|(apply Xab 3 rfl;(exact Xa2 _ _ _ _ _ _ HEl.out rfl rfl))|(apply Xab 5 rfl;(exact Xau _ _ _ _ _ _ rfl rfl Xbv.out))|(apply Xab 6 rfl;(first|exact XaP _ _ _ _ _ rfl rfl XaZ.out (by first|exact Xqu rfl|fail) (by first|exact Xqu rfl|fail)|exact Xaz _ _ _ _ _ _ _ _ rfl rfl Xa3.out XaZ.out (by first|exact Xqu rfl|fail) (by first|exact Xqu rfl|fail)))|(apply Xab 7 rfl;(exact XaL _ _ _ _ _ _ _ _ _ _ rfl rfl rfl HEl.out rfl (by first|omega|fail) (by simp;first|omega|fail)))|(apply Xab 11 rfl;(exact Xan 27 Tryz.f27 _ _ rfl rfl Tryz.func27 (by decide) rfl (VwL.refl _ _) (hA)))|(apply XaB;(case hs=>(intro _ _ h;cases h));(case hx=>rfl);(case hrun=>(intro w;simp [wtb,AV.val,go_sem];skip;rfl)))));(case hT=>((try simp (disch:=omega) only [wtn,hc',hsd,Xqz,Xqw,Xqx,XqA,XqE,Nat.reduceAdd,Nat.reduceMul,Nat.reduceSub,↓reduceIte,Nat.reduceEqDiff]);rfl)))|(refine Xah rfl ?_;((first|(refine Xav 14 rfl ?_;(refine XaE _ _ rfl Xbu.out rfl (fun b=>?_)))|(refine Xav 16 rfl ?_;(refine Xax _ _ _ _ _ _ _ rfl rfl Xa3.out XaX.out (by first|rfl|fail) (by first|exact Xqu rfl|fail) ?_)));apply Xag;(case hT=>((try simp (disch:=omega) only [wtn,hc',hsd,Xqz,Xqw,Xqx,XqA,XqE,Nat.reduceAdd,Nat.reduceMul,Nat.reduceSub,↓reduceIte,Nat.reduceEqDiff]);rfl));(case hH=>((try simp (disch:=omega) only [wtn,hc',hsd,Xqz,Xqw,Xqx,XqA,XqE,Nat.reduceAdd,Nat.reduceMul,Nat.reduceSub,↓reduceIte,Nat.reduceEqDiff]);rfl))))|fail))
    refine Xaf _ _ (XjH rfl (RV.tmp _) (RV.tmp _) (RV.tmp _) (XaH.mk' [_,_] [] (Xqv _) XaF.nil (VwL.cons Vw.nil (VwL.refl _ _)))) ?_
    refine ⟨?_,rfl⟩
    rw [h3'.out,hg.out]
    rfl
  | ok ts=>
    obtain ⟨p1,p2,p3,p4⟩:=XfM hlx
    rw [hlx] at hA
    simp only [Xd4,XhO,Flt.av] at hA
    obtain ⟨td,hd⟩:∃td,td=ts.dropLast:=⟨_,rfl⟩
    have hdl:ts.length=td.length+1:=by rw [hd];simp;omega
    have hdt:(ta ts).take (td.length*4)=ta td:=by rw [Xlm,hd,List.dropLast_eq_take];simp
    rw [hdl] at hA
    by_cases ht1:td.length=0
    ·have hg:=Lib.hid (XlJ hlt out hlx (by omega))
     clear hlx hd p3 p4
     (repeat' (first|with_reducible (first|refine Xal ?_|refine Xac ?_|refine Xat ?_|refine Xaw ?_|refine XaY ?_|refine Xae ?_|refine Xaa ?_|refine XaG ?_|refine XaC ?_)|(refine Xai _ rfl (fun h=>?_) (fun h=>?_)<;>first|(exact absurd h (by decide))|((try (simp only [whn] at h));first|(exfalso;omega;done)|skip))|((apply Xad rfl);(case h=>(first|(apply Xab 0 rfl;(first|exact Xas _ rfl|exact Xao _ rfl))|(apply Xab 2 rfl;(exact Xay _ _ _ _ rfl rfl rfl))|(apply Xab 3 rfl;(exact Xa2 _ _ _ _ _ _ HEl.out rfl rfl))|(apply Xab 5 rfl;(exact Xau _ _ _ _ _ _ rfl rfl Xbv.out))|(apply Xab 6 rfl;(first|exact XaP _ _ _ _ _ rfl rfl XaZ.out (by first|exact Xqu rfl|fail) (by first|exact Xqu rfl|fail)|exact Xaz _ _ _ _ _ _ _ _ rfl rfl Xa3.out XaZ.out (by first|exact Xqu rfl|fail) (by first|exact Xqu rfl|fail)))|(apply Xab 7 rfl;(exact XaL _ _ _ _ _ _ _ _ _ _ rfl rfl rfl HEl.out rfl (by first|omega|fail) (by simp;first|omega|fail)))|(apply Xab 9 rfl;(exact Xa1 _ _ _ _ _ _ _ _ _ _ rfl rfl HEl.out (by first|exact .inl ⟨rfl,rfl⟩|fail) (by first|exact .inr ⟨_,_,rfl,rfl⟩|fail) (by omega) (by omega)))|(apply Xab 11 rfl;(exact Xan 27 Tryz.f27 _ _ rfl rfl Tryz.func27 (by decide) rfl (VwL.refl _ _) (hA)))|(apply XaB;(case hs=>(intro _ _ h;cases h));(case hx=>rfl);(case hrun=>(intro w;simp [wtb,AV.val,go_sem];(try go_bits);rfl)))));(case hT=>((try simp (disch:=omega) only [wtn,hsd,hdt,Nat.sub_zero,Xqz,Xqw,Xqx,XqA,XqE,Nat.reduceAdd,Nat.reduceMul,Nat.reduceSub,↓reduceIte,Nat.reduceEqDiff]);rfl)))|(refine Xah rfl ?_;((first|(refine Xav 14 rfl ?_;(refine XaE _ _ rfl Xbu.out rfl (fun b=>?_)))|(refine Xav 16 rfl ?_;(refine Xax _ _ _ _ _ _ _ rfl rfl Xa3.out XaX.out (by first|rfl|fail) (by first|exact Xqu rfl|fail) ?_)));apply Xag;(case hT=>((try simp (disch:=omega) only [wtn,hsd,hdt,Nat.sub_zero,Xqz,Xqw,Xqx,XqA,XqE,Nat.reduceAdd,Nat.reduceMul,Nat.reduceSub,↓reduceIte,Nat.reduceEqDiff]);rfl));(case hH=>((try simp (disch:=omega) only [wtn,hsd,hdt,Nat.sub_zero,Xqz,Xqw,Xqx,XqA,XqE,Nat.reduceAdd,Nat.reduceMul,Nat.reduceSub,↓reduceIte,Nat.reduceEqDiff]);rfl))))|fail))
     exact ⟨(i+1,out,ad0,cap0),by simp only;omega,⟨by simp only;omega,by simp only;omega,by simp only;rw [h3'.out,hg.out]⟩,(XaH.mk' [_] [_] (Xqv _) (XaF.refl _ _) (by (repeat' (first|exact VwL.nil|(refine VwL.cons ?_ ?_)|exact Vw.refl _|exact Vw.top _|fail))))⟩
    ·have hE:=XnH td (by omega) (by omega) (fun t ht=>p3 t (by rw [hd,List.dropLast_eq_take] at ht;exact List.mem_of_mem_take ht)) (fun t ht=>p4 t (by rw [hd,List.dropLast_eq_take] at ht;exact List.mem_of_mem_take ht))
     cases hev:XbZ td with
     | none=>
       have hg:=Lib.hid (XlI hlt out hlx (by omega) (by rw [←hd];exact hev))
       rw [hev] at hE
       clear hlx hd p3 p4 hev
       unfold Xjh at hE
       (repeat' (first|with_reducible (first|refine Xal ?_|refine Xac ?_|refine Xat ?_|refine Xaq ?_|refine Xaw ?_|refine Xae ?_|refine Xaa ?_|refine Xam ?_|refine Xak ?_)|(refine Xai _ rfl (fun h=>?_) (fun h=>?_)<;>first|(exact absurd h (by decide))|((try (simp only [whn] at h));first|(exfalso;omega;done)|skip))|((apply Xad rfl);(case h=>(first|(apply Xab 0 rfl;(first|exact Xas _ rfl|exact Xao _ rfl))|(apply Xab 2 rfl;(exact Xay _ _ _ _ rfl rfl rfl))|(apply Xab 3 rfl;(exact Xa2 _ _ _ _ _ _ HEl.out rfl rfl))|(apply Xab 5 rfl;(exact Xau _ _ _ _ _ _ rfl rfl Xbv.out))|(apply Xab 6 rfl;(first|exact XaP _ _ _ _ _ rfl rfl XaZ.out (by first|exact Xqu rfl|fail) (by first|exact Xqu rfl|fail)|exact Xaz _ _ _ _ _ _ _ _ rfl rfl Xa3.out XaZ.out (by first|exact Xqu rfl|fail) (by first|exact Xqu rfl|fail)))|(apply Xab 7 rfl;(exact XaL _ _ _ _ _ _ _ _ _ _ rfl rfl rfl HEl.out rfl (by first|omega|fail) (by simp;first|omega|fail)))|(apply Xab 9 rfl;(exact Xa1 _ _ _ _ _ _ _ _ _ _ rfl rfl HEl.out (by first|exact .inl ⟨rfl,rfl⟩|fail) (by first|exact .inr ⟨_,_,rfl,rfl⟩|fail) (by omega) (by omega)))|(apply Xab 11 rfl;(first|exact Xan 27 Tryz.f27 _ _ rfl rfl Tryz.func27 (by decide) rfl (VwL.refl _ _) (hA)|exact Xan 28 Tryz.f28 _ _ rfl rfl Tryz.func28 (by decide) rfl (VwL.refl _ _) (hE)))|(apply XaB;(case hs=>(intro _ _ h;cases h));(case hx=>rfl);(case hrun=>(intro w;simp [wtb,AV.val,go_sem];(try go_bits);rfl)))));(case hT=>((try simp (disch:=omega) only [wtn,hsd,hdt,Nat.sub_zero,Xqz,Xqw,Xqx,XqA,XqE,Nat.reduceAdd,Nat.reduceMul,Nat.reduceSub,↓reduceIte,Nat.reduceEqDiff]);rfl)))|(refine Xah rfl ?_;((first|(refine Xav 14 rfl ?_;(refine XaE _ _ rfl Xbu.out rfl (fun b=>?_)))|(refine Xav 16 rfl ?_;(refine Xax _ _ _ _ _ _ _ rfl rfl Xa3.out XaX.out (by first|rfl|fail) (by first|exact Xqu rfl|fail) ?_)));apply Xag;(case hT=>((try simp (disch:=omega) only [wtn,hsd,hdt,Nat.sub_zero,Xqz,Xqw,Xqx,XqA,XqE,Nat.reduceAdd,Nat.reduceMul,Nat.reduceSub,↓reduceIte,Nat.reduceEqDiff]);rfl));(case hH=>((try simp (disch:=omega) only [wtn,hsd,hdt,Nat.sub_zero,Xqz,Xqw,Xqx,XqA,XqE,Nat.reduceAdd,Nat.reduceMul,Nat.reduceSub,↓reduceIte,Nat.reduceEqDiff]);rfl))))|fail))
       refine Xaf _ _ (XjH rfl (RV.tmp _) (RV.tmp _) (RV.tmp _) (XaH.mk' [_,_,_] [] (Xqv _) XaF.nil (VwL.cons Vw.nil (VwL.refl _ _)))) ?_
       refine ⟨?_,rfl⟩
       rw [h3'.out,hg.out]
       rfl
     | some e=>
       have hg1:=Lib.hid (XlH hlt out hlx (by omega) (e:=e) (by rw [←hd];exact hev))
       have hg2:=Lib.hid (XoQ hlt out hlx (by omega) (e:=e) (by rw [←hd];exact hev))
       rw [hev] at hE
       clear hlx hd p3 p4 hev
       unfold Xjh EF.cells at hE
       (repeat' (first|with_reducible (first|refine Xal ?_|refine Xac ?_|refine Xat ?_|refine Xaq ?_|refine Xaw ?_|refine Xae ?_|refine Xaa ?_|refine Xam ?_|refine Xaj ?_|refine Xak ?_)|(refine Xai _ rfl (fun h=>?_) (fun h=>?_)<;>first|(exact absurd h (by decide))|((try (simp only [whn] at h));first|(exfalso;omega;done)|skip))|((apply Xad rfl);(case h=>(first|(apply Xab 0 rfl;(first|exact Xas _ rfl|exact Xao _ rfl))|(apply Xab 2 rfl;(exact Xay _ _ _ _ rfl rfl rfl))|(apply Xab 3 rfl;(exact Xa2 _ _ _ _ _ _ HEl.out rfl rfl))|(apply Xab 5 rfl;(exact Xau _ _ _ _ _ _ rfl rfl Xbv.out))|(apply Xab 6 rfl;(first|exact XaP _ _ _ _ _ rfl rfl XaZ.out (by first|exact Xqu rfl|fail) (by first|exact Xqu rfl|fail)|exact Xaz _ _ _ _ _ _ _ _ rfl rfl Xa3.out XaZ.out (by first|exact Xqu rfl|fail) (by first|exact Xqu rfl|fail)))|(apply Xab 7 rfl;(exact XaL _ _ _ _ _ _ _ _ _ _ rfl rfl rfl HEl.out rfl (by first|omega|fail) (by simp;first|omega|fail)))|(apply Xab 9 rfl;(exact Xa1 _ _ _ _ _ _ _ _ _ _ rfl rfl HEl.out (by first|exact .inl ⟨rfl,rfl⟩|fail) (by first|exact .inr ⟨_,_,rfl,rfl⟩|fail) (by omega) (by omega)))|(apply Xab 11 rfl;(first|exact Xan 27 Tryz.f27 _ _ rfl rfl Tryz.func27 (by decide) rfl (VwL.refl _ _) (hA)|exact Xan 28 Tryz.f28 _ _ rfl rfl Tryz.func28 (by decide) rfl (VwL.refl _ _) (hE)))|(apply XaB;(case hs=>(intro _ _ h;cases h));(case hx=>rfl);(case hrun=>(intro w;simp [wtb,AV.val,go_sem];(try go_bits);rfl)))));(case hT=>((try simp (disch:=omega) only [wtn,hsd,hdt,Nat.sub_zero,Xqz,Xqw,Xqx,XqA,XqE,Nat.reduceAdd,Nat.reduceMul,Nat.reduceSub,↓reduceIte,Nat.reduceEqDiff]);rfl)))|(refine Xah rfl ?_;((first|(refine Xav 13 rfl ?_;(refine XaM _ _ _ _ _ _ _ _ _ _ _ _ _ _ rfl rfl XbR.out (Src.row _ rfl XbR.out) Xa5.out (by first|rfl|fail) (XdI _ _ (by omega) (by decide)) (fun ad cap=>?_)))|(refine Xav 14 rfl ?_;(refine XaE _ _ rfl Xbu.out rfl (fun b=>?_)))|(refine Xav 16 rfl ?_;(refine Xax _ _ _ _ _ _ _ rfl rfl Xa3.out XaX.out (by first|rfl|fail) (by first|exact Xqu rfl|fail) ?_))|(refine Xav 17 rfl ?_;(refine XaA _ _ _ _ _ _ _ _ rfl Xa5.out (by first|rfl|fail) rfl (by decide) rfl (fun b=>?_))));apply Xag;(case hT=>((try simp (disch:=omega) only [wtn,hsd,hdt,Nat.sub_zero,Xqz,Xqw,Xqx,XqA,XqE,Nat.reduceAdd,Nat.reduceMul,Nat.reduceSub,↓reduceIte,Nat.reduceEqDiff]);rfl));(case hH=>((try simp (disch:=omega) only [wtn,hsd,hdt,Nat.sub_zero,Xqz,Xqw,Xqx,XqA,XqE,Nat.reduceAdd,Nat.reduceMul,Nat.reduceSub,↓reduceIte,Nat.reduceEqDiff]);rfl))))|fail))
       ·refine Xaf _ _ (XjH rfl (RV.tmp _) (RV.tmp _) (RV.tmp _) (XaH.mk' [_,_,_] [] (Xqv _) XaF.nil (VwL.cons Vw.nil (VwL.refl _ _)))) ?_
        refine ⟨?_,rfl⟩
        rw [h3'.out,hg1.out (by omega)]
        rfl
       ·refine ⟨(i+1,out++[e],ad,cap),by simp only;omega,⟨by simp only;omega,by simp only [XqH,Xqy,XqB];omega,by simp only;rw [h3'.out,hg2.out (by omega)]⟩,?_⟩
        simp only [XqH,Xqy,XqB,←Xlq]
        exact (XaH.mk' [_,_,_] [_] (Xqv _) (XaF.refl _ _) (by (repeat' (first|exact VwL.nil|(refine VwL.cons ?_ ?_)|exact Vw.refl _|exact Vw.top _|fail))))
 ·obtain rfl:i=xs.length:=by omega
  have h3:=h3'.out
  rw [List.drop_length,cGo] at h3
  (repeat' (first|with_reducible (first|refine Xal ?_|refine Xac ?_|refine Xaq ?_|refine XaY ?_|refine Xae ?_|refine Xaa ?_|refine XaG ?_|refine XaC ?_)|(refine Xai _ rfl (fun h=>?_) (fun h=>?_)<;>first|(exact absurd h (by decide))|((try (simp only [] at h));skip))|((apply Xad rfl);(case h=>(first|(apply Xab 0 rfl;(first|exact Xas _ rfl|exact Xao _ rfl))|(apply Xab 3 rfl;(exact Xa2 _ _ _ _ _ _ HEl.out rfl rfl))|(apply XaB;(case hs=>(intro _ _ h;cases h));(case hx=>rfl);(case hrun=>(intro w;simp [wtb,AV.val,go_sem];skip;rfl)))));(case hT=>((try simp only [wtn]);rfl)))|fail))
  refine Xaf _ _ (XjH rfl (RV.tmp _) (RV.tmp _) (RV.tmp _) (XaH.mk' [_] [] (Xqv _) XaF.nil (VwL.cons (Vw.row (List.Mem.head _) (VwL.refl _ _)) (VwL.refl _ _)))) ?_
  rw [h3]
  exact ⟨rfl,rfl⟩
open Go.RowKit
section
variable {P:Program} {Δ:List Deferred} {V O:Nat→Prop} {w0 w w':World} {B H H' R:List Hp} {T T':List AV} {a a':Act} {o:Oper} {ops:Array Oper} {Q:XcB} {listed:Array Bool} {fuel:Nat}
def XfV (wr:World) (R:List Hp) (w:World):Prop:=∀k,k < wr.heap.size→¬Xcw R k→w.heap[k]?=wr.heap[k]?
def XmQ (P:Program) (ops:Array Oper) (Q:XcB) (fuel:Nat) (listed:Array Bool) (T:List AV) (H:List Hp):Prop:=
 ∀Δ V O w0 a w,Rel Δ V O w0 H T a w→Xcj P .any ops (lift Δ V O w0 Q) [] (XfV w H) fuel listed a w
def Xnk (P:Program) (ops:Array Oper) (Q:XcB) (R:List Hp) (fuel:Nat) (listed:Array Bool) (T:List AV) (H:List Hp):Prop:=
 ∀Δ V O w0 wr a w,Rel Δ V O w0 H T a w→XfV wr R w→wr.heap.size≤w.heap.size→(∀h∈H,∀k,h.blk=some k→Xcw R k∨wr.heap.size≤k)→Xcj P .any ops (lift Δ V O w0 Q) [] (XfV wr R) fuel listed a w
theorem Xd9 {id:Nat} {l:List Oper} (hm:P.follows .mixedOrders=true) (h:XmQ P l.toArray Q l.length (Array.replicate l.length false) T H):awp P (.region id l.toArray true) Q T H:=
 XcV hm fun Δ V O w0 a w r=>(h Δ V O w0 a w r).any
theorem Xb3 {T':List AV} {H':List Hp} (hT:T=T') (hH:H=H') (h:XmQ P ops Q fuel listed T' H'):XmQ P ops Q fuel listed T H:=hT▸hH▸h
theorem XbK {T':List AV} {H':List Hp} (hT:T=T') (hH:H=H') (h:Xnk P ops Q R fuel listed T' H'):Xnk P ops Q R fuel listed T H:=hT▸hH▸h
theorem Xi5 (i:Nat) {o:Oper} {l:List Oper} (hi:XfN l i=some o) (hg:o.guard=none) (hc:Xff l.toArray listed i=true) (hpan:∀c T H,¬Q (.panic c) T H) (av:AV)
  (h:∀V a w,OK V H (ev T) o a w→∃v,(∀w',XfV w H w'→(execOp a.eval o).run P w'=.ok (.value v) w')∧Den (FB V H) w av v) (hK:XmQ P l.toArray Q fuel (listed.setIfInBounds i true) (XbW T o.dst av) H):XmQ P l.toArray Q (fuel+1) listed T H:=by
 have hi:l.toArray[i]?=some o:=by rw [List.getElem?_toArray,←XcK];exact hi
 intro Δ V O w0 a w r
 obtain ⟨v,hv,hd⟩:=h V a w (r.oks o)
 unfold Xff at hc
 simp only [Bool.and_eq_true] at hc
 exact Xcj.first hi hc.1.1 (fun c a w ⟨T,H,_,hq⟩=>absurd hq (hpan c T H)) (fun j o hj=>by simp at hj) (Region.free_spec hi hc.1.2) (by simpa using hc.2) (.inl ⟨by simp [Region.wanted,hg],hv⟩) (fun _ _ _=>rfl) (hK Δ V O w0 _ w (r.put _ hd))
theorem Xb4 (i:Nat) {o:Oper} {l:List Oper} (hi:XfN l i=some o) (hg:o.guard=none) (hc:Xff l.toArray listed i=true) (hpan:∀c T H,¬Q (.panic c) T H) (av:AV) (h:Xlu P o (ev T) H av) (hK:XmQ P l.toArray Q fuel (listed.setIfInBounds i true) (XbW T o.dst av) H):XmQ P l.toArray Q (fuel+1) listed T H:=
 Xi5 i hi hg hc hpan av (fun V a w ok=>by obtain ⟨v,hv,hd⟩:=h V a w ok;exact ⟨v,fun w' _=>hv w',hd⟩) hK
theorem Xhx {l:List Oper} (h:Xnk P l.toArray Q H fuel listed T H):XmQ P l.toArray Q fuel listed T H:=fun Δ V O w0 a w r=>
 h Δ V O w0 w a w r (fun _ _ _=>rfl) (Nat.le_refl _) fun x hx k hk=>.inl ⟨x,hx,hk⟩
theorem XeO (hr:Region.ready .any ops listed=[]) (h:Q .normal T H):Xnk P ops Q R fuel listed T H:=fun Δ V O w0 wr a w r _ _ _=>by
 cases fuel with
 | zero=>exact ⟨hr,⟨T,H,r,h⟩⟩
 | succ n=>exact ⟨fun _=>⟨T,H,r,h⟩,fun j hj=>by rw [hr] at hj;cases hj⟩
theorem Xhg {j:Nat} (hi:ops[j]?=some o) (hg:o.guard=none) (h:Stp P o T H (Xnk P ops Q R fuel (listed.setIfInBounds j true))) (Δ:List Deferred) (V O:Nat→Prop) (w0 wr:World) (r:Rel Δ V O w0 H T a w) (hS:XfV wr R w) (hz:wr.heap.size≤w.heap.size) (hown:∀h∈H,∀k,h.blk=some k→Xcw R k∨wr.heap.size≤k) :
  wpOp P ops (lift Δ V O w0 Q) j (fun a' w'=>(([]:List Nat).contains j=false→XfV wr R w→XfV wr R w')∧Xcj P .any ops (lift Δ V O w0 Q) [] (XfV wr R) fuel (listed.setIfInBounds j true) a' w') a w:=by
 unfold wpOp
 simp only [hi]
 rw [if_pos (by simp [Region.wanted,hg])]
 have r0:Rel Δ V O w0 ([]++H) T a w:=r
 refine .inl (h _ _ _ _ a w _ _ r0.aside fun T' H' a' w' hk hr=>?_)
 obtain ⟨r',_⟩:=r0.rejoin hr
 have hS':XfV wr R w':=fun k hk hn=>by
  refine (hr.fr.block k (Nat.lt_of_lt_of_le hk hz) fun ⟨y,hy,e⟩=>?_).trans (hS k hk hn)
  rcases hown y hy k e with h1|h1
  ·exact hn h1
  ·omega
 refine ⟨fun _ _=>hS',hk Δ V O w0 wr a' w' r' hS' (Nat.le_trans hz hr.fr.size) fun x hx k e=>?_⟩
 rcases hr.own x hx k e with ⟨y,hy,e'⟩|h1
 ·exact hown y hy k e'
 ·exact .inr (Nat.le_trans hz h1)
theorem Xc9 (i:Nat) {o:Oper} {l:List Oper} (hr:Region.ready .any l.toArray listed=[i]) (hi:XfN l i=some o) (hg:o.guard=none) (h:Stp P o T H (Xnk P l.toArray Q R fuel (listed.setIfInBounds i true))):Xnk P l.toArray Q R (fuel+1) listed T H:=fun Δ V O w0 wr a w r hS hz hown=>
 ⟨fun h0=>(by rw [hr] at h0;cases h0),fun j hj=>by
  rw [hr,List.mem_singleton] at hj;subst hj
  exact Xhg (by rw [List.getElem?_toArray,←XcK];exact hi) hg h Δ V O w0 wr r hS hz hown⟩
end
open Go.RowKit
def Xew (f:Nat) (p:UInt8→Bool):Prop:=∀b:UInt8,Xbb Tryz.prog f [] [.x (.int .u8 (b.toNat:Nat))] (fun r H'=>r=.x (.bool (p b))∧H'=[])
def XoI (b:UInt8):Int:=match Xfm b with|some n=>(n:Int)|none => -1
theorem XgT {b:UInt8} {n:Nat} (h:Xfm b=some n):XoI b=n:=by unfold XoI;rw [h]
theorem XgS {b:UInt8} (h:Xfm b=none):XoI b = -1:=by unfold XoI;rw [h]
theorem XfL:Xew 121 XbS:=by
 intro b
 refine XaI Tryz.func121 rfl ?_
 simp only [Tryz.ntmps121,Xqy,XqB,XqC,XqD,XqG,XqF,Nat.reduceAdd,Nat.reduceSub]
 (repeat' (first|with_reducible (first|refine Xal ?_|refine Xac ?_|refine Xaq ?_|refine Xae ?_|refine Xaa ?_)|((first|apply Xad rfl|apply XaV _ _ rfl rfl rfl);(case h=>((try (intro (hp:(_:Bool)=true);((try simp only [Bool.and_eq_true,Bool.not_eq_true'] at hp);(try simp only [hp,wte]);(try simp only [whn] at hp))));(first|(apply Xab 0 rfl;(first|exact Xas _ rfl|exact Xao _ rfl))|(apply Xab 1 rfl;(first|exact Xbo _ _ _ _ _ rfl rfl rfl rfl|exact Xcv _ _ _ _ _ rfl rfl rfl rfl|exact Xcp _ _ _ _ _ rfl rfl rfl rfl))|(apply XaB;(case hs=>(intro _ _ h;cases h));(case hx=>rfl);(case hrun=>(intro w;simp [wtb,AV.val,go_sem];skip;rfl))))));(case hT=>((try simp only [wtn]);rfl)))|fail))
 refine Xaf _ _ (XcL rfl (RV.tmp _) (XaH.mk' [] _ (Xqv _) (XaF.refl _ _) (VwL.refl _ _))) ?_
 refine ⟨?_,rfl⟩
 simp only [ev,List.getD_cons_succ,List.getD_cons_zero]
 congr 2
 rw [Bool.eq_iff_iff]
 unfold XbS
 simp only [Bool.and_eq_true,Bool.or_eq_true,decide_eq_true_eq,beq_iff_eq]
 omega
theorem Xe4:Xew 124 Xa0:=by
 intro b
 refine XaI Tryz.func124 rfl ?_
 simp only [Tryz.ntmps124,Xqy,XqB,XqC,XqD,XqG,XqF,Nat.reduceAdd,Nat.reduceSub]
 (repeat' (first|with_reducible (first|refine Xal ?_|refine Xac ?_|refine Xaq ?_|refine Xae ?_|refine Xaa ?_)|((first|apply Xad rfl|apply XaV _ _ rfl rfl rfl);(case h=>((try (intro (hp:(_:Bool)=true);((try simp only [hp]);(try simp only [whn] at hp))));(first|(apply Xab 0 rfl;(first|exact Xas _ rfl|exact Xao _ rfl))|(apply Xab 1 rfl;(exact Xbo _ _ _ _ _ rfl rfl rfl rfl))|(apply XaB;(case hs=>(intro _ _ h;cases h));(case hx=>rfl);(case hrun=>(intro w;simp [wtb,AV.val,go_sem];skip;rfl))))));(case hT=>((try simp only [wtn]);rfl)))|fail))
 refine Xaf _ _ (XcL rfl (RV.tmp _) (XaH.mk' [] _ (Xqv _) (XaF.refl _ _) (VwL.refl _ _))) ?_
 refine ⟨?_,rfl⟩
 simp only [ev,List.getD_cons_succ,List.getD_cons_zero]
 congr 2
 rw [Bool.eq_iff_iff]
 unfold Xa0
 simp only [Bool.and_eq_true,decide_eq_true_eq]
 omega
theorem Xl9:Xew 123 Xb6:=by
 intro b
 refine XaI Tryz.func123 rfl ?_
 simp only [Tryz.ntmps123,Xqy,XqB,XqC,XqD,XqG,XqF,Nat.reduceAdd,Nat.reduceSub]
 (repeat' (first|with_reducible (first|refine Xal ?_|refine Xac ?_|refine Xaq ?_|refine Xae ?_|refine Xaa ?_)|((first|apply Xad rfl|apply XaV _ _ rfl rfl rfl);(case h=>((try (intro (hp:(_:Bool)=true);((try simp only [Bool.not_eq_true'] at hp);(try simp only [hp,wte]);(try simp only [whn] at hp))));(first|(apply Xab 0 rfl;(first|exact Xas _ rfl|exact Xao _ rfl))|(apply Xab 1 rfl;(exact Xcv _ _ _ _ _ rfl rfl rfl rfl))|(apply Xab 11 rfl;(first|exact Xan 121 Tryz.f121 _ _ rfl rfl Tryz.func121 (by decide) rfl (VwL.refl _ _) (XfL b)|exact Xan 124 Tryz.f124 _ _ rfl rfl Tryz.func124 (by decide) rfl (VwL.refl _ _) (Xe4 b)))|(apply XaB;(case hs=>(intro _ _ h;cases h));(case hx=>rfl);(case hrun=>(intro w;simp [wtb,AV.val,go_sem];skip;rfl))))));(case hT=>((try simp only [wtn]);rfl)))|fail))
 refine Xaf _ _ (XcL rfl (RV.tmp _) (XaH.mk' [] _ (Xqv _) (XaF.refl _ _) (VwL.refl _ _))) ?_
 refine ⟨?_,rfl⟩
 simp only [ev,List.getD_cons_succ,List.getD_cons_zero]
 congr 2
 rw [Bool.eq_iff_iff]
 unfold Xb6
 simp only [Bool.or_eq_true,decide_eq_true_eq,beq_iff_eq]
 rcases Bool.eq_false_or_eq_true (XbS b) with h1|h1<;>rcases Bool.eq_false_or_eq_true (Xa0 b) with h2|h2<;>simp [h1,h2]<;>omega
theorem Xo4 (b:UInt8):Xbb Tryz.prog 183 [] [.x (.int .u8 (b.toNat:Nat))] (fun r H'=>r=.x (.int .i64 (XoI b))∧H'=[]):=by
 have hb:=b.toNat_lt
 refine XaI Tryz.func183 rfl ?_
 simp only [Tryz.ntmps183,Xqy,XqB,XqC,XqD,XqG,XqF,Nat.reduceAdd,Nat.reduceSub]
 (repeat' (first|with_reducible (first|refine Xal ?_|refine Xac ?_|refine Xat ?_|refine Xaq ?_|refine Xaw ?_|refine Xae ?_|refine Xaa ?_|refine Xam ?_|refine Xaj ?_|refine Xak ?_)|(refine Xai _ rfl (fun h=>?_) (fun h=>?_)<;>((try (simp only [whn] at h));skip))|((first|apply Xad rfl|apply XaV _ _ rfl rfl rfl);(case h=>((try (intro (hp:(_:Bool)=true);((try simp only [hp]);(try simp only [whn] at hp))));(first|(apply Xab 0 rfl;(first|exact Xas _ rfl|exact Xao _ rfl))|(apply Xab 1 rfl;(exact Xbo _ _ _ _ _ rfl rfl rfl rfl))|(apply XaB;(case hs=>(intro _ _ h;cases h));(case hx=>rfl);(case hrun=>(intro w;simp [wtb,AV.val,go_sem];(try go_bits);rfl))))));(case hT=>((try simp only [wtn]);rfl)))|fail))
 all_goals
  refine Xaf _ _ (XcL rfl (RV.tmp _) (XaH.mk' [] _ (Xqv _) (XaF.refl _ _) (VwL.refl _ _))) ?_
  refine ⟨?_,rfl⟩
  simp only [ev,List.getD_cons_succ,List.getD_cons_zero]
  congr 2
  unfold XoI Xfm
  first
   | (rw [if_pos (by omega)];simp only;omega)
   | (rw [if_neg (by omega),if_pos (by omega)];simp only;omega)
   | (rw [if_neg (by omega),if_neg (by omega),if_pos (by omega)];simp only;omega)
   | (rw [if_neg (by omega),if_neg (by omega),if_neg (by omega)])
end Go.Proofs.YtdpobjakdplljaaGreatDoor

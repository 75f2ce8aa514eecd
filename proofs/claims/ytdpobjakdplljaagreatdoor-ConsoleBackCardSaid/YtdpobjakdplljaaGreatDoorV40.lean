import Derived.Test.YtdpobjakdplljaaGreatDoorV34
import Derived.Test.YtdpobjakdplljaaGreatDoorV29
import Derived.Test.YtdpobjakdplljaaGreatDoorV38
import Derived.Test.YtdpobjakdplljaaGreatDoorV39
import Derived.Test.YtdpobjakdplljaaGreatDoorV30
/- The program's scripts: lines, Parse. -/
set_option linter.unusedSimpArgs false
set_option linter.unusedVariables false
set_option maxRecDepth 100000
set_option maxHeartbeats 8000000
namespace Go.Proofs.YtdpobjakdplljaaGreatDoor
open Go.RowKit
theorem Xqv (s:List UInt8):Xa8 Tryz.prog 23 [] [.x (.string (bs s))] (fun r H'=>∃b,r=.x (.func (.func 48) #[] #[.pointer (some ⟨b,0,none⟩)])∧H'=[.box b [.x (.string (bs s))]]):=by
 refine XaE Tryz.func23 rfl ?_
 simp only [Tryz.ntmps23,Xu8,Xvb,Xvc,Xvd,Xvg,Xvf,Nat.reduceAdd,Nat.reduceSub]
 (repeat' (first|with_reducible (first|refine Xai ?_|refine Xac ?_|refine Xas ?_|refine Xae ?_|refine Xaa ?_)|((apply Xad rfl);(case h=>(first|(apply Xab 0 rfl;(exact Xap _ rfl))|(apply XaD;(case hs=>(intro _ _ h;cases h));(case hx=>rfl);(case hrun=>(intro w;simp [wtb,AV.val,go_sem];skip;rfl)))));(case hT=>((try simp only [wtn]);rfl)))|(refine Xah rfl ?_;((refine Xaq 15 rfl ?_;(refine Xbx _ _ rfl (by first|rfl|fail) (fun b=>?_)));apply Xag;(case hT=>((try simp only [wtn]);rfl));(case hH=>((try simp only [wtn]);rfl))))|fail))
 refine Xaf _ _ (Xbi rfl (RV.tmp _) (XaH.mk' [] _ (Xu5 _) (XaB.refl _ _) (VwL.refl _ _))) ?_
 exact ⟨b,rfl,rfl⟩
section
variable {x:List UInt8} {r:List (List UInt8)} {i:Nat} {out:List EF}
theorem XpH {f:Flt} (h1:lex x=.error f):cGo (x :: r) i out=([],i,320):=by rw [cGo,h1]
theorem Xnp {ts:List Tok} (h1:lex x=.ok ts) (h2:ts.length≤1):cGo (x :: r) i out=cGo r (i+1) out:=by rw [cGo,h1];exact if_pos h2
theorem Xno {ts:List Tok} (h1:lex x=.ok ts) (h2:¬ts.length≤1) (h3:Xcz ts.dropLast=none):cGo (x :: r) i out=([],i,320):=by rw [cGo,h1];simp only [if_neg h2,h3]
theorem Xnn {ts:List Tok} {e:EF} (h1:lex x=.ok ts) (h2:¬ts.length≤1) (h3:Xcz ts.dropLast=some e) (h4:1000≤out.length):cGo (x :: r) i out=([],i,1):=by rw [cGo,h1];simp only [if_neg h2,h3,if_pos h4]
theorem XrD {ts:List Tok} {e:EF} (h1:lex x=.ok ts) (h2:¬ts.length≤1) (h3:Xcz ts.dropLast=some e) (h4:¬1000≤out.length):cGo (x :: r) i out=cGo r (i+1) (out++[e]):=by rw [cGo,h1];simp only [if_neg h2,h3,if_neg h4]
end
abbrev pQB (bs0 bc bl b4 b3 b2:Nat) (rest rest':List UInt8) (i:Nat) (out:List EF):XcP:=fun e T1 H1=>match e with
 | .normal=>∃out' ad' cap',cGo (XbR rest) i out=cGo (XbR rest') (i+1) out'∧out'.length≤i+1∧Wk H1 ((fun q:Nat × List UInt8 × List EF × Option Addr × Nat=>[.box bs0 [.x (.string (bs q.2.1))],.box bc [.x (.int .i64 q.1)],.row q.2.2.2.1 q.2.2.1.length q.2.2.2.2 41 8 (va q.2.2.1),.box bl [.x (.slice q.2.2.2.1 q.2.2.1.length q.2.2.2.2)],.box b4 [.x (.int .i64 0)],.box b3 [.x (.int .i64 0)],.box b2 [.x (.slice none 0 0)]]) (i+1,rest,out',ad',cap'))
 | .ret=>∃c:Int,cGo (XbR rest) i out=([],i,c)∧Wk H1 [.box b4 [.x (.int .i64 c)],.box b3 [.x (.int .i64 i)],.box b2 [.x (.slice none 0 0)]]
 | _=>False
theorem XuE {bs0 bc bl b4 b3 b2:Nat} {rest rest':List UInt8} {i:Nat} {out:List EF}:∀e T H,pQB bs0 bc bl b4 b3 b2 rest rest' i out e T H→e=.normal∨e=.ret:=by
 intro e T H h
 cases e<;>first|exact .inl rfl|exact .inr rfl|exact h.elim|fail
theorem Xfs (s:List UInt8) (hs:s.length≤1000000):Xa8 Tryz.prog 10 [] [.x (.string (bs s))] (fun r H'=>r=Xuf (XbS s)∧H'=[]):=by
 refine XhF Tryz.func10 rfl ?_
 simp only [Tryz.ntmps10,Xu8,Xvb,Xvc,Xvd,Xvg,Xvf,Nat.reduceAdd,Nat.reduceSub]
 refine Xa1 ?_
 (repeat' (first|with_reducible (first|refine Xac ?_|refine Xae ?_|refine Xaa ?_)|(refine Xah rfl ?_;((refine Xaq 14 rfl ?_;(refine XaJ _ _ rfl Xbl.out rfl (fun b=>?_)));apply Xag;(case hT=>((try simp only [wtn]);rfl));(case hH=>((try simp only [wtn]);rfl))))|fail))
 rename_i b2 b3
 revert b
 intro b4
 refine Xa1 ?_
 (repeat' (first|with_reducible (first|refine Xai ?_|refine Xac ?_|refine Xas ?_|refine Xaw ?_|refine Xae ?_|refine Xaa ?_|refine Xay ?_)|(refine Xal _ rfl (fun h=>?_) (fun h=>?_)<;>((try (simp only [whn] at h));skip))|((apply Xad rfl);(case h=>(first|(apply Xab 0 rfl;(exact Xar _ rfl))|(apply XaD;(case hs=>(intro _ _ h;cases h));(case hx=>rfl);(case hrun=>(intro w;simp [wtb,AV.val,go_sem];skip;rfl)))));(case hT=>((try simp only [wtn]);rfl)))|(refine Xah rfl ?_;((refine Xaq 16 rfl ?_;(refine Xau _ _ _ _ _ _ _ rfl rfl XaU.out XaS.out (by first|rfl|fail) (by first|exact Xu4 rfl|fail) ?_));apply Xag;(case hT=>((try simp only [wtn]);rfl));(case hH=>((try simp only [wtn,Nat.reduceAdd]);rfl))))|fail))
 ·refine Xb8 (Xaf _ _ (XsW rfl (RV.cell 2 rfl rfl XaM.out (by simp) (by simp)) (RV.cell 1 rfl rfl XaM.out (by simp) (by simp)) (RV.cell 0 rfl rfl XaM.out (by simp) (by simp)) (XaH.mk' [_,_,_] [] (Xu5 _) XaB.nil (VwL.cons Vw.nil (VwL.refl _ _)))) ?_)
  refine ⟨?_,rfl⟩
  unfold XbS
  rw [if_pos (by omega)]
  rfl
 have e0:XbS s=cGo (XbR s) 0 []:=if_neg (by omega)
 rw [e0]
 have e0':=Lib.hid e0
 clear e0
 refine Xa1 ?_
 refine Xbw 41 8 ?_
 (repeat' (first|with_reducible (first|refine Xac ?_|refine Xae ?_|refine Xaa ?_)|(refine Xah rfl ?_;((refine Xaq 14 rfl ?_;(refine XaJ _ _ rfl Xbl.out rfl (fun b=>?_)));apply Xag;(case hT=>((try simp only [wtn]);rfl));(case hH=>((try simp only [wtn]);rfl))))|fail))
 revert b
 intro bl
 refine Xa1 ?_
 (repeat' (first|with_reducible (first|refine Xac ?_|refine Xae ?_|refine Xaa ?_)|(refine Xah rfl ?_;((first|(refine Xaq 14 rfl ?_;(refine XaJ _ _ rfl Xbl.out rfl (fun b=>?_)))|(refine Xaq 16 rfl ?_;(refine Xau _ _ _ _ _ _ _ rfl rfl XaU.out XaS.out (by first|rfl|fail) (by first|exact Xu4 rfl|fail) ?_)));apply Xag;(case hT=>((try simp only [wtn]);rfl));(case hH=>((try simp only [wtn]);rfl))))|fail))
 revert b
 intro bc
 refine XbC (Xa1 ?_)
 (repeat' (first|with_reducible (first|refine Xac ?_|refine Xae ?_|refine Xaa ?_)|((apply Xad rfl);(case h=>(apply Xab 0 rfl;(exact Xar _ rfl)));(case hT=>((try simp only [wtn]);rfl)))|(refine Xah rfl ?_;((refine Xaq 11 rfl ?_;(refine Xak 23 Tryz.f23 ([]) _ _ _ rfl rfl Tryz.func23 (by decide) rfl (Xu5 _) (VwL.refl _ _) (Xqv s) ?_;rintro _ _ ⟨bs0,rfl,rfl⟩));apply Xag;(case hT=>((try simp only [wtn]);rfl));(case hH=>((try simp only [wtn]);rfl))))|fail))
 refine Xcn ?_
 refine XgY (KN:=fun H'=>∃n out ad cap,cGo (XbR s) 0 []=(out,n,0)∧Wk H' [.box bl [.x (.slice ad out.length cap)],.box bc [.x (.int .i64 (n:Nat))],.row ad out.length cap 41 8 (va out),.box b4 [.x (.int .i64 0)],.box b3 [.x (.int .i64 0)],.box b2 [.x (.slice none 0 0)]])
  (KR:=fun H'=>∃(n:Nat) (c:Int),cGo (XbR s) 0 []=([],n,c)∧Wk H' [.box b4 [.x (.int .i64 c)],.box b3 [.x (.int .i64 n)],.box b2 [.x (.slice none 0 0)]]) rfl rfl rfl (by decide) rfl rfl ?_ ?_ ?_
 ·intro l D ρ hlD hst hpe hps has hbo hTa
  simp only [itT,Xu8,Xvb,List.size_toArray,Xva,Xve,Xvg,Xvf,Nat.reduceAdd]
  refine Xa1 ?_
  (repeat' (first|with_reducible (first|refine Xac ?_|refine Xae ?_|refine Xaa ?_)|((apply Xad rfl);(case h=>(apply Xab 0 rfl;(exact Xap _ rfl)));(case hT=>((try simp only [wtn]);rfl)))|fail))
  refine Xcn ?_
  apply Xdr (S:=Nat × List UInt8 × List EF × Option Addr × Nat) (fun q=>frm 23 [(0,.x (.func (.yield l) #[] #[])),(1,.x (.pointer (some ⟨bs0,0,none⟩))),(3,.x (.int .i64 q.1))]) (fun q=>[.box bs0 [.x (.string (bs q.2.1))],.box bc [.x (.int .i64 q.1)],.row q.2.2.2.1 q.2.2.1.length q.2.2.2.2 41 8 (va q.2.2.1),.box bl [.x (.slice q.2.2.2.1 q.2.2.1.length q.2.2.2.2)],.box b4 [.x (.int .i64 0)],.box b3 [.x (.int .i64 0)],.box b2 [.x (.slice none 0 0)]]) (fun _=>[(l,.loop ρ),(D,.deferred (some []))])
   (fun q=>q.2.2.1.length≤q.1∧q.1+q.2.1.length≤s.length∧cGo (XbR s) 0 []=cGo (XbR q.2.1) q.1 q.2.2.1) (fun q=>q.2.1.length) (0,s,[],none,0)
  case h0=>exact XaH.mk' [] [.box bs0 _,.box bc _,.row none _ _ _ _ _,.box bl _,.box b4 _,.box b3 _,.box b2 _] (by (repeat' (first|exact Xu5 _|refine Xvl _ ?_|refine (Xvi (l₁:=[_])).trans (Xvl _ ?_)|fail))) (XaB.refl _ _) (by (repeat' (first|exact VwL.nil|(refine VwL.cons ?_ ?_)|exact Vw.refl _|fail)))
  case hΘ=>rfl
  case hi=>exact ⟨Nat.le_refl _,by simp,rfl⟩
  rintro ⟨i,rest,out,ad0,cap0⟩ ⟨h1,h2,h3⟩
  simp only at h1 h2 h3
  have h3':=Lib.hid h3
  clear h3
  simp only [frm,Xvc,Xvd,Xu6,Xu7,Xvj,Xvk]
  refine Xa1 ?_
  (repeat' (first|with_reducible (first|refine Xai ?_|refine Xac ?_|refine Xaw ?_|refine Xa4 ?_|refine Xae ?_|refine Xaa ?_|refine XaN ?_|refine XaK ?_)|(refine Xal _ rfl (fun h=>?_) (fun h=>?_)<;>((try (simp only [whn] at h));skip))|((apply Xad rfl);(case h=>(first|(apply Xab 6 rfl;(exact Xaz _ _ _ _ _ _ _ _ rfl rfl XaU.out XaM.out (by first|exact Xu4 rfl|fail) (by first|exact Xu4 rfl|fail)))|(apply XaD;(case hs=>(intro _ _ h;cases h));(case hx=>rfl);(case hrun=>(intro w;simp [wtb,AV.val,go_sem];skip;rfl)))));(case hT=>((try simp only [wtn]);rfl)))|fail))
  ·have hne:rest≠[]:=by simpa using h
   have hpos:1≤rest.length:=by
    cases rest with
    | nil=>exact absurd rfl hne
    | cons c r=>simp
   have hcut:=Xun rest (by omega)
   unfold Xrb at hcut
   have hcl:=Xl3 hne
   have hxl:(rest.take (cmt rest)).length≤rest.length:=by simp;omega
   have hrl:(rest.drop (cmt rest+1)).length < rest.length:=by simp;omega
   clear h hne
   generalize rest.take (cmt rest)=x at hcut hcl hxl
   generalize rest.drop (cmt rest+1)=rest' at hcut hcl hrl
   have hcl':=Lib.hid hcl
   clear hcl
   refine XbC (Xcn ?_)
   refine Xa1 ?_
   (repeat' (first|with_reducible (first|refine Xac ?_|refine Xae ?_|refine Xaa ?_)|((apply Xad rfl);(case h=>(first|(apply Xab 0 rfl;(first|exact Xar _ rfl|exact Xap _ rfl))|(apply Xab 2 rfl;(exact XaO _ _ _ _ rfl rfl rfl))|(apply Xab 6 rfl;(exact Xaz _ _ _ _ _ _ _ _ rfl rfl XaU.out XaM.out (by first|exact Xu4 rfl|fail) (by first|exact Xu4 rfl|fail)))|(apply Xab 11 rfl;(exact XaA 49 Tryz.f49 _ _ rfl rfl Tryz.func49 (by decide) rfl (VwL.refl _ _) (hcut)))));(case hT=>((try simp only [wtn]);rfl)))|fail))
   refine XeT (T':=frm 23 [(0,.x (.func (.yield l) #[] #[])),(1,.x (.pointer (some ⟨bs0,0,none⟩))),(3,.x (.int .i64 i)),(4,.x (.string (bs x))),(5,.x (.string (bs rest')))]) (XaH.mk' [] _ (Xu5 _) (XaB.refl _ _) (by (repeat' (first|exact VwL.nil|(refine VwL.cons ?_ ?_)|exact Vw.refl _|exact Vw.top _|fail)))) ?_
   simp only [frm,Xvc,Xvd,Xu6,Xu7,Xvj,Xvk]
   refine XbC (XbC (XbO ?_))
   (repeat' (first|(apply Xb0 rfl;(case h=>(apply Xab 0 rfl;(exact Xar _ rfl)));(case hT=>((try simp only [wtn]);rfl)))|fail))
   refine XiF (QB:=pQB bs0 bc bl b4 b3 b2 rest rest' i out) rfl rfl rfl rfl hps hst hpe rfl hTa (fun p hp=>by rw [List.mem_singleton] at hp;subst hp;exact fun e=>hlD e.symm) ?_ XuE ?_ ?_
   ·rw [has,hbo]
    simp only [Xvk,Xvj]
    refine XeS (XcE (fun _ _ h=>by cases h.1) rfl ?_)
    (repeat' (first|with_reducible (first|refine Xae ?_|refine Xaa ?_)|((apply Xad rfl);(case h=>(apply Xab 0 rfl;(exact Xap _ rfl)));(case hT=>((try simp only [wtn]);rfl)))|fail))
    refine XcE (fun _ _ h=>by cases h.1) rfl ?_
    (repeat' (first|with_reducible (refine Xae ?_)|((apply Xad rfl);(case h=>(apply Xab 0 rfl;(exact Xap _ rfl)));(case hT=>((try simp only [wtn]);rfl)))|fail))
    refine ⟨rfl,?_⟩
    have hA:=XtB x (by omega)
    cases hlx:lex x with
    | error f=>
      have hc:=(XdW x).1 f hlx
      have hg:=Lib.hid (XpH (r:=XbR rest') (i:=i) (out:=out) hlx)
      rw [hlx] at hA
      clear hlx
      simp only [Xfa,Xkf,Flt.av] at hA
      have hc':(f.code != 0)=true:=bne_iff_ne.2 hc
      (repeat' (first|(refine XcE (fun _ _ h=>h) rfl ?_)|with_reducible (first|refine XeS ?_|refine Xd7 ?_|refine XhH ?_|refine Xae ?_|refine Xaa ?_|refine Xay ?_|refine Xax ?_)|(refine XeR _ rfl (fun h=>?_) (fun h=>?_)<;>first|(exact absurd h (by decide))|((try (simp only [] at h));skip))|((apply Xad rfl);(case h=>(first|(apply Xab 0 rfl;(first|exact Xar _ rfl|exact Xap _ rfl))|(apply Xab 2 rfl;(exact XaO _ _ _ _ rfl rfl rfl))|(apply Xab 5 rfl;(exact Xam _ _ _ _ _ _ rfl rfl Xa3.out))|(apply Xab 6 rfl;(exact Xaz _ _ _ _ _ _ _ _ rfl rfl XaU.out XaM.out (by first|exact Xu4 rfl|fail) (by first|exact Xu4 rfl|fail)))|(apply Xab 11 rfl;(exact XaA 24 Tryz.f24 _ _ rfl rfl Tryz.func24 (by decide) rfl (VwL.refl _ _) (hA)))|(apply XaD;(case hs=>(intro _ _ h;cases h));(case hx=>rfl);(case hrun=>(intro w;simp [wtb,AV.val,go_sem];(try go_bits);rfl)))));(case hT=>((try simp (disch:=omega) only [wtn,hc',Xu9,Xu6,Xu7,Xva,Xve,Nat.reduceAdd,Nat.reduceMul,Nat.reduceSub,↓reduceIte,Nat.reduceEqDiff]);rfl)))|(refine Xah rfl ?_;((first|(refine Xaq 14 rfl ?_;(refine XaJ _ _ rfl Xbl.out rfl (fun b=>?_)))|(refine Xaq 16 rfl ?_;(refine Xau _ _ _ _ _ _ _ rfl rfl XaU.out XaS.out (by first|rfl|fail) (by first|exact Xu4 rfl|fail) ?_)));apply Xag;(case hT=>((try simp (disch:=omega) only [wtn,hc',Xu9,Xu6,Xu7,Xva,Xve,Nat.reduceAdd,Nat.reduceMul,Nat.reduceSub,↓reduceIte,Nat.reduceEqDiff]);rfl));(case hH=>((try simp (disch:=omega) only [wtn,hc',Xu9,Xu6,Xu7,Xva,Xve,Nat.reduceAdd,Nat.reduceMul,Nat.reduceSub,↓reduceIte,Nat.reduceEqDiff]);rfl))))|fail))
      refine ⟨320,by rw [hcl'.out,hg.out],Wk.mk' [_,_,_,_,_] [.box b4 _,.box b3 _,.box b2 _] (by (repeat' (first|exact Xu5 _|fail))) (XaB.refl _ _)⟩
    | ok ts=>
      obtain ⟨p1,p2,p3,p4⟩:=Xmq hlx
      have hk:=Xqb hlx
      rw [hlx] at hA
      simp only [Xfa,Xkf,Flt.av] at hA
      obtain ⟨td,hd⟩:∃td,td=ts.dropLast:=⟨_,rfl⟩
      have hdl:ts.length=td.length+1:=by rw [hd];simp;omega
      have hdt:(ta ts).take (td.length*4)=ta td:=by rw [XsO,hd,List.dropLast_eq_take];simp
      rw [hdl] at hA
      by_cases ht1:td.length=0
      ·have hg:=Lib.hid (Xnp (r:=XbR rest') (i:=i) (out:=out) hlx (by omega))
       clear hlx hd p3 p4 hk
       (repeat' (first|(refine XcE (fun _ _ h=>h) rfl ?_)|with_reducible (first|refine XeS ?_|refine Xgc ?_|refine Xd7 ?_|refine Xnc ?_|refine Xae ?_|refine Xaa ?_|refine XaN ?_|refine XaK ?_)|(refine XeR _ rfl (fun h=>?_) (fun h=>?_)<;>first|(exact absurd h (by decide))|((try (simp only [whn] at h));first|(exfalso;omega;done)|skip))|((apply Xad rfl);(case h=>(first|(apply Xab 0 rfl;(first|exact Xar _ rfl|exact Xap _ rfl))|(apply Xab 2 rfl;(exact XaO _ _ _ _ rfl rfl rfl))|(apply Xab 3 rfl;(exact Xa2 _ _ _ _ _ _ HEl.out rfl rfl))|(apply Xab 5 rfl;(exact Xam _ _ _ _ _ _ rfl rfl Xa3.out))|(apply Xab 6 rfl;(exact Xaz _ _ _ _ _ _ _ _ rfl rfl XaU.out XaM.out (by first|exact Xu4 rfl|fail) (by first|exact Xu4 rfl|fail)))|(apply Xab 11 rfl;(exact XaA 24 Tryz.f24 _ _ rfl rfl Tryz.func24 (by decide) rfl (VwL.refl _ _) (hA)))|(apply XaD;(case hs=>(intro _ _ h;cases h));(case hx=>rfl);(case hrun=>(intro w;simp [wtb,AV.val,go_sem];(try go_bits);rfl)))));(case hT=>((try simp (disch:=omega) only [wtn,hdt,Nat.sub_zero,XbX,Xu9,Xu6,Xu7,Xva,Xve,Nat.reduceAdd,Nat.reduceMul,Nat.reduceSub,↓reduceIte,Nat.reduceEqDiff]);rfl)))|(refine Xah rfl ?_;((first|(refine Xaq 14 rfl ?_;(refine XaJ _ _ rfl Xbl.out rfl (fun b=>?_)))|(refine Xaq 16 rfl ?_;(refine Xau _ _ _ _ _ _ _ rfl rfl XaU.out XaS.out (by first|rfl|fail) (by first|exact Xu4 rfl|fail) ?_)));apply Xag;(case hT=>((try simp (disch:=omega) only [wtn,hdt,Nat.sub_zero,XbX,Xu9,Xu6,Xu7,Xva,Xve,Nat.reduceAdd,Nat.reduceMul,Nat.reduceSub,↓reduceIte,Nat.reduceEqDiff]);rfl));(case hH=>((try simp (disch:=omega) only [wtn,hdt,Nat.sub_zero,XbX,Xu9,Xu6,Xu7,Xva,Xve,Nat.reduceAdd,Nat.reduceMul,Nat.reduceSub,↓reduceIte,Nat.reduceEqDiff]);rfl))))|fail))
       exact ⟨out,ad0,cap0,by rw [hcl'.out,hg.out],by omega,Wk.mk' [_] [.box bs0 _,.box bc _,.row _ _ _ _ _ _,.box bl _,.box b4 _,.box b3 _,.box b2 _] (by (repeat' (first|exact Xu5 _|fail))) (XaB.refl _ _)⟩
      ·have hm:∀t∈td,t∈ts:=fun t ht=>by rw [hd,List.dropLast_eq_take] at ht;exact List.mem_of_mem_take ht
       have hE:=XpL td (by omega) (by omega) (fun t ht=>p3 t (hm t ht)) (fun t ht h2=>hk t (hm t ht) h2) (fun t ht=>p4 t (hm t ht))
       cases hev:Xcz td with
       | none=>
         have hg:=Lib.hid (Xno (r:=XbR rest') (i:=i) (out:=out) hlx (by omega) (by rw [←hd];exact hev))
         rw [hev] at hE
         clear hlx hd p3 p4 hk hm hev
         unfold XrP at hE
         (repeat' (first|(refine XcE (fun _ _ h=>h) rfl ?_)|with_reducible (first|refine XeS ?_|refine Xgc ?_|refine Xd7 ?_|refine XhH ?_|refine Xae ?_|refine Xaa ?_|refine Xay ?_|refine Xax ?_)|(refine XeR _ rfl (fun h=>?_) (fun h=>?_)<;>first|(exact absurd h (by decide))|((try (simp only [whn] at h));first|(exfalso;omega;done)|skip))|((apply Xad rfl);(case h=>(first|(apply Xab 0 rfl;(first|exact Xar _ rfl|exact Xap _ rfl))|(apply Xab 2 rfl;(exact XaO _ _ _ _ rfl rfl rfl))|(apply Xab 3 rfl;(exact Xa2 _ _ _ _ _ _ HEl.out rfl rfl))|(apply Xab 5 rfl;(exact Xam _ _ _ _ _ _ rfl rfl Xa3.out))|(apply Xab 6 rfl;(exact Xaz _ _ _ _ _ _ _ _ rfl rfl XaU.out XaM.out (by first|exact Xu4 rfl|fail) (by first|exact Xu4 rfl|fail)))|(apply Xab 9 rfl;(exact Xcl _ _ _ _ _ _ _ _ _ _ rfl rfl HEl.out (by first|exact .inl ⟨rfl,rfl⟩|fail) (by first|exact .inr ⟨_,_,rfl,rfl⟩|fail) (by omega) (by omega)))|(apply Xab 11 rfl;(first|exact XaA 24 Tryz.f24 _ _ rfl rfl Tryz.func24 (by decide) rfl (VwL.refl _ _) (hA)|exact XaA 25 Tryz.f25 _ _ rfl rfl Tryz.func25 (by decide) rfl (VwL.refl _ _) (hE)))|(apply XaD;(case hs=>(intro _ _ h;cases h));(case hx=>rfl);(case hrun=>(intro w;simp [wtb,AV.val,go_sem];(try go_bits);rfl)))));(case hT=>((try simp (disch:=omega) only [wtn,hdt,Nat.sub_zero,XbX,Xu9,Xu6,Xu7,Xva,Xve,Nat.reduceAdd,Nat.reduceMul,Nat.reduceSub,↓reduceIte,Nat.reduceEqDiff]);rfl)))|(refine Xah rfl ?_;((first|(refine Xaq 14 rfl ?_;(refine XaJ _ _ rfl Xbl.out rfl (fun b=>?_)))|(refine Xaq 16 rfl ?_;(refine Xau _ _ _ _ _ _ _ rfl rfl XaU.out XaS.out (by first|rfl|fail) (by first|exact Xu4 rfl|fail) ?_)));apply Xag;(case hT=>((try simp (disch:=omega) only [wtn,hdt,Nat.sub_zero,XbX,Xu9,Xu6,Xu7,Xva,Xve,Nat.reduceAdd,Nat.reduceMul,Nat.reduceSub,↓reduceIte,Nat.reduceEqDiff]);rfl));(case hH=>((try simp (disch:=omega) only [wtn,hdt,Nat.sub_zero,XbX,Xu9,Xu6,Xu7,Xva,Xve,Nat.reduceAdd,Nat.reduceMul,Nat.reduceSub,↓reduceIte,Nat.reduceEqDiff]);rfl))))|fail))
         exact ⟨320,by rw [hcl'.out,hg.out],Wk.mk' [_,_,_,_,_,_] [.box b4 _,.box b3 _,.box b2 _] (by (repeat' (first|exact Xu5 _|fail))) (XaB.refl _ _)⟩
       | some e=>
         have hg1:=Lib.hid (Xnn (r:=XbR rest') (i:=i) (out:=out) hlx (by omega) (e:=e) (by rw [←hd];exact hev))
         have hg2:=Lib.hid (XrD (r:=XbR rest') (i:=i) (out:=out) hlx (by omega) (e:=e) (by rw [←hd];exact hev))
         rw [hev] at hE
         clear hlx hd p3 p4 hk hm hev
         unfold XrP EF.cells at hE
         (repeat' (first|(refine XcE (fun _ _ h=>h) rfl ?_)|with_reducible (first|refine XeS ?_|refine Xgc ?_|refine Xd7 ?_|refine XhH ?_|refine Xae ?_|refine Xaa ?_|refine Xay ?_|refine Xaj ?_|refine Xax ?_)|(refine XeR _ rfl (fun h=>?_) (fun h=>?_)<;>first|(exact absurd h (by decide))|((try (simp only [whn] at h));first|(exfalso;omega;done)|skip))|((apply Xad rfl);(case h=>(first|(apply Xab 0 rfl;(first|exact Xar _ rfl|exact Xap _ rfl))|(apply Xab 2 rfl;(exact XaO _ _ _ _ rfl rfl rfl))|(apply Xab 3 rfl;(exact Xa2 _ _ _ _ _ _ HEl.out rfl rfl))|(apply Xab 5 rfl;(exact Xam _ _ _ _ _ _ rfl rfl Xa3.out))|(apply Xab 6 rfl;(exact Xaz _ _ _ _ _ _ _ _ rfl rfl XaU.out XaM.out (by first|exact Xu4 rfl|fail) (by first|exact Xu4 rfl|fail)))|(apply Xab 9 rfl;(exact Xcl _ _ _ _ _ _ _ _ _ _ rfl rfl HEl.out (by first|exact .inl ⟨rfl,rfl⟩|fail) (by first|exact .inr ⟨_,_,rfl,rfl⟩|fail) (by omega) (by omega)))|(apply Xab 11 rfl;(first|exact XaA 24 Tryz.f24 _ _ rfl rfl Tryz.func24 (by decide) rfl (VwL.refl _ _) (hA)|exact XaA 25 Tryz.f25 _ _ rfl rfl Tryz.func25 (by decide) rfl (VwL.refl _ _) (hE)))|(apply XaD;(case hs=>(intro _ _ h;cases h));(case hx=>rfl);(case hrun=>(intro w;simp [wtb,AV.val,go_sem];(try go_bits);rfl)))));(case hT=>((try simp (disch:=omega) only [wtn,hdt,Nat.sub_zero,XbX,Xu9,Xu6,Xu7,Xva,Xve,Nat.reduceAdd,Nat.reduceMul,Nat.reduceSub,↓reduceIte,Nat.reduceEqDiff]);rfl)))|(refine Xah rfl ?_;((first|(refine Xaq 13 rfl ?_;(refine XaP _ _ _ _ _ _ _ _ _ _ _ _ _ _ rfl rfl Xb9.out (Src.row _ rfl Xb9.out) XaZ.out (by first|rfl|fail) (Xei _ _ (by omega) (by decide)) (fun ad cap=>?_)))|(refine Xaq 14 rfl ?_;(refine XaJ _ _ rfl Xbl.out rfl (fun b=>?_)))|(refine Xaq 16 rfl ?_;(refine Xau _ _ _ _ _ _ _ rfl rfl XaU.out XaS.out (by first|rfl|fail) (by first|exact Xu4 rfl|fail) ?_))|(refine Xaq 17 rfl ?_;(refine XaF _ _ _ _ _ _ _ _ rfl XaZ.out (by first|rfl|fail) rfl (by decide) rfl (fun b=>?_))));apply Xag;(case hT=>((try simp (disch:=omega) only [wtn,hdt,Nat.sub_zero,XbX,Xu9,Xu6,Xu7,Xva,Xve,Nat.reduceAdd,Nat.reduceMul,Nat.reduceSub,↓reduceIte,Nat.reduceEqDiff]);rfl));(case hH=>((try simp (disch:=omega) only [wtn,hdt,Nat.sub_zero,XbX,Xu9,Xu6,Xu7,Xva,Xve,Nat.reduceAdd,Nat.reduceMul,Nat.reduceSub,↓reduceIte,Nat.reduceEqDiff]);rfl))))|fail))
         ·exact ⟨1,by rw [hcl'.out,hg1.out (by omega)],Wk.mk' [_,_,_,_,_,_] [.box b4 _,.box b3 _,.box b2 _] (by (repeat' (first|exact Xu5 _|fail))) (XaB.refl _ _)⟩
         ·refine ⟨out++[e],ad,cap,by rw [hcl'.out,hg2.out (by omega)],by simp;omega,?_⟩
          simp only [Xvh,Xu8,Xvb,←XsT]
          exact Wk.mk' [_,_,_] [.box bs0 _,.box bc _,.row _ _ _ _ _ _,.box bl _,.box b4 _,.box b3 _,.box b2 _] (by (repeat' (first|exact Xu5 _|fail))) (XaB.refl _ _)
   ·rintro T1 H1 ⟨out',ad',cap',e1,e2,hk⟩
    refine Xhb (hk.weak _) ?_
    simp only
    (repeat' (first|(apply Xb0 rfl;(case h=>(apply XaD;(case hs=>(intro _ _ h;cases h));(case hx=>rfl);(case hrun=>(intro w;simp [wtb,AV.val,go_sem];skip;rfl))));(case hT=>((try simp only [wtn]);rfl)))|fail))
    refine Xcc ?_
    refine Xaa ?_
    refine XbN ?_
    (repeat' (first|with_reducible (first|refine Xaw ?_|refine Xaa ?_)|(refine Xal _ rfl (fun h=>?_) (fun h=>?_)<;>first|(exact absurd h (by decide))|((try (simp only [] at h));skip))|fail))
    refine XbN ?_
    (repeat' (first|with_reducible (first|refine Xac ?_|refine Xae ?_|refine Xaa ?_|refine Xaj ?_)|((apply Xad rfl);(case h=>(apply Xab 0 rfl;(exact Xar _ rfl)));(case hT=>((try simp only [wtn]);rfl)))|(refine Xah rfl ?_;((refine Xaq 16 rfl ?_;(refine Xau _ _ _ _ _ _ _ rfl rfl XaU.out XaS.out (by first|rfl|fail) (by first|exact Xu4 rfl|fail) ?_));apply Xag;(case hT=>((try simp only [wtn]);rfl));(case hH=>((try simp only [wtn]);rfl))))|fail))
    refine XbN ?_
    (repeat' (first|with_reducible (first|refine Xac ?_|refine Xae ?_|refine Xaa ?_)|((apply Xad rfl);(case h=>(first|(apply Xab 0 rfl;(first|exact Xar _ rfl|exact Xap _ rfl))|(apply XaD;(case hs=>(intro _ _ h;cases h));(case hx=>rfl);(case hrun=>(intro w;simp [wtb,AV.val,go_sem];(try go_bits);rfl)))));(case hT=>((try simp only [wtn]);rfl)))|fail))
    exact ⟨rfl,(i+1,rest',out',ad',cap'),by simp only;omega,⟨by simp only;omega,by simp only;omega,by simp only;rw [h3'.out,e1]⟩,rfl,(XaH.mk' [] _ (Xu5 _) (XaB.refl _ _) (by (repeat' (first|exact VwL.nil|(refine VwL.cons ?_ ?_)|exact Vw.refl _|exact Vw.top _|fail))))⟩
   ·rintro T1 H1 ⟨c,e1,hk⟩
    refine Xhb (hk.weak _) ?_
    (repeat' (first|(apply Xb0 rfl;(case h=>(apply XaD;(case hs=>(intro _ _ h;cases h));(case hx=>rfl);(case hrun=>(intro w;simp [wtb,AV.val,go_sem];skip;rfl))));(case hT=>((try simp only [wtn]);rfl)))|fail))
    refine Xcc ?_
    refine Xaa ?_
    refine XbN ?_
    (repeat' (first|with_reducible (first|refine Xas ?_|refine Xay ?_|refine Xax ?_)|(refine Xal _ rfl (fun h=>?_) (fun h=>?_)<;>first|(exact absurd h (by decide))|((try (simp only [] at h));skip))|fail))
    exact ⟨.inl rfl,rfl,.inr ⟨rfl,i,c,by rw [h3'.out,e1],Wk.mk' [] _ (Xu5 _) (XaB.refl _ _)⟩⟩
  ·have hr:rest=[]:=by simpa using h
   subst hr
   refine ⟨.inr rfl,rfl,.inl ⟨rfl,i,out,ad0,cap0,?_,Wk.mk' [.box bs0 _] [.box bl _,.box bc _,.row _ _ _ _ _ _,.box b4 _,.box b3 _,.box b2 _] (by (repeat' (first|exact Xu5 _|refine Xvl _ ?_|refine (Xvi (l₁:=[_,_])).trans (Xvl _ ?_)|fail))) (XaB.refl _ _)⟩⟩
   rw [h3'.out]
   simp [XbR,XcA,cGo]
 ·rintro D H' ⟨n,out,ad,cap,hg,hk⟩
  (repeat (first|refine Xaj ?_|refine Xaa ?_|fail))
  refine XeT (hk.weak _) ?_
  refine Xa1 ?_
  refine XbV mixed [] [_,_] [_,_,_,_] (Xu5 _) ?_
  (first|refine Xba 0 rfl rfl (by kernel_rfl) (by intro c T H hp;rcases hp.1 with h|h<;>cases h) _ _ _ _ _ _ _ _ rfl rfl XaU.out XaM.out (by first|exact Xu4 rfl|fail) (by first|exact Xu4 rfl|fail) ?_|(apply XaC 0 rfl rfl (by kernel_rfl) (by intro c T H hp;rcases hp.1 with h|h<;>cases h);(case h=>(first|exact Xbb _ rfl|fail))));(apply Xan;(case hT=>((try simp only [wtn]);rfl));(case hH=>rfl));(first|refine Xba 1 rfl rfl (by kernel_rfl) (by intro c T H hp;rcases hp.1 with h|h<;>cases h) _ _ _ _ _ _ _ _ rfl rfl XaU.out XaM.out (by first|exact Xu4 rfl|fail) (by first|exact Xu4 rfl|fail) ?_|(apply XaC 1 rfl rfl (by kernel_rfl) (by intro c T H hp;rcases hp.1 with h|h<;>cases h);(case h=>(first|exact Xbb _ rfl|fail))));(apply Xan;(case hT=>((try simp only [wtn]);rfl));(case hH=>rfl))
  (repeat ((first|refine Xbq 2 (by decide +kernel) rfl rfl ?_|refine Xbq 3 (by decide +kernel) rfl rfl ?_|refine Xbq 4 (by decide +kernel) rfl rfl ?_|fail);(first|((refine Xaq 16 rfl ?_;(refine Xau _ _ _ _ _ _ _ rfl rfl XaU.out XaS.out (by first|rfl|fail) (by first|exact Xu4 rfl|fail) ?_));apply Xan;(case hT=>((try simp only [wtn]);rfl));(case hH=>((try simp only [wtn,Nat.reduceAdd]);rfl)))|fail)))
  refine XbE (by decide +kernel) ?_
  refine Xav rfl (by simp only [Xvg,Xvf];rfl) ?_
  refine Xa0 (by decide +kernel) ?_
  refine Xaa ?_
  refine XbN ?_
  (repeat' (first|with_reducible (refine Xas ?_)|fail))
  refine XnL (Xaf _ _ (XsW rfl (RV.cell 5 rfl rfl XaM.out (by simp) (by simp)) (RV.cell 4 rfl rfl XaM.out (by simp) (by simp)) (RV.cell 3 rfl rfl XaM.out (by simp) (by simp)) (XaH.mk' [_,_,_,_,_,_] [] (Xu5 _) XaB.nil (VwL.cons (Vw.row (List.Mem.tail _ (List.Mem.tail _ (List.Mem.head _))) (VwL.refl _ _)) (VwL.refl _ _)))) ?_)
  exact ⟨by rw [hg];rfl,rfl⟩
 ·rintro D H' ⟨n,c,hg,hk⟩
  (repeat (first|refine Xax ?_|refine Xay ?_|fail))
  refine XnL (XnK (hk.weak _) (Xaf _ _ (XsW rfl (RV.cell 2 rfl rfl XaM.out (by simp) (by simp)) (RV.cell 1 rfl rfl XaM.out (by simp) (by simp)) (RV.cell 0 rfl rfl XaM.out (by simp) (by simp)) (XaH.mk' [_,_,_] [] (Xu5 _) XaB.nil (VwL.cons Vw.nil (VwL.refl _ _)))) ?_))
  exact ⟨by rw [hg];rfl,rfl⟩
open Go.RowKit
def e5:EF:=⟨4,[],false,0,[],5,0,0⟩
def t5:List UInt8:=[116,105,99,107,32,53]
def tf:List UInt8:=[116,105,99,107,32,102,105,118,101]
theorem XrM:Xc3 e5:=⟨3,by decide,rfl,(fun f hf=>by obtain rfl:f=84:=List.mem_singleton.1 hf;exact ⟨by decide,by decide⟩),rfl⟩
theorem XnI:Xcr e5=t5:=by
 have h:Xb5 5=[53]:=XfY 5 (by decide)
 show [116,105,99,107]++(32 :: Xb5 5++[])=t5
 rw [h];rfl
theorem Xqq:XbS t5=([e5],1,0):=by
 obtain ⟨ts,q1,q2,q3⟩:=XrM.lex (by rw [XnI];decide)
 rw [XnI] at q1
 show cGo [t5] 0 []=_
 rw [cGo,q1]
 simp only [if_neg q2,q3]
 rfl
theorem Xqr:XbS tf=([],0,320):=by
 have hr:XaV Brk ([116,105,99,107]++32 :: [102,105,118,101]) ([(1,[116,105,99,107])]++[(1,[102,105,118,101])]):=(XaV.word (Xbz (by decide))).brk (by decide) (.bl 32 (by unfold Xc0;decide) (XaV.word (Xbz (by decide))))
 obtain ⟨ts,x,q1,q2⟩:=Xrh hr (by decide) (by decide)
 show cGo [tf] 0 []=_
 have q1':lex tf=.ok (ts++[x]):=q1
 have hl:ts.length=2:=by have:=congrArg List.length q2;simpa [kts] using this
 have he:Xcz ts=none:=by
  match ts,hl with
  | [a,b],_=>
    simp only [kts,Xva,Xve,Xvg,Xvf,List.cons.injEq,Prod.mk.injEq,and_true] at q2
    obtain ⟨⟨a1,a2⟩,b1,b2⟩:=q2
    rw [Xgg (k:=3) (by simp) (by exact a1) (by decide) (by rw [show XcU.getD 3 []=[116,105,99,107] from rfl];exact a2.symm),if_neg (by simp [Xa6])]
    show (XeU (ev0 4) 84 b).bind _=none
    have:XeU (ev0 4) 84 b=none:=by
     unfold XeU
     rw [if_neg (by decide),if_neg (by decide),if_neg (by decide),if_pos (by rw [b1];decide)]
    rw [this];rfl
 rw [cGo,q1']
 simp only [Xvh,Xu8,Xvb,hl,List.dropLast_concat,he]
 rfl
theorem XmB:Xa8 Tryz.prog 10 [] [.x (.string (bs t5))] (fun r H'=>r=.tup [.sq 1 [.x (.int .i64 4),.x (.string (bs [])),.x (.bool false),.x (.int .i64 0),.sq 0 [],.x (.int .u64 5),.x (.int .i64 0),.x (.int .i64 0)],.x (.int .i64 1),.x (.int .i64 0)]∧H'=[]):=by
 have h:=Xfs t5 (by decide)
 rw [Xqq] at h
 exact h
theorem Xmy:Xa8 Tryz.prog 10 [] [.x (.string (bs tf))] (fun r H'=>r=.tup [.sq 0 [],.x (.int .i64 0),.x (.int .i64 320)]∧H'=[]):=by
 have h:=Xfs tf (by decide)
 rw [Xqr] at h
 exact h
theorem XqI:Xa8 Tryz.prog 8 [] [] (fun r H'=>r=.x (.bool true)∧H'=[]):=by
 refine XaE Tryz.func8 rfl ?_
 simp only [Tryz.ntmps8,Xu8,Xvb,Xvc,Xvd,Xvg,Xvf,Nat.reduceAdd,Nat.reduceSub]
 (repeat' (first|with_reducible (first|refine Xai ?_|refine Xac ?_|refine Xas ?_|refine Xae ?_|refine Xaa ?_)|((first|apply Xad rfl|apply Xbe _ _ rfl rfl rfl);(case h=>((try (intro (hp:(_:Bool)=true);((try simp only [Bool.and_eq_true,Bool.not_eq_true',Bool.not_eq_true] at hp);(try simp only [hp,wte]);(try simp only [whn] at hp))));(first|(apply Xab 0 rfl;(first|exact Xar _ rfl|exact Xap _ rfl))|(apply Xab 1 rfl;(exact Xct _ _ _ rfl rfl))|(apply Xab 2 rfl;(exact XaO _ _ _ _ rfl rfl rfl))|(apply Xab 3 rfl;(exact Xa2 _ _ _ _ _ _ HEl.out rfl rfl))|(apply Xab 5 rfl;(exact XbY _ _ _ _ _ rfl rfl Xa3.out))|(apply Xab 6 rfl;(exact XaG _ _ _ _ _ rfl rfl XaM.out (by first|exact Xu4 rfl|fail) (by first|exact Xu4 rfl|fail)))|(apply Xab 7 rfl;(exact XaI _ _ _ _ _ _ _ _ 0 _ rfl rfl rfl HEl.out rfl (by omega) (by decide)))|(apply Xab 11 rfl;(first|exact XaA 10 Tryz.f10 _ _ rfl rfl Tryz.func10 (by decide) rfl (VwL.refl _ _) (XmB)|exact XaA 10 Tryz.f10 _ _ rfl rfl Tryz.func10 (by decide) rfl (VwL.refl _ _) (Xmy)))|(apply XaD;(case hs=>(intro _ _ h;cases h));(case hx=>rfl);(case hrun=>(intro w;simp [wtb,AV.val,go_sem];(try go_bits);rfl))))));(case hT=>((try simp only [wtn,Xu9,Xu6,Xu7,Xva,Xve,Nat.reduceAdd,Nat.reduceMul,Nat.reduceSub,↓reduceIte,Nat.reduceEqDiff]);rfl)))|fail))
 refine Xaf _ _ (Xbi rfl (RV.tmp _) (XaH.mk' [] _ (Xu5 _) (XaB.refl _ _) (VwL.refl _ _))) ?_
 exact ⟨rfl,rfl⟩
end Go.Proofs.YtdpobjakdplljaaGreatDoor

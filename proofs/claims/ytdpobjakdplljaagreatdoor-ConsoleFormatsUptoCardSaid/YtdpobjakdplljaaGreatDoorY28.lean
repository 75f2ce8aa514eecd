import Derived.Test.YtdpobjakdplljaaGreatDoorY27
import Derived.Test.YtdpobjakdplljaaGreatDoorY23
import Derived.Test.YtdpobjakdplljaaGreatDoorY22
/- The reference's parser, exact: a whole text. -/
set_option linter.unusedSimpArgs false
set_option linter.unusedVariables false
set_option maxRecDepth 100000
set_option maxHeartbeats 8000000
namespace Go.Proofs.YtdpobjakdplljaaGreatDoor
open Go.RowKit
theorem Xso (l m:List JF):jfa (l++m)=jfa l++jfa m:=by simp [jfa]
theorem Xgw {P:Tok→Prop} (hE:∀p q:Nat,P ⟨6,[],p,q⟩) (hO:∀(l:List UInt8) a t m,one l=.ok (a,t,m)→∀p q:Nat,P ⟨a,t,p,q⟩):∀(n:Nat) (p:Nat × Nat) (i:Nat) (l:List UInt8) (ts:List Tok),l.length≤n→Xci p i l=.ok ts→∀t∈ts,P t
 | n,p,i,l,ts,hn,h=>by
   cases hd:l.drop (skp l) with
   | nil=>
     rw [XcU p i l hd] at h;cases h
     simpa using hE _ _
   | cons c r=>
     have hlen:=congrArg List.length hd
     simp only [List.length_drop,Xvy] at hlen
     cases h1:one (c :: r) with
     | error e=>rw [Xdt p i l c r e hd h1] at h;cases h
     | ok x=>
       by_cases hi:2000≤i
       ·rw [Xc3 p i l c r x hd h1 hi] at h;cases h
       ·obtain ⟨a,t,m⟩:=x
        obtain ⟨g1,g2,g3,g4⟩:=XfG h1
        simp only at g1 g2 g3 g4
        rw [Xda p i l c r a t m hd h1 g1 (by omega)] at h
        cases hr:Xci (plc p (l.take (skp l+m))) (i+1) ((c :: r).drop m) with
        | error e=>rw [hr] at h;cases h
        | ok y=>
          rw [hr] at h
          simp only [Except.map] at h
          cases h
          cases n with
          | zero=>omega
          | succ n=>
            have ht:=Xgw hE hO n _ _ _ y (by simp only [List.length_drop,Xvy];omega) hr
            intro t ht2
            rcases List.mem_cons.1 ht2 with rfl|ht2
            ·exact hO _ _ _ _ h1 _ _
            ·exact ht t ht2
theorem Xq3 (p:UInt8→Bool) (l:List UInt8):l.take (spn p l)=l.takeWhile p:=(List.prefix_iff_eq_take.1 (List.takeWhile_prefix p)).symm
theorem XsJ {l:List UInt8} {a:Int} {t:List UInt8} {m:Nat} (h:one l=.ok (a,t,m)):a=2→t.length≤18∧Xel t:=by
 intro ha
 subst ha
 cases l with
 | nil=>simp [one] at h
 | cons c r=>
   simp only [one] at h
   split at h
   ·cases h
   ·split at h
    ·split at h
     ·cases h
     ·rename_i h2
      cases h
      rw [Xq3]
      refine ⟨?_,fun x hx=>?_⟩
      ·have:((c :: r).takeWhile Xbi).length=spn Xbi (c :: r):=rfl
       omega
      ·have:=List.all_takeWhile (p:=Xbi) (l:=c :: r)
       have hx':=(List.all_eq_true.1 this) x hx
       simpa [Xbi] using hx'
    ·split at h
     ·split at h<;>cases h
     ·split at h
      ·split at h<;>cases h
      ·split at h<;>cases h
theorem Xhm (l:List UInt8) (ts:List Tok) (h:lex l=.ok ts):XeI ts∧Xpy ts:=by
 have hf:=(Xdu l).2 ts h
 unfold lex at h
 split at h
 ·cases h
 ·rename_i hl
  refine ⟨Xgw (P:=fun t=>t.kind=2→t.text.length≤18∧Xel t.text) (fun p q h=>by simp at h) (fun l a t m h p q=>XsJ h) l.length (1,1) 0 l ts (Nat.le_refl _) h,?_⟩
  obtain ⟨qs,e,rfl,he,hq,ht⟩:=Xf0 l.length (1,1) 0 l ts (Nat.le_refl _) h
  exact fun t h=>Nat.le_trans (ht t h) (by omega)
def XuH (x:Except Flt (List JF)):AV:=match x with
 | .ok js=>.tup [.sq js.length (jfa js),.x (.agg #[.int .i64 0,.int .i64 0,.int .i64 0])]
 | .error f=>.tup [.sq 0 [],f.av]
def JOk (x:Except Flt (List JF)):Prop:=match x with
 | .ok js=>JBs js
 | .error f=>f.code≠0
theorem XmD (s:List UInt8) (hl:s.length≤1000000) (f:Flt) (hx:lex s=.error f):Xa3 Tryz.prog 168 [] [.x (.string (bs s))] (fun r H'=>r=XuH (Xds s)∧H'=[]∧JOk (Xds s)):=by
 have hall:=XrI s hl
 have hf0:=(Xdu s).1 f hx
 have hg:Xds s=.error f:=by simp only [Xds,hx]
 rw [hg]
 rw [hx] at hall
 simp only [Xd4,XhY,Flt.av] at hall
 clear hx hg
 refine XaD Tryz.func168 rfl ?_
 simp only [Tryz.ntmps168,Xvy,XvB,XvC,XvD,XvG,XvF,Nat.reduceAdd,Nat.reduceSub]
 (repeat' (first|with_reducible (first|refine Xag ?_|refine Xac ?_|refine Xae ?_|refine Xaa ?_)|(refine Xak _ rfl (fun h=>?_) (fun h=>?_)<;>((try (simp only [whn] at h));first|(exfalso;omega;done)|skip))|((apply Xad rfl);(case h=>(first|(apply Xab 0 rfl;(first|exact Xap _ rfl|exact Xan _ rfl))|(apply Xab 2 rfl;(exact XaM _ _ _ _ rfl rfl rfl))|(apply Xab 5 rfl;(exact Xal _ _ _ _ _ _ rfl rfl Xa5.out))|(apply Xab 6 rfl;(exact Xaz _ _ _ _ _ _ _ _ rfl rfl XaS.out XaN.out (by first|exact Xvu rfl|fail) (by first|exact Xvu rfl|fail)))|(apply Xab 11 rfl;(exact Xay 27 Tryz.f27 _ _ rfl rfl Tryz.func27 (by decide) rfl (VwL.refl _ _) (hall)))|(apply XaC;(case hs=>(intro _ _ h;cases h));(case hx=>rfl);(case hrun=>(intro w;simp [wtb,AV.val,go_sem];skip;rfl)))));(case hT=>((try simp only [wtn]);rfl)))|(refine Xai rfl ?_;((first|(refine Xas 14 rfl ?_;(refine XaK _ _ rfl Xbk.out rfl (fun b=>?_)))|(refine Xas 16 rfl ?_;(refine Xaw _ _ _ _ _ _ _ rfl rfl XaS.out XaR.out (by first|rfl|fail) (by first|exact Xvu rfl|fail) ?_)));apply Xah;(case hT=>((try simp only [wtn]);rfl));(case hH=>((try simp only [wtn,Nat.reduceAdd]);rfl))))|fail))
 refine XhN mixed [2] ?_
 (first|refine Xbc 0 rfl rfl (by kernel_rfl) (by intro c T H hp;simp [XaO,Xat,XaT,Xbr] at hp) _ _ _ _ _ _ _ _ rfl rfl XaS.out XaN.out (by first|exact Xvu rfl|fail) (by first|exact Xvu rfl|fail) ?_|fail);(apply Xaq;(case hT=>((try simp only [wtn,↓reduceIte]);rfl));(case hH=>rfl));(first|(apply XaI 1 rfl rfl (by kernel_rfl) (by intro c T H hp;simp [XaO,Xat,XaT,Xbr] at hp);(case h=>(exact Xga _ rfl)))|fail);(apply Xaq;(case hT=>((try simp only [wtn]);rfl));(case hH=>rfl))
 refine XbL (by decide +kernel) ?_
 refine XaA rfl (by simp only [XvG,XvF];rfl) ?_
 (refine Xbp 2 (by decide +kernel) rfl rfl ?_;(first|((refine Xas 16 rfl ?_;(refine Xaw _ _ _ _ _ _ _ rfl rfl XaS.out XaR.out (by first|rfl|fail) (by first|exact Xvu rfl|fail) ?_));apply XaA;(case hT=>((try simp only [wtn]);rfl));(case hH=>((try simp only [wtn,Nat.reduceAdd]);rfl)))|fail))
 refine Xa4 (by decide +kernel) ?_
 (repeat' (first|with_reducible (first|refine Xar ?_|refine Xaa ?_|refine Xax ?_)|fail))
 refine Xaf _ _ (XcB rfl (RV.tmp _) (RV.cell 1 rfl rfl XaN.out (by simp) (by simp)) (XaH.mk' [_,_] [] (Xvv _) XaB.nil (VwL.cons Vw.nil (VwL.refl _ _)))) ?_
 exact ⟨rfl,rfl,hf0⟩
theorem Xoc {ts:List Tok} {k:Nat} {out:List JF} {f:Flt} (h:(tkA ts k).kind≠6) (h2:Xiw ts k (decide (32≤out.length))=.error f):XdZ ts k out=.error f:=by rw [XdZ,if_neg h,h2]
theorem Xmr {ts:List Tok} {k:Nat} {out:List JF} {x:JF × Nat} (h:(tkA ts k).kind≠6) (h2:Xiw ts k (decide (32≤out.length))=.ok x) (h3:k < x.2∧k < ts.length):XdZ ts k out=XdZ ts x.2 (out++[x.1]):=by rw [XdZ,if_neg h,h2];simp only;rw [dif_pos h3]
theorem Xod {ts:List Tok} {k:Nat} {out:List JF} (h:(tkA ts k).kind=6):XdZ ts k out=.ok out:=by rw [XdZ,if_pos h]
theorem Got.no {α:Type} {ts:List Tok} {s s':PS} {x:Except Flt (α × Nat)} {v:α} (h:Got ts s x s' v) (he:s.e=0) (hb:s'.e≠0):∃f:Flt,x=.error f∧f.code≠0∧s'.e=f.code∧s'.l=f.line∧s'.c=f.col:=by
 have h':=h.2.2.2 he
 cases x with
 | ok p=>exfalso;rw [h'.2] at hb;exact hb rfl
 | error f=>exact ⟨f,rfl,h'⟩
theorem XoM (s:List UInt8) (hl:s.length≤1000000) (ts:List Tok) (hx:lex s=.ok ts):Xa3 Tryz.prog 168 [] [.x (.string (bs s))] (fun r H'=>r=XuH (Xds s)∧H'=[]∧JOk (Xds s)):=by
 have hall:=XrI s hl
 obtain ⟨hp,hn,hv,-,hle⟩:=(Xdu s).2 ts hx
 obtain ⟨hN,hS⟩:=Xhm s ts hx
 have hN':=Lib.hid hN
 have hS':=Lib.hid hS
 clear hN hS
 have hg:Xds s=XdZ ts 0 []:=by simp only [Xds,hx]
 rw [hg]
 rw [hx] at hall
 simp only [Xd4,XhY,Flt.av] at hall
 clear hx hg
 refine XaD Tryz.func168 rfl ?_
 simp only [Tryz.ntmps168,Xvy,XvB,XvC,XvD,XvG,XvF,Nat.reduceAdd,Nat.reduceSub]
 (repeat' (first|with_reducible (first|refine Xag ?_|refine Xac ?_|refine Xao ?_|refine Xau ?_|refine Xae ?_|refine Xaa ?_)|(refine Xak _ rfl (fun h=>?_) (fun h=>?_)<;>first|(exact absurd h (by decide))|((try (simp only [] at h));skip))|((apply Xad rfl);(case h=>(first|(apply Xab 0 rfl;(first|exact Xap _ rfl|exact Xan _ rfl))|(apply Xab 2 rfl;(exact XaM _ _ _ _ rfl rfl rfl))|(apply Xab 5 rfl;(exact Xal _ _ _ _ _ _ rfl rfl Xa5.out))|(apply Xab 6 rfl;(exact Xaz _ _ _ _ _ _ _ _ rfl rfl XaS.out XaN.out (by first|exact Xvu rfl|fail) (by first|exact Xvu rfl|fail)))|(apply Xab 10 rfl;(exact Xa1 _ _ _ _ _ rfl HPl.out (by first|rfl|fail) rfl))|(apply Xab 11 rfl;(exact Xay 27 Tryz.f27 _ _ rfl rfl Tryz.func27 (by decide) rfl (VwL.refl _ _) (hall)))|(apply XaC;(case hs=>(intro _ _ h;cases h));(case hx=>rfl);(case hrun=>(intro w;simp [wtb,AV.val,go_sem];skip;rfl)))));(case hT=>((try simp only [wtn,↓reduceIte]);rfl)))|(refine Xai rfl ?_;((first|(refine Xas 14 rfl ?_;(refine XaK _ _ rfl Xbk.out rfl (fun b=>?_)))|(refine Xas 15 rfl ?_;(refine Xbo _ _ rfl (by first|rfl|fail) (fun b=>?_)))|(refine Xas 16 rfl ?_;(refine Xaw _ _ _ _ _ _ _ rfl rfl XaS.out XaR.out (by first|rfl|fail) (by first|exact Xvu rfl|fail) ?_)));apply Xah;(case hT=>((try simp only [wtn]);rfl));(case hH=>((try simp only [wtn,Nat.reduceAdd]);rfl))))|fail))
 rename_i fb xb
 obtain ⟨pb,rfl⟩:∃x,x=b:=⟨b,rfl⟩
 refine Xbt 51 15 ?_
 apply XaQ (S:=Nat × Int × Int × Int × AV × List JF × Option Addr × Nat) (fun s=>frm 41 [(3,.x (.pointer (some ⟨fb,0,none⟩))),(6,.x (.pointer (some ⟨pb,0,none⟩))),(7,.x (.slice s.2.2.2.2.2.2.1 s.2.2.2.2.2.1.length s.2.2.2.2.2.2.2))])
  (fun s=>[.box pb (pc ts s.1 s.2.1 s.2.2.1 s.2.2.2.1 s.2.2.2.2.1),.row s.2.2.2.2.2.2.1 s.2.2.2.2.2.1.length s.2.2.2.2.2.2.2 51 15 (jfa s.2.2.2.2.2.1),.box fb [.x (.int .i64 0),.x (.int .i64 0),.x (.int .i64 0)]])
  (fun s=>s.1 < ts.length∧s.2.1=0∧s.2.2.2.2.1.one=true∧s.2.2.2.2.2.1.length≤s.1∧(∀j∈s.2.2.2.2.2.1,JB j ts.length)∧XdZ ts s.1 s.2.2.2.2.2.1=XdZ ts 0 []) (fun s=>ts.length - s.1) (0,0,0,0,.x (.slice none 0 0),[],none,0)
 case h0=>exact XaH.mk' [_] [.box pb _,.row none 0 0 _ _ _,.box fb _] (List.Perm.trans (l₂:=[.box pb _,.row none 0 0 _ _ _,.box fb _]++[_]) (by (repeat' (first|exact Xvv _|refine XvL _ ?_|refine (XvI (l₁:=[_])).trans (XvL _ ?_)|fail))) List.perm_append_comm) (XaB.refl _ _) (by (repeat' (first|exact VwL.nil|(refine VwL.cons ?_ ?_)|exact Vw.refl _|exact Vw.top _|fail)))
 case hi=>exact ⟨hp,rfl,rfl,Nat.zero_le _,by simp,rfl⟩
 rintro ⟨kk,ee,ll,cc,sv,js,ad,cap⟩ ⟨g1,rfl,g3,g4,g5,g6⟩
 simp only at g1 g3 g4 g5 g6
 have g5':=Lib.hid g5
 have g6':=Lib.hid g6
 clear g5 g6
 simp only [frm,XvC,XvD,Xvw,Xvx,XvJ,XvK]
 (repeat' (first|with_reducible (first|refine Xag ?_|refine Xac ?_|refine Xao ?_|refine Xar ?_|refine Xau ?_|refine XaW ?_|refine Xae ?_|refine Xaa ?_|refine XaL ?_|refine XaJ ?_|refine Xaj ?_)|(refine Xak _ rfl (fun h=>?_) (fun h=>?_)<;>((try (simp only [whn] at h));skip))|((apply Xad rfl);(case h=>(first|(apply Xab 0 rfl;(first|exact Xap _ rfl|exact Xan _ rfl))|(apply Xab 6 rfl;(exact Xaz _ _ _ _ _ _ _ _ rfl rfl XaS.out XaN.out (by first|exact Xvu rfl|fail) (by first|exact Xvu rfl|fail)))|(apply Xab 10 rfl;(exact Xa1 _ _ _ _ _ rfl HPl.out (by first|rfl|fail) rfl))|(apply Xab 11 rfl;(first|exact Xa9 187 Tryz.f187 _ _ rfl rfl Tryz.func187 (by decide) rfl (by (repeat' (first|exact VwL.nil|(refine VwL.cons ?_ ?_)|exact Vw.box (List.Mem.head _) (VwL.refl _ _)|fail));done) (Xkx ts kk _ _ _ _ g1 (by omega))|exact Xa9 189 Tryz.f189 _ _ rfl rfl Tryz.func189 (by decide) rfl (by (repeat' (first|exact VwL.nil|(refine VwL.cons ?_ ?_)|exact Vw.box (List.Mem.tail _ (List.Mem.head _)) (VwL.refl _ _)|fail));done) (Xca ts _ _ _ _ _)))|(apply Xab 12 rfl;(exact Xm1 _ _ _ _ _ _ _ rfl rfl HFv.out (by first|(simp;done)|fail) (by first|(simp;done)|fail)))|(apply XaC;(case hs=>(intro _ _ h;cases h));(case hx=>rfl);(case hrun=>(intro w;simp [wtb,AV.val,go_sem];skip;rfl)))));(case hT=>((try simp (disch:=omega) only [wtn,pc,Tok.av,JF.cells,Xvz,Xvw,Xvx,XvA,XvE,Nat.reduceAdd,Nat.reduceMul,Nat.reduceSub,↓reduceIte,Nat.reduceEqDiff]);rfl)))|(refine Xai rfl ?_;((first|(refine Xas 11 rfl ?_;(refine Xam 188 Tryz.f188 [_] _ _ _ rfl rfl Tryz.func188 (by decide) rfl (Xvv _) (VwL.refl _ _) (Xuf _ ts kk _ _ sv g3 js.length g1 (by omega) hv hN'.out hS'.out) ?_;rintro _ _ ⟨j7,k7,e7,l7,c7,sv7,rfl,rfl,hsv7,q7,g7,w4,w5⟩))|(refine Xas 13 rfl ?_;(refine XaP _ _ _ _ _ _ _ _ _ _ _ _ _ _ rfl rfl Xb3.out (Src.row _ rfl Xb3.out) XaY.out (by first|rfl|fail) (XdQ _ _ (by omega) (by decide)) (fun ad cap=>?_)))|(refine Xas 14 rfl ?_;(refine XaK _ _ rfl Xbk.out rfl (fun b=>?_)))|(refine Xas 16 rfl ?_;(refine Xaw _ _ _ _ _ _ _ rfl rfl XaS.out XaR.out (by first|rfl|fail) (by first|exact Xvu rfl|fail) ?_))|(refine Xas 17 rfl ?_;(refine XaE _ _ _ _ _ _ _ _ rfl XaY.out (by first|rfl|fail) rfl (by decide) rfl (fun b=>?_))));apply Xah;(case hT=>((try simp (disch:=omega) only [wtn,pc,Tok.av,JF.cells,Xvz,Xvw,Xvx,XvA,XvE,Nat.reduceAdd,Nat.reduceMul,Nat.reduceSub,↓reduceIte,Nat.reduceEqDiff]);rfl));(case hH=>((try simp (disch:=omega) only [wtn,pc,Tok.av,JF.cells,Xvz,Xvw,Xvx,XvA,XvE,Nat.reduceAdd,Nat.reduceMul,Nat.reduceSub,↓reduceIte,Nat.reduceEqDiff]);rfl))))|fail))
 ·have hk6:ts[kk].kind≠6:=by assumption
  obtain ⟨f,f1,f2,f3,f4,f5⟩:=g7.no rfl (by assumption)
  simp only at f3 f4 f5
  have hg:XdZ ts 0 []=.error f:=g6'.out.symm.trans (Xoc (by rw [Xbm g1];exact hk6) f1)
  rw [hg]
  clear g6'
  refine XhN mixed [5] ?_
  (first|(apply XaI 0 rfl rfl (by kernel_rfl) (by intro c T H hp;simp [XaO,Xat,XaT,Xbr] at hp);(case h=>(exact Xbd _ rfl)))|fail);(apply Xaq;(case hT=>((try simp only [wtn]);rfl));(case hH=>rfl));(first|(apply XaI 1 rfl rfl (by kernel_rfl) (by intro c T H hp;simp [XaO,Xat,XaT,Xbr] at hp);(case h=>(exact Xcj _ _ _ rfl rfl)))|fail);(apply Xaq;(case hT=>((try simp only [wtn]);rfl));(case hH=>rfl));(first|(apply XaI 2 rfl rfl (by kernel_rfl) (by intro c T H hp;simp [XaO,Xat,XaT,Xbr] at hp);(case h=>(exact XaU _ _ _ _ _ _ rfl rfl Xa5.out)))|fail);(apply Xaq;(case hT=>((try simp only [wtn]);rfl));(case hH=>rfl));(first|refine Xbc 3 rfl rfl (by kernel_rfl) (by intro c T H hp;simp [XaO,Xat,XaT,Xbr] at hp) _ _ _ _ _ _ _ _ rfl rfl XaS.out XaN.out (by first|exact Xvu rfl|fail) (by first|exact Xvu rfl|fail) ?_|fail);(apply Xaq;(case hT=>((try simp only [wtn,↓reduceIte]);rfl));(case hH=>rfl));(first|(apply XaI 4 rfl rfl (by kernel_rfl) (by intro c T H hp;simp [XaO,Xat,XaT,Xbr] at hp);(case h=>(exact Xga _ rfl)))|fail);(apply Xaq;(case hT=>((try simp only [wtn]);rfl));(case hH=>rfl))
  refine XbL (by decide +kernel) ?_
  refine XaA rfl (by simp only [XvG,XvF];rfl) ?_
  (refine Xbp 5 (by decide +kernel) rfl rfl ?_;(first|((refine Xas 16 rfl ?_;(refine Xaw _ _ _ _ _ _ _ rfl rfl XaS.out XaR.out (by first|rfl|fail) (by first|exact Xvu rfl|fail) ?_));apply XaA;(case hT=>((try simp only [wtn]);rfl));(case hH=>((try simp only [wtn,Nat.reduceAdd]);rfl)))|fail))
  refine Xa4 (by decide +kernel) ?_
  (repeat' (first|with_reducible (first|refine Xar ?_|refine Xaa ?_|refine Xax ?_|refine Xav ?_)|fail))
  refine Xaf _ _ (XcB rfl (RV.tmp _) (RV.cell 3 rfl rfl XaN.out (by simp) (by simp)) (XaH.mk' [_,_,_,_] [] (Xvv _) XaB.nil (VwL.cons Vw.nil (VwL.refl _ _)))) ?_
  refine ⟨?_,rfl,f2⟩
  rw [f3,f4,f5]
  rfl
 ·have hk6:ts[kk].kind≠6:=by assumption
  have h0:e7=0:=by assumption
  have h1:=w5 h0
  have hg:=(g7.ok h0).2.1
  refine ⟨(k7,e7,l7,c7,sv7,js++[j7],ad,cap),by simp only;omega,⟨q7,h0,hsv7,by simp only [XvH,Xvy,XvB];omega,fun j hj=>?_,?_⟩,?_⟩
  ·rcases List.mem_append.1 hj with hj|hj
   ·exact g5'.out j hj
   ·rw [List.mem_singleton] at hj;subst hj;exact w4.mono (by omega)
  ·rw [←g6'.out]
   exact (Xmr (x:=(j7,k7)) (by rw [Xbm g1];exact hk6) hg ⟨h1,g1⟩).symm
  ·simp only [Xso,XvH,Xvy,XvB]
   exact XaH.mk' [_,_] [.box pb _,.row ad _ cap _ _ _,.box fb _] (List.Perm.trans (l₂:=[.box pb _,.row ad _ cap _ _ _,.box fb _]++[_,_]) (by (repeat' (first|exact Xvv _|refine (XvI (l₁:=[_,_])).trans (XvL _ ?_)|fail))) List.perm_append_comm) (XaB.refl _ _) (by (repeat' (first|exact VwL.nil|(refine VwL.cons ?_ ?_)|exact Vw.refl _|exact Vw.top _|fail)))
 ·have hk6:ts[kk].kind=6:=by assumption
  have hg:XdZ ts 0 []=.ok js:=g6'.out.symm.trans (Xod (by rw [Xbm g1];exact hk6))
  rw [hg]
  refine Xaf _ _ (XcB rfl (RV.tmp _) (RV.cell 2 rfl rfl XaN.out (by simp) (by simp)) (XaH.mk' [_,_,_] [] (Xvv _) XaB.nil (VwL.cons (Vw.row (List.Mem.tail _ (List.Mem.head _)) (VwL.refl _ _)) (VwL.refl _ _)))) ?_
  exact ⟨rfl,rfl,by omega,fun j hj=>by obtain ⟨q1,q2,q3⟩:=g5'.out j hj;exact ⟨by omega,by omega,by omega⟩⟩
theorem XsN (s:List UInt8) (hl:s.length≤1000000):Xa3 Tryz.prog 168 [] [.x (.string (bs s))] (fun r H'=>r=XuH (Xds s)∧H'=[]∧JOk (Xds s)):=by
 cases hx:lex s with
 | error f=>exact XmD s hl f hx
 | ok ts=>exact XoM s hl ts hx
theorem XcY {α:Type} (f:α→List UInt8) (c:Nat):∀l:List α,(∀x∈l,(f x).length≤c)→(l.flatMap f).length≤c*l.length
 | [],_=>Nat.le_refl _
 | x :: l,h=>by
   have h1:=h x (by simp)
   have h2:=XcY f c l fun y hy=>h y (by simp [hy])
   rw [List.flatMap_cons,XvH,Xvy,Nat.mul_succ];omega
theorem Xqg {j:JF} (h:XfA j):(Xe0 j).length≤900:=by
 obtain ⟨j1,j2,j3,j4,j5,j6,j7,j8,j9,j10,j11,j12,j13,j14⟩:=h
 have q1:=XcI j.run
 have q2:=Xfv j.ready
 have q3:=Xew j.restart
 have q4:=XdM j.base j10.2
 have q5:=XdM j.cap j11.2
 have q6:=XdM j.stable j12.2
 have q7:=XdM j.window j13.2
 have qb:U64 (if 0 < j.burst then j.burst else 0):=by unfold U64;have:=j14.1;have:=j14.2;split<;>omega
 have q8:=XdM _ qb.2
 have e1:(Xmg j.env).length≤52*j.env.length:=XcY _ _ _ fun p hp=>by
  obtain ⟨a,b⟩:=j4 p hp
  have:=XcI p.2
  simp only [XnR,XvH,Xvy,XvB];omega
 have e2:(XdN j.needs).length≤9+16*j.needs.length:=by
  unfold XdN
  cases hn:j.needs with
  | nil=>simp
  | cons x r=>
    rw [hn] at j6
    rw [if_neg (by simp)]
    have h1:=j6 x (by simp)
    have h2:(r.flatMap Xd0).length≤16*r.length:=XcY _ _ _ fun y hy=>by
     have:=j6 y (by simp [hy])
     simp only [Xd0,XvH,Xvy,XvB];omega
    simp only [XfL,XvH,Xvy,XvB];omega
 have e3:(Xd1 j).length≤11+2*j.ready.length:=by
  unfold Xd1
  split
  ·simp only [XvH,Xvy,XvB];omega
  ·simp
 have e4:(Xi7 j.ladder).length≤40*j.ladder.length:=by
  have hr:∀p∈j.ladder,(Xcy p).length≤30:=fun p hp=>by
   have h1:=Xik p.1
   have h2:=XdM p.2 (j9 p hp).2
   simp only [Xcy,XvH,Xvy,XvB];omega
  cases hn:j.ladder with
  | nil=>simp [Xi7]
  | cons x r=>
    rw [hn] at hr
    have h1:=hr x (by simp)
    have h2:(r.flatMap Xdk).length≤40*r.length:=XcY _ _ _ fun y hy=>by
     have:=hr y (by simp [hy])
     simp only [Xdk,XvH,Xvy,XvB];omega
    simp only [Xi7,XvH,Xvy];omega
 simp only [Xe0,Xgs,Xii,XvH,Xvy,XvB];omega
theorem Xug:∀s∈Xpt,(XcE s).length≤14:=by decide
theorem XtL:∀p∈XnS,(XnR p).length≤30:=by decide
theorem Xt8:∀s∈XmX,(XbT s).length≤12:=by decide
theorem Xln:∀s∈Xcp,s.length≤1:=by decide
theorem Xmd (v:Int) (h0:0≤v) (h1:v≤1000):(XbJ v.toNat).length≤4:=Xee 3 v.toNat (Nat.lt_of_lt_of_le (show v.toNat < 10000 by omega) (by decide))
theorem JM.txt {j:JF} (hm:JM j):(Xe0 j).length≤270:=by
 obtain ⟨i,hi,h⟩:=hm
 obtain ⟨j1,j2,j3,j4,j5,j6,j7,j8,j9,j10,j11,j12,j13,j14⟩:=h.small
 have q1:=Xug _ h.run
 have q2:(XbT j.ready).length≤12:=by
  rcases h.ready with ⟨a,b⟩|⟨a,b⟩
  ·exact Xt8 _ b
  ·rw [b];decide
 have q3:=Xew j.restart
 have q4:=Xmd j.base h.base.1 h.base.2
 have q5:=Xmd j.cap h.cap.1 h.cap.2
 have q6:=Xmd j.stable h.stable.1 h.stable.2
 have q7:=Xmd j.window h.window.1 h.window.2
 have qb:U64 (if 0 < j.burst then j.burst else 0):=by unfold U64;have:=j14.1;have:=j14.2;split<;>omega
 have hbu:=h.burst
 have q8:=Xmd (if 0 < j.burst then j.burst else 0) (by split<;>omega) (by split<;>omega)
 have qn:j.name.length≤1:=by rw [h.name];exact Xln _ (XeX Xcp [] i hi)
 have hns:∀s∈j.needs,s.length≤1:=fun s hs=>Xln s (List.mem_of_mem_take (h.needs.subset hs))
 have e1:(Xmg j.env).length≤30*j.env.length:=XcY _ _ _ fun p hp=>by
  obtain ⟨v,hv,hE⟩:=h.env
  rw [hE] at hp
  exact XtL p (List.mem_of_mem_take hp)
 have e2:(XdN j.needs).length≤9+3*j.needs.length:=by
  unfold XdN
  cases hn:j.needs with
  | nil=>simp
  | cons x r=>
    rw [hn] at hns
    rw [if_neg (by simp)]
    have h1:=hns x (by simp)
    have h2:(r.flatMap Xd0).length≤3*r.length:=XcY _ _ _ fun y hy=>by
     have:=hns y (by simp [hy])
     simp only [Xd0,XvH,Xvy,XvB];omega
    simp only [XfL,XvH,Xvy,XvB];omega
 have e3:(Xd1 j).length≤23:=by
  unfold Xd1
  split
  ·simp only [XvH,Xvy,XvB];omega
  ·simp
 have e4:(Xi7 j.ladder).length≤11*j.ladder.length:=by
  have hr:∀p∈j.ladder,(Xcy p).length≤10:=fun p hp=>by
   have h1:=Xik p.1
   have h2:=Xmd p.2 (h.laddere p hp).2.1 (h.laddere p hp).2.2
   simp only [Xcy,XvH,Xvy,XvB];omega
  cases hn:j.ladder with
  | nil=>simp [Xi7]
  | cons x r=>
    rw [hn] at hr
    have h1:=hr x (by simp)
    have h2:(r.flatMap Xdk).length≤11*r.length:=XcY _ _ _ fun y hy=>by
     have:=hr y (by simp [hy])
     simp only [Xdk,XvH,Xvy,XvB];omega
    simp only [Xi7,XvH,Xvy];omega
 have h3:=h.ladder.2
 simp only [Xe0,Xgs,Xii,XvH,Xvy,XvB];omega
theorem Xom {l:List JF} (h:∀j∈l,JM j):(l.flatMap Xe0).length≤270*l.length:=XcY _ _ _ fun j hj=>(h j hj).txt
theorem Xqi {l:List JF} (h:∀j∈l,XfA j):(l.flatMap Xe0).length≤900*l.length:=XcY _ _ _ fun j hj=>Xqg (h j hj)
theorem Xuw (l:List JF) (hl:l.length≤8) (hj:∀j∈l,XfA j):Xa3 Tryz.prog 167 [] [.sq l.length (jfa l)] (fun r H'=>r=.x (.string (bs (l.flatMap Xe0)))∧H'=[]∧(l.flatMap Xe0).length≤900*l.length):=by
 have hj':=Lib.hid hj
 clear hj
 refine XaD Tryz.func167 rfl ?_
 simp only [Tryz.ntmps167,Xvy,XvB,XvC,XvD,XvG,XvF,Nat.reduceAdd,Nat.reduceSub]
 (repeat' (first|with_reducible (first|refine Xag ?_|refine Xac ?_|refine Xao ?_|refine Xae ?_|refine Xaa ?_)|((apply Xad rfl);(case h=>(apply Xab 0 rfl;(exact Xan _ rfl)));(case hT=>((try simp only [wtn]);rfl)))|fail))
 apply XaQ (S:=Nat × List UInt8) (fun q=>frm 19 [(0,.sq l.length (jfa l)),(3,.x (.string (bs q.2))),(4,.x (.int .i64 q.1))]) (fun _=>[]) (fun q=>q.1≤l.length∧q.2.length≤900*q.1∧q.2=(l.take q.1).flatMap Xe0) (fun q=>l.length - q.1) (0,_)
 case h0=>exact (XaH.mk' [] _ (Xvv _) (XaB.refl _ _) (by (repeat' (first|exact VwL.nil|(refine VwL.cons ?_ ?_)|exact Vw.refl _|exact Vw.top _|fail))))
 case hi=>exact ⟨Nat.zero_le _,by simp;done,by simp;done⟩
 rintro ⟨i,s⟩ ⟨hi,hs,he⟩
 simp only at hi hs he
 have he':=Lib.hid he
 clear he
 simp only [frm,XvC,XvD,Xvw,Xvx,XvJ,XvK]
 by_cases hlt:i < l.length
 ·have hp:=hj'.out l[i] (List.getElem_mem hlt)
  (repeat' (first|with_reducible (first|refine Xag ?_|refine Xac ?_|refine Xao ?_|refine Xau ?_|refine Xae ?_|refine Xaa ?_|refine Xaj ?_)|(refine Xak _ rfl (fun h=>?_) (fun h=>?_)<;>((try (simp only [whn] at h));first|(exfalso;omega;done)|skip))|((apply Xad rfl);(case h=>(first|(apply Xab 0 rfl;(first|exact Xap _ rfl|exact Xan _ rfl))|(apply Xab 3 rfl;(exact XaX _ _ _ _ _ _ HEl.out rfl rfl))|(apply Xab 6 rfl;(exact XaF _ _ _ _ _ rfl rfl XaN.out (by first|exact Xvu rfl|fail) (by first|exact Xvu rfl|fail)))|(apply Xab 7 rfl;(exact XaG _ _ _ _ _ _ _ _ _ _ rfl rfl rfl HEl.out rfl (by first|omega|fail) (by simp;first|omega|fail)))|(apply Xab 12 rfl;(exact Xbv _ _ _ _ rfl rfl rfl (by omega)))|(apply XaC;(case hs=>(intro _ _ h;cases h));(case hx=>rfl);(case hrun=>(intro w;simp [wtb,AV.val,go_sem];(try go_bits);rfl)))));(case hT=>((try simp (disch:=assumption) only [wtn,XeZ,Xvz,Xvw,Xvx,XvA,XvE,Nat.reduceAdd,Nat.reduceMul,Nat.reduceSub,↓reduceIte,Nat.reduceEqDiff]);rfl)))|(refine Xai rfl ?_;((refine Xas 11 rfl ?_;(refine Xam 186 Tryz.f186 ([]) _ _ _ rfl rfl Tryz.func186 (by decide) rfl (Xvv _) (VwL.refl _ _) (Xsp l[i] hp) ?_;rintro _ _ ⟨rfl,rfl,ht⟩));apply Xah;(case hT=>((try simp (disch:=omega) only [wtn,XeZ,Xvz,Xvw,Xvx,XvA,XvE,Nat.reduceAdd,Nat.reduceMul,Nat.reduceSub,↓reduceIte,Nat.reduceEqDiff]);rfl));(case hH=>((try simp (disch:=omega) only [wtn,XeZ,Xvz,Xvw,Xvx,XvA,XvE,Nat.reduceAdd,Nat.reduceMul,Nat.reduceSub,↓reduceIte,Nat.reduceEqDiff]);rfl))))|fail))
  exact ⟨(i+1,s++Xe0 l[i]),by simp only;omega,⟨by simp only;omega,by simp;omega,by simp only;rw [he'.out,Xa0 l i hlt];simp only [List.flatMap_append,List.flatMap_cons,List.flatMap_nil,List.append_nil]⟩,(XaH.mk' [] _ (Xvv _) (XaB.refl _ _) (by (repeat' (first|exact VwL.nil|(refine VwL.cons ?_ ?_)|exact Vw.refl _|exact Vw.top _|fail))))⟩
 ·have he:=he'.out
  rw [List.take_of_length_le (by omega)] at he
  (repeat' (first|with_reducible (first|refine Xag ?_|refine Xac ?_|refine Xar ?_|refine XaW ?_|refine Xae ?_|refine Xaa ?_|refine XaL ?_|refine XaJ ?_)|(refine Xak _ rfl (fun h=>?_) (fun h=>?_)<;>((try (simp only [whn] at h));first|(exfalso;omega;done)|skip))|((apply Xad rfl);(case h=>(first|(apply Xab 0 rfl;(first|exact Xap _ rfl|exact Xan _ rfl))|(apply Xab 3 rfl;(exact XaX _ _ _ _ _ _ HEl.out rfl rfl))|(apply XaC;(case hs=>(intro _ _ h;cases h));(case hx=>rfl);(case hrun=>(intro w;simp [wtb,AV.val,go_sem];skip;rfl)))));(case hT=>((try simp only [wtn]);rfl)))|fail))
  refine Xaf _ _ (Xbh rfl (RV.tmp _) (XaH.mk' [] [] (Xvv _) (XaB.refl _ _) (by first|exact VwL.refl _ _|fail))) ?_
  exact ⟨by rw [←he];rfl,rfl,by rw [←he];omega⟩
theorem RL.same:∀{l m:List JF},RL l m→((m.zip l).all fun p=>Xez p.1 p.2)=true
 | [],[],_=>rfl
 | a :: l,b :: m,h=>by
   obtain ⟨⟨x,y,rfl⟩,h2⟩:=h
   simp only [List.zip_cons_cons,List.all_cons,RL.same h2,Bool.and_true]
   simp [Xez]
 | [],b :: m,h=>h.elim
 | a :: l,[],h=>h.elim
theorem RL.sameJs {l m:List JF} (h:RL l m):sameJs m l=true:=by unfold Go.Proofs.YtdpobjakdplljaaGreatDoor.sameJs;rw [decide_eq_true h.len,h.same];rfl
theorem XmS (l:List JF) (hl:l.length≤4) (hj:∀j∈l,JM j) (hb:(l.flatMap Xe0).length≤8192):∃l',RL l l'∧Xds (l.flatMap Xe0)=.ok l':=
 Xpm l (fun j h=>(hj j h).good) (by omega) (by have:=XjF l hj;omega) hb
theorem RL.jbs {l m:List JF} (h:RL l m) (hj:∀j∈l,XfA j) (hl:l.length≤4):JBs m:=by
 refine ⟨by rw [h.len];omega,?_⟩
 clear hl
 induction l generalizing m with
 | nil=>cases m with
   | nil=>simp
   | cons b m=>exact h.elim
 | cons a l ih=>cases m with
   | nil=>exact h.elim
   | cons b m=>
     obtain ⟨⟨x,y,rfl⟩,h2⟩:=h
     intro j hm
     rcases List.mem_cons.1 hm with rfl|hm
     ·have:=hj a (by simp)
      have h1:=this.env;have h2:=this.needs;have h3:=this.ladder
      exact ⟨by simp only;omega,by simp only;omega,by simp only;omega⟩
     ·exact ih h2 (fun q hq=>hj q (by simp [hq])) j hm
theorem XsT (l:List JF) (hl:l.length≤4) (hj:∀j∈l,JM j):Xa3 Tryz.prog 134 [] [.sq l.length (jfa l)] (fun r H'=>r=.tup [.x (.string (bs (l.flatMap Xe0))),.x (.int .i64 0)]∧H'=[]∧(l.flatMap Xe0).length≤270*l.length):=by
 have hb4:=Xom hj
 have hS:∀j∈l,XfA j:=fun j h=>by obtain ⟨i,_,h⟩:=hj j h;exact h.small
 have hb:(l.flatMap Xe0).length≤8192:=by have:=Xqi hS;omega
 obtain ⟨m,hm,hg⟩:=XmS l hl hj hb
 have hp:=XsN (l.flatMap Xe0) (by omega)
 rw [hg] at hp
 simp only [XuH] at hp
 have h13:=XmP m l (hm.jbs hS hl)
 rw [hm.sameJs] at h13
 have hT:=Xuw l (by omega) hS
 clear hj hS hm hg
 generalize l.flatMap Xe0=s at *
 refine XaD Tryz.func134 rfl ?_
 simp only [Tryz.ntmps134,Xvy,XvB,XvC,XvD,XvG,XvF,Nat.reduceAdd,Nat.reduceSub]
 (repeat' (first|with_reducible (first|refine Xag ?_|refine Xac ?_|refine Xar ?_|refine Xau ?_|refine Xae ?_|refine Xaa ?_)|(refine Xak _ rfl (fun h=>?_) (fun h=>?_)<;>first|(exact absurd h (by decide))|((try (simp only [whn] at h));first|(exfalso;omega;done)|skip))|((first|apply Xad rfl|apply Xa8 _ _ rfl rfl rfl);(case h=>((try (intro (hp:(_:Bool)=true);((try simp only [Bool.not_eq_true'] at hp);skip;skip)));(first|(apply Xab 0 rfl;(first|exact Xap _ rfl|exact Xan _ rfl))|(apply Xab 1 rfl;(exact Xcs _ _ _ rfl rfl))|(apply Xab 2 rfl;(exact XaM _ _ _ _ rfl rfl rfl))|(apply Xab 5 rfl;(exact Xal _ _ _ _ _ _ rfl rfl Xa5.out))|(apply Xab 6 rfl;(exact Xaz _ _ _ _ _ _ _ _ rfl rfl XaS.out XaN.out (by first|exact Xvu rfl|fail) (by first|exact Xvu rfl|fail)))|(apply Xab 11 rfl;(exact Xay 21 Tryz.f21 _ _ rfl rfl Tryz.func21 (by decide) rfl (VwL.refl _ _) (h13)))|(apply XaC;(case hs=>(intro _ _ h;cases h));(case hx=>rfl);(case hrun=>(intro w;simp [wtb,AV.val,go_sem];skip;rfl))))));(case hT=>((try simp only [wtn]);rfl)))|(refine Xai rfl ?_;((first|(refine Xas 11 rfl ?_;(first|(refine Xam 167 Tryz.f167 ([]) _ _ _ rfl rfl Tryz.func167 (by decide) rfl (Xvv _) (VwL.refl _ _) (hT) ?_;rintro _ _ ⟨rfl,rfl,hs⟩)|(refine Xam 168 Tryz.f168 ([]) _ _ _ rfl rfl Tryz.func168 (by decide) rfl (Xvv _) (VwL.refl _ _) (hp) ?_;rintro _ _ ⟨rfl,rfl,hjk⟩)))|(refine Xas 14 rfl ?_;(refine XaK _ _ rfl Xbk.out rfl (fun b=>?_)))|(refine Xas 16 rfl ?_;(refine Xaw _ _ _ _ _ _ _ rfl rfl XaS.out XaR.out (by first|rfl|fail) (by first|exact Xvu rfl|fail) ?_)));apply Xah;(case hT=>((try simp only [wtn]);rfl));(case hH=>((try simp only [wtn,Nat.reduceAdd]);rfl))))|fail))
 refine Xaf _ _ (XcB rfl (RV.tmp _) (RV.tmp _) (XaH.mk' [_] [] (Xvv _) XaB.nil (VwL.refl _ _))) ?_
 exact ⟨rfl,rfl,hb4⟩
end Go.Proofs.YtdpobjakdplljaaGreatDoor

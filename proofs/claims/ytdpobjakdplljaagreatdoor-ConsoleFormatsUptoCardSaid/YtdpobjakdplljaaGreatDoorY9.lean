import Derived.Test.YtdpobjakdplljaaGreatDoorY8
import Derived.Test.YtdpobjakdplljaaGreatDoorY0
/- The reference's commands: clean, Same, proper: exact. -/
set_option linter.unusedSimpArgs false
set_option linter.unusedVariables false
set_option maxRecDepth 100000
set_option maxHeartbeats 8000000
namespace Go.Proofs.YtdpobjakdplljaaGreatDoor
open Go.RowKit
def XfP (a d:CF):Bool:=a.kind == d.kind && a.rows == d.rows && a.cols == d.cols && a.name == d.name && a.data == d.data
def XcC (c:CF):CF:=if c.kind=1 then ⟨c.kind,c.rows,c.cols,[],[]⟩ else if c.kind=2∨c.kind=4∨c.kind=5∨c.kind=6 then ⟨c.kind,0,0,c.name,[]⟩ else if c.kind=3∨c.kind=7 then ⟨c.kind,0,0,[],c.data⟩ else ⟨c.kind,0,0,[],[]⟩
theorem XqU (a d:CF):Xa3 Tryz.prog 165 [] [.agg a.cells,.agg d.cells] (fun r H'=>r=.x (.bool (XfP a d))∧H'=[]):=by
 unfold CF.cells
 refine XaD Tryz.func165 rfl ?_
 simp only [Tryz.ntmps165,Xvy,XvB,XvC,XvD,XvG,XvF,Nat.reduceAdd,Nat.reduceSub]
 (repeat' (first|with_reducible (first|refine Xag ?_|refine Xac ?_|refine Xar ?_|refine Xae ?_|refine Xaa ?_)|((first|apply Xad rfl|apply Xa8 _ _ rfl rfl rfl);(case h=>((try (intro (hp:(_:Bool)=true);((try simp only [Bool.and_eq_true] at hp);(try simp only [hp,wte]);(try simp only [whn] at hp))));(first|(apply Xab 0 rfl;(first|exact Xap _ rfl|exact Xan _ rfl))|(apply Xab 1 rfl;(exact XbC _ _ _ _ _ rfl rfl rfl rfl))|(apply Xab 5 rfl;(exact Xal _ _ _ _ _ _ rfl rfl Xa5.out))|(apply Xab 6 rfl;(exact Xaz _ _ _ _ _ _ _ _ rfl rfl XaS.out XaN.out (by first|exact Xvu rfl|fail) (by first|exact Xvu rfl|fail)))|(apply Xab 12 rfl;(first|exact Xbz _ _ 5 _ a.data rfl (by kernel_rfl) (by kernel_rfl) (by kernel_rfl) (Src.sq rfl)|exact Xbz _ _ 5 _ d.data rfl (by kernel_rfl) (by kernel_rfl) (by kernel_rfl) (Src.sq rfl)))|(apply XaC;(case hs=>(intro _ _ h;cases h));(case hx=>rfl);(case hrun=>(intro w;simp [wtb,AV.val,go_sem];skip;rfl))))));(case hT=>((try simp only [wtn]);rfl)))|(refine Xai rfl ?_;((refine Xas 15 rfl ?_;(refine Xbo _ _ rfl (by first|rfl|fail) (fun b=>?_)));apply Xah;(case hT=>((try simp only [wtn]);rfl));(case hH=>((try simp only [wtn]);rfl))))|fail))
 refine Xaf _ _ (Xbh rfl (RV.tmp _) (XaH.mk' [_,_] [] (Xvv _) (XaB.refl _ _) (by first|exact VwL.refl _ _|fail))) ?_
 exact ⟨rfl,rfl⟩
theorem XnD (a:CF):Xa3 Tryz.prog 166 [] [.agg a.cells] (fun r H'=>r=.agg (XcC a).cells∧H'=[]):=by
 unfold CF.cells
 refine XaD Tryz.func166 rfl ?_
 simp only [Tryz.ntmps166,Xvy,XvB,XvC,XvD,XvG,XvF,Nat.reduceAdd,Nat.reduceSub]
 (repeat' (first|with_reducible (first|refine Xag ?_|refine Xac ?_|refine Xao ?_|refine Xar ?_|refine Xau ?_|refine Xae ?_|refine Xaa ?_|refine Xaj ?_)|(refine Xak _ rfl (fun h=>?_) (fun h=>?_)<;>((try (simp only [whn] at h));first|(exfalso;omega;done)|skip))|((apply Xad rfl);(case h=>(first|(apply Xab 0 rfl;(exact Xan _ rfl))|(apply Xab 5 rfl;(exact Xal _ _ _ _ _ _ rfl rfl Xa5.out))|(apply Xab 6 rfl;(exact Xaz _ _ _ _ _ _ _ _ rfl rfl XaS.out XaN.out (by first|exact Xvu rfl|fail) (by first|exact Xvu rfl|fail)))|(apply Xab 10 rfl;(exact Xc0 _ _ _ _ rfl HPl.out (by decide) rfl (by simp [wtb,AV.one,Value.oneCell'])))|(apply XaC;(case hs=>(intro _ _ h;cases h));(case hx=>rfl);(case hrun=>(intro w;simp [wtb,AV.val,go_sem];skip;rfl)))));(case hT=>((try simp only [wtn,Xvw,Xvx,↓reduceIte]);rfl)))|(refine Xai rfl ?_;((first|(refine Xas 14 rfl ?_;(refine XaK _ _ rfl Xbk.out rfl (fun b=>?_)))|(refine Xas 15 rfl ?_;(refine Xbo _ _ rfl (by first|rfl|fail) (fun b=>?_)))|(refine Xas 16 rfl ?_;(refine Xaw _ _ _ _ _ _ _ rfl rfl XaS.out XaR.out (by first|rfl|fail) (by first|exact Xvu rfl|fail) ?_)));apply Xah;(case hT=>((try simp only [wtn]);rfl));(case hH=>((try simp only [wtn,Nat.reduceAdd]);rfl))))|fail))
 case' h.h.hK.hK.hK.h.h.hK.hK.hK.hK.refine_1=>
  refine Xb1 mixed [] [_] [_,_] (List.perm_append_comm (l₁:=[_,_]) (l₂:=[_])) ?_
  (first|(apply XaI 0 rfl rfl (by kernel_rfl) (by intro c T H hp;simp [XaO,Xat,XaT,Xbr] at hp);(case h=>(exact XaU _ _ _ _ _ _ rfl rfl Xa5.out)))|fail);(apply Xaq;(case hT=>((try simp only [wtn]);rfl));(case hH=>rfl));(first|refine Xbc 1 rfl rfl (by kernel_rfl) (by intro c T H hp;simp [XaO,Xat,XaT,Xbr] at hp) _ _ _ _ _ _ _ _ rfl rfl XaS.out XaN.out (by first|exact Xvu rfl|fail) (by first|exact Xvu rfl|fail) ?_|fail);(apply Xaq;(case hT=>((try simp only [wtn]);rfl));(case hH=>rfl));(first|(apply XaI 2 rfl rfl (by kernel_rfl) (by intro c T H hp;simp [XaO,Xat,XaT,Xbr] at hp);(case h=>(exact XaU _ _ _ _ _ _ rfl rfl Xa5.out)))|fail);(apply Xaq;(case hT=>((try simp only [wtn]);rfl));(case hH=>rfl));(first|refine Xbc 3 rfl rfl (by kernel_rfl) (by intro c T H hp;simp [XaO,Xat,XaT,Xbr] at hp) _ _ _ _ _ _ _ _ rfl rfl XaS.out XaN.out (by first|exact Xvu rfl|fail) (by first|exact Xvu rfl|fail) ?_|fail);(apply Xaq;(case hT=>((try simp only [wtn]);rfl));(case hH=>rfl));(first|(apply XaI 4 rfl rfl (by kernel_rfl) (by intro c T H hp;simp [XaO,Xat,XaT,Xbr] at hp);(case h=>(exact XaU _ _ _ _ _ _ rfl rfl Xa5.out)))|fail);(apply Xaq;(case hT=>((try simp only [wtn]);rfl));(case hH=>rfl))
  (repeat ((first|refine Xbu 5 (by decide +kernel) rfl rfl ?_|refine Xbu 6 (by decide +kernel) rfl rfl ?_|refine Xbu 7 (by decide +kernel) rfl rfl ?_|fail);(first|(apply Xba;(case h=>(apply Xab 5 rfl;(exact Xal _ _ _ _ _ _ rfl rfl Xa5.out)));(apply Xaq;(case hT=>((try simp only [wtn]);rfl));(case hH=>rfl)))|((refine Xas 16 rfl ?_;(refine Xaw _ _ _ _ _ _ _ rfl rfl XaS.out XaR.out (by first|rfl|fail) (by first|exact Xvu rfl|fail) ?_));apply Xaq;(case hT=>((try simp only [wtn]);rfl));(case hH=>((try simp only [wtn]);rfl)))|fail)))
  refine XbL (by decide +kernel) ?_
  refine XaA rfl (by simp only [XvG,XvF];rfl) ?_
  refine Xa4 (by decide +kernel) ?_
  (repeat' (first|with_reducible (first|refine Xag ?_|refine Xac ?_|refine Xar ?_|refine Xae ?_|refine Xaa ?_|refine Xaj ?_)|((apply Xad rfl);(case h=>(apply Xab 6 rfl;(exact Xaz _ _ _ _ _ _ _ _ rfl rfl XaS.out XaN.out (by first|exact Xvu rfl|fail) (by first|exact Xvu rfl|fail))));(case hT=>((try simp only [wtn,↓reduceIte]);rfl)))|(refine Xai rfl ?_;((refine Xas 16 rfl ?_;(refine Xaw _ _ _ _ _ _ _ rfl rfl XaS.out XaR.out (by first|rfl|fail) (by first|exact Xvu rfl|fail) ?_));apply Xah;(case hT=>((try simp only [wtn]);rfl));(case hH=>((try simp only [wtn,Nat.reduceAdd]);rfl))))|fail))
 all_goals first
  | (have e:XcC a=⟨a.kind,a.rows,a.cols,[],[]⟩:=by unfold XcC;(repeat' split)<;>first|rfl|(exfalso;omega)|fail
     rw [e]
     exact Xaf _ _ (Xbh rfl (RV.cell 2 rfl rfl XaN.out (by simp) (by simp)) (XaH.mk' [_,_,_] [] (Xvv _) XaB.nil (VwL.cons (Vw.aggx (by (repeat' (first|exact VwL.nil|(refine VwL.cons ?_ ?_)|exact Vw.refl _|exact Vw.nil|fail)))) VwL.nil))) ⟨rfl,rfl⟩)
  | (have e:XcC a=⟨a.kind,0,0,a.name,[]⟩:=by unfold XcC;(repeat' split)<;>first|rfl|(exfalso;omega)|fail
     rw [e]
     exact Xaf _ _ (Xbh rfl (RV.cell 1 rfl rfl XaN.out (by simp) (by simp)) (XaH.mk' [_,_,_] [] (Xvv _) XaB.nil (VwL.cons (Vw.aggx (by (repeat' (first|exact VwL.nil|(refine VwL.cons ?_ ?_)|exact Vw.refl _|exact Vw.nil|fail)))) VwL.nil))) ⟨rfl,rfl⟩)
  | (have e:XcC a=⟨a.kind,0,0,[],a.data⟩:=by unfold XcC;(repeat' split)<;>first|rfl|(exfalso;omega)|fail
     rw [e]
     exact Xaf _ _ (Xbh rfl (RV.cell 1 rfl rfl XaN.out (by simp) (by simp)) (XaH.mk' [_,_,_] [] (Xvv _) XaB.nil (VwL.cons (Vw.agg (by (repeat' (first|exact VwL.nil|(refine VwL.cons ?_ ?_)|exact Vw.refl _|fail)))) VwL.nil))) ⟨rfl,rfl⟩)
  | (have e:XcC a=⟨a.kind,0,0,[],[]⟩:=by unfold XcC;(repeat' split)<;>first|rfl|(exfalso;omega)|fail
     rw [e]
     exact Xaf _ _ (Xbh rfl (RV.cell 1 rfl rfl XaN.out (by simp) (by simp)) (XaH.mk' [_,_,_] [] (Xvv _) XaB.nil (VwL.cons (Vw.aggx (by (repeat' (first|exact VwL.nil|(refine VwL.cons ?_ ?_)|exact Vw.refl _|exact Vw.nil|fail)))) VwL.nil))) ⟨rfl,rfl⟩)
  | trace_state
def XdR (k:Int):Prop:=k=2∨k=4∨k=5∨k=6
def Xfb (k:Int):Prop:=k=3∨k=7
instance (k:Int):Decidable (XdR k):=by unfold XdR;infer_instance
instance (k:Int):Decidable (Xfb k):=by unfold Xfb;infer_instance
def XhI (c:CF):Prop:=(c.kind=1∧((1≤c.rows∧c.rows≤30)∧1≤c.cols)∧c.cols≤100∧c.name=[]∧c.data=[])∨(XdR c.kind∧c.rows=0∧c.cols=0∧(1≤c.name.length∧c.name.length≤32)∧c.data=[])∨(Xfb c.kind∧c.rows=0∧c.cols=0∧c.name=[]∧c.data.length≤4095)∨((c.kind=8∨c.kind=9)∧c.rows=0∧c.cols=0∧c.name=[]∧c.data=[])
instance (c:CF):Decidable (XhI c):=by unfold XhI;infer_instance
def Xfr (c:CF):Bool:=decide (XhI c)
theorem Xeh (a:CF):(XfP a (XcC a)=true)↔(if a.kind=1 then a.name=[]∧a.data=[] else if XdR a.kind then (a.rows=0∧a.cols=0)∧a.data=[] else if Xfb a.kind then (a.rows=0∧a.cols=0)∧a.name=[] else (a.rows=0∧a.cols=0)∧a.name=[]∧a.data=[]):=by
 unfold XcC
 by_cases h1:a.kind=1
 ·rw [if_pos h1,if_pos h1];simp [XfP,and_assoc]
 ·rw [if_neg h1,if_neg h1]
  by_cases h2:XdR a.kind
  ·rw [if_pos (c:=a.kind=2∨a.kind=4∨a.kind=5∨a.kind=6) h2,if_pos h2];simp [XfP,and_assoc]
  ·rw [if_neg (c:=a.kind=2∨a.kind=4∨a.kind=5∨a.kind=6) h2,if_neg h2]
   by_cases h3:Xfb a.kind
   ·rw [if_pos (c:=a.kind=3∨a.kind=7) h3,if_pos h3];simp [XfP,and_assoc]
   ·rw [if_neg (c:=a.kind=3∨a.kind=7) h3,if_neg h3];simp [XfP,and_assoc]
theorem XoS {a:CF} (h:XhI a):(1≤a.kind∧a.kind≤9)∧XfP a (XcC a)=true:=by
 rw [Xeh]
 unfold XhI at h
 rcases h with ⟨h1,-,-,h4,h5⟩|⟨h1,h2,h3,-,h5⟩|⟨h1,h2,h3,h4,-⟩|⟨h1,h2,h3,h4,h5⟩
 ·exact ⟨by omega,by rw [if_pos h1];exact ⟨h4,h5⟩⟩
 ·have hk:=h1
  unfold XdR at hk
  exact ⟨by omega,by rw [if_neg (by omega),if_pos h1];exact ⟨⟨h2,h3⟩,h5⟩⟩
 ·have hk:=h1
  unfold Xfb at hk
  exact ⟨by omega,by rw [if_neg (by omega),if_neg (by unfold XdR;omega),if_pos h1];exact ⟨⟨h2,h3⟩,h4⟩⟩
 ·exact ⟨by omega,by rw [if_neg (by omega),if_neg (by unfold XdR;omega),if_neg (by unfold Xfb;omega)];exact ⟨⟨h2,h3⟩,h4,h5⟩⟩
theorem XsU {a:CF} (h:(a.kind < 1∨9 < a.kind)∨XfP a (XcC a)=false):Xfr a=false:=by
 unfold Xfr
 rw [decide_eq_false_iff_not]
 intro hp
 obtain ⟨⟨h1,h2⟩,h3⟩:=XoS hp
 rcases h with h|h
 ·omega
 ·rw [h3] at h;cases h
theorem Xuc {a:CF} (hs:XfP a (XcC a)=true) (h:a.kind=1):Xfr a=decide (((1≤a.rows∧a.rows≤30)∧1≤a.cols)∧a.cols≤100):=by
 rw [Xeh,if_pos h] at hs
 unfold Xfr
 refine decide_eq_decide.2 ?_
 unfold XhI XdR Xfb
 simp [h,hs.1,hs.2,and_assoc]
theorem Xrz {a:CF} (hs:XfP a (XcC a)=true) (h:XdR a.kind):Xfr a=decide (1≤a.name.length∧a.name.length≤32):=by
 have hk:=h
 unfold XdR at hk
 rw [Xeh,if_neg (by omega),if_pos h] at hs
 unfold Xfr
 refine decide_eq_decide.2 ?_
 unfold XhI Xfb
 have h1:a.kind≠1:=by omega
 have h3:a.kind≠3:=by omega
 have h7:a.kind≠7:=by omega
 have h8:a.kind≠8:=by omega
 have h9:a.kind≠9:=by omega
 simp [h,h1,h3,h7,h8,h9,hs.1.1,hs.1.2,hs.2]
theorem Xud {a:CF} (hs:XfP a (XcC a)=true) (hk:1≤a.kind∧a.kind≤9) (h1:a.kind≠1) (hn:¬XdR a.kind):Xfr a=decide (a.data.length≤4095):=by
 have hn':=hn
 unfold XdR at hn'
 rw [Xeh,if_neg h1,if_neg hn] at hs
 unfold Xfr
 refine decide_eq_decide.2 ?_
 unfold XhI
 by_cases h3:Xfb a.kind
 ·rw [if_pos h3] at hs
  have h3':=h3
  unfold Xfb at h3'
  have h8:a.kind≠8:=by omega
  have h9:a.kind≠9:=by omega
  simp [h1,hn,h3,h8,h9,hs.1.1,hs.1.2,hs.2]
 ·rw [if_neg h3] at hs
  have h3':=h3
  unfold Xfb at h3'
  have h8:a.kind=8∨a.kind=9:=by omega
  simp [h1,hn,h3,h8,hs.1.1,hs.1.2,hs.2.1,hs.2.2]
theorem XmI (a:CF):Xa3 Tryz.prog 133 [] [.agg a.cells] (fun r H'=>r=.x (.bool (Xfr a))∧H'=[]):=by
 have hc:=XnD a
 have hs:=XqU a (XcC a)
 unfold CF.cells at hc hs ⊢
 refine XaD Tryz.func133 rfl ?_
 simp only [Tryz.ntmps133,Xvy,XvB,XvC,XvD,XvG,XvF,Nat.reduceAdd,Nat.reduceSub]
 (repeat' (first|with_reducible (first|refine Xag ?_|refine Xac ?_|refine Xao ?_|refine Xar ?_|refine Xau ?_|refine Xae ?_|refine Xch ?_|refine Xaa ?_|refine Xax ?_|refine Xaj ?_|refine Xav ?_)|(with_reducible refine Xbe mixed ?_ ?_;(decide +kernel))|(refine Xak _ rfl (fun h=>?_) (fun h=>?_)<;>((try (simp only [whn] at h));first|(exfalso;omega;done)|skip))|((first|apply Xad rfl|apply XbO rfl|apply Xa8 _ _ rfl rfl rfl|apply XtH _ _ rfl rfl rfl);(case h=>((try (intro (hp:(_:Bool)=true);((try simp only [Bool.and_eq_true,Bool.not_eq_true'] at hp);(try simp only [hp,wte]);(try simp only [whn] at hp))));(first|(apply Xab 0 rfl;(first|exact Xap _ rfl|exact Xan _ rfl))|(apply Xab 1 rfl;(first|exact XbC _ _ _ _ _ rfl rfl rfl rfl|exact XdJ _ _ _ _ _ rfl rfl rfl rfl))|(apply Xab 3 rfl;(exact XaX _ _ _ _ _ _ HEl.out rfl rfl))|(apply Xab 5 rfl;(exact Xal _ _ _ _ _ _ rfl rfl Xa5.out))|(apply Xab 6 rfl;(exact Xaz _ _ _ _ _ _ _ _ rfl rfl XaS.out XaN.out (by first|exact Xvu rfl|fail) (by first|exact Xvu rfl|fail)))|(apply Xab 11 rfl;(first|exact Xay 166 Tryz.f166 _ _ rfl rfl Tryz.func166 (by decide) rfl (VwL.refl _ _) (hc)|exact Xay 165 Tryz.f165 _ _ rfl rfl Tryz.func165 (by decide) rfl (VwL.refl _ _) (hs)))|(apply XaC;(case hs=>(intro _ _ h;cases h));(case hx=>rfl);(case hrun=>(intro w;simp [wtb,AV.val,go_sem];skip;rfl))))));(case hT=>((try simp only [wtn,↓reduceIte]);rfl)))|(refine Xai rfl ?_;((refine Xas 15 rfl ?_;(refine Xbo _ _ rfl (by first|rfl|fail) (fun b=>?_)));apply Xah;(case hT=>((try simp only [wtn]);rfl));(case hH=>((try simp only [wtn]);rfl))))|fail))
 ·refine Xaf _ _ (Xbh rfl (RV.tmp _) (XaH.mk' [_] [] (Xvv _) (XaB.refl _ _) (by first|exact VwL.refl _ _|fail))) ?_
  exact ⟨by rw [XsU h];rfl,rfl⟩
 all_goals
  have hkk:(¬a.kind < 1∧¬9 < a.kind)∧XfP a (XcC a)=true:=by assumption
  refine Xaf _ _ (Xbh rfl (RV.tmp _) (XaH.mk' [_] [] (Xvv _) (XaB.refl _ _) (by first|exact VwL.refl _ _|fail))) ?_
  refine ⟨?_,rfl⟩
  first
   | (rw [Xuc hkk.2 (by assumption)];simp [ev,Bool.decide_and,Nat.lt_iff_add_one_le];done)
   | (rw [Xrz hkk.2 (by unfold XdR;omega)];simp only [ev,List.getD_cons_succ,List.getD_cons_zero];congr 2;rw [Bool.eq_iff_iff];simp only [Bool.and_eq_true,decide_eq_true_eq];omega)
   | (rw [Xrz hkk.2 (by unfold XdR;omega)];simp [ev,Bool.decide_and,Nat.lt_iff_add_one_le];done)
   | (rw [Xud hkk.2 (by omega) (by omega) (by unfold XdR;omega)];simp only [ev,List.getD_cons_succ,List.getD_cons_zero];congr 2;rw [Bool.eq_iff_iff];simp only [decide_eq_true_eq];omega)
   | trace_state
theorem Xjn (c:CF):Xfr c=true↔((c.kind=1∧((1≤c.rows∧c.rows≤30)∧1≤c.cols)∧c.cols≤100∧c.name.length=0∧c.data.length=0)∨((c.kind=2∨c.kind=4∨c.kind=5∨c.kind=6)∧c.rows=0∧c.cols=0∧(1≤c.name.length∧c.name.length≤32)∧c.data.length=0)∨((c.kind=3∨c.kind=7)∧c.rows=0∧c.cols=0∧c.name.length=0∧c.data.length≤4095)∨((c.kind=8∨c.kind=9)∧c.rows=0∧c.cols=0∧c.name.length=0∧c.data.length=0)):=by
 unfold Xfr
 rw [decide_eq_true_eq]
 unfold XhI XdR Xfb
 simp only [List.length_eq_zero_iff]
def Xl5 (n:Int):UInt8:=UInt8.ofNat n.toNat
def XmH (c:CF):List UInt8:=Xl5 c.kind :: ((if c.kind=1 then [0,Xl5 c.rows,0,Xl5 c.cols] else [])++(c.name++c.data))
theorem XkV {n:Int} (h0:0≤n) (h1:n < 256):IntKind.u8.wrap n=n:=by
 simp [IntKind.wrap,IntKind.signed,IntKind.bits];omega
theorem Xed {n:Int} (h0:0≤n) (h1:n < 256):(((Xl5 n).toNat:Nat):Int)=n:=by
 unfold Xl5
 rw [UInt8.toNat_ofNat']
 omega
theorem XiV (a:CF) (h1:Xfr a=true):Xa3 Tryz.prog 97 [] [.agg a.cells] (fun r H'=>r=.tup [.sq (XmH a).length (u8a (XmH a)),.x (.int .i64 0)]∧H'=[]):=by
 have hx:=(Xjn a).1 h1
 have hp:=XmI a
 rw [h1] at hp
 unfold CF.cells at hp ⊢
 refine XaD Tryz.func97 rfl ?_
 simp only [Tryz.ntmps97,Xvy,XvB,XvC,XvD,XvG,XvF,Nat.reduceAdd,Nat.reduceSub]
 (repeat' (first|with_reducible (first|refine Xag ?_|refine Xac ?_|refine Xau ?_|refine Xae ?_|refine Xaa ?_)|(refine Xak _ rfl (fun h=>?_) (fun h=>?_)<;>first|(exact absurd h (by decide))|((try (simp only [whn] at h));skip))|((apply Xad rfl);(case h=>((try (intro (hp:(_:Bool)=true);((try simp only [Bool.and_eq_true,Bool.not_eq_true',Bool.not_eq_true] at hp);(try simp only [hp,wte]);(try simp only [whn] at hp))));(first|(apply Xab 0 rfl;(first|exact Xap _ rfl|exact Xan _ rfl))|(apply Xab 5 rfl;(exact Xal _ _ _ _ _ _ rfl rfl Xa5.out))|(apply Xab 6 rfl;(exact Xaz _ _ _ _ _ _ _ _ rfl rfl XaS.out XaN.out (by first|exact Xvu rfl|fail) (by first|exact Xvu rfl|fail)))|(apply Xab 11 rfl;(exact Xay 133 Tryz.f133 _ _ rfl rfl Tryz.func133 (by decide) rfl (VwL.refl _ _) (hp)))|(apply XaC;(case hs=>(intro _ _ h;cases h));(case hx=>rfl);(case hrun=>(intro w;simp [wtb,AV.val,go_sem];(try go_bits);rfl))))));(case hT=>((try simp (disch:=omega) only [wtn,XkV,Xvz,Xvw,Xvx,XvA,XvE,Nat.reduceAdd,Nat.reduceMul,Nat.reduceSub,↓reduceIte,Nat.reduceEqDiff]);rfl)))|(refine Xai rfl ?_;((first|(refine Xas 13 rfl ?_;(refine XaP _ _ _ _ _ _ _ _ _ _ _ _ _ _ rfl rfl Xb3.out (Src.row _ rfl Xb3.out) XaY.out (by first|rfl|fail) (XdQ _ _ (by omega) (by decide)) (fun ad cap=>?_)))|(refine Xas 15 rfl ?_;(refine Xbo _ _ rfl (by first|rfl|fail) (fun b=>?_)))|(refine Xas 17 rfl ?_;(refine XaE _ _ _ _ _ _ _ _ rfl XaY.out (by first|rfl|fail) rfl (by decide) rfl (fun b=>?_))));apply Xah;(case hT=>((try simp (disch:=omega) only [wtn,XkV,Xvz,Xvw,Xvx,XvA,XvE,Nat.reduceAdd,Nat.reduceMul,Nat.reduceSub,↓reduceIte,Nat.reduceEqDiff]);rfl));(case hH=>((try simp (disch:=omega) only [wtn,XkV,Xvz,Xvw,Xvx,XvA,XvE,Nat.reduceAdd,Nat.reduceMul,Nat.reduceSub,↓reduceIte,Nat.reduceEqDiff]);rfl))))|fail))
 ·refine Xc5 (B:=[_]) (R:=[_,_]) mixed [0,1,2,4,5,3,6] [3,6] [7,8] none [] 2 (List.perm_append_comm (l₁:=[_,_]) (l₂:=[_])) (by decide +kernel) rfl (fun i o h=>by cases h) (by decide) ?_
  (repeat' (first|(apply Xcv rfl rfl;(case h=>(intro H1;(try simp only [XvG,XvF]);(first|(apply Xab 0 rfl;(exact Xap _ rfl))|(apply Xab 5 rfl;(exact Xal _ _ _ _ _ _ rfl rfl Xa5.out))|(apply Xab 6 rfl;(exact Xaz _ _ _ _ _ _ _ _ rfl rfl XaS.out XaN.out (by first|exact Xvu rfl|fail) (by first|exact Xvu rfl|fail))))));(case hT=>((try simp only [wtn,Xvz,Xvw,Xvx,XvA,XvE,Nat.reduceAdd,Nat.reduceMul,Nat.reduceSub,↓reduceIte,Nat.reduceEqDiff]);rfl)))|(apply Xc7 rfl rfl;(refine Xas 13 rfl ?_;(first|(refine XaP _ _ _ _ _ _ _ _ _ _ _ _ _ _ rfl rfl Xb3.out (Src.sq rfl) XaY.out (by rw [XeD];omega) (XdQ _ _ (by omega) (by decide)) (fun ad cap=>?_))|(refine XcK _ _ _ _ _ _ _ _ _ _ a.name rfl rfl Xb3.out rfl XaY.out (by kernel_rfl) (by omega) (fun ad cap=>?_))));refine ⟨_,rfl,?_⟩;apply Xc6;(case hT=>((try simp only [wtn,Xvz,Xvw,Xvx,XvA,XvE,Nat.reduceAdd,Nat.reduceMul,Nat.reduceSub,↓reduceIte,Nat.reduceEqDiff]);rfl));(case hH=>((try simp only [wtn,Xvz,Xvw,Xvx,XvA,XvE,Nat.reduceAdd,Nat.reduceMul,Nat.reduceSub,↓reduceIte,Nat.reduceEqDiff]);rfl)))|fail))
  (first|refine XbY ?_|fail);(apply XaA;(case hT=>((try simp only [wtn,Xvz,Xvw,Xvx,XvA,XvE,Nat.reduceAdd,Nat.reduceMul,Nat.reduceSub,↓reduceIte,Nat.reduceEqDiff]);rfl));(case hH=>(simp only [XvG,XvF];rfl)));(repeat ((first|refine Xbp 7 (by decide +kernel) rfl rfl ?_|refine Xbp 8 (by decide +kernel) rfl rfl ?_|fail);(first|(apply Xba;(case h=>(apply Xab 0 rfl;(exact Xan _ rfl)));(apply XaA;(case hT=>((try simp only [wtn,Xvz,Xvw,Xvx,XvA,XvE,Nat.reduceAdd,Nat.reduceMul,Nat.reduceSub,↓reduceIte,Nat.reduceEqDiff]);rfl));(case hH=>rfl)))|fail)));refine Xa4 (by decide +kernel) ?_
  (repeat' (first|with_reducible (first|refine Xar ?_|refine Xaa ?_)|fail))
  have e:XmH a=Xl5 a.kind :: ([0,Xl5 a.rows,0,Xl5 a.cols]++(a.name++a.data)):=by unfold XmH;rw [if_pos h]
  have q1:a.rows / 256=0:=by omega
  have q2:a.cols / 256=0:=by omega
  refine Xaf _ _ (XcB rfl (RV.tmp _) (RV.tmp _) (XaH.mk' [_,_,_] [] (Xvv _) XaB.nil (VwL.cons (Vw.row (List.Mem.tail _ (List.Mem.tail _ (List.Mem.head _))) (VwL.refl _ _)) (VwL.refl _ _)))) ⟨?_,rfl⟩
  have e2:(XmH a).length=5+a.name.length+a.data.length:=by rw [e];simp only [Xvy,XvH,XvB];omega
  rw [e2,e,q1,q2]
  simp only [Xcl,Xcz,Xdn,Xed (n:=a.kind) (by omega) (by omega),Xed (n:=a.rows) (by omega) (by omega),Xed (n:=a.cols) (by omega) (by omega)]
  rfl
 ·refine Xc5 (B:=[_]) (R:=[_]) mixed [0,1,2,4,5,3,6] [3,6] [7,8] none [] 2 (List.perm_append_comm (l₁:=[_]) (l₂:=[_])) (by decide +kernel) rfl (fun i o h=>by cases h) (by decide) ?_
  (repeat' (first|(apply Xcv rfl rfl;(case h=>(intro H1;(try simp only [XvG,XvF]);(first|(apply Xab 0 rfl;(exact Xap _ rfl))|(apply Xab 5 rfl;(exact Xal _ _ _ _ _ _ rfl rfl Xa5.out))|(apply Xab 6 rfl;(exact Xaz _ _ _ _ _ _ _ _ rfl rfl XaS.out XaN.out (by first|exact Xvu rfl|fail) (by first|exact Xvu rfl|fail))))));(case hT=>((try simp only [wtn,Xvz,Xvw,Xvx,XvA,XvE,Nat.reduceAdd,Nat.reduceMul,Nat.reduceSub,↓reduceIte,Nat.reduceEqDiff]);rfl)))|(apply Xc7 rfl rfl;(refine Xas 13 rfl ?_;(first|(refine XaP _ _ _ _ _ _ _ _ _ _ _ _ _ _ rfl rfl Xb3.out (Src.sq rfl) XaY.out (by rw [XeD];omega) (XdQ _ _ (by omega) (by decide)) (fun ad cap=>?_))|(refine XcK _ _ _ _ _ _ _ _ _ _ a.name rfl rfl Xb3.out rfl XaY.out (by kernel_rfl) (by omega) (fun ad cap=>?_))));refine ⟨_,rfl,?_⟩;apply Xc6;(case hT=>((try simp only [wtn,Xvz,Xvw,Xvx,XvA,XvE,Nat.reduceAdd,Nat.reduceMul,Nat.reduceSub,↓reduceIte,Nat.reduceEqDiff]);rfl));(case hH=>((try simp only [wtn,Xvz,Xvw,Xvx,XvA,XvE,Nat.reduceAdd,Nat.reduceMul,Nat.reduceSub,↓reduceIte,Nat.reduceEqDiff]);rfl)))|fail))
  (first|refine XbY ?_|fail);(apply XaA;(case hT=>((try simp only [wtn,Xvz,Xvw,Xvx,XvA,XvE,Nat.reduceAdd,Nat.reduceMul,Nat.reduceSub,↓reduceIte,Nat.reduceEqDiff]);rfl));(case hH=>(simp only [XvG,XvF];rfl)));(repeat ((first|refine Xbp 7 (by decide +kernel) rfl rfl ?_|refine Xbp 8 (by decide +kernel) rfl rfl ?_|fail);(first|(apply Xba;(case h=>(apply Xab 0 rfl;(exact Xan _ rfl)));(apply XaA;(case hT=>((try simp only [wtn,Xvz,Xvw,Xvx,XvA,XvE,Nat.reduceAdd,Nat.reduceMul,Nat.reduceSub,↓reduceIte,Nat.reduceEqDiff]);rfl));(case hH=>rfl)))|fail)));refine Xa4 (by decide +kernel) ?_
  (repeat' (first|with_reducible (first|refine Xar ?_|refine Xaa ?_)|fail))
  have e:XmH a=Xl5 a.kind :: (a.name++a.data):=by unfold XmH;rw [if_neg h];rfl
  refine Xaf _ _ (XcB rfl (RV.tmp _) (RV.tmp _) (XaH.mk' [_,_] [] (Xvv _) XaB.nil (VwL.cons (Vw.row (List.Mem.tail _ (List.Mem.head _)) (VwL.refl _ _)) (VwL.refl _ _)))) ⟨?_,rfl⟩
  have e2:(XmH a).length=1+a.name.length+a.data.length:=by rw [e];simp only [Xvy,XvH];omega
  rw [e2,e]
  simp only [Xcl,Xcz,Xed (n:=a.kind) (by omega) (by omega)]
  rfl
theorem Xoz {c:CF} (h:Xrc c):Xfr c=true:=by
 rw [Xjn]
 obtain ⟨h1,h2,h3,h4⟩:=h
 by_cases k1:c.kind=1
 ·rw [if_pos k1] at h2
  rw [if_neg (by omega)] at h3
  rw [if_neg (by omega)] at h4
  have n0:c.name.length=0:=by rw [h3];rfl
  have d0:c.data.length=0:=by rw [h4];rfl
  omega
 ·rw [if_neg k1] at h2
  by_cases k2:c.kind=2∨c.kind=4∨c.kind=5∨c.kind=6
  ·rw [if_pos k2] at h3
   rw [if_neg (by omega)] at h4
   have d0:c.data.length=0:=by rw [h4];rfl
   omega
  ·rw [if_neg k2] at h3
   have n0:c.name.length=0:=by rw [h3];rfl
   by_cases k3:c.kind=3∨c.kind=7
   ·rw [if_pos k3] at h4
    omega
   ·rw [if_neg k3] at h4
    have d0:c.data.length=0:=by rw [h4];rfl
    omega
def ra (l:List (Int × Int)):List AV:=l.flatMap fun s=>[.x (.int .i64 s.1),.x (.int .u64 s.2)]
@[simp] theorem Xvl (l:List (Int × Int)):(ra l).length=l.length*2:=by
 induction l with
 | nil=>rfl
 | cons j l ih=>simp only [ra,List.flatMap_cons,XvH,Xvy] at ih ⊢;rw [ih];simp;omega
theorem XoW (l m:List (Int × Int)):ra (l++m)=ra l++ra m:=by simp [ra]
def ea (l:List (List UInt8 × List UInt8)):List AV:=l.flatMap fun s=>[.x (.string (bs s.1)),.x (.string (bs s.2))]
@[simp] theorem Xvj (l:List (List UInt8 × List UInt8)):(ea l).length=l.length*2:=by
 induction l with
 | nil=>rfl
 | cons j l ih=>simp only [ea,List.flatMap_cons,XvH,Xvy] at ih ⊢;rw [ih];simp;omega
theorem XnN (l m:List (List UInt8 × List UInt8)):ea (l++m)=ea l++ea m:=by simp [ea]
structure JF where
 name:List UInt8
 run:List UInt8
 env:List (List UInt8 × List UInt8)
 needs:List (List UInt8)
 hasr:Bool
 ready:List UInt8
 restart:Int
 base:Int
 cap:Int
 stable:Int
 burst:Int
 window:Int
 ladder:List (Int × Int)
 line:Int
 col:Int
def JF.cells (j:JF):List AV:=[.x (.string (bs j.name)),.x (.string (bs j.run)),.sq j.env.length (ea j.env),.sq j.needs.length (sa j.needs),.x (.bool j.hasr),.x (.string (bs j.ready)),.x (.int .i64 j.restart),.x (.int .u64 j.base),.x (.int .u64 j.cap),.x (.int .u64 j.stable),.x (.int .i64 j.burst),.x (.int .u64 j.window),.sq j.ladder.length (ra j.ladder),.x (.int .i64 j.line),.x (.int .i64 j.col)]
def U64 (v:Int):Prop:=0≤v∧v≤18446744073709551615
structure XfA (j:JF):Prop where
 name:j.name.length≤8
 run:j.run.length≤16
 env:j.env.length≤2
 enve:∀p∈j.env,p.1.length≤8∧p.2.length≤8
 needs:j.needs.length≤4
 neede:∀s∈j.needs,s.length≤8
 ready:j.ready.length≤16
 ladder:j.ladder.length≤4
 laddere:∀p∈j.ladder,U64 p.2
 base:U64 j.base
 cap:U64 j.cap
 stable:U64 j.stable
 window:U64 j.window
 burst : -9223372036854775808≤j.burst∧j.burst≤9223372036854775807
theorem Xgn (l:List (List UInt8 × List UInt8)) (k:Nat) (h:k < l.length):(ea l).drop (k*2)=.x (.string (bs l[k].1)) :: .x (.string (bs l[k].2)) :: ea (l.drop (k+1)):=by
 induction l generalizing k with
 | nil=>simp at h
 | cons j l ih=>
   cases k with
   | zero=>simp [ea]
   | succ k=>
     simp only [ea,List.flatMap_cons,List.drop_succ_cons,List.getElem_cons_succ] at ih ⊢
     rw [show (k+1)*2=2+k*2 from by omega,←List.drop_drop]
     exact ih k (by simpa using h)
theorem XoX (l:List (Int × Int)) (k:Nat) (h:k < l.length):(ra l).drop (k*2)=.x (.int .i64 l[k].1) :: .x (.int .u64 l[k].2) :: ra (l.drop (k+1)):=by
 induction l generalizing k with
 | nil=>simp at h
 | cons j l ih=>
   cases k with
   | zero=>simp [ra]
   | succ k=>
     simp only [ra,List.flatMap_cons,List.drop_succ_cons,List.getElem_cons_succ] at ih ⊢
     rw [show (k+1)*2=2+k*2 from by omega,←List.drop_drop]
     exact ih k (by simpa using h)
def jfa (l:List JF):List AV:=l.flatMap JF.cells
@[simp] theorem XuX (l:List JF):(jfa l).length=l.length*15:=by
 induction l with
 | nil=>rfl
 | cons j l ih=>simp only [jfa,List.flatMap_cons,XvH,Xvy] at ih ⊢;rw [ih];simp [JF.cells];omega
theorem Xqf (l:List JF) (k:Nat) (h:k < l.length):(jfa l).drop (k*15)=l[k].cells++jfa (l.drop (k+1)):=by
 induction l generalizing k with
 | nil=>simp at h
 | cons j l ih=>
   cases k with
   | zero=>simp [jfa]
   | succ k=>
     simp only [jfa,List.flatMap_cons,List.drop_succ_cons,List.getElem_cons_succ] at ih ⊢
     rw [show (k+1)*15=j.cells.length+k*15 from by simp [JF.cells];omega,←List.drop_drop,List.drop_append_length]
     exact ih k (by simpa using h)
theorem XeZ (l:List JF) (k:Nat) (h:k < l.length):(jfa l).drop (k*15)=.x (.string (bs l[k].name)) :: .x (.string (bs l[k].run)) :: .sq l[k].env.length (ea l[k].env) :: .sq l[k].needs.length (sa l[k].needs) :: .x (.bool l[k].hasr) :: .x (.string (bs l[k].ready)) :: .x (.int .i64 l[k].restart) :: .x (.int .u64 l[k].base) :: .x (.int .u64 l[k].cap) :: .x (.int .u64 l[k].stable) :: .x (.int .i64 l[k].burst) :: .x (.int .u64 l[k].window) :: .sq l[k].ladder.length (ra l[k].ladder) :: .x (.int .i64 l[k].line) :: .x (.int .i64 l[k].col) :: jfa (l.drop (k+1)):=Xqf l k h
def Xb6 (b:UInt8):Bool:=decide ((65≤b.toNat∧b.toNat≤90)∨(97≤b.toNat∧b.toNat≤122)∨b.toNat=95)
def Xbi (b:UInt8):Bool:=decide (48≤b.toNat∧b.toNat≤57)
def XgV (b:UInt8):Option Nat:=
 if 48≤b.toNat∧b.toNat≤57 then some (b.toNat - 48)
 else if 97≤b.toNat∧b.toNat≤102 then some (b.toNat - 87)
 else if 65≤b.toNat∧b.toNat≤70 then some (b.toNat - 55) else none
theorem Xfl {b:UInt8} {n:Nat} (h:XgV b=some n):n < 16:=by
 unfold XgV at h
 split at h
 ·cases h;omega
 ·split at h
  ·cases h;omega
  ·split at h
   ·cases h;omega
   ·cases h
def Xeo:List UInt8→Option (UInt8 × Nat)
 | []=>none
 | d :: r=>
   if d.toNat=34∨d.toNat=92 then some (d,1) else if d.toNat=110 then some (10,1) else if d.toNat=116 then some (9,1)
   else if d.toNat=120 then match r with
    | h :: l :: _=>match XgV h,XgV l with
      | some a,some b=>some (UInt8.ofNat (16*a+b),3)
      | _,_=>none
    | _=>none
   else none
theorem Xgo (d:UInt8) (r:List UInt8) (h:d.toNat=34∨d.toNat=92):Xeo (d :: r)=some (d,1):=by simp only [Xeo,if_pos h]
theorem XnW (d:UInt8) (r:List UInt8) (h:d.toNat=110):Xeo (d :: r)=some (10,1):=by simp only [Xeo];rw [if_neg (by omega),if_pos h]
theorem XnY (d:UInt8) (r:List UInt8) (h:d.toNat=116):Xeo (d :: r)=some (9,1):=by simp only [Xeo];rw [if_neg (by omega),if_neg (by omega),if_pos h]
theorem Xgp (d a b:UInt8) (r:List UInt8) (h:d.toNat=120):Xeo (d :: a :: b :: r)=(XgV a).bind fun x=>(XgV b).map fun y=>(UInt8.ofNat (16*x+y),3):=by
 simp only [Xeo];rw [if_neg (by omega),if_neg (by omega),if_neg (by omega),if_pos h]
 cases XgV a<;>cases XgV b<;>rfl
theorem Xn0 (d a:UInt8) (h:d.toNat=120):Xeo [d,a]=none:=by
 simp only [Xeo];rw [if_neg (by omega),if_neg (by omega),if_neg (by omega),if_pos h]
theorem XnZ (d:UInt8) (h:d.toNat=120):Xeo [d]=none:=by
 simp only [Xeo];rw [if_neg (by omega),if_neg (by omega),if_neg (by omega),if_pos h]
theorem XnX (d:UInt8) (r:List UInt8) (h:¬(d.toNat=34∨d.toNat=92∨d.toNat=110∨d.toNat=116∨d.toNat=120)):Xeo (d :: r)=none:=by
 simp only [Xeo];rw [if_neg (by omega),if_neg (by omega),if_neg (by omega),if_neg (by omega)]
def part:List UInt8→Option (UInt8 × Nat)
 | []=>none
 | c :: r=>if c.toNat < 32∨c.toNat=34 then none else if c.toNat≠92 then some (c,1) else (Xeo r).map fun x=>(x.1,x.2+1)
theorem Xb0 (c:UInt8) (r:List UInt8):part (c :: r)=if c.toNat < 32∨c.toNat=34 then none else if c.toNat≠92 then some (c,1) else (Xeo r).map fun x=>(x.1,x.2+1):=rfl
theorem XnU {l:List UInt8} {b:UInt8} {n:Nat} (h:Xeo l=some (b,n)):1≤n∧n≤3∧n≤l.length:=by
 unfold Xeo at h
 split at h
 ·cases h
 ·split at h
  ·cases h;simp
  ·split at h
   ·cases h;simp
   ·split at h
    ·cases h;simp
    ·split at h
     ·split at h
      ·split at h
       ·cases h;simp
       ·cases h
      ·cases h
     ·cases h
theorem Xid {l:List UInt8} {b:UInt8} {n:Nat} (h:part l=some (b,n)):1≤n∧n≤4∧n≤l.length:=by
 unfold part at h
 split at h
 ·cases h
 ·split at h
  ·cases h
  ·split at h
   ·cases h;simp
   ·cases he:Xeo _ with
    | none=>rw [he] at h;cases h
    | some x=>rw [he] at h;cases h;have:=XnU he;simp;omega
def quo (l:List UInt8):Option (List UInt8 × Nat):=
 match l with
 | []=>none
 | c :: r=>
   if c.toNat=34 then some ([],1) else
   match part (c :: r) with
   | none=>none
   | some x=>(quo ((c :: r).drop (max x.2 1))).map fun y=>(x.1 :: y.1,x.2+y.2)
termination_by l.length
decreasing_by simp;omega
def sla (l:List UInt8):Option (List UInt8 × Nat):=
 match l with
 | []=>none
 | c :: r=>
   if c.toNat=47 then some ([],1) else if c.toNat < 32 then none
   else if c.toNat=92 then
    match r with
    | []=>none
    | d :: r=>if d.toNat < 32 then none else if d.toNat=47 then (sla r).map fun x=>(d :: x.1,2+x.2) else (sla r).map fun x=>(c :: d :: x.1,2+x.2)
   else (sla r).map fun x=>(c :: x.1,1+x.2)
def spn (p:UInt8→Bool) (l:List UInt8):Nat:=(l.takeWhile p).length
def Xcq (b:UInt8):Bool:=Xbi b || (Xb6 b || decide (b.toNat=45))
def one:List UInt8→Except Int (Int × List UInt8 × Nat)
 | []=>.error 50
 | c :: r=>
   if Xb6 c then .ok (1,(c :: r).take (spn Xcq (c :: r)),spn Xcq (c :: r))
   else if Xbi c then
    if 18 < spn Xbi (c :: r)∨1 < spn Xbi (c :: r)∧c.toNat=48 then .error 53 else .ok (2,(c :: r).take (spn Xbi (c :: r)),spn Xbi (c :: r))
   else if c.toNat=34 then match quo r with
    | none=>.error 51
    | some x=>.ok (3,x.1,x.2+1)
   else if c.toNat=47 then match sla r with
    | none=>.error 52
    | some x=>.ok (4,x.1,x.2+1)
   else if c.toNat=123∨c.toNat=125∨c.toNat=44∨c.toNat=61 then .ok (5,[c],1)
   else .error 50
def cmt:List UInt8→Nat
 | []=>0
 | c :: r=>if c.toNat=10 then 0 else cmt r+1
def skp:List UInt8→Nat
 | []=>0
 | c :: r=>
   if c.toNat=32∨c.toNat=9∨c.toNat=10∨c.toNat=13 then skp r+1
   else if c.toNat=35 then cmt (c :: r)+skp ((c :: r).drop (max (cmt (c :: r)) 1))
   else 0
termination_by l=>l.length
decreasing_by
 ·simp
 ·simp;omega
theorem Xrn (l:List UInt8):cmt l≤l.length:=by
 induction l with
 | nil=>simp [cmt]
 | cons c r ih=>simp only [cmt];split<;>simp;omega
theorem Xfg (c:UInt8) (r:List UInt8) (h:c.toNat≠10):cmt (c :: r)=cmt r+1:=by simp only [cmt,if_neg h]
theorem XnE (c:UInt8) (r:List UInt8) (h:c.toNat=10):cmt (c :: r)=0:=by simp only [cmt,if_pos h]
theorem XgJ:skp []=0:=by rw [skp]
theorem Xe5 (c:UInt8) (r:List UInt8) (h:c.toNat=32∨c.toNat=9∨c.toNat=10∨c.toNat=13):skp (c :: r)=skp r+1:=by rw [skp,if_pos h]
theorem XkQ (c:UInt8) (r:List UInt8) (h:c.toNat=35):skp (c :: r)=cmt (c :: r)+skp ((c :: r).drop (cmt (c :: r))):=by
 rw [skp,if_neg (by omega),if_pos h,show max (cmt (c :: r)) 1=cmt (c :: r) from by rw [Xfg _ _ (by omega)];omega]
theorem XlH (c:UInt8) (r:List UInt8) (h:¬(c.toNat=32∨c.toNat=9∨c.toNat=10∨c.toNat=13)) (h2:c.toNat≠35):skp (c :: r)=0:=by rw [skp,if_neg h,if_neg h2]
def plc (p:Nat × Nat):List UInt8→Nat × Nat
 | []=>p
 | c :: r=>plc (if c.toNat=10 then (p.1+1,1) else (p.1,p.2+1)) r
structure Tok where
 kind:Int
 text:List UInt8
 line:Nat
 col:Nat
structure Flt where
 code:Int
 line:Nat
 col:Nat
def Xci (p:Nat × Nat) (n:Nat) (l:List UInt8):Except Flt (List Tok):=
 match h:l.drop (skp l) with
 | []=>.ok [⟨6,[],(plc p l).1,(plc p l).2⟩]
 | c :: r=>
   match one (c :: r) with
   | .error e=>.error ⟨e,(plc p (l.take (skp l))).1,(plc p (l.take (skp l))).2⟩
   | .ok x=>if 2000≤n then .error ⟨1,(plc p (l.take (skp l))).1,(plc p (l.take (skp l))).2⟩
     else (Xci (plc p (l.take (skp l+x.2.2))) (n+1) ((c :: r).drop (max x.2.2 1))).map (⟨x.1,x.2.1,(plc p (l.take (skp l))).1,(plc p (l.take (skp l))).2⟩ :: ·)
termination_by l.length
decreasing_by
 have:=congrArg List.length h
 simp at *;omega
def lex (l:List UInt8):Except Flt (List Tok):=if 8192 < l.length then .error ⟨1,0,0⟩ else Xci (1,1) 0 l
end Go.Proofs.YtdpobjakdplljaaGreatDoor

import Derived.Test.YtdpobjakdplljaaGreatDoorY15
import Derived.Test.YtdpobjakdplljaaGreatDoorY16
import Derived.Test.YtdpobjakdplljaaGreatDoorY8
import Derived.Shelf.RegionOpenPlain
/- The reference of scripts: lines, forms, numbers, fields. -/
set_option linter.unusedSimpArgs false
set_option linter.unusedVariables false
set_option maxRecDepth 100000
set_option maxHeartbeats 8000000
namespace Go.Proofs.YtdpobjakdplljaaGreatDoor
open Go.RowKit
theorem Xnw (s:List UInt8) (i m:Nat) (h:i < s.length) (hm:m≤i):Xcg ((s.take i).drop m) (s.drop i)=if s[i].toNat=10 then (s.take i).drop m :: Xcg [] (s.drop (i+1)) else Xcg ((s.take (i+1)).drop m) (s.drop (i+1)):=by
 rw [List.drop_eq_getElem_cons h,Xcg]
 split
 ·rfl
 ·rw [List.take_succ_eq_append_getElem h,List.drop_append_of_le_length (by simp;omega)]
theorem Xo6 (l:List (List UInt8)) (x:List UInt8):sa l++[.x (.string (bs x))]=sa (l++[x]):=by simp [sa]
theorem XsB (s:List UInt8) (hs:s.length≤70000):Xa3 Tryz.prog 26 [] [.x (.string (bs s))] (fun r H'=>r=.sq (Xb2 s).length (sa (Xb2 s))∧H'=[]):=by
 refine XaD Tryz.func26 rfl ?_
 simp only [Tryz.ntmps26,Xvy,XvB,XvC,XvD,XvG,XvF,Nat.reduceAdd,Nat.reduceSub]
 refine Xbt 9 1 ?_
 (repeat' (first|with_reducible (first|refine Xag ?_|refine Xac ?_|refine Xao ?_|refine Xae ?_|refine Xaa ?_)|((apply Xad rfl);(case h=>(apply Xab 0 rfl;(exact Xan _ rfl)));(case hT=>((try simp only [wtn]);rfl)))|fail))
 apply XaQ (S:=Nat × Nat × List (List UInt8) × Option Addr × Nat) (fun q=>frm 36 [(0,.x (.string (bs s))),(3,.x (.slice q.2.2.2.1 q.2.2.1.length q.2.2.2.2)),(4,.x (.int .i64 q.2.1)),(5,.x (.int .i64 q.1))]) (fun q=>[.row q.2.2.2.1 q.2.2.1.length q.2.2.2.2 9 1 (sa q.2.2.1)])
  (fun q=>q.1≤s.length∧q.2.1≤q.1∧q.2.2.1.length≤q.1∧Xb2 s=q.2.2.1++Xcg ((s.take q.1).drop q.2.1) (s.drop q.1)) (fun q=>s.length - q.1) (0,0,[],none,0)
 case h0=>exact (XaH.mk' [] _ (Xvv _) (XaB.refl _ _) (by (repeat' (first|exact VwL.nil|(refine VwL.cons ?_ ?_)|exact Vw.refl _|exact Vw.top _|fail))))
 case hi=>exact ⟨Nat.zero_le _,Nat.le_refl _,Nat.zero_le _,by simp [Xb2]⟩
 rintro ⟨i,m,out,ad0,cap0⟩ ⟨h1,h2,h3,h4⟩
 simp only at h1 h2 h3 h4
 have h4':=Lib.hid h4
 clear h4
 simp only [frm,XvC,XvD,Xvw,Xvx,XvJ,XvK]
 by_cases hlt:i < s.length
 ·have hg:=Lib.hid (Xnw s i m hlt h2)
  (repeat' (first|with_reducible (first|refine Xag ?_|refine Xac ?_|refine Xao ?_|refine Xau ?_|refine Xae ?_|refine Xaa ?_|refine Xaj ?_)|(refine Xak _ rfl (fun h=>?_) (fun h=>?_)<;>((try (simp only [whn] at h));first|(exfalso;omega;done)|skip))|((apply Xad rfl);(case h=>(first|(apply Xab 0 rfl;(first|exact Xap _ rfl|exact Xan _ rfl))|(apply Xab 8 rfl;(exact Xbb _ _ _ _ _ _ _ rfl rfl rfl (by kernel_rfl) rfl (by omega)))|(apply Xab 9 rfl;(exact Xbn _ _ _ _ _ _ _ rfl rfl (by kernel_rfl) (by first|exact .inr ⟨_,_,rfl,rfl⟩|fail) (by first|exact .inr ⟨_,_,rfl,rfl⟩|fail) (by omega) (by omega)))|(apply XaC;(case hs=>(intro _ _ h;cases h));(case hx=>rfl);(case hrun=>(intro w;simp [wtb,AV.val,go_sem];(try go_bits);rfl)))));(case hT=>((try simp only [wtn]);rfl)))|(refine Xai rfl ?_;((first|(refine Xas 13 rfl ?_;(refine XaP _ _ _ _ _ _ _ _ _ _ _ _ _ _ rfl rfl Xb3.out (Src.row _ rfl Xb3.out) XaY.out (by first|rfl|fail) (XdQ _ _ (by omega) (by decide)) (fun ad cap=>?_)))|(refine Xas 17 rfl ?_;(refine XaE _ _ _ _ _ _ _ _ rfl XaY.out (by first|rfl|fail) rfl (by decide) rfl (fun b=>?_))));apply Xah;(case hT=>((try simp only [wtn]);rfl));(case hH=>((try simp only [wtn]);rfl))))|fail))
  ·have hb:s[i].toNat=10:=by rw [List.getElem?_eq_getElem hlt] at h;simp only [Option.getD_some] at h;omega
   have hg:=hg.out
   rw [if_pos hb] at hg
   refine ⟨(i+1,i+1,out++[(s.take i).drop m],ad,cap),by simp only;omega,⟨by simp only;omega,by simp only;omega,by simp only [XvH,Xvy,XvB];omega,?_⟩,?_⟩
   ·simp only
    have e0:(s.take (i+1)).drop (i+1)=[]:=List.drop_of_length_le (by simp;omega)
    rw [h4'.out,hg,e0,List.append_assoc];rfl
   ·simp only [XvH,Xvy,XvB,←Xo6]
    exact (XaH.mk' [_] [_] (Xvv _) (XaB.refl _ _) (by (repeat' (first|exact VwL.nil|(refine VwL.cons ?_ ?_)|exact Vw.refl _|exact Vw.top _|fail))))
  ·have hb:¬s[i].toNat=10:=by rw [List.getElem?_eq_getElem hlt] at h;simp only [Option.getD_some] at h;omega
   have hg:=hg.out
   rw [if_neg hb] at hg
   exact ⟨(i+1,m,out,ad0,cap0),by simp only;omega,⟨by simp only;omega,by simp only;omega,by simp only;omega,by simp only;rw [h4'.out,hg]⟩,(XaH.mk' [] _ (Xvv _) (XaB.refl _ _) (by (repeat' (first|exact VwL.nil|(refine VwL.cons ?_ ?_)|exact Vw.refl _|exact Vw.top _|fail))))⟩
 ·obtain rfl:i=s.length:=by omega
  have h4:=h4'.out
  rw [List.drop_length,List.take_length,Xcg] at h4
  (repeat' (first|with_reducible (first|refine Xag ?_|refine Xac ?_|refine Xar ?_|refine Xau ?_|refine XaW ?_|refine Xae ?_|refine Xaa ?_|refine XaL ?_|refine XaJ ?_)|(refine Xak _ rfl (fun h=>?_) (fun h=>?_)<;>first|(exact absurd h (by decide))|((try (simp only [whn] at h));skip))|((apply Xad rfl);(case h=>(first|(apply Xab 0 rfl;(first|exact Xap _ rfl|exact Xan _ rfl))|(apply Xab 9 rfl;(exact Xbn _ _ _ _ _ _ _ rfl rfl (by kernel_rfl) (by first|exact .inr ⟨_,_,rfl,rfl⟩|fail) (by first|exact .inl ⟨rfl,rfl⟩|fail) (by omega) (by omega)))|(apply XaC;(case hs=>(intro _ _ h;cases h));(case hx=>rfl);(case hrun=>(intro w;simp [wtb,AV.val,go_sem];skip;rfl)))));(case hT=>((try simp only [wtn]);rfl)))|(refine Xai rfl ?_;((first|(refine Xas 13 rfl ?_;(refine XaP _ _ _ _ _ _ _ _ _ _ _ _ _ _ rfl rfl Xb3.out (Src.row _ rfl Xb3.out) XaY.out (by first|rfl|fail) (XdQ _ _ (by omega) (by decide)) (fun ad cap=>?_)))|(refine Xas 17 rfl ?_;(refine XaE _ _ _ _ _ _ _ _ rfl XaY.out (by first|rfl|fail) rfl (by decide) rfl (fun b=>?_))));apply Xah;(case hT=>((try simp only [wtn]);rfl));(case hH=>((try simp only [wtn]);rfl))))|fail))
  ·refine Xaf _ _ (Xbh rfl (RV.tmp _) (XaH.mk' [_,_] [] (Xvv _) XaB.nil (VwL.cons (Vw.row (List.Mem.tail _ (List.Mem.head _)) (VwL.refl _ _)) VwL.nil))) ?_
   rw [if_neg (by intro e;have:=congrArg List.length e;simp at this;omega)] at h4
   rw [h4]
   simp only [List.take_length,XvH,Xvy,XvB,←Xo6]
   first|trivial|fail
  ·refine Xaf _ _ (Xbh rfl (RV.tmp _) (XaH.mk' [_] [] (Xvv _) XaB.nil (VwL.cons (Vw.row (List.Mem.head _) (VwL.refl _ _)) VwL.nil))) ?_
   rw [if_pos (List.drop_of_length_le (by omega)),List.append_nil] at h4
   rw [h4]
   exact ⟨rfl,rfl⟩
def Xpr (t:Tok):Prop:=t.kind=2→t.text.length≤18∧Xel t.text
theorem Xlp {t:Tok} (h:Xpr t) (hk:t.kind=2):0≤Xdm t.text∧Xdm t.text < 1000000000000000000:=by
 obtain ⟨h1,h2⟩:=h hk
 have:=Xky t.text h2 t.text.length (Nat.le_refl _)
 rw [List.take_length] at this
 have hpw:=Nat.pow_le_pow_right (n:=10) (by decide) h1
 generalize 10 ^ t.text.length=p at this hpw
 omega
def XuE (t:Tok) (most:Int):AV:=if t.kind=2 then .tup [.x (.int .u64 (Xdm t.text)),.x (.bool (decide (Xdm t.text≤most)))] else .tup [.x (.int .u64 0),.x (.bool false)]
theorem Xf1 (t:Tok) (most:Int) (hN:Xpr t):Xa3 Tryz.prog 96 [] [t.av,.x (.int .u64 most)] (fun r H'=>r=XuE t most∧H'=[]):=by
 unfold Tok.av XuE
 have hN':=Lib.hid hN
 clear hN
 refine XaD Tryz.func96 rfl ?_
 simp only [Tryz.ntmps96,Xvy,XvB,XvC,XvD,XvG,XvF,Nat.reduceAdd,Nat.reduceSub]
 (repeat' (first|with_reducible (first|refine Xag ?_|refine Xac ?_|refine Xao ?_|refine Xar ?_|refine Xau ?_|refine Xae ?_|refine Xaa ?_|refine Xax ?_)|(refine Xak _ rfl (fun h=>?_) (fun h=>?_)<;>((try (simp only [whn] at h));skip))|((apply Xad rfl);(case h=>(first|(apply Xab 0 rfl;(exact Xan _ rfl))|(apply Xab 5 rfl;(exact Xal _ _ _ _ _ _ rfl rfl Xa5.out))|(apply Xab 6 rfl;(exact Xaz _ _ _ _ _ _ _ _ rfl rfl XaS.out XaN.out (by first|exact Xvu rfl|fail) (by first|exact Xvu rfl|fail)))|(apply XaC;(case hs=>(intro _ _ h;cases h));(case hx=>rfl);(case hrun=>(intro w;simp [wtb,AV.val,go_sem];skip;rfl)))));(case hT=>((try simp only [wtn]);rfl)))|(refine Xai rfl ?_;((refine Xas 15 rfl ?_;(refine Xbo _ _ rfl (by first|rfl|fail) (fun b=>?_)));apply Xah;(case hT=>((try simp only [wtn]);rfl));(case hH=>((try simp only [wtn]);rfl))))|fail))
 ·refine Xaf _ _ (XcB rfl (RV.tmp _) (RV.tmp _) (XaH.mk' [_] [] (Xvv _) XaB.nil (VwL.refl _ _))) ?_
  exact ⟨by rw [if_neg h];rfl,rfl⟩
 obtain ⟨hl18,hdig⟩:=hN'.out h
 have hdig':=Lib.hid hdig
 clear hdig hN'
 refine XaQ (S:=Nat) (fun i=>frm 31 [(1,.x (.int .u64 most)),(2,.x (.pointer (some ⟨b,0,none⟩))),(6,.x (.int .u64 (Xdm (t.text.take i)))),(7,.x (.int .i64 i))]) (fun _=>[.box b [.x (.int .i64 t.kind),.x (.string (bs t.text)),.x (.int .i64 (t.line:Nat)),.x (.int .i64 (t.col:Nat))]]) (fun i=>i≤t.text.length) (fun i=>t.text.length - i) 0 (XaH.mk' [] _ (Xvv _) (XaB.refl _ _) (by (repeat' (first|exact VwL.nil|(refine VwL.cons ?_ ?_)|exact Vw.refl _|exact Vw.top _|fail)))) (Nat.zero_le _) fun i hs=>?_
 have hv1:=Xky t.text hdig'.out i hs
 have hpw:=Nat.pow_le_pow_right (n:=10) (by decide) (show i≤18 by omega)
 generalize 10 ^ i=p at hv1 hpw
 have hv2:Xdm (t.text.take i) < 1000000000000000000:=by omega
 have hv3:=hv1.1
 clear hv1 hpw
 generalize hnv:Xdm (t.text.take i)=nv at hv2 hv3 ⊢
 have hnv':=Lib.hid hnv
 clear hnv
 have hk2:=Lib.hid h
 clear h
 simp only [frm,XvC,XvD,Xvw,Xvx,XvJ,XvK]
 (repeat' (first|with_reducible (first|refine Xag ?_|refine Xac ?_|refine Xao ?_|refine Xar ?_|refine Xau ?_|refine XaW ?_|refine Xae ?_|refine Xaa ?_|refine XaL ?_|refine XaJ ?_|refine Xaj ?_)|(refine Xak _ rfl (fun h=>?_) (fun h=>?_)<;>((try (simp only [whn] at h));skip))|((apply Xad rfl);(case h=>(first|(apply Xab 0 rfl;(first|exact Xap _ rfl|exact Xan _ rfl))|(apply Xab 5 rfl;(exact Xal _ _ _ _ _ _ rfl rfl Xa5.out))|(apply Xab 6 rfl;(exact Xaz _ _ _ _ _ _ _ _ rfl rfl XaS.out XaN.out (by first|exact Xvu rfl|fail) (by first|exact Xvu rfl|fail)))|(apply Xab 8 rfl;(exact Xbb _ _ _ _ _ _ _ rfl rfl rfl (by kernel_rfl) rfl (by omega)))|(apply XaC;(case hs=>(intro _ _ h;cases h));(case hx=>rfl);(case hrun=>(intro w;simp [wtb,AV.val,go_sem];(try go_bits);rfl)))));(case hT=>((try simp only [wtn]);rfl)))|fail))
 ·have hd:=hdig'.out t.text[i] (List.getElem_mem h)
  have e:Xdm (t.text.take (i+1))=10*nv+(((t.text[i]?.getD 0).toNat:Int) - 48) % 256:=by
   rw [Xa0 _ _ h,Xgz,hnv'.out,List.getElem?_eq_getElem h]
   simp only [Option.getD_some]
   omega
  refine ⟨i+1,by omega,by omega,?_⟩
  rw [e]
  exact (XaH.mk' [] _ (Xvv _) (XaB.refl _ _) (by (repeat' (first|exact VwL.nil|(refine VwL.cons ?_ ?_)|exact Vw.refl _|exact Vw.top _|fail))))
 ·refine Xaf _ _ (XcB rfl (RV.tmp _) (RV.tmp _) (XaH.mk' [_] [] (Xvv _) XaB.nil (VwL.refl _ _))) ?_
  have e:=hnv'.out
  rw [List.take_of_length_le (by omega)] at e
  exact ⟨by rw [if_pos hk2.out,e];rfl,rfl⟩
def XgU (e:EF) (f:UInt8) (t:Tok):EF:=
 if f.toNat=78 then { e with job:=t.text } else if f.toNat=75 then { e with ok:=decide (t.text=wOk) } else if f.toNat=68 then { e with data:=t.text }
 else if f.toNat=84 then { e with time:=if t.kind=2 then Xdm t.text else 0 }
 else if f.toNat=67 then { e with code:=if t.kind=2 then Xdm t.text else 0 } else if f.toNat=76 then { e with client:=if t.kind=2 then Xdm t.text else 0 } else { e with num:=if t.kind=2 then Xdm t.text else 0 }
def XbH (f:UInt8) (t:Tok):Bool:=
 if f.toNat=78 then decide (t.kind=1) else if f.toNat=75 then decide (t.kind=1∧(t.text=wOk∨t.text=Xdb)) else if f.toNat=68 then decide (t.kind=3)
 else if f.toNat=84 then decide (t.kind=2) else decide (t.kind=2∧Xdm t.text≤999999999)
theorem XiQ (e:EF) (f:UInt8) (t:Tok):XeS e f t=if XbH f t then some (XgU e f t) else none:=by
 unfold XeS XbH XgU
 by_cases h1:f.toNat=78
 ·simp [h1]
 by_cases h2:f.toNat=75
 ·simp [h2]
 by_cases h3:f.toNat=68
 ·simp [h3]
 simp only [h1,h2,h3,if_false]
 by_cases hk:t.kind=2
 ·by_cases h4:f.toNat=84
  ·simp [h4,hk]
  ·by_cases hn:Xdm t.text≤999999999
   ·by_cases h5:f.toNat=67
    ·simp [h5,hk,hn]<;>skip
    ·by_cases h6:f.toNat=76
     ·simp [h6,hk,hn]<;>skip
     ·simp [h4,h5,h6,hk,hn]<;>skip
   ·simp [h4,hk,hn]<;>skip
 ·by_cases h4:f.toNat=84
  ·simp [h4,hk]
  ·simp [h4,hk]
theorem XpY (be:Nat) (e:EF) (f:UInt8) (t:Tok) (hN:Xpr t) (hlen:t.text.length≤70000) (hk:t.kind=2):Xa3 Tryz.prog 58 [.box be e.cells] [.x (.pointer (some ⟨be,0,none⟩)),.x (.int .u8 (f.toNat:Nat)),t.av] (fun r H'=>r=.x (.bool (XbH f t))∧H'=[.box be (XgU e f t).cells]):=by
 have q1:=Xf1 t 999999999 hN
 have q2:=Xf1 t 18446744073709551615 hN
 obtain ⟨b1,b2⟩:=Xlp hN hk
 clear hN
 unfold Tok.av at q1 q2 ⊢
 unfold XuE at q1 q2
 have he:e.cells=[.x (.int .i64 e.kind),.x (.string (bs e.job)),.x (.bool e.ok),.x (.int .i64 e.code),.sq e.data.length (u8a e.data),.x (.int .u64 e.time),.x (.int .i64 e.client),.x (.int .i64 e.num)]:=rfl
 rw [he]
 rw [if_pos hk] at q1 q2
 rw [show decide (Xdm t.text≤18446744073709551615)=true from decide_eq_true (by omega)] at q2
 generalize hnv:Xdm t.text=nv at *
 have hnv':=Lib.hid hnv
 clear hnv
 have hlen':=hlen
 refine XaD Tryz.func58 rfl ?_
 simp only [Tryz.ntmps58,Xvy,XvB,XvC,XvD,XvG,XvF,Nat.reduceAdd,Nat.reduceSub]
 (repeat' (first|with_reducible (first|refine Xag ?_|refine Xac ?_|refine Xao ?_|refine Xar ?_|refine Xae ?_|refine Xaa ?_|refine Xax ?_|refine Xaj ?_|refine Xav ?_)|(refine Xak _ rfl (fun h=>?_) (fun h=>?_)<;>((try (simp only [whn] at h));skip))|((first|apply Xad rfl|apply Xa8 _ _ rfl rfl rfl);(case h=>((try (intro (hp:(_:Bool)=true);((try simp only [Bool.and_eq_true,Bool.not_eq_true'] at hp);(try simp only [hp,wte]);(try simp only [whn] at hp))));(first|(apply Xab 0 rfl;(first|exact Xap _ rfl|exact Xan _ rfl))|(apply Xab 1 rfl;(first|exact XbC _ _ _ _ _ rfl rfl rfl rfl|exact Xf7 _ _ _ _ _ rfl rfl rfl rfl))|(apply Xab 2 rfl;(exact XaM _ _ _ _ rfl rfl rfl))|(apply Xab 4 rfl;(exact Xbl _ rfl (by first|exact .inl ⟨_,rfl⟩|fail)))|(apply Xab 5 rfl;(exact Xal _ _ _ _ _ _ rfl rfl Xa5.out))|(apply Xab 6 rfl;(exact Xaz _ _ _ _ _ _ _ _ rfl rfl XaS.out XaN.out (by first|exact Xvu rfl|fail) (by first|exact Xvu rfl|fail)))|(apply Xab 11 rfl;(first|exact Xay 96 Tryz.f96 _ _ rfl rfl Tryz.func96 (by decide) rfl (VwL.refl _ _) (q1)|exact Xay 96 Tryz.f96 _ _ rfl rfl Tryz.func96 (by decide) rfl (VwL.refl _ _) (q2)))|(apply Xab 12 rfl;(exact XcP _ _ 5 _ _ rfl (by kernel_rfl) (by kernel_rfl) (by kernel_rfl) (by kernel_rfl) rfl (by omega)))|(apply XaC;(case hs=>(intro _ _ h;cases h));(case hx=>rfl);(case hrun=>(intro w;simp [wtb,AV.val,go_sem];(try go_bits);rfl))))));(case hT=>((try simp only [wtn,↓reduceIte]);rfl)))|(refine Xai rfl ?_;((first|(refine Xas 15 rfl ?_;(refine Xbo _ _ rfl (by first|rfl|fail) (fun b=>?_)))|(refine Xas 16 rfl ?_;(refine Xaw _ _ _ _ _ _ _ rfl rfl XaS.out XaR.out (by first|rfl|fail) (by first|exact Xvu rfl|fail) ?_)));apply Xah;(case hT=>((try simp only [wtn]);rfl));(case hH=>((try simp only [wtn]);rfl))))|fail))
 all_goals
  refine Xaf _ _ (Xbh rfl (RV.tmp _) (XaH.mk' [_] [_] (Xvv _) (XaB.refl _ _) (VwL.refl _ _))) ?_
  have hnv:=hnv'.out
  refine ⟨?_,?_⟩
  ·unfold XbH
   (try rw [if_pos (show f.toNat=78 by omega)]);(try rw [if_neg (show ¬f.toNat=78 by omega)]);(try rw [if_pos (show f.toNat=75 by omega)]);(try rw [if_neg (show ¬f.toNat=75 by omega)]);(try rw [if_pos (show f.toNat=68 by omega)]);(try rw [if_neg (show ¬f.toNat=68 by omega)]);(try rw [if_pos (show f.toNat=84 by omega)]);(try rw [if_neg (show ¬f.toNat=84 by omega)]);skip;skip;skip;skip
   simp [ev,hk,hnv,wOk,Xdb]
   try (first|done|fail)
  ·unfold XgU
   (try rw [if_pos (show f.toNat=78 by omega)]);(try rw [if_neg (show ¬f.toNat=78 by omega)]);(try rw [if_pos (show f.toNat=75 by omega)]);(try rw [if_neg (show ¬f.toNat=75 by omega)]);(try rw [if_pos (show f.toNat=68 by omega)]);(try rw [if_neg (show ¬f.toNat=68 by omega)]);(try rw [if_pos (show f.toNat=84 by omega)]);(try rw [if_neg (show ¬f.toNat=84 by omega)]);(try rw [if_pos (show f.toNat=67 by omega)]);(try rw [if_neg (show ¬f.toNat=67 by omega)]);(try rw [if_pos (show f.toNat=76 by omega)]);(try rw [if_neg (show ¬f.toNat=76 by omega)])
   simp [EF.cells,hk,hnv,wOk]
   try (first|done|(by_cases hq:t.text=[111,107]<;>simp [hq];done)|fail)
theorem XpX (be:Nat) (e:EF) (f:UInt8) (t:Tok) (hN:Xpr t) (hlen:t.text.length≤70000) (hk:¬t.kind=2):Xa3 Tryz.prog 58 [.box be e.cells] [.x (.pointer (some ⟨be,0,none⟩)),.x (.int .u8 (f.toNat:Nat)),t.av] (fun r H'=>r=.x (.bool (XbH f t))∧H'=[.box be (XgU e f t).cells]):=by
 have q1:=Xf1 t 999999999 hN
 have q2:=Xf1 t 18446744073709551615 hN
 clear hN
 unfold Tok.av at q1 q2 ⊢
 unfold XuE at q1 q2
 have he:e.cells=[.x (.int .i64 e.kind),.x (.string (bs e.job)),.x (.bool e.ok),.x (.int .i64 e.code),.sq e.data.length (u8a e.data),.x (.int .u64 e.time),.x (.int .i64 e.client),.x (.int .i64 e.num)]:=rfl
 rw [he]
 rw [if_neg hk] at q1 q2
 have hlen':=hlen
 refine XaD Tryz.func58 rfl ?_
 simp only [Tryz.ntmps58,Xvy,XvB,XvC,XvD,XvG,XvF,Nat.reduceAdd,Nat.reduceSub]
 (repeat' (first|with_reducible (first|refine Xag ?_|refine Xac ?_|refine Xao ?_|refine Xar ?_|refine Xae ?_|refine Xaa ?_|refine Xax ?_|refine Xaj ?_|refine Xav ?_)|(refine Xak _ rfl (fun h=>?_) (fun h=>?_)<;>((try (simp only [whn] at h));skip))|((first|apply Xad rfl|apply Xa8 _ _ rfl rfl rfl);(case h=>((try (intro (hp:(_:Bool)=true);((try simp only [Bool.and_eq_true,Bool.not_eq_true'] at hp);(try simp only [hp,wte]);(try simp only [whn] at hp))));(first|(apply Xab 0 rfl;(first|exact Xap _ rfl|exact Xan _ rfl))|(apply Xab 1 rfl;(first|exact XbC _ _ _ _ _ rfl rfl rfl rfl|exact Xf7 _ _ _ _ _ rfl rfl rfl rfl))|(apply Xab 2 rfl;(exact XaM _ _ _ _ rfl rfl rfl))|(apply Xab 4 rfl;(exact Xbl _ rfl (by first|exact .inl ⟨_,rfl⟩|fail)))|(apply Xab 5 rfl;(exact Xal _ _ _ _ _ _ rfl rfl Xa5.out))|(apply Xab 6 rfl;(exact Xaz _ _ _ _ _ _ _ _ rfl rfl XaS.out XaN.out (by first|exact Xvu rfl|fail) (by first|exact Xvu rfl|fail)))|(apply Xab 11 rfl;(first|exact Xay 96 Tryz.f96 _ _ rfl rfl Tryz.func96 (by decide) rfl (VwL.refl _ _) (q1)|exact Xay 96 Tryz.f96 _ _ rfl rfl Tryz.func96 (by decide) rfl (VwL.refl _ _) (q2)))|(apply Xab 12 rfl;(exact XcP _ _ 5 _ _ rfl (by kernel_rfl) (by kernel_rfl) (by kernel_rfl) (by kernel_rfl) rfl (by omega)))|(apply XaC;(case hs=>(intro _ _ h;cases h));(case hx=>rfl);(case hrun=>(intro w;simp [wtb,AV.val,go_sem];(try go_bits);rfl))))));(case hT=>((try simp only [wtn,↓reduceIte]);rfl)))|(refine Xai rfl ?_;((first|(refine Xas 15 rfl ?_;(refine Xbo _ _ rfl (by first|rfl|fail) (fun b=>?_)))|(refine Xas 16 rfl ?_;(refine Xaw _ _ _ _ _ _ _ rfl rfl XaS.out XaR.out (by first|rfl|fail) (by first|exact Xvu rfl|fail) ?_)));apply Xah;(case hT=>((try simp only [wtn]);rfl));(case hH=>((try simp only [wtn]);rfl))))|fail))
 all_goals
  refine Xaf _ _ (Xbh rfl (RV.tmp _) (XaH.mk' [_] [_] (Xvv _) (XaB.refl _ _) (VwL.refl _ _))) ?_
  refine ⟨?_,?_⟩
  ·unfold XbH
   (try rw [if_pos (show f.toNat=78 by omega)]);(try rw [if_neg (show ¬f.toNat=78 by omega)]);(try rw [if_pos (show f.toNat=75 by omega)]);(try rw [if_neg (show ¬f.toNat=75 by omega)]);(try rw [if_pos (show f.toNat=68 by omega)]);(try rw [if_neg (show ¬f.toNat=68 by omega)]);(try rw [if_pos (show f.toNat=84 by omega)]);(try rw [if_neg (show ¬f.toNat=84 by omega)]);skip;skip;skip;skip
   simp [ev,hk,wOk,Xdb]
   try (first|done|rfl|(by_cases p1:t.kind=1<;>by_cases p2:t.text=[111,107]<;>by_cases p3:t.text=[102,97,105,108,101,100]<;>simp [p1,p2,p3];done)|fail)
  ·unfold XgU
   (try rw [if_pos (show f.toNat=78 by omega)]);(try rw [if_neg (show ¬f.toNat=78 by omega)]);(try rw [if_pos (show f.toNat=75 by omega)]);(try rw [if_neg (show ¬f.toNat=75 by omega)]);(try rw [if_pos (show f.toNat=68 by omega)]);(try rw [if_neg (show ¬f.toNat=68 by omega)]);(try rw [if_pos (show f.toNat=84 by omega)]);(try rw [if_neg (show ¬f.toNat=84 by omega)]);(try rw [if_pos (show f.toNat=67 by omega)]);(try rw [if_neg (show ¬f.toNat=67 by omega)]);(try rw [if_pos (show f.toNat=76 by omega)]);(try rw [if_neg (show ¬f.toNat=76 by omega)])
   simp [EF.cells,hk,wOk]
   try (first|done|(by_cases hq:t.text=[111,107]<;>simp [hq];done)|fail)
theorem Xr9 (be:Nat) (e:EF) (f:UInt8) (t:Tok) (hN:Xpr t) (hlen:t.text.length≤70000):Xa3 Tryz.prog 58 [.box be e.cells] [.x (.pointer (some ⟨be,0,none⟩)),.x (.int .u8 (f.toNat:Nat)),t.av] (fun r H'=>r=.x (.bool (XbH f t))∧H'=[.box be (XgU e f t).cells]):=by
 by_cases hk:t.kind=2
 ·exact XpY be e f t hN hlen hk
 ·exact XpX be e f t hN hlen hk
open Go.RowKit Go.Shelf
theorem Xsb (w:World):Calls Tryz.prog 57 #[.int .i64 1] w fun e w'=>e=.returned (.tuple #[.string (bs (XbA.getD 0 [])),.string (bs (Xa2.getD 0 []))])∧Ext w w':=by
 have hmx:=mixed
 go_enter Tryz.func57,Tryz.ntmps57
 go_wp2
 go_region_o
 all_goals (go_wp2;go_ret2;exact ⟨rfl,(by repeat (first|(with_reducible exact Below.refl _ _)|(with_reducible refine Below.alloc ?_ (by first|omega|(simp;done)|fail) _)|(with_reducible refine Below.drew ?_)|fail))⟩)
theorem Xsc (w:World):Calls Tryz.prog 57 #[.int .i64 2] w fun e w'=>e=.returned (.tuple #[.string (bs (XbA.getD 1 [])),.string (bs (Xa2.getD 1 []))])∧Ext w w':=by
 have hmx:=mixed
 go_enter Tryz.func57,Tryz.ntmps57
 go_wp2
 go_region_o
 all_goals (go_wp2;go_ret2;exact ⟨rfl,(by repeat (first|(with_reducible exact Below.refl _ _)|(with_reducible refine Below.alloc ?_ (by first|omega|(simp;done)|fail) _)|(with_reducible refine Below.drew ?_)|fail))⟩)
theorem Xsd (w:World):Calls Tryz.prog 57 #[.int .i64 3] w fun e w'=>e=.returned (.tuple #[.string (bs (XbA.getD 2 [])),.string (bs (Xa2.getD 2 []))])∧Ext w w':=by
 have hmx:=mixed
 go_enter Tryz.func57,Tryz.ntmps57
 go_wp2
 go_region_o
 all_goals (go_wp2;go_ret2;exact ⟨rfl,(by repeat (first|(with_reducible exact Below.refl _ _)|(with_reducible refine Below.alloc ?_ (by first|omega|(simp;done)|fail) _)|(with_reducible refine Below.drew ?_)|fail))⟩)
theorem Xse (w:World):Calls Tryz.prog 57 #[.int .i64 4] w fun e w'=>e=.returned (.tuple #[.string (bs (XbA.getD 3 [])),.string (bs (Xa2.getD 3 []))])∧Ext w w':=by
 have hmx:=mixed
 go_enter Tryz.func57,Tryz.ntmps57
 go_wp2
 go_region_o
 all_goals (go_wp2;go_ret2;exact ⟨rfl,(by repeat (first|(with_reducible exact Below.refl _ _)|(with_reducible refine Below.alloc ?_ (by first|omega|(simp;done)|fail) _)|(with_reducible refine Below.drew ?_)|fail))⟩)
theorem Xsf (w:World):Calls Tryz.prog 57 #[.int .i64 5] w fun e w'=>e=.returned (.tuple #[.string (bs (XbA.getD 4 [])),.string (bs (Xa2.getD 4 []))])∧Ext w w':=by
 have hmx:=mixed
 go_enter Tryz.func57,Tryz.ntmps57
 go_wp2
 go_region_o
 all_goals (go_wp2;go_ret2;exact ⟨rfl,(by repeat (first|(with_reducible exact Below.refl _ _)|(with_reducible refine Below.alloc ?_ (by first|omega|(simp;done)|fail) _)|(with_reducible refine Below.drew ?_)|fail))⟩)
theorem Xsg (w:World):Calls Tryz.prog 57 #[.int .i64 6] w fun e w'=>e=.returned (.tuple #[.string (bs (XbA.getD 5 [])),.string (bs (Xa2.getD 5 []))])∧Ext w w':=by
 have hmx:=mixed
 go_enter Tryz.func57,Tryz.ntmps57
 go_wp2
 go_region_o
 all_goals (go_wp2;go_ret2;exact ⟨rfl,(by repeat (first|(with_reducible exact Below.refl _ _)|(with_reducible refine Below.alloc ?_ (by first|omega|(simp;done)|fail) _)|(with_reducible refine Below.drew ?_)|fail))⟩)
theorem Xsh (w:World):Calls Tryz.prog 57 #[.int .i64 7] w fun e w'=>e=.returned (.tuple #[.string (bs (XbA.getD 6 [])),.string (bs (Xa2.getD 6 []))])∧Ext w w':=by
 have hmx:=mixed
 go_enter Tryz.func57,Tryz.ntmps57
 go_wp2
 go_region_o
 all_goals (go_wp2;go_ret2;exact ⟨rfl,(by repeat (first|(with_reducible exact Below.refl _ _)|(with_reducible refine Below.alloc ?_ (by first|omega|(simp;done)|fail) _)|(with_reducible refine Below.drew ?_)|fail))⟩)
theorem Xsi (w:World):Calls Tryz.prog 57 #[.int .i64 8] w fun e w'=>e=.returned (.tuple #[.string (bs (XbA.getD 7 [])),.string (bs (Xa2.getD 7 []))])∧Ext w w':=by
 have hmx:=mixed
 go_enter Tryz.func57,Tryz.ntmps57
 go_wp2
 go_region_o
 all_goals (go_wp2;go_ret2;exact ⟨rfl,(by repeat (first|(with_reducible exact Below.refl _ _)|(with_reducible refine Below.alloc ?_ (by first|omega|(simp;done)|fail) _)|(with_reducible refine Below.drew ?_)|fail))⟩)
theorem Xsj (w:World):Calls Tryz.prog 57 #[.int .i64 9] w fun e w'=>e=.returned (.tuple #[.string (bs (XbA.getD 8 [])),.string (bs (Xa2.getD 8 []))])∧Ext w w':=by
 have hmx:=mixed
 go_enter Tryz.func57,Tryz.ntmps57
 go_wp2
 go_region_o
 all_goals (go_wp2;go_ret2;exact ⟨rfl,(by repeat (first|(with_reducible exact Below.refl _ _)|(with_reducible refine Below.alloc ?_ (by first|omega|(simp;done)|fail) _)|(with_reducible refine Below.drew ?_)|fail))⟩)
theorem Xp2 (w:World):Calls Tryz.prog 57 #[.int .i64 10] w fun e w'=>e=.returned (.tuple #[.string (bs (XbA.getD 9 [])),.string (bs (Xa2.getD 9 []))])∧Ext w w':=by
 have hmx:=mixed
 go_enter Tryz.func57,Tryz.ntmps57
 go_wp2
 go_region_o
 all_goals (go_wp2;go_ret2;exact ⟨rfl,(by repeat (first|(with_reducible exact Below.refl _ _)|(with_reducible refine Below.alloc ?_ (by first|omega|(simp;done)|fail) _)|(with_reducible refine Below.drew ?_)|fail))⟩)
theorem Xp3 (w:World):Calls Tryz.prog 57 #[.int .i64 11] w fun e w'=>e=.returned (.tuple #[.string (bs (XbA.getD 10 [])),.string (bs (Xa2.getD 10 []))])∧Ext w w':=by
 have hmx:=mixed
 go_enter Tryz.func57,Tryz.ntmps57
 go_wp2
 go_region_o
 all_goals (go_wp2;go_ret2;exact ⟨rfl,(by repeat (first|(with_reducible exact Below.refl _ _)|(with_reducible refine Below.alloc ?_ (by first|omega|(simp;done)|fail) _)|(with_reducible refine Below.drew ?_)|fail))⟩)
theorem Xp4 (w:World):Calls Tryz.prog 57 #[.int .i64 12] w fun e w'=>e=.returned (.tuple #[.string (bs (XbA.getD 11 [])),.string (bs (Xa2.getD 11 []))])∧Ext w w':=by
 have hmx:=mixed
 go_enter Tryz.func57,Tryz.ntmps57
 go_wp2
 go_region_o
 all_goals (go_wp2;go_ret2;exact ⟨rfl,(by repeat (first|(with_reducible exact Below.refl _ _)|(with_reducible refine Below.alloc ?_ (by first|omega|(simp;done)|fail) _)|(with_reducible refine Below.drew ?_)|fail))⟩)
theorem Xp5 (w:World):Calls Tryz.prog 57 #[.int .i64 13] w fun e w'=>e=.returned (.tuple #[.string (bs (XbA.getD 12 [])),.string (bs (Xa2.getD 12 []))])∧Ext w w':=by
 have hmx:=mixed
 go_enter Tryz.func57,Tryz.ntmps57
 go_wp2
 go_region_o
 all_goals (go_wp2;go_ret2;exact ⟨rfl,(by repeat (first|(with_reducible exact Below.refl _ _)|(with_reducible refine Below.alloc ?_ (by first|omega|(simp;done)|fail) _)|(with_reducible refine Below.drew ?_)|fail))⟩)
theorem Xp6 (w:World):Calls Tryz.prog 57 #[.int .i64 14] w fun e w'=>e=.returned (.tuple #[.string (bs (XbA.getD 13 [])),.string (bs (Xa2.getD 13 []))])∧Ext w w':=by
 have hmx:=mixed
 go_enter Tryz.func57,Tryz.ntmps57
 go_wp2
 go_region_o
 all_goals (go_wp2;go_ret2;exact ⟨rfl,(by repeat (first|(with_reducible exact Below.refl _ _)|(with_reducible refine Below.alloc ?_ (by first|omega|(simp;done)|fail) _)|(with_reducible refine Below.drew ?_)|fail))⟩)
theorem Xrt (k:Nat) (h1:1≤k) (h2:k≤14):Xa3 Tryz.prog 57 [] [.x (.int .i64 k)] (fun r H'=>r=.tup [.x (.string (bs (XbA.getD (k - 1) []))),.x (.string (bs (Xa2.getD (k - 1) [])))]∧H'=[]):=by
 have h:∀w,Calls Tryz.prog 57 #[.int .i64 k] w fun e w'=>e=.returned (.tuple #[.string (bs (XbA.getD (k - 1) [])),.string (bs (Xa2.getD (k - 1) []))])∧Ext w w':=by
  intro w
  match k,h1,h2 with
  | 1,_,_=>exact Xsb w
  | 2,_,_=>exact Xsc w
  | 3,_,_=>exact Xsd w
  | 4,_,_=>exact Xse w
  | 5,_,_=>exact Xsf w
  | 6,_,_=>exact Xsg w
  | 7,_,_=>exact Xsh w
  | 8,_,_=>exact Xsi w
  | 9,_,_=>exact Xsj w
  | 10,_,_=>exact Xp2 w
  | 11,_,_=>exact Xp3 w
  | 12,_,_=>exact Xp4 w
  | 13,_,_=>exact Xp5 w
  | 14,_,_=>exact Xp6 w
 refine (Xb9 (args:=[.int .i64 k]) h []).weak fun r H' ⟨h1,h2⟩=>?_
 subst h1 h2
 exact ⟨_,_,XaH.mk' [] [] (Xvv _) XaB.nil (VwL.cons (Vw.tupx (l:=[_,_]) (VwL.refl _ _)) VwL.nil),rfl,rfl⟩
end Go.Proofs.YtdpobjakdplljaaGreatDoor

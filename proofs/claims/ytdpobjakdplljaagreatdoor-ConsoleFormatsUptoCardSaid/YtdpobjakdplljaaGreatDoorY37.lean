import Derived.Test.YtdpobjakdplljaaGreatDoorY36
import Derived.Test.YtdpobjakdplljaaGreatDoorY33
import Derived.Test.YtdpobjakdplljaaGreatDoorY11
import Derived.WalkKit
import Derived.Lib.Builder
import Derived.Laws.Externs
/- The program's lexer: what stands behind a mark. -/
set_option linter.unusedSimpArgs false
set_option linter.unusedVariables false
set_option maxRecDepth 100000
set_option maxHeartbeats 8000000
namespace Go.Proofs.YtdpobjakdplljaaGreatDoor
open Go.RowKit
def XjM (l:List UInt8):UInt8 × Nat:=match Xeo l with|some x=>x|none=>(0,0)
theorem XdY {l:List UInt8} {x:UInt8 × Nat} (h:Xeo l=some x):XjM l=x:=by unfold XjM;rw [h]
theorem Xdr {l:List UInt8} (h:Xeo l=none):XjM l=(0,0):=by unfold XjM;rw [h]
theorem or4 {p q:Nat} (hp:p < 16) (hq:q < 16):bits BinOp.or IntKind.i64 ((p:Int)*16) (q:Int) % 256=((UInt8.ofNat (16*p+q)).toNat:Int):=by
 have e:((p:Int)*16)=((p*16:Nat):Int):=by simp
 rw [e]
 have e2:bits BinOp.or IntKind.i64 ((p*16:Nat):Int) (q:Int)=((16*p+q:Nat):Int):=by
  show IntKind.i64.wrap (((BitVec.ofInt 64 ((p*16:Nat):Int) ||| BitVec.ofInt 64 (q:Int)).toNat:Nat):Int)=_
  rw [BitVec.ofInt_natCast,BitVec.ofInt_natCast,BitVec.toNat_or,BitVec.toNat_ofNat,BitVec.toNat_ofNat,Nat.mod_eq_of_lt (by omega),Nat.mod_eq_of_lt (by omega),Nat.mul_comm,←Nat.two_pow_add_eq_or_of_lt (i:=4) (by omega)]
  simp [IntKind.wrap,IntKind.signed,IntKind.bits]
  omega
 rw [e2,UInt8.toNat_ofNat']
 omega
theorem Xkf:Xa3 Tryz.prog 157 [] [.x (.string (bs []))] (fun r H'=>r=.tup [.x (.int .u8 0),.x (.int .i64 0)]∧H'=[]):=by
 refine XaD Tryz.func157 rfl ?_
 simp only [Tryz.ntmps157,Xvy,XvB,XvC,XvD,XvG,XvF,Nat.reduceAdd,Nat.reduceSub]
 (repeat' (first|with_reducible (first|refine Xag ?_|refine Xac ?_|refine Xar ?_|refine Xae ?_|refine Xaa ?_|refine Xax ?_)|(refine Xak _ rfl (fun h=>?_) (fun h=>?_)<;>first|(exact absurd h (by decide))|((try (simp only [] at h));skip))|((apply Xad rfl);(case h=>(first|(apply Xab 0 rfl;(first|exact Xap _ rfl|exact Xan _ rfl))|(apply XaC;(case hs=>(intro _ _ h;cases h));(case hx=>rfl);(case hrun=>(intro w;simp [wtb,AV.val,go_sem];skip;rfl)))));(case hT=>((try simp only [wtn]);rfl)))|fail))
 exact Xaf _ _ (XcB rfl (RV.tmp _) (RV.tmp _) (XaH.mk' [] [] (Xvv _) XaB.nil (VwL.refl _ _))) ⟨rfl,rfl⟩
theorem XiY (c:UInt8) (r:List UInt8) (hl:r.length≤1000000):Xa3 Tryz.prog 157 [] [.x (.string (bs (c :: r)))] (fun q H'=>q=.tup [.x (.int .u8 ((XjM (c :: r)).1.toNat:Nat)),.x (.int .i64 ((XjM (c :: r)).2:Nat))]∧H'=[]):=by
 refine XaD Tryz.func157 rfl ?_
 simp only [Tryz.ntmps157,Xvy,XvB,XvC,XvD,XvG,XvF,Nat.reduceAdd,Nat.reduceSub]
 (repeat' (first|with_reducible (first|refine Xag ?_|refine Xac ?_|refine Xao ?_|refine Xar ?_|refine Xau ?_|refine Xae ?_|refine Xaa ?_|refine Xax ?_|refine Xaj ?_|refine Xav ?_)|(refine Xak _ rfl (fun h=>?_) (fun h=>?_)<;>first|(exact absurd h (by decide))|((try (simp only [whn] at h));first|(exfalso;omega;done)|skip))|((apply Xad rfl);(case h=>(first|(apply Xab 0 rfl;(first|exact Xap _ rfl|exact Xan _ rfl))|(apply Xab 8 rfl;(exact Xbb _ _ _ _ _ 0 _ rfl rfl rfl (by kernel_rfl) rfl (by simp;first|done|fail)))|(apply XaC;(case hs=>(intro _ _ h;cases h));(case hx=>rfl);(case hrun=>(intro w;simp [wtb,AV.val,go_sem];skip;rfl)))));(case hT=>((try simp only [wtn]);rfl)))|fail))
 case hK.hK.hK.hK.refine_2.hK.hK.hK.hK.refine_2.hK.hK.refine_2.hK.hK.refine_2.hK.hK.refine_2.hK.hK.refine_1.hK.hK.hK.refine_2=>
  obtain ⟨a,b,r',rfl⟩:∃a b r',r=a :: b :: r':=by
   match r,h with
   | [],h=>simp at h
   | [a],h=>simp at h
   | a :: b :: r',_=>exact ⟨a,b,r',rfl⟩
  refine XcH mixed ?_
  (apply Xbj 0 rfl rfl (by kernel_rfl) (by intro c T H hp;simp [XaO,Xat,XaT,Xbr] at hp);(case h=>(first|exact Xbd _ rfl|fail));(apply XaA;(case hT=>((try simp only [wtn]);rfl));(case hH=>rfl)))
  (apply Xbj 1 rfl rfl (by kernel_rfl) (by intro c T H hp;simp [XaO,Xat,XaT,Xbr] at hp);(case h=>exact XcL _ _ _ _ _ 1 _ rfl rfl rfl (by kernel_rfl) rfl (by simp;first|done|fail));(apply XaA;(case hT=>((try simp only [wtn]);rfl));(case hH=>rfl)))
  (apply Xbj 3 rfl rfl (by kernel_rfl) (by intro c T H hp;simp [XaO,Xat,XaT,Xbr] at hp);(case h=>(first|exact Xbd _ rfl|fail));(apply XaA;(case hT=>((try simp only [wtn]);rfl));(case hH=>rfl)))
  (apply Xbj 4 rfl rfl (by kernel_rfl) (by intro c T H hp;simp [XaO,Xat,XaT,Xbr] at hp);(case h=>exact XcL _ _ _ _ _ 2 _ rfl rfl rfl (by kernel_rfl) rfl (by simp;first|done|fail));(apply XaA;(case hT=>((try simp only [wtn]);rfl));(case hH=>rfl)))
  (refine Xbp 2 (by decide +kernel) rfl rfl ?_;(first|(apply Xba;(case h=>(apply Xab 11 rfl;(exact Xay 183 Tryz.f183 _ _ rfl rfl Tryz.func183 (by decide) rfl (VwL.refl _ _) (XtV a))));(apply XaA;(case hT=>((try simp only [wtn]);rfl));(case hH=>rfl)))|fail))
  (refine Xbp 5 (by decide +kernel) rfl rfl ?_;(first|(apply Xba;(case h=>(apply Xab 11 rfl;(exact Xay 183 Tryz.f183 _ _ rfl rfl Tryz.func183 (by decide) rfl (VwL.refl _ _) (XtV b))));(apply XaA;(case hT=>((try simp only [wtn]);rfl));(case hH=>rfl)))|fail))
  (refine Xbp 6 (by decide +kernel) rfl rfl ?_;(first|(apply Xba;(case h=>(apply Xab 0 rfl;(exact Xan _ rfl)));(apply XaA;(case hT=>((try simp only [wtn]);rfl));(case hH=>rfl)))|fail))
  (refine Xbp 7 (by decide +kernel) rfl rfl ?_;(first|(apply Xba;(case h=>(apply Xab 0 rfl;(exact Xan _ rfl)));(apply XaA;(case hT=>((try simp only [wtn]);rfl));(case hH=>rfl)))|fail))
  refine Xa4 (by decide +kernel) ?_
  cases ha:XgV a with
  | none=>
    have e1:=Xi4 ha
    simp only [e1]
    (repeat' (first|with_reducible (first|refine Xag ?_|refine Xac ?_|refine Xar ?_|refine Xae ?_|refine Xaa ?_|refine Xax ?_|refine Xav ?_)|(refine Xak _ rfl (fun h=>?_) (fun h=>?_)<;>first|(exact absurd h (by decide))|((try (simp only [] at h));skip))|((apply Xfe rfl rfl rfl);(case hT=>((try simp only [wtn]);rfl)))|((apply Xad rfl);(case h=>(first|(apply Xab 0 rfl;(first|exact Xap _ rfl|exact Xan _ rfl))|(apply Xab 1 rfl;(exact XcQ _ _ _ rfl rfl))|(apply XaC;(case hs=>(intro _ _ h;cases h));(case hx=>rfl);(case hrun=>(intro w;simp [wtb,AV.val,go_sem];skip;rfl)))));(case hT=>((try simp only [wtn]);rfl)))|fail))
    have e:XjM (c :: a :: b :: r')=(0,0):=Xdr (by rw [Xgp c a b r' (by omega),ha];rfl)
    rw [e]
    exact Xaf _ _ (XcB rfl (RV.tmp _) (RV.tmp _) (XaH.mk' [] [] (Xvv _) XaB.nil (VwL.refl _ _))) ⟨rfl,rfl⟩
  | some p=>
    have e1:=Xi5 ha
    have hp:=Xfl ha
    cases hb:XgV b with
    | none=>
      have e2:=Xi4 hb
      simp only [e1,e2]
      (repeat' (first|with_reducible (first|refine Xag ?_|refine Xac ?_|refine Xar ?_|refine Xae ?_|refine Xaa ?_|refine Xax ?_|refine Xav ?_)|(refine Xak _ rfl (fun h=>?_) (fun h=>?_)<;>first|(exact absurd h (by decide))|((try (simp only [] at h));skip))|((first|apply Xad rfl|apply Xa8 _ _ rfl rfl rfl);(case h=>((try (intro (hp:(_:Bool)=true);((try simp only [Bool.not_eq_true'] at hp);(try simp only [hp,wte]);(try simp only [whn] at hp))));(first|(apply Xab 0 rfl;(first|exact Xap _ rfl|exact Xan _ rfl))|(apply Xab 1 rfl;(exact Xcs _ _ _ rfl rfl))|(apply XaC;(case hs=>(intro _ _ h;cases h));(case hx=>rfl);(case hrun=>(intro w;simp [wtb,AV.val,go_sem];skip;rfl))))));(case hT=>((try simp only [wtn]);rfl)))|fail))
      have e:XjM (c :: a :: b :: r')=(0,0):=Xdr (by rw [Xgp c a b r' (by omega),ha,hb];rfl)
      rw [e]
      exact Xaf _ _ (XcB rfl (RV.tmp _) (RV.tmp _) (XaH.mk' [] [] (Xvv _) XaB.nil (VwL.refl _ _))) ⟨rfl,rfl⟩
    | some q=>
      have e2:=Xi5 hb
      have hq:=Xfl hb
      simp only [e1,e2]
      (repeat' (first|with_reducible (first|refine Xag ?_|refine Xac ?_|refine Xar ?_|refine Xau ?_|refine Xae ?_|refine Xaa ?_|refine Xax ?_|refine Xav ?_)|(refine Xak _ rfl (fun h=>?_) (fun h=>?_)<;>((try (simp only [whn] at h));first|(exfalso;omega;done)|skip))|((first|apply Xad rfl|apply Xa8 _ _ rfl rfl rfl);(case h=>((try (intro (hp:(_:Bool)=true);((try simp only [Bool.not_eq_true'] at hp);(try simp only [hp,wte]);(try simp only [whn] at hp))));(first|(apply Xab 0 rfl;(first|exact Xap _ rfl|exact Xan _ rfl))|(apply Xab 1 rfl;(exact Xcs _ _ _ rfl rfl))|(apply XaC;(case hs=>(intro _ _ h;cases h));(case hx=>rfl);(case hrun=>(intro w;simp [wtb,AV.val,go_sem];(try go_bits);rfl))))));(case hT=>((try simp only [wtn]);rfl)))|fail))
      have e:XjM (c :: a :: b :: r')=(UInt8.ofNat (16*p+q),3):=XdY (by rw [Xgp c a b r' (by omega),ha,hb];rfl)
      have e4:=or4 hp hq
      rw [e,←e4]
      exact Xaf _ _ (XcB rfl (RV.tmp _) (RV.tmp _) (XaH.mk' [] [] (Xvv _) XaB.nil (VwL.refl _ _))) ⟨rfl,rfl⟩
 all_goals first
  | (rw [XdY (Xgo c r (by omega))];exact Xaf _ _ (XcB rfl (RV.tmp _) (RV.tmp _) (XaH.mk' [] [] (Xvv _) XaB.nil (VwL.refl _ _))) ⟨rfl,rfl⟩)
  | (rw [XdY (XnW c r (by omega))];exact Xaf _ _ (XcB rfl (RV.tmp _) (RV.tmp _) (XaH.mk' [] [] (Xvv _) XaB.nil (VwL.refl _ _))) ⟨rfl,rfl⟩)
  | (rw [XdY (XnY c r (by omega))];exact Xaf _ _ (XcB rfl (RV.tmp _) (RV.tmp _) (XaH.mk' [] [] (Xvv _) XaB.nil (VwL.refl _ _))) ⟨rfl,rfl⟩)
  | (have e:XjM (c :: r)=(0,0):=by
      match r,h with
      | [],_=>exact Xdr (XnZ c (by omega))
      | [a],_=>exact Xdr (Xn0 c a (by omega))
      | a :: b :: r',h=>simp at h;omega
     rw [e];exact Xaf _ _ (XcB rfl (RV.tmp _) (RV.tmp _) (XaH.mk' [] [] (Xvv _) XaB.nil (VwL.refl _ _))) ⟨rfl,rfl⟩)
  | (rw [Xdr (XnX c r (by omega))];exact Xaf _ _ (XcB rfl (RV.tmp _) (RV.tmp _) (XaH.mk' [] [] (Xvv _) XaB.nil (VwL.refl _ _))) ⟨rfl,rfl⟩)
  | trace_state
theorem XnT (l:List UInt8) (hl:l.length≤1000000):Xa3 Tryz.prog 157 [] [.x (.string (bs l))] (fun q H'=>q=.tup [.x (.int .u8 ((XjM l).1.toNat:Nat)),.x (.int .i64 ((XjM l).2:Nat))]∧H'=[]):=by
 cases l with
 | nil=>exact Xkf
 | cons c r=>exact XiY c r (by simp at hl;omega)
theorem XhW (l:List UInt8) (k:Nat) (h:k < l.length):l.drop k=l.getD k 0 :: l.drop (k+1):=by
 rw [List.drop_eq_getElem_cons h,Xet l k 0 h]
theorem XrB (f:Nat) (fn:Func) (p:UInt8→Bool) (hf:Tryz.prog.funcs[f]?=some fn) (hnn:fn.name≠ "runtime.NumGoroutine") (hb:fn.body.isSome=true) (ht:XfQ f p) (l:List UInt8) (hl:l.length≤1000000):Xa3 Tryz.prog 122 [] [.x (.string (bs l)),.x (.func (.func f) #[] #[])] (fun r H'=>r=.x (.int .i64 (spn p l:Nat))∧H'=[]):=by
 refine XaD Tryz.func122 rfl ?_
 simp only [Tryz.ntmps122,Xvy,XvB,XvC,XvD,XvG,XvF,Nat.reduceAdd,Nat.reduceSub]
 (repeat' (first|with_reducible (first|refine Xag ?_|refine Xac ?_|refine Xao ?_|refine Xae ?_|refine Xaa ?_)|((apply Xad rfl);(case h=>(apply Xab 0 rfl;(exact Xan _ rfl)));(case hT=>((try simp only [wtn]);rfl)))|fail))
 refine XaQ (S:=Nat) (fun k=>frm 20 [(0,.x (.string (bs l))),(1,.x (.func (.func f) #[] #[])),(5,.x (.int .i64 k))]) (fun _=>[]) (fun k=>k≤l.length∧spn p l=k+spn p (l.drop k)) (fun k=>l.length - k) 0 (XaH.mk' [] _ (Xvv _) (XaB.refl _ _) (by (repeat' (first|exact VwL.nil|(refine VwL.cons ?_ ?_)|exact Vw.refl _|exact Vw.top _|fail)))) ⟨Nat.zero_le _,by simp⟩ fun k hk=>?_
 obtain ⟨h1,h2⟩:=hk
 have h2':=Lib.hid h2
 clear h2
 simp only [frm,XvC,XvD,Xvw,Xvx,XvJ,XvK]
 by_cases hk:k < l.length
 ·have hd:=Lib.hid (XhW l k hk)
  have htb:=ht (l.getD k 0)
  cases hc:p (l.getD k 0) with
  | true=>
    rw [hc] at htb
    (repeat' (first|with_reducible (first|refine Xag ?_|refine Xac ?_|refine Xao ?_|refine Xau ?_|refine Xae ?_|refine Xaa ?_|refine Xaj ?_)|(refine Xak _ rfl (fun h=>?_) (fun h=>?_)<;>((try (simp only [whn] at h));first|(exfalso;omega;done)|skip))|((first|apply Xad rfl|apply Xa8 _ _ rfl rfl rfl);(case h=>((try (intro (hp:(_:Bool)=true);((try simp only [hp]);(try simp only [whn] at hp))));(first|(apply Xab 0 rfl;(first|exact Xap _ rfl|exact Xan _ rfl))|(apply Xab 1 rfl;(exact XbC _ _ _ _ _ rfl rfl rfl rfl))|(apply Xab 8 rfl;(exact Xbb _ _ _ _ _ _ _ rfl rfl rfl (by kernel_rfl) rfl (by omega)))|(apply Xab 11 rfl;(exact Xay f fn _ _ rfl rfl hf hnn hb (VwL.refl _ _) htb))|(apply XaC;(case hs=>(intro _ _ h;cases h));(case hx=>rfl);(case hrun=>(intro w;simp [wtb,AV.val,go_sem];(try go_bits);rfl))))));(case hT=>((try simp only [wtn]);rfl)))|fail))
    refine ⟨k+1,by omega,⟨by omega,?_⟩,(XaH.mk' [] _ (Xvv _) (XaB.refl _ _) (by (repeat' (first|exact VwL.nil|(refine VwL.cons ?_ ?_)|exact Vw.refl _|exact Vw.top _|fail))))⟩
    rw [h2'.out,hd.out,XeA _ _ _ hc];omega
  | false=>
    rw [hc] at htb
    (repeat' (first|with_reducible (first|refine Xag ?_|refine Xac ?_|refine Xar ?_|refine XaW ?_|refine Xae ?_|refine Xaa ?_|refine XaL ?_|refine XaJ ?_)|(refine Xak _ rfl (fun h=>?_) (fun h=>?_)<;>first|(exact absurd h (by decide))|((try (simp only [] at h));skip))|((first|apply Xad rfl|apply Xa8 _ _ rfl rfl rfl);(case h=>((try (intro (hp:(_:Bool)=true);((try simp only [hp]);(try simp only [whn] at hp))));(first|(apply Xab 0 rfl;(first|exact Xap _ rfl|exact Xan _ rfl))|(apply Xab 1 rfl;(exact XbC _ _ _ _ _ rfl rfl rfl rfl))|(apply Xab 8 rfl;(exact Xbb _ _ _ _ _ _ _ rfl rfl rfl (by kernel_rfl) rfl (by omega)))|(apply Xab 11 rfl;(exact Xay f fn _ _ rfl rfl hf hnn hb (VwL.refl _ _) htb))|(apply XaC;(case hs=>(intro _ _ h;cases h));(case hx=>rfl);(case hrun=>(intro w;simp [wtb,AV.val,go_sem];skip;rfl))))));(case hT=>((try simp only [wtn]);rfl)))|fail))
    refine Xaf _ _ (Xbh rfl (RV.tmp _) (XaH.mk' [] _ (Xvv _) (XaB.refl _ _) (VwL.refl _ _))) ?_
    refine ⟨?_,rfl⟩
    rw [h2'.out,hd.out,XlJ _ _ _ hc];rfl
 ·have htb:=ht 0
  (repeat' (first|with_reducible (first|refine Xag ?_|refine Xac ?_|refine Xar ?_|refine XaW ?_|refine Xae ?_|refine Xaa ?_|refine XaL ?_|refine XaJ ?_)|(refine Xak _ rfl (fun h=>?_) (fun h=>?_)<;>first|(exact absurd h (by decide))|((try (simp only [] at h));skip))|((first|apply Xad rfl|apply Xa8 _ _ rfl rfl rfl);(case h=>((try (intro (hp:(_:Bool)=true);((try simp only [hp]);(try simp only [whn] at hp))));(first|(apply Xab 0 rfl;(first|exact Xap _ rfl|exact Xan _ rfl))|(apply Xab 1 rfl;(exact XbC _ _ _ _ _ rfl rfl rfl rfl))|(apply Xab 8 rfl;(exact Xbb _ _ _ _ _ _ _ rfl rfl rfl (by kernel_rfl) rfl (by omega)))|(apply Xab 11 rfl;(exact Xay f fn _ (.x (.bool false)) rfl rfl hf hnn hb (VwL.refl _ _) (by exfalso;omega)))|(apply XaC;(case hs=>(intro _ _ h;cases h));(case hx=>rfl);(case hrun=>(intro w;simp [wtb,AV.val,go_sem];skip;rfl))))));(case hT=>((try simp only [wtn]);rfl)))|fail))
  refine Xaf _ _ (Xbh rfl (RV.tmp _) (XaH.mk' [] _ (Xvv _) (XaB.refl _ _) (VwL.refl _ _))) ?_
  refine ⟨?_,rfl⟩
  have e:l.drop k=[]:=List.drop_eq_nil_of_le (by omega)
  rw [h2'.out,e];rfl
def scc (t:List UInt8) (at_ line col:Int):List AV:=[.x (.string (bs t)),.x (.int .i64 at_),.x (.int .i64 line),.x (.int .i64 col)]
theorem XdS (b:Nat) (t:List UInt8) (i line col:Int) (n:Nat) (hi:0≤i∧i≤1000000) (hc:0≤col∧col≤1000000) (hn:n≤1000000):Xa3 Tryz.prog 85 [.box b (scc t i line col)] [.x (.pointer (some ⟨b,0,none⟩)),.x (.int .i64 n)] (fun r H'=>H'=[.box b (scc t (i+n) line (col+n))]):=by
 unfold scc
 refine XaD Tryz.func85 rfl ?_
 simp only [Tryz.ntmps85,Xvy,XvB,XvC,XvD,XvG,XvF,Nat.reduceAdd,Nat.reduceSub]
 (repeat' (first|with_reducible (first|refine Xag ?_|refine Xac ?_|refine Xae ?_|refine Xaa ?_)|((apply Xad rfl);(case h=>(first|(apply Xab 0 rfl;(exact Xap _ rfl))|(apply Xab 4 rfl;(exact Xbl _ rfl (by first|exact .inl ⟨_,rfl⟩|fail)))|(apply Xab 5 rfl;(exact Xal _ _ _ _ _ _ rfl rfl Xa5.out))|(apply Xab 6 rfl;(exact Xaz _ _ _ _ _ _ _ _ rfl rfl XaS.out XaN.out (by first|exact Xvu rfl|fail) (by first|exact Xvu rfl|fail)))|(apply XaC;(case hs=>(intro _ _ h;cases h));(case hx=>rfl);(case hrun=>(intro w;simp [wtb,AV.val,go_sem];(try go_bits);rfl)))));(case hT=>((try simp only [wtn]);rfl)))|(refine Xai rfl ?_;((refine Xas 16 rfl ?_;(refine Xaw _ _ _ _ _ _ _ rfl rfl XaS.out XaR.out (by first|rfl|fail) (by first|exact Xvu rfl|fail) ?_));apply Xah;(case hT=>((try simp only [wtn]);rfl));(case hH=>((try simp only [wtn]);rfl))))|fail))
 exact Xc8 _ _ (XrH rfl (XaH.mk' [] _ (Xvv _) (XaB.refl _ _) (by (repeat' (first|exact VwL.nil|fail))))) rfl
theorem Xh3 (l:List UInt8):(Lib.indexByte l 10 = -1∧cmt l=l.length)∨Lib.indexByte l 10=cmt l:=by
 induction l with
 | nil=>exact .inl ⟨rfl,rfl⟩
 | cons c r ih=>
   by_cases h:c.toNat=10
   ·have e:c=10:=UInt8.toNat_inj.1 h
    subst e
    right
    rw [XnE _ _ h]
    rfl
   ·have e:(c == 10)=false:=by
     rw [XvM]
     intro e;subst e;exact h rfl
    rw [Xfg _ _ h]
    unfold Lib.indexByte
    rw [e]
    simp only [Bool.false_eq_true,if_false,Xvy]
    rcases ih with ⟨h1,h2⟩|h1
    ·left;simp [h1,h2]
    ·right
     rw [h1]
     have:((cmt r:Int) == -1)=false:=by rw [XvM];omega
     rw [this]
     simp
theorem Xkm (l:List UInt8):Xa3 Tryz.prog 120 [] [.x (.string (bs l)),.x (.int .u8 10)] (fun r H'=>r=.x (.int .i64 (Lib.indexByte l 10))∧H'=[]):=
 Xb9 (args:=[.string (bs l),.int .u8 10]) (fun w=>(strings_IndexByte (bs l) 10 w).mono fun e w' ⟨h1,h2⟩=>⟨by rw [h1];simp [bs],h2▸Below.refl _ _⟩) []
theorem XoR:∀(l:List UInt8) (p:Nat × Nat),plc p (l.take (cmt l))=(p.1,p.2+cmt l)
 | [],p=>by simp [cmt,plc]
 | c :: r,p=>by
   by_cases h:c.toNat=10
   ·rw [XnE _ _ h];simp [plc]
   ·rw [Xfg _ _ h,List.take_succ_cons,plc,if_neg h,XoR r]
    simp;omega
theorem XqH (t:List UInt8) (j:Nat) (h:j < t.length):plc (1,1) (t.take (j+1))=if (t.getD j 0).toNat=10 then ((plc (1,1) (t.take j)).1+1,1) else ((plc (1,1) (t.take j)).1,(plc (1,1) (t.take j)).2+1):=by
 rw [←XfH t j 1,XhW t j h,List.take_succ_cons,List.take_zero]
 rfl
def sc (t:List UInt8) (k:Nat):List AV:=scc t k (plc (1,1) (t.take k)).1 (plc (1,1) (t.take k)).2
theorem Xlv:∀(l:List UInt8) (p:Nat × Nat),(plc p l).1≤p.1+l.length∧(plc p l).2≤p.2+l.length+1∧p.1≤(plc p l).1
 | [],p=>by simp [plc]
 | c :: r,p=>by
   rw [plc]
   split
   ·have:=Xlv r (p.1+1,1);simp only [Xvy] at *;omega
   ·have:=Xlv r (p.1,p.2+1);simp only [Xvy] at *;omega
theorem Xun {l r:List UInt8} {c:UInt8} (hl:l=c :: r) (h:c.toNat=32∨c.toNat=9∨c.toNat=10∨c.toNat=13):skp l=skp r+1:=by subst hl;exact Xe5 c r h
theorem Xuo {l r:List UInt8} {c:UInt8} (hl:l=c :: r) (h:c.toNat=35):skp l=cmt l+skp (l.drop (cmt l))∧1≤cmt l:=by
 subst hl
 exact ⟨XkQ c r h,by rw [Xfg _ _ (by omega)];omega⟩
theorem Xup {l r:List UInt8} {c:UInt8} (hl:l=c :: r) (h:¬(c.toNat=32∨c.toNat=9∨c.toNat=10∨c.toNat=13)) (h2:c.toNat≠35):skp l=0:=by subst hl;exact XlH c r h h2
theorem Xh8 (b:Nat) (t:List UInt8) (k:Nat) (hk:k≤t.length) (ht:t.length≤100000):Xa3 Tryz.prog 83 [.box b (sc t k)] [.x (.pointer (some ⟨b,0,none⟩))] (fun r H'=>H'=[.box b (sc t (nxk t k))]):=by
 unfold sc scc
 refine XaD Tryz.func83 rfl ?_
 simp only [Tryz.ntmps83,Xvy,XvB,XvC,XvD,XvG,XvF,Nat.reduceAdd,Nat.reduceSub]
 (repeat' (first|with_reducible (refine Xao ?_)|fail))
 refine XaQ (S:=Nat) (fun j=>frm 70 [(0,.x (.pointer (some ⟨b,0,none⟩)))]) (fun j=>[.box b [.x (.string (bs t)),.x (.int .i64 j),.x (.int .i64 ((plc (1,1) (t.take j)).1:Nat)),.x (.int .i64 ((plc (1,1) (t.take j)).2:Nat))]]) (fun j=>j≤t.length∧j+skp (t.drop j)=k+skp (t.drop k)) (fun j=>t.length - j) k (XaH.mk' [] _ (Xvv _) (XaB.refl _ _) (by (repeat' (first|exact VwL.nil|(refine VwL.cons ?_ ?_)|exact Vw.refl _|fail)))) ⟨hk,rfl⟩ fun j hj=>?_
 obtain ⟨h1,h2⟩:=hj
 have h2':=Lib.hid h2
 clear h2
 simp only [frm,XvC,XvD,Xvw,Xvx,XvJ]
 have hpl:=Xlv (t.take j) (1,1)
 rw [List.length_take,Nat.min_eq_left h1] at hpl
 by_cases hlt:j < t.length
 ·have hd:=XhW t j hlt
  have hpn:=XqH t j hlt
  have hcm:=XfH t j (cmt (t.drop j))
  rw [XoR] at hcm
  have hcl:=Xrn (t.drop j)
  rw [List.length_drop] at hcl
  rw [List.getD_eq_getElem?_getD] at hd hpn
  generalize hL:(plc (1,1) (t.take j)).1=L at hpl hpn hcm ⊢
  generalize hC:(plc (1,1) (t.take j)).2=C at hpl hpn hcm ⊢
  have hLC:(plc (1,1) (t.take j)).1=L∧(plc (1,1) (t.take j)).2=C:=⟨hL,hC⟩
  have hLC:=Lib.hid hLC
  clear hL hC
  have hd':=Lib.hid hd
  have hpn':=Lib.hid hpn
  have hcm':=Lib.hid hcm
  clear hd hpn hcm
  have hib:=Xkm (t.drop j)
  have hdl:(t.drop j).length=t.length - j:=List.length_drop
  rcases Xh3 (t.drop j) with ⟨hi1,hi2⟩|hi1
  ·rw [hi1] at hib
   have hcc:cmt (t.drop j)=t.length - j:=by rw [hi2,hdl]
   have hcc':=Lib.hid hcc
   clear hi1 hi2 hcc
   (repeat' (first|with_reducible (first|refine Xag ?_|refine Xac ?_|refine Xao ?_|refine Xar ?_|refine Xau ?_|refine Xae ?_|refine Xch ?_|refine Xaa ?_|refine Xax ?_|refine Xaj ?_|refine Xav ?_)|(with_reducible refine Xbe mixed ?_ ?_;(decide +kernel))|(refine Xak _ rfl (fun h=>?_) (fun h=>?_)<;>first|(exact absurd h (by decide))|((try (simp only [whn] at h));first|(exfalso;omega;done)|skip))|((first|apply Xad rfl|apply XbO rfl);(case h=>(first|(apply Xab 0 rfl;(first|exact Xap _ rfl|exact Xan _ rfl))|(apply Xab 4 rfl;(exact Xbl _ rfl (by first|exact .inl ⟨_,rfl⟩|fail)))|(apply Xab 5 rfl;(exact Xal _ _ _ _ _ _ rfl rfl Xa5.out))|(apply Xab 6 rfl;(exact Xaz _ _ _ _ _ _ _ _ rfl rfl XaS.out XaN.out (by first|exact Xvu rfl|fail) (by first|exact Xvu rfl|fail)))|(apply Xab 8 rfl;(exact Xbb _ _ _ _ _ _ _ rfl rfl rfl (by kernel_rfl) rfl (by omega)))|(apply Xab 9 rfl;(exact Xbn _ _ _ _ _ _ _ rfl rfl (by kernel_rfl) (by first|exact .inr ⟨_,_,rfl,rfl⟩|fail) (by first|exact .inl ⟨rfl,rfl⟩|fail) (by omega) (by omega)))|(apply Xab 11 rfl;(exact Xay 120 Tryz.f120 _ _ rfl rfl Tryz.func120 (by decide) rfl (VwL.refl _ _) (hib)))|(apply XaC;(case hs=>(intro _ _ h;cases h));(case hx=>rfl);(case hrun=>(intro w;simp [wtb,AV.val,go_sem];(try go_bits);rfl)))));(case hT=>((try simp (disch:=omega) only [wtn,scc,List.take_length,List.drop_zero,hdl,Xvz,Xvw,Xvx,XvA,XvE,Nat.reduceAdd,Nat.reduceMul,Nat.reduceSub,↓reduceIte,Nat.reduceEqDiff]);rfl)))|(refine Xai rfl ?_;((first|(refine Xas 11 rfl ?_;(first|(refine Xam 85 Tryz.f85 ([_]) _ _ _ rfl rfl Tryz.func85 (by decide) rfl (Xvv _) (VwL.refl _ _) (XdS b t j L C 1 (by omega) (by omega) (by omega)) ?_;rintro _ _ rfl)|(refine Xam 85 Tryz.f85 ([_]) _ _ _ rfl rfl Tryz.func85 (by decide) rfl (Xvv _) (VwL.refl _ _) (XdS b t j L C (t.length - j) (by omega) (by omega) (by omega)) ?_;rintro _ _ rfl)))|(refine Xas 16 rfl ?_;(refine Xaw _ _ _ _ _ _ _ rfl rfl XaS.out XaR.out (by first|rfl|fail) (by first|exact Xvu rfl|fail) ?_)));apply Xah;(case hT=>((try simp (disch:=omega) only [wtn,scc,List.take_length,List.drop_zero,hdl,Xvz,Xvw,Xvx,XvA,XvE,Nat.reduceAdd,Nat.reduceMul,Nat.reduceSub,↓reduceIte,Nat.reduceEqDiff]);rfl));(case hH=>((try simp (disch:=omega) only [wtn,scc,List.take_length,List.drop_zero,hdl,Xvz,Xvw,Xvx,XvA,XvE,Nat.reduceAdd,Nat.reduceMul,Nat.reduceSub,↓reduceIte,Nat.reduceEqDiff]);rfl))))|fail))
   all_goals first
    | (have es:=Xun hd'.out (by omega)
       have e2:=h2'.out
       refine ⟨j+1,by omega,⟨by omega,by omega⟩,?_⟩
       rw [hpn'.out]
       first
        | (rw [if_pos (by omega)];exact (XaH.mk' [] _ (Xvv _) (XaB.refl _ _) (by (repeat' (first|exact VwL.nil|(refine VwL.cons ?_ ?_)|exact Vw.refl _|exact Vw.top _|fail)))))
        | (rw [if_neg (by omega)];exact (XaH.mk' [] _ (Xvv _) (XaB.refl _ _) (by (repeat' (first|exact VwL.nil|(refine VwL.cons ?_ ?_)|exact Vw.refl _|exact Vw.top _|fail))))))
    | (have es:=Xuo hd'.out (by omega)
       have e2:=h2'.out
       have e3:=hcc'.out
       rw [List.drop_drop] at es
       rw [e3] at es
       refine ⟨j+(t.length - j),by omega,⟨by omega,by omega⟩,?_⟩
       have e4:=hcm'.out
       rw [e3] at e4
       rw [←e4]
       exact (XaH.mk' [] _ (Xvv _) (XaB.refl _ _) (by (repeat' (first|exact VwL.nil|(refine VwL.cons ?_ ?_)|exact Vw.refl _|exact Vw.top _|fail)))))
    | (have es:=Xup hd'.out (by omega) (by omega)
       have e2:=h2'.out
       have ek:nxk t k=j:=by unfold nxk;omega
       have e5:=hLC.out
       rw [ek,e5.1,e5.2]
       exact Xaf _ _ (XrH rfl (XaH.mk' [] _ (Xvv _) (XaB.refl _ _) (by (repeat' (first|exact VwL.nil|fail))))) rfl)
    | trace_state
  ·rw [hi1] at hib
   have htl:((t.drop j).take (cmt (t.drop j))).length=cmt (t.drop j):=by rw [List.length_take,hdl];omega
   generalize hrs:(t.drop j).take (cmt (t.drop j))=rs at htl
   (repeat' (first|with_reducible (first|refine Xag ?_|refine Xac ?_|refine Xao ?_|refine Xar ?_|refine Xau ?_|refine Xae ?_|refine Xch ?_|refine Xaa ?_|refine Xax ?_|refine Xaj ?_|refine Xav ?_)|(with_reducible refine Xbe mixed ?_ ?_;(decide +kernel))|(refine Xak _ rfl (fun h=>?_) (fun h=>?_)<;>first|(exact absurd h (by decide))|((try (simp only [whn] at h));first|(exfalso;omega;done)|skip))|((first|apply Xad rfl|apply XbO rfl);(case h=>(first|(apply Xab 0 rfl;(first|exact Xap _ rfl|exact Xan _ rfl))|(apply Xab 4 rfl;(exact Xbl _ rfl (by first|exact .inl ⟨_,rfl⟩|fail)))|(apply Xab 5 rfl;(exact Xal _ _ _ _ _ _ rfl rfl Xa5.out))|(apply Xab 6 rfl;(exact Xaz _ _ _ _ _ _ _ _ rfl rfl XaS.out XaN.out (by first|exact Xvu rfl|fail) (by first|exact Xvu rfl|fail)))|(apply Xab 8 rfl;(exact Xbb _ _ _ _ _ _ _ rfl rfl rfl (by kernel_rfl) rfl (by omega)))|(apply Xab 9 rfl;(exact Xbn _ _ _ _ _ _ _ rfl rfl (by kernel_rfl) (by first|exact .inl ⟨rfl,rfl⟩|exact .inr ⟨_,_,rfl,rfl⟩|fail) (by first|exact .inl ⟨rfl,rfl⟩|exact .inr ⟨_,_,rfl,rfl⟩|fail) (by omega) (by omega)))|(apply Xab 11 rfl;(exact Xay 120 Tryz.f120 _ _ rfl rfl Tryz.func120 (by decide) rfl (VwL.refl _ _) (hib)))|(apply XaC;(case hs=>(intro _ _ h;cases h));(case hx=>rfl);(case hrun=>(intro w;simp [wtb,AV.val,go_sem];(try go_bits);rfl)))));(case hT=>((try simp (disch:=omega) only [wtn,scc,List.take_length,List.drop_zero,hdl,hrs,htl,Xvz,Xvw,Xvx,XvA,XvE,Nat.reduceAdd,Nat.reduceMul,Nat.reduceSub,↓reduceIte,Nat.reduceEqDiff]);rfl)))|(refine Xai rfl ?_;((first|(refine Xas 11 rfl ?_;(first|(refine Xam 85 Tryz.f85 ([_]) _ _ _ rfl rfl Tryz.func85 (by decide) rfl (Xvv _) (VwL.refl _ _) (XdS b t j L C 1 (by omega) (by omega) (by omega)) ?_;rintro _ _ rfl)|(refine Xam 85 Tryz.f85 ([_]) _ _ _ rfl rfl Tryz.func85 (by decide) rfl (Xvv _) (VwL.refl _ _) (XdS b t j L C (cmt (t.drop j)) (by omega) (by omega) (by omega)) ?_;rintro _ _ rfl)))|(refine Xas 16 rfl ?_;(refine Xaw _ _ _ _ _ _ _ rfl rfl XaS.out XaR.out (by first|rfl|fail) (by first|exact Xvu rfl|fail) ?_)));apply Xah;(case hT=>((try simp (disch:=omega) only [wtn,scc,List.take_length,List.drop_zero,hdl,hrs,htl,Xvz,Xvw,Xvx,XvA,XvE,Nat.reduceAdd,Nat.reduceMul,Nat.reduceSub,↓reduceIte,Nat.reduceEqDiff]);rfl));(case hH=>((try simp (disch:=omega) only [wtn,scc,List.take_length,List.drop_zero,hdl,hrs,htl,Xvz,Xvw,Xvx,XvA,XvE,Nat.reduceAdd,Nat.reduceMul,Nat.reduceSub,↓reduceIte,Nat.reduceEqDiff]);rfl))))|fail))
   all_goals first
    | (have es:=Xun hd'.out (by omega)
       have e2:=h2'.out
       refine ⟨j+1,by omega,⟨by omega,by omega⟩,?_⟩
       rw [hpn'.out]
       first
        | (rw [if_pos (by omega)];exact (XaH.mk' [] _ (Xvv _) (XaB.refl _ _) (by (repeat' (first|exact VwL.nil|(refine VwL.cons ?_ ?_)|exact Vw.refl _|exact Vw.top _|fail)))))
        | (rw [if_neg (by omega)];exact (XaH.mk' [] _ (Xvv _) (XaB.refl _ _) (by (repeat' (first|exact VwL.nil|(refine VwL.cons ?_ ?_)|exact Vw.refl _|exact Vw.top _|fail))))))
    | (have es:=Xuo hd'.out (by omega)
       have e2:=h2'.out
       have e3:=(rfl:cmt (t.drop j)=cmt (t.drop j))
       rw [List.drop_drop] at es
       rw [e3] at es
       refine ⟨j+cmt (t.drop j),by omega,⟨by omega,by omega⟩,?_⟩
       have e4:=hcm'.out
       rw [e3] at e4
       rw [←e4]
       exact (XaH.mk' [] _ (Xvv _) (XaB.refl _ _) (by (repeat' (first|exact VwL.nil|(refine VwL.cons ?_ ?_)|exact Vw.refl _|exact Vw.top _|fail)))))
    | (have es:=Xup hd'.out (by omega) (by omega)
       have e2:=h2'.out
       have ek:nxk t k=j:=by unfold nxk;omega
       have e5:=hLC.out
       rw [ek,e5.1,e5.2]
       exact Xaf _ _ (XrH rfl (XaH.mk' [] _ (Xvv _) (XaB.refl _ _) (by (repeat' (first|exact VwL.nil|fail))))) rfl)
    | trace_state
 ·have e:t.drop j=[]:=List.drop_eq_nil_of_le (by omega)
  have e2:=h2'.out
  rw [e,XgJ] at e2
  have ek:nxk t k=j:=by unfold nxk;omega
  rw [ek]
  (repeat' (first|with_reducible (first|refine Xag ?_|refine XaW ?_|refine Xch ?_|refine Xaa ?_|refine XaL ?_|refine XaJ ?_)|(with_reducible refine Xbe mixed ?_ ?_;(decide +kernel))|(refine Xak _ rfl (fun h=>?_) (fun h=>?_)<;>((try (simp only [whn] at h));first|(exfalso;omega;done)|skip))|((apply XbO rfl);(case h=>(first|(apply Xab 0 rfl;(exact Xap _ rfl))|(apply Xab 4 rfl;(exact Xbl _ rfl (by first|exact .inl ⟨_,rfl⟩|fail)))|(apply Xab 5 rfl;(exact Xal _ _ _ _ _ _ rfl rfl Xa5.out))|(apply Xab 6 rfl;(exact Xaz _ _ _ _ _ _ _ _ rfl rfl XaS.out XaN.out (by first|exact Xvu rfl|fail) (by first|exact Xvu rfl|fail)))|(apply XaC;(case hs=>(intro _ _ h;cases h));(case hx=>rfl);(case hrun=>(intro w;simp [wtb,AV.val,go_sem];skip;rfl)))));(case hT=>((try simp only [wtn]);rfl)))|fail))
  exact Xc8 _ _ (XrH rfl (XaH.mk' [] _ (Xvv _) (XaB.refl _ _) (by (repeat' (first|exact VwL.nil|fail))))) rfl
open Go.Shelf Go.RowKit
theorem Xnz (b:Nat) (w:World) (h0:w.cell? ⟨b,0,none⟩=some (.pointer (some ⟨b,0,none⟩))) :
  Calls Tryz.prog 64 #[.pointer (some ⟨b,0,none⟩)] w fun e w'=>e=.returned (.tuple #[])∧w'=w:=by
 obtain ⟨j,hj,_⟩:=Option.map_eq_some_iff.1 Xa7.sizeBuilder
 go_enter Tryz.func64,Tryz.ntmps64
 go_wp2
 rw [Lib.run_neq_ptr_same w _ Tryz.underlying72 hj]
 go_wp2
 go_end0
 exact ⟨rfl,rfl⟩
theorem Xk5 (b:Nat) (w:World) (h0:w.cell? ⟨b,0,none⟩=some (.pointer none)) (hsh:w.shape? b=some (74,2)) (hfz:w.frozen? ⟨b,0,none⟩=false) :
  Calls Tryz.prog 64 #[.pointer (some ⟨b,0,none⟩)] w fun e w'=>e=.returned (.tuple #[])∧w'=w.setCell ⟨b,0,none⟩ (.pointer (some ⟨b,0,none⟩)):=by
 obtain ⟨j,hj,hjs⟩:=Option.map_eq_some_iff.1 Xa7.sizeBuilder
 go_enter Tryz.func64,Tryz.ntmps64
 go_wp2
 rw [Lib.run_to_unsafe w ⟨b,0,none⟩ Tryz.underlying72 Tryz.underlying153 hj (by rw [hjs];decide) hsh (Nat.zero_lt_succ 1)]
 simp only [Result.andThen]
 rw [Oper.upon_value]
 go_wp2
 rw [run_callFunc_extern Tryz.func101 (by kernel_rfl) (by kernel_rfl) (by kernel_rfl) (e:=Extern.AbiNoEscape.same) (by kernel_rfl)]
 rw [Lib.run_noEscape]
 simp only [Result.andThen]
 rw [Oper.upon_value]
 go_wp2
 rw [Lib.run_from_unsafe w ⟨b,0,none⟩ Tryz.underlying153 Tryz.underlying72 hj hsh Xa7.liesBuilder]
 simp only [Result.andThen]
 rw [Oper.upon_value]
 go_wp2
 go_end0
 exact ⟨rfl,rfl⟩
theorem Xrl (B b:Nat) (bs:List Value) (w:World) (h:Lib.IsBuilder 74 5 B b bs w) :
  Calls Tryz.prog 64 #[.pointer (some ⟨b,0,none⟩)] w fun e w'=>e=.returned (.tuple #[])∧(Lib.BuilderAt 74 5 B b (.pointer (some ⟨b,0,none⟩)) bs w'∧Below B w w'):=by
 rcases h with h|h
 ·refine (Xk5 b w h.cell0 h.shape h.frozen0).mono ?_
  rintro e w' ⟨rfl,rfl⟩
  exact ⟨rfl,h.used _,(Below.refl B w).setCell (p:=⟨b,0,none⟩) h.1 _⟩
 ·refine (Xnz b w h.cell0).mono ?_
  rintro e w' ⟨rfl,rfl⟩
  exact ⟨rfl,h,Below.refl B _⟩
theorem Xd5 (B b:Nat) (bs:List Value) (c:Int) (w:World) (h:Lib.IsBuilder 74 5 B b bs w) (hlen:bs.length+1≤140737488355328) (hBw:B≤w.heap.size) :
  Calls Tryz.prog 34 #[.pointer (some ⟨b,0,none⟩),.int .u8 c] w fun e w'=>e=.returned .nilIface∧(Lib.BuilderAt 74 5 B b (.pointer (some ⟨b,0,none⟩)) (bs++[.int .u8 c]) w'∧Below B w w'):=by
 obtain ⟨i0,hi,hz0,hz1,hz2⟩:=info_parts Xa7.infoByte
 go_enter Tryz.func34,Tryz.ntmps34
 go_wp2_with (go_at_call 64;refine (Xrl B b bs _ h).mono ?_)
 rintro e w1 ⟨rfl,h1,hb1⟩
 obtain ⟨hB,v,hbk,hown,hne⟩:=h1
 have c0:w1.cell? ⟨b,0,none⟩=some (.pointer (some ⟨b,0,none⟩)):=by rw [Lib.cell_of_heap hbk];rfl
 have c1:w1.cell? ⟨b,1,none⟩=some v:=by rw [Lib.cell_of_heap hbk];rfl
 go_wp2_with (at_builtin;refine wpList_append_own _ rfl _ _ 39 rfl B 5 i0 (.int .u8 0) 1 1 Tryz.underlying39 hi hz0 hz1 hz2 rfl (by decide) _ _ _ rfl (hown.alloc _) ⟨w1.heap.size,0,none⟩ 1 1 [.int .u8 c] rfl rfl ?c1 ?c2 ?c3 ?c4 ?c5 ?_)
 case c1=>
  intro j u hj
  match j,hj with
  | 0,hj=>simp at hj;subst hj;simp [Addr.add]
 case c2=>intro u hu;simp at hu;subst hu;rfl
 case c3=>unfold maxLen;omega
 case c4=>omega
 case c5=>have:=hb1.size;simp;omega
 intro v' w2 hown' hgrow _
 have hlt:b < w1.heap.size:=by
  rcases Nat.lt_or_ge b w1.heap.size with h'|h'
  ·exact h'
  ·simp [Array.getElem?_eq_none h'] at hbk
 have hb2:w2.heap[b]?=some (.cells #[.pointer (some ⟨b,0,none⟩),v] 74 (0,0)):=by
  rw [hgrow.block b (by simp;omega) (fun e=>hne e.symm),Lib.alloc_old w1 _ b hlt]
  exact hbk
 have d0:w2.cell? ⟨b,0,none⟩=some (.pointer (some ⟨b,0,none⟩)):=by rw [Lib.cell_of_heap hb2];rfl
 have d1:w2.cell? ⟨b,1,none⟩=some v:=by rw [Lib.cell_of_heap hb2];rfl
 have f1:w2.frozen? ⟨b,1,none⟩=false:=Lib.frozen_of_heap hb2 1
 obtain ⟨g,cap,rfl⟩:∃g cap,v'=.slice (some ⟨g,0,none⟩) (bs.length+1) cap:=by
  rcases hown'.2 with ⟨_,h0⟩|⟨g,cap,cur,hv,_⟩
  ·omega
  ·exact ⟨g,cap,hv⟩
 go_wp2
 go_ret
 refine ⟨rfl,?_,?_⟩
 ·exact Lib.BuilderAt.put (T:=74) (e:=5) hB hb2 (bs':=bs++[.int .u8 c]) (by simpa using hown') Xa7.neB5
 ·exact ((hb1.alloc (by have:=hb1.size;omega) _).grown hgrow (by have:=hb1.size;simp;omega) (fun k hk=>(hown.lt k hk).1)).setCell (p:=⟨b,1,none⟩) hB _
end Go.Proofs.YtdpobjakdplljaaGreatDoor

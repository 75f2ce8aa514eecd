import Derived.Test.YtdpobjakdplljaaGreatDoorY13
import Derived.Test.YtdpobjakdplljaaGreatDoorY8
import Derived.Test.YtdpobjakdplljaaGreatDoorY9
import Derived.Test.YtdpobjakdplljaaGreatDoorY11
/- The reference's parser: what it sees. -/
set_option linter.unusedSimpArgs false
set_option linter.unusedVariables false
set_option maxRecDepth 100000
set_option maxHeartbeats 8000000
namespace Go.Proofs.YtdpobjakdplljaaGreatDoor
open Go.RowKit
def pc (ts:List Tok) (k:Nat) (e l c:Int) (sv:AV):List AV:=[.sq ts.length (ta ts),.x (.int .i64 k),.x (.int .i64 e),.x (.int .i64 l),.x (.int .i64 c),sv]
def Tok.av (t:Tok):AV:=.x (.agg #[.int .i64 t.kind,.string (bs t.text),.int .i64 (t.line:Nat),.int .i64 (t.col:Nat)])
theorem Xkx (ts:List Tok) (k:Nat) (e l c:Int) (sv:AV) (hk:k < ts.length) (hl:ts.length≤1000000):Xa3 Tryz.prog 187 [] [.at_ (pc ts k e l c sv)] (fun r H'=>r=ts[k].av∧H'=[]):=by
 unfold pc
 refine XaD Tryz.func187 rfl ?_
 simp only [Tryz.ntmps187,Xvy,XvB,XvC,XvD,XvG,XvF,Nat.reduceAdd,Nat.reduceSub]
 (repeat' (first|with_reducible (first|refine Xag ?_|refine Xac ?_|refine Xae ?_|refine Xaa ?_)|(refine Xai rfl ?_;((refine Xas 14 rfl ?_;(refine XaK _ _ rfl Xbk.out rfl (fun b=>?_)));apply Xah;(case hT=>((try simp only [wtn]);rfl));(case hH=>((try simp only [wtn]);rfl))))|fail))
 refine XcH mixed ?_
 (apply Xbj 0 rfl rfl (by kernel_rfl) (by intro c T H hp;simp [XaO,Xat,XaT,Xbr] at hp);(case h=>(first|exact Xbd _ rfl|fail));(apply XaA;(case hT=>((try simp only [wtn]);rfl));(case hH=>rfl)));(apply Xbj 1 rfl rfl (by kernel_rfl) (by intro c T H hp;simp [XaO,Xat,XaT,Xbr] at hp);(case h=>(first|exact Xgb _ _ rfl rfl|fail));(apply XaA;(case hT=>((try simp only [wtn]);rfl));(case hH=>rfl)));(apply Xbj 2 rfl rfl (by kernel_rfl) (by intro c T H hp;simp [XaO,Xat,XaT,Xbr] at hp);(case h=>(first|exact XeK _ _ _ _ _ rfl rfl Xa5.out|fail));(apply XaA;(case hT=>((try simp only [wtn]);rfl));(case hH=>rfl)));(apply Xbj 4 rfl rfl (by kernel_rfl) (by intro c T H hp;simp [XaO,Xat,XaT,Xbr] at hp);(case h=>(first|exact Xbd _ rfl|fail));(apply XaA;(case hT=>((try simp only [wtn]);rfl));(case hH=>rfl)));(apply Xbj 5 rfl rfl (by kernel_rfl) (by intro c T H hp;simp [XaO,Xat,XaT,Xbr] at hp);(case h=>(first|exact Xgb _ _ rfl rfl|fail));(apply XaA;(case hT=>((try simp only [wtn]);rfl));(case hH=>rfl)));(apply Xbj 6 rfl rfl (by kernel_rfl) (by intro c T H hp;simp [XaO,Xat,XaT,Xbr] at hp);(case h=>(first|exact XeK _ _ _ _ _ rfl rfl Xa5.out|fail));(apply XaA;(case hT=>((try simp only [wtn]);rfl));(case hH=>rfl)))
 refine Xrh 3 7 (by decide +kernel) rfl rfl rfl rfl ?_ ?_
 ·(first|(apply Xba;(case h=>(apply Xab 6 rfl;(exact XaF _ _ _ _ _ rfl rfl XaN.out (by first|exact Xvu rfl|fail) (by first|exact Xvu rfl|fail))));(apply XaA;(case hT=>((try simp only [wtn]);rfl));(case hH=>rfl)))|fail)
  (refine Xbp 7 (by decide +kernel) rfl rfl ?_;(first|(apply Xba;(case h=>(apply Xab 6 rfl;(exact XaF _ _ _ _ _ rfl rfl XaN.out (by first|exact Xvu rfl|fail) (by first|exact Xvu rfl|fail))));(apply XaA;(case hT=>((try simp only [wtn]);rfl));(case hH=>rfl)))|fail))
  (repeat ((first|refine Xbp 8 (by decide +kernel) rfl rfl ?_|refine Xbp 9 (by decide +kernel) rfl rfl ?_|refine Xbp 10 (by decide +kernel) rfl rfl ?_|fail);(first|(apply Xba;(case h=>(first|(apply Xab 6 rfl;(exact XaF _ _ _ _ _ rfl rfl XaN.out (by first|exact Xvu rfl|fail) (by first|exact Xvu rfl|fail)))|(apply Xab 7 rfl;(exact XaG _ _ _ _ _ _ _ _ _ _ rfl rfl rfl HEl.out rfl (by first|omega|fail) (by simp;first|omega|fail)))));(apply XaA;(case hT=>((try simp (disch:=assumption) only [wtn,XeB,Tok.cells,Xvz,Xvw,Xvx,XvA,XvE,Nat.reduceAdd,Nat.reduceMul,Nat.reduceSub,↓reduceIte,Nat.reduceEqDiff]);rfl));(case hH=>rfl)))|((refine Xas 16 rfl ?_;(refine Xaw _ _ _ _ _ _ _ rfl rfl XaS.out XaR.out (by first|rfl|fail) (by first|exact Xvu rfl|fail) ?_));apply XaA;(case hT=>((try simp (disch:=omega) only [wtn,XeB,Tok.cells,Xvz,Xvw,Xvx,XvA,XvE,Nat.reduceAdd,Nat.reduceMul,Nat.reduceSub,↓reduceIte,Nat.reduceEqDiff]);rfl));(case hH=>((try simp (disch:=omega) only [wtn,XeB,Tok.cells,Xvz,Xvw,Xvx,XvA,XvE,Nat.reduceAdd,Nat.reduceMul,Nat.reduceSub,↓reduceIte,Nat.reduceEqDiff]);rfl)))|fail)))
  refine Xa4 (by decide +kernel) ?_
  (repeat' (first|with_reducible (first|refine Xar ?_|refine Xaa ?_)|fail))
  refine Xaf _ _ (Xbh rfl (RV.cell 0 rfl rfl XaN.out (by simp) (by simp)) (XaH.mk' [_] [] (Xvv _) XaB.nil (VwL.refl _ _))) ?_
  exact ⟨rfl,rfl⟩
 ·(first|(apply Xba;(case h=>(apply Xab 6 rfl;(exact XaF _ _ _ _ _ rfl rfl XaN.out (by first|exact Xvu rfl|fail) (by first|exact Xvu rfl|fail))));(apply XaA;(case hT=>((try simp only [wtn]);rfl));(case hH=>rfl)))|fail)
  (refine Xbp 3 (by decide +kernel) rfl rfl ?_;(first|(apply Xba;(case h=>(apply Xab 6 rfl;(exact XaF _ _ _ _ _ rfl rfl XaN.out (by first|exact Xvu rfl|fail) (by first|exact Xvu rfl|fail))));(apply XaA;(case hT=>((try simp only [wtn]);rfl));(case hH=>rfl)))|fail))
  (repeat ((first|refine Xbp 8 (by decide +kernel) rfl rfl ?_|refine Xbp 9 (by decide +kernel) rfl rfl ?_|refine Xbp 10 (by decide +kernel) rfl rfl ?_|fail);(first|(apply Xba;(case h=>(first|(apply Xab 6 rfl;(exact XaF _ _ _ _ _ rfl rfl XaN.out (by first|exact Xvu rfl|fail) (by first|exact Xvu rfl|fail)))|(apply Xab 7 rfl;(exact XaG _ _ _ _ _ _ _ _ _ _ rfl rfl rfl HEl.out rfl (by first|omega|fail) (by simp;first|omega|fail)))));(apply XaA;(case hT=>((try simp (disch:=assumption) only [wtn,XeB,Tok.cells,Xvz,Xvw,Xvx,XvA,XvE,Nat.reduceAdd,Nat.reduceMul,Nat.reduceSub,↓reduceIte,Nat.reduceEqDiff]);rfl));(case hH=>rfl)))|((refine Xas 16 rfl ?_;(refine Xaw _ _ _ _ _ _ _ rfl rfl XaS.out XaR.out (by first|rfl|fail) (by first|exact Xvu rfl|fail) ?_));apply XaA;(case hT=>((try simp (disch:=omega) only [wtn,XeB,Tok.cells,Xvz,Xvw,Xvx,XvA,XvE,Nat.reduceAdd,Nat.reduceMul,Nat.reduceSub,↓reduceIte,Nat.reduceEqDiff]);rfl));(case hH=>((try simp (disch:=omega) only [wtn,XeB,Tok.cells,Xvz,Xvw,Xvx,XvA,XvE,Nat.reduceAdd,Nat.reduceMul,Nat.reduceSub,↓reduceIte,Nat.reduceEqDiff]);rfl)))|fail)))
  refine Xa4 (by decide +kernel) ?_
  (repeat' (first|with_reducible (first|refine Xar ?_|refine Xaa ?_)|fail))
  refine Xaf _ _ (Xbh rfl (RV.cell 0 rfl rfl XaN.out (by simp) (by simp)) (XaH.mk' [_] [] (Xvv _) XaB.nil (VwL.refl _ _))) ?_
  exact ⟨rfl,rfl⟩
theorem Xca (ts:List Tok) (k:Nat) (e l c:Int) (sv:AV):Xa3 Tryz.prog 189 [] [.at_ (pc ts k e l c sv)] (fun r H'=>r=.x (.bool (!(e == 0)))∧H'=[]):=by
 unfold pc
 refine XaD Tryz.func189 rfl ?_
 simp only [Tryz.ntmps189,Xvy,XvB,XvC,XvD,XvG,XvF,Nat.reduceAdd,Nat.reduceSub]
 (repeat' (first|with_reducible (first|refine Xag ?_|refine Xac ?_|refine Xar ?_|refine Xae ?_|refine Xaa ?_)|((apply Xad rfl);(case h=>(first|(apply Xab 0 rfl;(first|exact Xap _ rfl|exact Xan _ rfl))|(apply Xab 4 rfl;(exact Xbl _ rfl (by first|exact .inr ⟨_,rfl⟩|fail)))|(apply Xab 5 rfl;(exact XbV _ _ _ _ _ rfl rfl Xa5.out))|(apply Xab 6 rfl;(exact XaF _ _ _ _ _ rfl rfl XaN.out (by first|exact Xvu rfl|fail) (by first|exact Xvu rfl|fail)))|(apply XaC;(case hs=>(intro _ _ h;cases h));(case hx=>rfl);(case hrun=>(intro w;simp [wtb,AV.val,go_sem];skip;rfl)))));(case hT=>((try simp only [wtn]);rfl)))|fail))
 refine Xaf _ _ (Xbh rfl (RV.tmp _) (XaH.mk' [] _ (Xvv _) (XaB.refl _ _) (VwL.refl _ _))) ?_
 exact ⟨rfl,rfl⟩
def isP (ts:List Tok) (k:Nat) (e:Int) (kind:Int) (s:List UInt8):Bool:=e == 0 && (match ts[k]? with|some t=>t.kind == kind && t.text == s|none=>false)
theorem XuW (ts:List Tok) (k:Nat) (e l c:Int) (sv:AV) (kind:Int) (s:List UInt8) (hk:k < ts.length) (hl:ts.length≤1000000):Xa3 Tryz.prog 201 [] [.at_ (pc ts k e l c sv),.x (.int .i64 kind),.x (.string (bs s))] (fun r H'=>r=.x (.bool (isP ts k e kind s))∧H'=[]):=by
 have hn:=Xkx ts k e l c sv hk hl
 have hf:=Xca ts k e l c sv
 unfold Tok.av at hn
 refine XaD Tryz.func201 rfl ?_
 simp only [Tryz.ntmps201,Xvy,XvB,XvC,XvD,XvG,XvF,Nat.reduceAdd,Nat.reduceSub]
 (repeat' (first|with_reducible (first|refine Xag ?_|refine Xac ?_|refine Xar ?_|refine Xae ?_|refine Xaa ?_)|((first|apply Xad rfl|apply Xa8 _ _ rfl rfl rfl);(case h=>((try (intro (hp:(_:Bool)=true);((try simp only [Bool.and_eq_true] at hp);(try simp only [hp,wte]);(try simp only [whn] at hp))));(first|(apply Xab 0 rfl;(first|exact Xap _ rfl|exact Xan _ rfl))|(apply Xab 1 rfl;(exact XbC _ _ _ _ _ rfl rfl rfl rfl))|(apply Xab 11 rfl;(first|exact Xay 187 Tryz.f187 _ _ rfl rfl Tryz.func187 (by decide) rfl (VwL.refl _ _) (hn)|exact Xay 189 Tryz.f189 _ _ rfl rfl Tryz.func189 (by decide) rfl (VwL.refl _ _) (hf)))|(apply XaC;(case hs=>(intro _ _ h;cases h));(case hx=>rfl);(case hrun=>(intro w;simp [wtb,AV.val,go_sem];skip;rfl))))));(case hT=>((try simp only [wtn]);rfl)))|fail))
 refine Xaf _ _ (Xbh rfl (RV.tmp _) (XaH.mk' [] _ (Xvv _) (XaB.refl _ _) (VwL.refl _ _))) ?_
 refine ⟨?_,rfl⟩
 simp [ev,isP,hk,Bool.and_assoc]
theorem XlA (l:List (List UInt8)) (s:List UInt8) (hl:l.length≤1000000):Xa3 Tryz.prog 206 [] [.sq l.length (sa l),.x (.string (bs s))] (fun r H'=>r=.x (.bool (decide (s∈l)))∧H'=[]):=by
 refine XaD Tryz.func206 rfl ?_
 simp only [Tryz.ntmps206,Xvy,XvB,XvC,XvD,XvG,XvF,Nat.reduceAdd,Nat.reduceSub]
 (repeat' (first|with_reducible (first|refine Xag ?_|refine Xac ?_|refine Xao ?_|refine Xae ?_|refine Xaa ?_)|((apply Xad rfl);(case h=>(apply Xab 0 rfl;(exact Xan _ rfl)));(case hT=>((try simp only [wtn]);rfl)))|fail))
 refine XaQ (S:=Nat) (fun k=>frm 18 [(0,.sq l.length (sa l)),(1,.x (.string (bs s))),(5,.x (.int .i64 k))]) (fun _=>[]) (fun k=>k≤l.length∧s ∉ l.take k) (fun k=>l.length - k) 0 (XaH.mk' [] _ (Xvv _) (XaB.refl _ _) (by (repeat' (first|exact VwL.nil|(refine VwL.cons ?_ ?_)|exact Vw.refl _|exact Vw.top _|fail)))) ⟨Nat.zero_le _,by simp⟩ fun k hk=>?_
 simp only [frm,XvC,XvD,Xvw,Xvx,XvJ,XvK]
 obtain ⟨hk,hn⟩:=hk
 have hn':=Lib.hid hn
 clear hn
 (repeat' (first|with_reducible (first|refine Xag ?_|refine Xac ?_|refine Xao ?_|refine Xar ?_|refine Xau ?_|refine XaW ?_|refine Xae ?_|refine Xaa ?_|refine XaL ?_|refine Xax ?_|refine XaJ ?_|refine Xaj ?_|refine Xav ?_)|(refine Xak _ rfl (fun h=>?_) (fun h=>?_)<;>((try (simp only [whn] at h));skip))|((apply Xad rfl);(case h=>(first|(apply Xab 0 rfl;(first|exact Xap _ rfl|exact Xan _ rfl))|(apply Xab 3 rfl;(exact XaX _ _ _ _ _ _ HEl.out rfl rfl))|(apply Xab 6 rfl;(exact XaF _ _ _ _ _ rfl rfl XaN.out (by first|exact Xvu rfl|fail) (by first|exact Xvu rfl|fail)))|(apply Xab 7 rfl;(exact XaG _ _ _ _ _ _ _ _ _ _ rfl rfl rfl HEl.out rfl (by first|omega|fail) (by simp;first|omega|fail)))|(apply XaC;(case hs=>(intro _ _ h;cases h));(case hx=>rfl);(case hrun=>(intro w;simp [wtb,AV.val,go_sem];(try go_bits);rfl)))));(case hT=>((try simp (disch:=assumption) only [wtn,XdF,Xvz,Xvw,Xvx,XvA,XvE,Nat.reduceAdd,Nat.reduceMul,Nat.reduceSub,↓reduceIte,Nat.reduceEqDiff]);rfl)))|fail))
 ·refine Xaf _ _ (Xbh rfl (RV.tmp _) (XaH.mk' [] _ (Xvv _) (XaB.refl _ _) (VwL.refl _ _))) ?_
  exact ⟨by simp [ev,←h],rfl⟩
 ·exact ⟨k+1,by omega,⟨by omega,by rw [Xa0 l k (by assumption)];simp only [List.mem_append,List.mem_singleton,not_or];exact ⟨hn'.out,fun e=>h e.symm⟩⟩,(XaH.mk' [] _ (Xvv _) (XaB.refl _ _) (by (repeat' (first|exact VwL.nil|(refine VwL.cons ?_ ?_)|exact Vw.refl _|exact Vw.top _|fail))))⟩
 ·refine Xaf _ _ (Xbh rfl (RV.tmp _) (XaH.mk' [] _ (Xvv _) (XaB.refl _ _) (VwL.refl _ _))) ?_
  have hn:=hn'.out
  rw [List.take_of_length_le (by omega)] at hn
  exact ⟨by simp [ev,hn],rfl⟩
def VT (ts:List Tok):Prop:=∀k,(h:k < ts.length)→ts[k].kind≠6→k+1 < ts.length
structure St (ts:List Tok) (k:Nat) (e:Int) (k':Nat) (e':Int):Prop where
 le:k≤k'
 lt:k' < ts.length
 bad:e'=0→e=0
def Xs6 (s:List UInt8):Int:=if s=[72,85,80] then 1 else if s=[73,78,84] then 2 else if s=[81,85,73,84] then 3 else if s=[85,83,82,49] then 10 else if s=[85,83,82,50] then 12 else if s=[84,69,82,77] then 15 else 0
theorem XlF (s:List UInt8):Xa3 Tryz.prog 208 [] [.x (.string (bs s))] (fun r H'=>r=.x (.int .i64 (Xs6 s))∧H'=[]):=by
 refine XaD Tryz.func208 rfl ?_
 simp only [Tryz.ntmps208,Xvy,XvB,XvC,XvD,XvG,XvF,Nat.reduceAdd,Nat.reduceSub]
 (repeat' (first|with_reducible (first|refine Xag ?_|refine Xac ?_|refine Xao ?_|refine Xar ?_|refine Xau ?_|refine Xae ?_|refine Xaa ?_|refine Xax ?_|refine Xaj ?_|refine Xav ?_)|(refine Xak _ rfl (fun h=>?_) (fun h=>?_)<;>((try (simp only [whn] at h));skip))|((apply Xad rfl);(case h=>(first|(apply Xab 0 rfl;(first|exact Xap _ rfl|exact Xan _ rfl))|(apply XaC;(case hs=>(intro _ _ h;cases h));(case hx=>rfl);(case hrun=>(intro w;simp [wtb,AV.val,go_sem];skip;rfl)))));(case hT=>((try simp only [wtn]);rfl)))|fail))
 all_goals
  refine Xaf _ _ (Xbh rfl (RV.tmp _) (XaH.mk' [] _ (Xvv _) (XaB.refl _ _) (VwL.refl _ _))) ?_
  refine ⟨?_,rfl⟩
  first|(simp [Xs6,ev, *];done)|fail
def XbJ (n:Nat):List UInt8:=if h:n < 10 then [UInt8.ofNat (48+n)] else XbJ (n / 10)++XbJ (n % 10)
termination_by n
decreasing_by
 ·omega
 ·omega
theorem Xee:∀(k n:Nat),n < 10 ^ (k+1)→(XbJ n).length≤k+1
 | 0,n,h=>by rw [XbJ,dif_pos (by omega)];simp
 | k+1,n,h=>by
   rw [XbJ]
   split
   ·simp
   ·rw [XvH]
    have h1:=Xee k (n / 10) (by rw [Nat.pow_succ] at h;omega)
    have h2:=Xee 0 (n % 10) (by omega)
    omega
theorem XlL (n:Nat):Int.tdiv (n:Int) 10=((n / 10:Nat):Int):=rfl
theorem XlN (n:Nat):Int.tmod (n:Int) 10=((n % 10:Nat):Int):=rfl
theorem XbM (n:Nat) (hn:n≤18446744073709551615):(XbJ n).length≤20:=
 Xee 19 n (by have:(10:Nat) ^ (19+1)=100000000000000000000:=by decide
              omega)
theorem XhT (n:Nat) (h10:n < 10):Xa3 Tryz.prog 199 [] [.x (.int .u64 n)] (fun r H'=>r=.x (.string (bs (XbJ n)))∧H'=[]):=by
 refine XaD Tryz.func199 rfl ?_
 simp only [Tryz.ntmps199,Xvy,XvB,XvC,XvD,XvG,XvF,Nat.reduceAdd,Nat.reduceSub]
 (repeat' (first|with_reducible (first|refine Xag ?_|refine Xac ?_|refine Xar ?_|refine Xae ?_|refine Xaa ?_|refine Xax ?_)|(refine Xak _ rfl (fun h=>?_) (fun h=>?_)<;>((try (simp only [whn] at h));first|(exfalso;omega;done)|skip))|((apply Xad rfl);(case h=>(first|(apply Xab 0 rfl;(first|exact Xap _ rfl|exact Xan _ rfl))|(apply Xab 12 rfl;(exact Xbz _ _ 5 _ [_] rfl (by kernel_rfl) (by kernel_rfl) (by kernel_rfl) (Src.chr 0 _ (by omega) (by omega) rfl rfl)))|(apply XaC;(case hs=>(intro _ _ h;cases h));(case hx=>rfl);(case hrun=>(intro w;simp [wtb,AV.val,go_sem];(try go_bits);rfl)))));(case hT=>((try simp only [wtn]);rfl)))|(refine Xai rfl ?_;((refine Xas 17 rfl ?_;(refine XaE _ _ _ _ _ _ _ _ rfl XaY.out (by first|rfl|fail) rfl (by decide) rfl (fun b=>?_)));apply Xah;(case hT=>((try simp only [wtn]);rfl));(case hH=>((try simp only [wtn]);rfl))))|fail))
 refine Xaf _ _ (Xbh rfl (RV.tmp _) (XaH.mk' [_] [] (Xvv _) (XaB.refl _ _) (by first|exact VwL.refl _ _|fail))) ?_
 refine ⟨?_,rfl⟩
 rw [XbJ,dif_pos h10]
 simp only [ev,List.getD_cons_succ,List.getD_cons_zero]
 congr 3
theorem Xkd (n:Nat) (hn:n≤18446744073709551615) (h10:¬n < 10) (h1:Xa3 Tryz.prog 199 [] [.x (.int .u64 (n / 10:Nat))] (fun r H'=>r=.x (.string (bs (XbJ (n / 10))))∧H'=[]))
  (h2:Xa3 Tryz.prog 199 [] [.x (.int .u64 (n % 10:Nat))] (fun r H'=>r=.x (.string (bs (XbJ (n % 10))))∧H'=[])):Xa3 Tryz.prog 199 [] [.x (.int .u64 n)] (fun r H'=>r=.x (.string (bs (XbJ n)))∧H'=[]):=by
 have hL1:=XbM (n / 10) (by omega)
 have hL2:=XbM (n % 10) (by omega)
 refine XaD Tryz.func199 rfl ?_
 simp only [Tryz.ntmps199,Xvy,XvB,XvC,XvD,XvG,XvF,Nat.reduceAdd,Nat.reduceSub]
 (repeat' (first|with_reducible (first|refine Xag ?_|refine Xac ?_|refine Xar ?_|refine Xau ?_|refine Xae ?_|refine Xaa ?_)|(refine Xak _ rfl (fun h=>?_) (fun h=>?_)<;>((try (simp only [whn] at h));first|(exfalso;omega;done)|skip))|((apply Xad rfl);(case h=>(first|(apply Xab 0 rfl;(first|exact Xap _ rfl|exact Xan _ rfl))|(apply Xab 11 rfl;(first|exact Xay 199 Tryz.f199 _ _ rfl rfl Tryz.func199 (by decide) rfl (VwL.refl _ _) (h1)|exact Xay 199 Tryz.f199 _ _ rfl rfl Tryz.func199 (by decide) rfl (VwL.refl _ _) (h2)))|(apply Xab 12 rfl;(exact Xbv _ _ _ _ rfl rfl rfl (by omega)))|(apply XaC;(case hs=>(intro _ _ h;cases h));(case hx=>rfl);(case hrun=>(intro w;simp [wtb,AV.val,go_sem];(try go_bits);rfl)))));(case hT=>((try simp (disch:=omega) only [wtn,XlL,XlN,Xvz,Xvw,Xvx,XvA,XvE,Nat.reduceAdd,Nat.reduceMul,Nat.reduceSub,↓reduceIte,Nat.reduceEqDiff]);rfl)))|fail))
 refine Xaf _ _ (Xbh rfl (RV.tmp _) (XaH.mk' [] _ (Xvv _) (XaB.refl _ _) (VwL.refl _ _))) ?_
 refine ⟨?_,rfl⟩
 conv=>rhs;rw [XbJ,dif_neg h10]
 rfl
theorem XnL (n:Nat) (hn:n≤18446744073709551615):Xa3 Tryz.prog 199 [] [.x (.int .u64 n)] (fun r H'=>r=.x (.string (bs (XbJ n)))∧H'=[]):=by
 induction n using Nat.strongRecOn with
 | _ n ih=>
   by_cases h10:n < 10
   ·exact XhT n h10
   ·exact Xkd n hn h10 (ih (n / 10) (by omega) (by omega)) (ih (n % 10) (by omega) (by omega))
def XdD (n:Int):List UInt8:=if n=3 then [97,108,119,97,121,115] else if n=2 then [111,110,45,102,97,105,108,117,114,101] else if n=1 then [110,101,118,101,114] else [63]
theorem XqL (n:Int):Xa3 Tryz.prog 198 [] [.x (.int .i64 n)] (fun r H'=>r=.x (.string (bs (XdD n)))∧H'=[]):=by
 refine XaD Tryz.func198 rfl ?_
 simp only [Tryz.ntmps198,Xvy,XvB,XvC,XvD,XvG,XvF,Nat.reduceAdd,Nat.reduceSub]
 (repeat' (first|with_reducible (first|refine Xag ?_|refine Xac ?_|refine Xao ?_|refine Xar ?_|refine Xau ?_|refine Xae ?_|refine Xaa ?_|refine Xax ?_|refine Xaj ?_|refine Xav ?_)|(refine Xak _ rfl (fun h=>?_) (fun h=>?_)<;>((try (simp only [whn] at h));skip))|((apply Xad rfl);(case h=>(first|(apply Xab 0 rfl;(first|exact Xap _ rfl|exact Xan _ rfl))|(apply XaC;(case hs=>(intro _ _ h;cases h));(case hx=>rfl);(case hrun=>(intro w;simp [wtb,AV.val,go_sem];skip;rfl)))));(case hT=>((try simp only [wtn]);rfl)))|fail))
 all_goals
  refine Xaf _ _ (Xbh rfl (RV.tmp _) (XaH.mk' [] _ (Xvv _) (XaB.refl _ _) (VwL.refl _ _))) ?_
  refine ⟨?_,rfl⟩
  first|(simp [XdD,ev, *,bs];done)|fail
def XcZ:List (List UInt8):=[[72,85,80],[73,78,84],[81,85,73,84],[85,83,82,49],[85,83,82,50],[84,69,82,77]]
def Xg5 (n:Int):List UInt8:=match XcZ.find? (fun s=>Xs6 s == n) with|some s=>s|none=>[63]
theorem Xmj {α:Type} (l:List α) (p:α→Bool) (k:Nat) (h:k < l.length) (hn:∀x∈l.take k,p x=false) (hp:p l[k]=true):l.find? p=some l[k]:=by
 rw [List.find?_eq_some_iff_getElem]
 refine ⟨hp,k,h,rfl,fun j hj=>?_⟩
 rw [hn l[j] (List.mem_iff_getElem.2 ⟨j,by rw [List.length_take];omega,by rw [List.getElem_take]⟩)];rfl
theorem XoC:XcZ.length=6:=rfl
theorem Xpc (n:Int):Xa3 Tryz.prog 200 [] [.x (.int .i64 n)] (fun r H'=>r=.x (.string (bs (Xg5 n)))∧H'=[]):=by
 refine XaD Tryz.func200 rfl ?_
 simp only [Tryz.ntmps200,Xvy,XvB,XvC,XvD,XvG,XvF,Nat.reduceAdd,Nat.reduceSub]
 (repeat' (first|with_reducible (first|refine Xag ?_|refine Xac ?_|refine Xao ?_|refine Xae ?_|refine Xaa ?_)|((apply Xad rfl);(case h=>(apply Xab 0 rfl;(exact Xan _ rfl)));(case hT=>((try simp only [wtn]);rfl)))|(refine Xai rfl ?_;((refine Xas 17 rfl ?_;(refine XaE _ _ _ _ _ _ _ _ rfl XaY.out (by first|rfl|fail) rfl (by decide) rfl (fun b=>?_)));apply Xah;(case hT=>((try simp only [wtn]);rfl));(case hH=>((try simp only [wtn]);rfl))))|fail))
 refine XaQ (S:=Nat) (fun k=>frm 23 [(0,.x (.int .i64 n)),(3,.x (.slice (some ⟨b,0,none⟩) 6 6)),(4,.x (.int .i64 k))]) (fun _=>[.row (some ⟨b,0,none⟩) 6 6 9 1 (sa XcZ)]) (fun k=>k≤6∧∀x∈XcZ.take k,(Xs6 x == n)=false) (fun k=>6 - k) 0 (XaH.mk' [] _ (Xvv _) (XaB.refl _ _) (by (repeat' (first|exact VwL.nil|(refine VwL.cons ?_ ?_)|exact Vw.refl _|exact Vw.top _|fail)))) ⟨Nat.zero_le _,by simp⟩ fun k hk=>?_
 obtain ⟨hk,hn⟩:=hk
 have hn':=Lib.hid hn
 clear hn
 have hnl:=XoC
 simp only [frm,XvC,XvD,Xvw,Xvx,XvJ,XvK]
 (repeat' (first|with_reducible (first|refine Xag ?_|refine Xac ?_|refine Xao ?_|refine Xar ?_|refine Xau ?_|refine XaW ?_|refine Xae ?_|refine Xaa ?_|refine XaL ?_|refine Xax ?_|refine XaJ ?_|refine Xaj ?_|refine Xav ?_)|(refine Xak _ rfl (fun h=>?_) (fun h=>?_)<;>((try (simp only [whn] at h));skip))|((apply Xad rfl);(case h=>(first|(apply Xab 0 rfl;(first|exact Xap _ rfl|exact Xan _ rfl))|(apply Xab 6 rfl;(exact Xdg _ _ _ _ _ _ _ _ _ _ _ _ rfl rfl Xb3.out XaN.out (by first|(simp [wlq];omega)|fail) (by first|(simp [wlq];omega)|fail)))|(apply Xab 7 rfl;(exact XhG _ _ _ _ _ _ _ _ _ _ _ _ rfl rfl rfl HEl.out rfl (by first|omega|fail)))|(apply Xab 11 rfl;(exact Xay 208 Tryz.f208 _ _ rfl rfl Tryz.func208 (by decide) rfl (VwL.refl _ _) (XlF _)))|(apply XaC;(case hs=>(intro _ _ h;cases h));(case hx=>rfl);(case hrun=>(intro w;simp [wtb,AV.val,go_sem];(try go_bits);rfl)))));(case hT=>((try simp (disch:=omega) only [wtn,XdF,Xvz,Xvw,Xvx,XvA,XvE,Nat.reduceAdd,Nat.reduceMul,Nat.reduceSub,↓reduceIte,Nat.reduceEqDiff]);rfl)))|fail))
 ·refine Xaf _ _ (Xbh rfl (RV.tmp _) (XaH.mk' [_] [] (Xvv _) (XaB.refl _ _) (by first|exact VwL.refl _ _|fail))) ?_
  refine ⟨?_,rfl⟩
  unfold Xg5
  rw [Xmj _ _ k (by omega) hn'.out (by simp [h])]
  rfl
 ·exact ⟨k+1,by omega,⟨by omega,by rw [Xa0 _ k (by omega)];intro x hx;rcases List.mem_append.1 hx with hx|hx;exact hn'.out x hx;rw [List.mem_singleton] at hx;subst hx;exact XvM.2 h⟩,(XaH.mk' [] _ (Xvv _) (XaB.refl _ _) (by (repeat' (first|exact VwL.nil|(refine VwL.cons ?_ ?_)|exact Vw.refl _|exact Vw.top _|fail))))⟩
 ·refine Xaf _ _ (Xbh rfl (RV.tmp _) (XaH.mk' [_] [] (Xvv _) (XaB.refl _ _) (by first|exact VwL.refl _ _|fail))) ?_
  refine ⟨?_,rfl⟩
  unfold Xg5
  have hn:=hn'.out
  rw [List.take_of_length_le (by omega)] at hn
  have:XcZ.find? (fun s=>Xs6 s == n)=none:=by rw [List.find?_eq_none];intro x hx;rw [hn x hx];simp
  rw [this]
  rfl
def slB (b:UInt8):List UInt8:=if b.toNat=47 then [92,b] else [b]
theorem Xs9 (b:UInt8):(slB b).length≤2:=by unfold slB;split<;>simp
def XbT (s:List UInt8):List UInt8:=s.flatMap slB
theorem XkS (s:List UInt8) (k:Nat) (h:k < s.length):XbT (s.take (k+1))=XbT (s.take k)++slB s[k]:=by
 unfold XbT;rw [Xa0 s k h,List.flatMap_append];congr 1;simp
theorem Xfv (s:List UInt8):(XbT s).length≤2*s.length:=by
 unfold XbT
 induction s with
 | nil=>simp
 | cons b s ih=>have:=Xs9 b;simp only [List.flatMap_cons,XvH,Xvy];omega
theorem XkT (s:List UInt8) (hl:s.length≤1000000):Xa3 Tryz.prog 197 [] [.x (.string (bs s))] (fun r H'=>r=.x (.string (bs (XbT s)))∧H'=[]):=by
 refine XaD Tryz.func197 rfl ?_
 simp only [Tryz.ntmps197,Xvy,XvB,XvC,XvD,XvG,XvF,Nat.reduceAdd,Nat.reduceSub]
 (repeat' (first|with_reducible (first|refine Xag ?_|refine Xac ?_|refine Xao ?_|refine Xae ?_|refine Xaa ?_)|((apply Xad rfl);(case h=>(apply Xab 0 rfl;(exact Xan _ rfl)));(case hT=>((try simp only [wtn]);rfl)))|fail))
 refine Xbt 5 1 ?_
 refine XaQ (S:=Nat × Option Addr × Nat) (fun q=>frm 26 [(0,.x (.string (bs s))),(3,.x (.slice q.2.1 (XbT (s.take q.1)).length q.2.2)),(4,.x (.int .i64 q.1))]) (fun q=>[.row q.2.1 (XbT (s.take q.1)).length q.2.2 5 1 (u8a (XbT (s.take q.1)))]) (fun q=>q.1≤s.length) (fun q=>s.length - q.1) (0,none,0) ?a (Nat.zero_le _) fun q hq=>?_
 case a=>exact (XaH.mk' [] _ (Xvv _) (XaB.refl _ _) (by (repeat' (first|exact VwL.nil|(refine VwL.cons ?_ ?_)|exact Vw.refl _|exact Vw.top _|fail))))
 obtain ⟨k,ad,cap⟩:=q
 simp only at hq
 have hsl:=Xfv (s.take k)
 rw [List.length_take] at hsl
 simp only [frm,XvC,XvD,Xvw,Xvx,XvJ,XvK]
 by_cases hk:k < s.length
 ·have hsu:=Lib.hid (XkS s k hk)
  (repeat' (first|with_reducible (first|refine Xag ?_|refine Xac ?_|refine Xao ?_|refine Xau ?_|refine Xae ?_|refine Xaa ?_|refine Xaj ?_)|(refine Xak _ rfl (fun h=>?_) (fun h=>?_)<;>((try (simp only [whn] at h));first|(exfalso;omega;done)|skip))|((apply Xad rfl);(case h=>(first|(apply Xab 0 rfl;(first|exact Xap _ rfl|exact Xan _ rfl))|(apply Xab 8 rfl;(exact Xbb _ _ _ _ _ _ _ rfl rfl rfl (by kernel_rfl) rfl (by omega)))|(apply XaC;(case hs=>(intro _ _ h;cases h));(case hx=>rfl);(case hrun=>(intro w;simp [wtb,AV.val,go_sem];(try go_bits);rfl)))));(case hT=>((try simp (disch:=assumption) only [wtn,Xet,Xfk,Xvz,Xvw,Xvx,XvA,XvE,Nat.reduceAdd,Nat.reduceMul,Nat.reduceSub,↓reduceIte,Nat.reduceEqDiff]);rfl)))|(refine Xai rfl ?_;((first|(refine Xas 13 rfl ?_;(refine XaP _ _ _ _ _ _ _ _ _ _ _ _ _ _ rfl rfl Xb3.out (Src.row _ rfl Xb3.out) XaY.out (by first|rfl|fail) (XdQ _ _ (by omega) (by decide)) (fun ad cap=>?_)))|(refine Xas 17 rfl ?_;(refine XaE _ _ _ _ _ _ _ _ rfl XaY.out (by first|rfl|fail) rfl (by decide) rfl (fun b=>?_))));apply Xah;(case hT=>((try simp (disch:=omega) only [wtn,Xet,Xfk,Xvz,Xvw,Xvx,XvA,XvE,Nat.reduceAdd,Nat.reduceMul,Nat.reduceSub,↓reduceIte,Nat.reduceEqDiff]);rfl));(case hH=>((try simp (disch:=omega) only [wtn,Xet,Xfk,Xvz,Xvw,Xvx,XvA,XvE,Nat.reduceAdd,Nat.reduceMul,Nat.reduceSub,↓reduceIte,Nat.reduceEqDiff]);rfl))))|fail))
  ·have e:XbT (s.take (k+1))=XbT (s.take k)++[92,s[k]]:=by rw [hsu.out];congr 1;unfold slB;rw [if_pos (by omega)]
   refine ⟨(k+1,ad,cap),by simp only;omega,by simp only;omega,?_⟩
   simp only [e,Xcz,Xcl,Xdn,List.append_assoc,XvG,XvF,XvH,Xvy,XvB]
   exact (XaH.mk' [_,_] [_] (Xvv _) (XaB.refl _ _) (by (repeat' (first|exact VwL.nil|(refine VwL.cons ?_ ?_)|exact Vw.refl _|exact Vw.top _|fail))))
  ·have e:XbT (s.take (k+1))=XbT (s.take k)++[s[k]]:=by rw [hsu.out];congr 1;unfold slB;rw [if_neg (by omega)]
   refine ⟨(k+1,ad,cap),by simp only;omega,by simp only;omega,?_⟩
   simp only [e,Xcz,Xcl,Xdn,XvH,Xvy,XvB]
   exact (XaH.mk' [_] [_] (Xvv _) (XaB.refl _ _) (by (repeat' (first|exact VwL.nil|(refine VwL.cons ?_ ?_)|exact Vw.refl _|exact Vw.top _|fail))))
 ·obtain rfl:k=s.length:=by omega
  (repeat' (first|with_reducible (first|refine Xag ?_|refine Xac ?_|refine Xar ?_|refine XaW ?_|refine Xae ?_|refine Xaa ?_|refine XaL ?_|refine XaJ ?_)|(refine Xak _ rfl (fun h=>?_) (fun h=>?_)<;>first|(exact absurd h (by decide))|((try (simp only [] at h));skip))|((apply Xad rfl);(case h=>(first|(apply Xab 0 rfl;(first|exact Xap _ rfl|exact Xan _ rfl))|(apply Xab 12 rfl;(exact Xbz _ _ 5 _ _ rfl (by kernel_rfl) (by kernel_rfl) (by kernel_rfl) (Src.row 0 rfl rfl)))|(apply XaC;(case hs=>(intro _ _ h;cases h));(case hx=>rfl);(case hrun=>(intro w;simp [wtb,AV.val,go_sem];skip;rfl)))));(case hT=>((try simp only [wtn]);rfl)))|fail))
  refine Xaf _ _ (Xbh rfl (RV.tmp _) (XaH.mk' [_] [] (Xvv _) (XaB.refl _ _) (by first|exact VwL.refl _ _|fail))) ?_
  refine ⟨?_,rfl⟩
  simp only [ev,List.getD_cons_succ,List.getD_cons_zero,List.take_length]
end Go.Proofs.YtdpobjakdplljaaGreatDoor

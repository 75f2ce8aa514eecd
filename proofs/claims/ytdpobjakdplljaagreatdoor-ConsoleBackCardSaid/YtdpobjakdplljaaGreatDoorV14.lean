import Derived.Test.YtdpobjakdplljaaGreatDoorV13
import Derived.Test.YtdpobjakdplljaaGreatDoorV8
import Derived.Test.YtdpobjakdplljaaGreatDoorV9
import Derived.Test.YtdpobjakdplljaaGreatDoorV11
/- The reference's parser: what it sees. -/
set_option linter.unusedSimpArgs false
set_option linter.unusedVariables false
set_option maxRecDepth 100000
set_option maxHeartbeats 8000000
namespace Go.Proofs.YtdpobjakdplljaaGreatDoor
open Go.RowKit
def pc (ts:List Tok) (k:Nat) (e l c:Int) (sv:AV):List AV:=[.sq ts.length (ta ts),.x (.int .i64 k),.x (.int .i64 e),.x (.int .i64 l),.x (.int .i64 c),sv]
def Tok.av (t:Tok):AV:=.x (.agg #[.int .i64 t.kind,.string (bs t.text),.int .i64 (t.line:Nat),.int .i64 (t.col:Nat)])
theorem Xkx (ts:List Tok) (k:Nat) (e l c:Int) (sv:AV) (hk:k < ts.length) (hl:ts.length≤1000000):Xa8 Tryz.prog 187 [] [.at_ (pc ts k e l c sv)] (fun r H'=>r=ts[k].av∧H'=[]):=by
 unfold pc
 refine XaE Tryz.func187 rfl ?_
 simp only [Tryz.ntmps187,Xu8,Xvb,Xvc,Xvd,Xvg,Xvf,Nat.reduceAdd,Nat.reduceSub]
 (repeat' (first|with_reducible (first|refine Xai ?_|refine Xac ?_|refine Xae ?_|refine Xaa ?_)|(refine Xah rfl ?_;((refine Xaq 14 rfl ?_;(refine XaJ _ _ rfl Xbl.out rfl (fun b=>?_)));apply Xag;(case hT=>((try simp only [wtn]);rfl));(case hH=>((try simp only [wtn]);rfl))))|fail))
 refine XcF mixed ?_
 (apply Xbh 0 rfl rfl (by kernel_rfl) (by intro c T H hp;simp [XaL,Xao,XaQ,Xbo] at hp);(case h=>(first|exact Xbb _ rfl|fail));(apply Xav;(case hT=>((try simp only [wtn]);rfl));(case hH=>rfl)));(apply Xbh 1 rfl rfl (by kernel_rfl) (by intro c T H hp;simp [XaL,Xao,XaQ,Xbo] at hp);(case h=>(first|exact Xf8 _ _ rfl rfl|fail));(apply Xav;(case hT=>((try simp only [wtn]);rfl));(case hH=>rfl)));(apply Xbh 2 rfl rfl (by kernel_rfl) (by intro c T H hp;simp [XaL,Xao,XaQ,Xbo] at hp);(case h=>(first|exact XeN _ _ _ _ _ rfl rfl Xa3.out|fail));(apply Xav;(case hT=>((try simp only [wtn]);rfl));(case hH=>rfl)));(apply Xbh 4 rfl rfl (by kernel_rfl) (by intro c T H hp;simp [XaL,Xao,XaQ,Xbo] at hp);(case h=>(first|exact Xbb _ rfl|fail));(apply Xav;(case hT=>((try simp only [wtn]);rfl));(case hH=>rfl)));(apply Xbh 5 rfl rfl (by kernel_rfl) (by intro c T H hp;simp [XaL,Xao,XaQ,Xbo] at hp);(case h=>(first|exact Xf8 _ _ rfl rfl|fail));(apply Xav;(case hT=>((try simp only [wtn]);rfl));(case hH=>rfl)));(apply Xbh 6 rfl rfl (by kernel_rfl) (by intro c T H hp;simp [XaL,Xao,XaQ,Xbo] at hp);(case h=>(first|exact XeN _ _ _ _ _ rfl rfl Xa3.out|fail));(apply Xav;(case hT=>((try simp only [wtn]);rfl));(case hH=>rfl)))
 refine Xq2 3 7 (by decide +kernel) rfl rfl rfl rfl ?_ ?_
 ·(first|(apply Xa9;(case h=>(apply Xab 6 rfl;(exact XaG _ _ _ _ _ rfl rfl XaM.out (by first|exact Xu4 rfl|fail) (by first|exact Xu4 rfl|fail))));(apply Xav;(case hT=>((try simp only [wtn]);rfl));(case hH=>rfl)))|fail)
  (refine Xbm 7 (by decide +kernel) rfl rfl ?_;(first|(apply Xa9;(case h=>(apply Xab 6 rfl;(exact XaG _ _ _ _ _ rfl rfl XaM.out (by first|exact Xu4 rfl|fail) (by first|exact Xu4 rfl|fail))));(apply Xav;(case hT=>((try simp only [wtn]);rfl));(case hH=>rfl)))|fail))
  (repeat ((first|refine Xbm 8 (by decide +kernel) rfl rfl ?_|refine Xbm 9 (by decide +kernel) rfl rfl ?_|refine Xbm 10 (by decide +kernel) rfl rfl ?_|fail);(first|(apply Xa9;(case h=>(first|(apply Xab 6 rfl;(exact XaG _ _ _ _ _ rfl rfl XaM.out (by first|exact Xu4 rfl|fail) (by first|exact Xu4 rfl|fail)))|(apply Xab 7 rfl;(exact XaI _ _ _ _ _ _ _ _ _ _ rfl rfl rfl HEl.out rfl (by first|omega|fail) (by simp;first|omega|fail)))));(apply Xav;(case hT=>((try simp (disch:=assumption) only [wtn,XeD,Tok.cells,Xu9,Xu6,Xu7,Xva,Xve,Nat.reduceAdd,Nat.reduceMul,Nat.reduceSub,↓reduceIte,Nat.reduceEqDiff]);rfl));(case hH=>rfl)))|((refine Xaq 16 rfl ?_;(refine Xau _ _ _ _ _ _ _ rfl rfl XaU.out XaS.out (by first|rfl|fail) (by first|exact Xu4 rfl|fail) ?_));apply Xav;(case hT=>((try simp (disch:=omega) only [wtn,XeD,Tok.cells,Xu9,Xu6,Xu7,Xva,Xve,Nat.reduceAdd,Nat.reduceMul,Nat.reduceSub,↓reduceIte,Nat.reduceEqDiff]);rfl));(case hH=>((try simp (disch:=omega) only [wtn,XeD,Tok.cells,Xu9,Xu6,Xu7,Xva,Xve,Nat.reduceAdd,Nat.reduceMul,Nat.reduceSub,↓reduceIte,Nat.reduceEqDiff]);rfl)))|fail)))
  refine Xa0 (by decide +kernel) ?_
  (repeat' (first|with_reducible (first|refine Xas ?_|refine Xaa ?_)|fail))
  refine Xaf _ _ (Xbi rfl (RV.cell 0 rfl rfl XaM.out (by simp) (by simp)) (XaH.mk' [_] [] (Xu5 _) XaB.nil (VwL.refl _ _))) ?_
  exact ⟨rfl,rfl⟩
 ·(first|(apply Xa9;(case h=>(apply Xab 6 rfl;(exact XaG _ _ _ _ _ rfl rfl XaM.out (by first|exact Xu4 rfl|fail) (by first|exact Xu4 rfl|fail))));(apply Xav;(case hT=>((try simp only [wtn]);rfl));(case hH=>rfl)))|fail)
  (refine Xbm 3 (by decide +kernel) rfl rfl ?_;(first|(apply Xa9;(case h=>(apply Xab 6 rfl;(exact XaG _ _ _ _ _ rfl rfl XaM.out (by first|exact Xu4 rfl|fail) (by first|exact Xu4 rfl|fail))));(apply Xav;(case hT=>((try simp only [wtn]);rfl));(case hH=>rfl)))|fail))
  (repeat ((first|refine Xbm 8 (by decide +kernel) rfl rfl ?_|refine Xbm 9 (by decide +kernel) rfl rfl ?_|refine Xbm 10 (by decide +kernel) rfl rfl ?_|fail);(first|(apply Xa9;(case h=>(first|(apply Xab 6 rfl;(exact XaG _ _ _ _ _ rfl rfl XaM.out (by first|exact Xu4 rfl|fail) (by first|exact Xu4 rfl|fail)))|(apply Xab 7 rfl;(exact XaI _ _ _ _ _ _ _ _ _ _ rfl rfl rfl HEl.out rfl (by first|omega|fail) (by simp;first|omega|fail)))));(apply Xav;(case hT=>((try simp (disch:=assumption) only [wtn,XeD,Tok.cells,Xu9,Xu6,Xu7,Xva,Xve,Nat.reduceAdd,Nat.reduceMul,Nat.reduceSub,↓reduceIte,Nat.reduceEqDiff]);rfl));(case hH=>rfl)))|((refine Xaq 16 rfl ?_;(refine Xau _ _ _ _ _ _ _ rfl rfl XaU.out XaS.out (by first|rfl|fail) (by first|exact Xu4 rfl|fail) ?_));apply Xav;(case hT=>((try simp (disch:=omega) only [wtn,XeD,Tok.cells,Xu9,Xu6,Xu7,Xva,Xve,Nat.reduceAdd,Nat.reduceMul,Nat.reduceSub,↓reduceIte,Nat.reduceEqDiff]);rfl));(case hH=>((try simp (disch:=omega) only [wtn,XeD,Tok.cells,Xu9,Xu6,Xu7,Xva,Xve,Nat.reduceAdd,Nat.reduceMul,Nat.reduceSub,↓reduceIte,Nat.reduceEqDiff]);rfl)))|fail)))
  refine Xa0 (by decide +kernel) ?_
  (repeat' (first|with_reducible (first|refine Xas ?_|refine Xaa ?_)|fail))
  refine Xaf _ _ (Xbi rfl (RV.cell 0 rfl rfl XaM.out (by simp) (by simp)) (XaH.mk' [_] [] (Xu5 _) XaB.nil (VwL.refl _ _))) ?_
  exact ⟨rfl,rfl⟩
theorem Xb7 (ts:List Tok) (k:Nat) (e l c:Int) (sv:AV):Xa8 Tryz.prog 189 [] [.at_ (pc ts k e l c sv)] (fun r H'=>r=.x (.bool (!(e == 0)))∧H'=[]):=by
 unfold pc
 refine XaE Tryz.func189 rfl ?_
 simp only [Tryz.ntmps189,Xu8,Xvb,Xvc,Xvd,Xvg,Xvf,Nat.reduceAdd,Nat.reduceSub]
 (repeat' (first|with_reducible (first|refine Xai ?_|refine Xac ?_|refine Xas ?_|refine Xae ?_|refine Xaa ?_)|((apply Xad rfl);(case h=>(first|(apply Xab 0 rfl;(first|exact Xar _ rfl|exact Xap _ rfl))|(apply Xab 4 rfl;(exact Xbk _ rfl (by first|exact .inr ⟨_,rfl⟩|fail)))|(apply Xab 5 rfl;(exact XbY _ _ _ _ _ rfl rfl Xa3.out))|(apply Xab 6 rfl;(exact XaG _ _ _ _ _ rfl rfl XaM.out (by first|exact Xu4 rfl|fail) (by first|exact Xu4 rfl|fail)))|(apply XaD;(case hs=>(intro _ _ h;cases h));(case hx=>rfl);(case hrun=>(intro w;simp [wtb,AV.val,go_sem];skip;rfl)))));(case hT=>((try simp only [wtn]);rfl)))|fail))
 refine Xaf _ _ (Xbi rfl (RV.tmp _) (XaH.mk' [] _ (Xu5 _) (XaB.refl _ _) (VwL.refl _ _))) ?_
 exact ⟨rfl,rfl⟩
def isP (ts:List Tok) (k:Nat) (e:Int) (kind:Int) (s:List UInt8):Bool:=e == 0 && (match ts[k]? with|some t=>t.kind == kind && t.text == s|none=>false)
theorem Xuy (ts:List Tok) (k:Nat) (e l c:Int) (sv:AV) (kind:Int) (s:List UInt8) (hk:k < ts.length) (hl:ts.length≤1000000):Xa8 Tryz.prog 201 [] [.at_ (pc ts k e l c sv),.x (.int .i64 kind),.x (.string (bs s))] (fun r H'=>r=.x (.bool (isP ts k e kind s))∧H'=[]):=by
 have hn:=Xkx ts k e l c sv hk hl
 have hf:=Xb7 ts k e l c sv
 unfold Tok.av at hn
 refine XaE Tryz.func201 rfl ?_
 simp only [Tryz.ntmps201,Xu8,Xvb,Xvc,Xvd,Xvg,Xvf,Nat.reduceAdd,Nat.reduceSub]
 (repeat' (first|with_reducible (first|refine Xai ?_|refine Xac ?_|refine Xas ?_|refine Xae ?_|refine Xaa ?_)|((first|apply Xad rfl|apply Xbe _ _ rfl rfl rfl);(case h=>((try (intro (hp:(_:Bool)=true);((try simp only [Bool.and_eq_true] at hp);(try simp only [hp,wte]);(try simp only [whn] at hp))));(first|(apply Xab 0 rfl;(first|exact Xar _ rfl|exact Xap _ rfl))|(apply Xab 1 rfl;(exact XbH _ _ _ _ _ rfl rfl rfl rfl))|(apply Xab 11 rfl;(first|exact XaA 187 Tryz.f187 _ _ rfl rfl Tryz.func187 (by decide) rfl (VwL.refl _ _) (hn)|exact XaA 189 Tryz.f189 _ _ rfl rfl Tryz.func189 (by decide) rfl (VwL.refl _ _) (hf)))|(apply XaD;(case hs=>(intro _ _ h;cases h));(case hx=>rfl);(case hrun=>(intro w;simp [wtb,AV.val,go_sem];skip;rfl))))));(case hT=>((try simp only [wtn]);rfl)))|fail))
 refine Xaf _ _ (Xbi rfl (RV.tmp _) (XaH.mk' [] _ (Xu5 _) (XaB.refl _ _) (VwL.refl _ _))) ?_
 refine ⟨?_,rfl⟩
 simp [ev,isP,hk,Bool.and_assoc]
theorem Xly (l:List (List UInt8)) (s:List UInt8) (hl:l.length≤1000000):Xa8 Tryz.prog 206 [] [.sq l.length (sa l),.x (.string (bs s))] (fun r H'=>r=.x (.bool (decide (s∈l)))∧H'=[]):=by
 refine XaE Tryz.func206 rfl ?_
 simp only [Tryz.ntmps206,Xu8,Xvb,Xvc,Xvd,Xvg,Xvf,Nat.reduceAdd,Nat.reduceSub]
 (repeat' (first|with_reducible (first|refine Xai ?_|refine Xac ?_|refine Xat ?_|refine Xae ?_|refine Xaa ?_)|((apply Xad rfl);(case h=>(apply Xab 0 rfl;(exact Xap _ rfl)));(case hT=>((try simp only [wtn]);rfl)))|fail))
 refine XaW (S:=Nat) (fun k=>frm 18 [(0,.sq l.length (sa l)),(1,.x (.string (bs s))),(5,.x (.int .i64 k))]) (fun _=>[]) (fun k=>k≤l.length∧s ∉ l.take k) (fun k=>l.length - k) 0 (XaH.mk' [] _ (Xu5 _) (XaB.refl _ _) (by (repeat' (first|exact VwL.nil|(refine VwL.cons ?_ ?_)|exact Vw.refl _|exact Vw.top _|fail)))) ⟨Nat.zero_le _,by simp⟩ fun k hk=>?_
 simp only [frm,Xvc,Xvd,Xu6,Xu7,Xvj,Xvk]
 obtain ⟨hk,hn⟩:=hk
 have hn':=Lib.hid hn
 clear hn
 (repeat' (first|with_reducible (first|refine Xai ?_|refine Xac ?_|refine Xat ?_|refine Xas ?_|refine Xaw ?_|refine Xa4 ?_|refine Xae ?_|refine Xaa ?_|refine XaN ?_|refine Xay ?_|refine XaK ?_|refine Xaj ?_|refine Xax ?_)|(refine Xal _ rfl (fun h=>?_) (fun h=>?_)<;>((try (simp only [whn] at h));skip))|((apply Xad rfl);(case h=>(first|(apply Xab 0 rfl;(first|exact Xar _ rfl|exact Xap _ rfl))|(apply Xab 3 rfl;(exact Xa2 _ _ _ _ _ _ HEl.out rfl rfl))|(apply Xab 6 rfl;(exact XaG _ _ _ _ _ rfl rfl XaM.out (by first|exact Xu4 rfl|fail) (by first|exact Xu4 rfl|fail)))|(apply Xab 7 rfl;(exact XaI _ _ _ _ _ _ _ _ _ _ rfl rfl rfl HEl.out rfl (by first|omega|fail) (by simp;first|omega|fail)))|(apply XaD;(case hs=>(intro _ _ h;cases h));(case hx=>rfl);(case hrun=>(intro w;simp [wtb,AV.val,go_sem];(try go_bits);rfl)))));(case hT=>((try simp (disch:=assumption) only [wtn,Xd0,Xu9,Xu6,Xu7,Xva,Xve,Nat.reduceAdd,Nat.reduceMul,Nat.reduceSub,↓reduceIte,Nat.reduceEqDiff]);rfl)))|fail))
 ·refine Xaf _ _ (Xbi rfl (RV.tmp _) (XaH.mk' [] _ (Xu5 _) (XaB.refl _ _) (VwL.refl _ _))) ?_
  exact ⟨by simp [ev,←h],rfl⟩
 ·exact ⟨k+1,by omega,⟨by omega,by rw [XaX l k (by assumption)];simp only [List.mem_append,List.mem_singleton,not_or];exact ⟨hn'.out,fun e=>h e.symm⟩⟩,(XaH.mk' [] _ (Xu5 _) (XaB.refl _ _) (by (repeat' (first|exact VwL.nil|(refine VwL.cons ?_ ?_)|exact Vw.refl _|exact Vw.top _|fail))))⟩
 ·refine Xaf _ _ (Xbi rfl (RV.tmp _) (XaH.mk' [] _ (Xu5 _) (XaB.refl _ _) (VwL.refl _ _))) ?_
  have hn:=hn'.out
  rw [List.take_of_length_le (by omega)] at hn
  exact ⟨by simp [ev,hn],rfl⟩
def VT (ts:List Tok):Prop:=∀k,(h:k < ts.length)→ts[k].kind≠6→k+1 < ts.length
structure St (ts:List Tok) (k:Nat) (e:Int) (k':Nat) (e':Int):Prop where
 le:k≤k'
 lt:k' < ts.length
 bad:e'=0→e=0
def XsF (s:List UInt8):Int:=if s=[72,85,80] then 1 else if s=[73,78,84] then 2 else if s=[81,85,73,84] then 3 else if s=[85,83,82,49] then 10 else if s=[85,83,82,50] then 12 else if s=[84,69,82,77] then 15 else 0
theorem XlD (s:List UInt8):Xa8 Tryz.prog 208 [] [.x (.string (bs s))] (fun r H'=>r=.x (.int .i64 (XsF s))∧H'=[]):=by
 refine XaE Tryz.func208 rfl ?_
 simp only [Tryz.ntmps208,Xu8,Xvb,Xvc,Xvd,Xvg,Xvf,Nat.reduceAdd,Nat.reduceSub]
 (repeat' (first|with_reducible (first|refine Xai ?_|refine Xac ?_|refine Xat ?_|refine Xas ?_|refine Xaw ?_|refine Xae ?_|refine Xaa ?_|refine Xay ?_|refine Xaj ?_|refine Xax ?_)|(refine Xal _ rfl (fun h=>?_) (fun h=>?_)<;>((try (simp only [whn] at h));skip))|((apply Xad rfl);(case h=>(first|(apply Xab 0 rfl;(first|exact Xar _ rfl|exact Xap _ rfl))|(apply XaD;(case hs=>(intro _ _ h;cases h));(case hx=>rfl);(case hrun=>(intro w;simp [wtb,AV.val,go_sem];skip;rfl)))));(case hT=>((try simp only [wtn]);rfl)))|fail))
 all_goals
  refine Xaf _ _ (Xbi rfl (RV.tmp _) (XaH.mk' [] _ (Xu5 _) (XaB.refl _ _) (VwL.refl _ _))) ?_
  refine ⟨?_,rfl⟩
  first|(simp [XsF,ev, *];done)|fail
def Xb5 (n:Nat):List UInt8:=if h:n < 10 then [UInt8.ofNat (48+n)] else Xb5 (n / 10)++Xb5 (n % 10)
termination_by n
decreasing_by
 ·omega
 ·omega
theorem Xeb:∀(k n:Nat),n < 10 ^ (k+1)→(Xb5 n).length≤k+1
 | 0,n,h=>by rw [Xb5,dif_pos (by omega)];simp
 | k+1,n,h=>by
   rw [Xb5]
   split
   ·simp
   ·rw [Xvh]
    have h1:=Xeb k (n / 10) (by rw [Nat.pow_succ] at h;omega)
    have h2:=Xeb 0 (n % 10) (by omega)
    omega
theorem Xt5 (n:Nat):Int.tdiv (n:Int) 10=((n / 10:Nat):Int):=rfl
theorem Xt8 (n:Nat):Int.tmod (n:Int) 10=((n % 10:Nat):Int):=rfl
theorem Xds (n:Nat) (hn:n≤18446744073709551615):(Xb5 n).length≤20:=
 Xeb 19 n (by have:(10:Nat) ^ (19+1)=100000000000000000000:=by decide
              omega)
theorem XhN (n:Nat) (h10:n < 10):Xa8 Tryz.prog 199 [] [.x (.int .u64 n)] (fun r H'=>r=.x (.string (bs (Xb5 n)))∧H'=[]):=by
 refine XaE Tryz.func199 rfl ?_
 simp only [Tryz.ntmps199,Xu8,Xvb,Xvc,Xvd,Xvg,Xvf,Nat.reduceAdd,Nat.reduceSub]
 (repeat' (first|with_reducible (first|refine Xai ?_|refine Xac ?_|refine Xas ?_|refine Xae ?_|refine Xaa ?_|refine Xay ?_)|(refine Xal _ rfl (fun h=>?_) (fun h=>?_)<;>((try (simp only [whn] at h));first|(exfalso;omega;done)|skip))|((apply Xad rfl);(case h=>(first|(apply Xab 0 rfl;(first|exact Xar _ rfl|exact Xap _ rfl))|(apply Xab 12 rfl;(exact XbI _ _ 5 _ [_] rfl (by kernel_rfl) (by kernel_rfl) (by kernel_rfl) (Src.chr 0 _ (by omega) (by omega) rfl rfl)))|(apply XaD;(case hs=>(intro _ _ h;cases h));(case hx=>rfl);(case hrun=>(intro w;simp [wtb,AV.val,go_sem];(try go_bits);rfl)))));(case hT=>((try simp only [wtn]);rfl)))|(refine Xah rfl ?_;((refine Xaq 17 rfl ?_;(refine XaF _ _ _ _ _ _ _ _ rfl XaZ.out (by first|rfl|fail) rfl (by decide) rfl (fun b=>?_)));apply Xag;(case hT=>((try simp only [wtn]);rfl));(case hH=>((try simp only [wtn]);rfl))))|fail))
 refine Xaf _ _ (Xbi rfl (RV.tmp _) (XaH.mk' [_] [] (Xu5 _) (XaB.refl _ _) (by first|exact VwL.refl _ _|fail))) ?_
 refine ⟨?_,rfl⟩
 rw [Xb5,dif_pos h10]
 simp only [ev,List.getD_cons_succ,List.getD_cons_zero]
 congr 3
theorem Xkc (n:Nat) (hn:n≤18446744073709551615) (h10:¬n < 10) (h1:Xa8 Tryz.prog 199 [] [.x (.int .u64 (n / 10:Nat))] (fun r H'=>r=.x (.string (bs (Xb5 (n / 10))))∧H'=[]))
  (h2:Xa8 Tryz.prog 199 [] [.x (.int .u64 (n % 10:Nat))] (fun r H'=>r=.x (.string (bs (Xb5 (n % 10))))∧H'=[])):Xa8 Tryz.prog 199 [] [.x (.int .u64 n)] (fun r H'=>r=.x (.string (bs (Xb5 n)))∧H'=[]):=by
 have hL1:=Xds (n / 10) (by omega)
 have hL2:=Xds (n % 10) (by omega)
 refine XaE Tryz.func199 rfl ?_
 simp only [Tryz.ntmps199,Xu8,Xvb,Xvc,Xvd,Xvg,Xvf,Nat.reduceAdd,Nat.reduceSub]
 (repeat' (first|with_reducible (first|refine Xai ?_|refine Xac ?_|refine Xas ?_|refine Xaw ?_|refine Xae ?_|refine Xaa ?_)|(refine Xal _ rfl (fun h=>?_) (fun h=>?_)<;>((try (simp only [whn] at h));first|(exfalso;omega;done)|skip))|((apply Xad rfl);(case h=>(first|(apply Xab 0 rfl;(first|exact Xar _ rfl|exact Xap _ rfl))|(apply Xab 11 rfl;(first|exact XaA 199 Tryz.f199 _ _ rfl rfl Tryz.func199 (by decide) rfl (VwL.refl _ _) (h1)|exact XaA 199 Tryz.f199 _ _ rfl rfl Tryz.func199 (by decide) rfl (VwL.refl _ _) (h2)))|(apply Xab 12 rfl;(exact Xck _ _ _ _ rfl rfl rfl (by omega)))|(apply XaD;(case hs=>(intro _ _ h;cases h));(case hx=>rfl);(case hrun=>(intro w;simp [wtb,AV.val,go_sem];(try go_bits);rfl)))));(case hT=>((try simp (disch:=omega) only [wtn,Xt5,Xt8,Xu9,Xu6,Xu7,Xva,Xve,Nat.reduceAdd,Nat.reduceMul,Nat.reduceSub,↓reduceIte,Nat.reduceEqDiff]);rfl)))|fail))
 refine Xaf _ _ (Xbi rfl (RV.tmp _) (XaH.mk' [] _ (Xu5 _) (XaB.refl _ _) (VwL.refl _ _))) ?_
 refine ⟨?_,rfl⟩
 conv=>rhs;rw [Xb5,dif_neg h10]
 rfl
theorem XnG (n:Nat) (hn:n≤18446744073709551615):Xa8 Tryz.prog 199 [] [.x (.int .u64 n)] (fun r H'=>r=.x (.string (bs (Xb5 n)))∧H'=[]):=by
 induction n using Nat.strongRecOn with
 | _ n ih=>
   by_cases h10:n < 10
   ·exact XhN n h10
   ·exact Xkc n hn h10 (ih (n / 10) (by omega) (by omega)) (ih (n % 10) (by omega) (by omega))
def XdD (n:Int):List UInt8:=if n=3 then [97,108,119,97,121,115] else if n=2 then [111,110,45,102,97,105,108,117,114,101] else if n=1 then [110,101,118,101,114] else [63]
theorem Xqx (n:Int):Xa8 Tryz.prog 198 [] [.x (.int .i64 n)] (fun r H'=>r=.x (.string (bs (XdD n)))∧H'=[]):=by
 refine XaE Tryz.func198 rfl ?_
 simp only [Tryz.ntmps198,Xu8,Xvb,Xvc,Xvd,Xvg,Xvf,Nat.reduceAdd,Nat.reduceSub]
 (repeat' (first|with_reducible (first|refine Xai ?_|refine Xac ?_|refine Xat ?_|refine Xas ?_|refine Xaw ?_|refine Xae ?_|refine Xaa ?_|refine Xay ?_|refine Xaj ?_|refine Xax ?_)|(refine Xal _ rfl (fun h=>?_) (fun h=>?_)<;>((try (simp only [whn] at h));skip))|((apply Xad rfl);(case h=>(first|(apply Xab 0 rfl;(first|exact Xar _ rfl|exact Xap _ rfl))|(apply XaD;(case hs=>(intro _ _ h;cases h));(case hx=>rfl);(case hrun=>(intro w;simp [wtb,AV.val,go_sem];skip;rfl)))));(case hT=>((try simp only [wtn]);rfl)))|fail))
 all_goals
  refine Xaf _ _ (Xbi rfl (RV.tmp _) (XaH.mk' [] _ (Xu5 _) (XaB.refl _ _) (VwL.refl _ _))) ?_
  refine ⟨?_,rfl⟩
  first|(simp [XdD,ev, *,bs];done)|fail
def XcX:List (List UInt8):=[[72,85,80],[73,78,84],[81,85,73,84],[85,83,82,49],[85,83,82,50],[84,69,82,77]]
def Xg6 (n:Int):List UInt8:=match XcX.find? (fun s=>XsF s == n) with|some s=>s|none=>[63]
theorem Xmf {α:Type} (l:List α) (p:α→Bool) (k:Nat) (h:k < l.length) (hn:∀x∈l.take k,p x=false) (hp:p l[k]=true):l.find? p=some l[k]:=by
 rw [List.find?_eq_some_iff_getElem]
 refine ⟨hp,k,h,rfl,fun j hj=>?_⟩
 rw [hn l[j] (List.mem_iff_getElem.2 ⟨j,by rw [List.length_take];omega,by rw [List.getElem_take]⟩)];rfl
theorem Xoy:XcX.length=6:=rfl
theorem Xpc (n:Int):Xa8 Tryz.prog 200 [] [.x (.int .i64 n)] (fun r H'=>r=.x (.string (bs (Xg6 n)))∧H'=[]):=by
 refine XaE Tryz.func200 rfl ?_
 simp only [Tryz.ntmps200,Xu8,Xvb,Xvc,Xvd,Xvg,Xvf,Nat.reduceAdd,Nat.reduceSub]
 (repeat' (first|with_reducible (first|refine Xai ?_|refine Xac ?_|refine Xat ?_|refine Xae ?_|refine Xaa ?_)|((apply Xad rfl);(case h=>(apply Xab 0 rfl;(exact Xap _ rfl)));(case hT=>((try simp only [wtn]);rfl)))|(refine Xah rfl ?_;((refine Xaq 17 rfl ?_;(refine XaF _ _ _ _ _ _ _ _ rfl XaZ.out (by first|rfl|fail) rfl (by decide) rfl (fun b=>?_)));apply Xag;(case hT=>((try simp only [wtn]);rfl));(case hH=>((try simp only [wtn]);rfl))))|fail))
 refine XaW (S:=Nat) (fun k=>frm 23 [(0,.x (.int .i64 n)),(3,.x (.slice (some ⟨b,0,none⟩) 6 6)),(4,.x (.int .i64 k))]) (fun _=>[.row (some ⟨b,0,none⟩) 6 6 9 1 (sa XcX)]) (fun k=>k≤6∧∀x∈XcX.take k,(XsF x == n)=false) (fun k=>6 - k) 0 (XaH.mk' [] _ (Xu5 _) (XaB.refl _ _) (by (repeat' (first|exact VwL.nil|(refine VwL.cons ?_ ?_)|exact Vw.refl _|exact Vw.top _|fail)))) ⟨Nat.zero_le _,by simp⟩ fun k hk=>?_
 obtain ⟨hk,hn⟩:=hk
 have hn':=Lib.hid hn
 clear hn
 have hnl:=Xoy
 simp only [frm,Xvc,Xvd,Xu6,Xu7,Xvj,Xvk]
 (repeat' (first|with_reducible (first|refine Xai ?_|refine Xac ?_|refine Xat ?_|refine Xas ?_|refine Xaw ?_|refine Xa4 ?_|refine Xae ?_|refine Xaa ?_|refine XaN ?_|refine Xay ?_|refine XaK ?_|refine Xaj ?_|refine Xax ?_)|(refine Xal _ rfl (fun h=>?_) (fun h=>?_)<;>((try (simp only [whn] at h));skip))|((apply Xad rfl);(case h=>(first|(apply Xab 0 rfl;(first|exact Xar _ rfl|exact Xap _ rfl))|(apply Xab 6 rfl;(exact Xdc _ _ _ _ _ _ _ _ _ _ _ _ rfl rfl Xb9.out XaM.out (by first|(simp [wlq];omega)|fail) (by first|(simp [wlq];omega)|fail)))|(apply Xab 7 rfl;(exact XhB _ _ _ _ _ _ _ _ _ _ _ _ rfl rfl rfl HEl.out rfl (by first|omega|fail)))|(apply Xab 11 rfl;(exact XaA 208 Tryz.f208 _ _ rfl rfl Tryz.func208 (by decide) rfl (VwL.refl _ _) (XlD _)))|(apply XaD;(case hs=>(intro _ _ h;cases h));(case hx=>rfl);(case hrun=>(intro w;simp [wtb,AV.val,go_sem];(try go_bits);rfl)))));(case hT=>((try simp (disch:=omega) only [wtn,Xd0,Xu9,Xu6,Xu7,Xva,Xve,Nat.reduceAdd,Nat.reduceMul,Nat.reduceSub,↓reduceIte,Nat.reduceEqDiff]);rfl)))|fail))
 ·refine Xaf _ _ (Xbi rfl (RV.tmp _) (XaH.mk' [_] [] (Xu5 _) (XaB.refl _ _) (by first|exact VwL.refl _ _|fail))) ?_
  refine ⟨?_,rfl⟩
  unfold Xg6
  rw [Xmf _ _ k (by omega) hn'.out (by simp [h])]
  rfl
 ·exact ⟨k+1,by omega,⟨by omega,by rw [XaX _ k (by omega)];intro x hx;rcases List.mem_append.1 hx with hx|hx;exact hn'.out x hx;rw [List.mem_singleton] at hx;subst hx;exact Xvm.2 h⟩,(XaH.mk' [] _ (Xu5 _) (XaB.refl _ _) (by (repeat' (first|exact VwL.nil|(refine VwL.cons ?_ ?_)|exact Vw.refl _|exact Vw.top _|fail))))⟩
 ·refine Xaf _ _ (Xbi rfl (RV.tmp _) (XaH.mk' [_] [] (Xu5 _) (XaB.refl _ _) (by first|exact VwL.refl _ _|fail))) ?_
  refine ⟨?_,rfl⟩
  unfold Xg6
  have hn:=hn'.out
  rw [List.take_of_length_le (by omega)] at hn
  have:XcX.find? (fun s=>XsF s == n)=none:=by rw [List.find?_eq_none];intro x hx;rw [hn x hx];simp
  rw [this]
  rfl
def slB (b:UInt8):List UInt8:=if b.toNat=47 then [92,b] else [b]
theorem XsI (b:UInt8):(slB b).length≤2:=by unfold slB;split<;>simp
def XbL (s:List UInt8):List UInt8:=s.flatMap slB
theorem XkO (s:List UInt8) (k:Nat) (h:k < s.length):XbL (s.take (k+1))=XbL (s.take k)++slB s[k]:=by
 unfold XbL;rw [XaX s k h,List.flatMap_append];congr 1;simp
theorem Xfx (s:List UInt8):(XbL s).length≤2*s.length:=by
 unfold XbL
 induction s with
 | nil=>simp
 | cons b s ih=>have:=XsI b;simp only [List.flatMap_cons,Xvh,Xu8];omega
theorem XkP (s:List UInt8) (hl:s.length≤1000000):Xa8 Tryz.prog 197 [] [.x (.string (bs s))] (fun r H'=>r=.x (.string (bs (XbL s)))∧H'=[]):=by
 refine XaE Tryz.func197 rfl ?_
 simp only [Tryz.ntmps197,Xu8,Xvb,Xvc,Xvd,Xvg,Xvf,Nat.reduceAdd,Nat.reduceSub]
 (repeat' (first|with_reducible (first|refine Xai ?_|refine Xac ?_|refine Xat ?_|refine Xae ?_|refine Xaa ?_)|((apply Xad rfl);(case h=>(apply Xab 0 rfl;(exact Xap _ rfl)));(case hT=>((try simp only [wtn]);rfl)))|fail))
 refine Xbw 5 1 ?_
 refine XaW (S:=Nat × Option Addr × Nat) (fun q=>frm 26 [(0,.x (.string (bs s))),(3,.x (.slice q.2.1 (XbL (s.take q.1)).length q.2.2)),(4,.x (.int .i64 q.1))]) (fun q=>[.row q.2.1 (XbL (s.take q.1)).length q.2.2 5 1 (u8a (XbL (s.take q.1)))]) (fun q=>q.1≤s.length) (fun q=>s.length - q.1) (0,none,0) ?a (Nat.zero_le _) fun q hq=>?_
 case a=>exact (XaH.mk' [] _ (Xu5 _) (XaB.refl _ _) (by (repeat' (first|exact VwL.nil|(refine VwL.cons ?_ ?_)|exact Vw.refl _|exact Vw.top _|fail))))
 obtain ⟨k,ad,cap⟩:=q
 simp only at hq
 have hsl:=Xfx (s.take k)
 rw [List.length_take] at hsl
 simp only [frm,Xvc,Xvd,Xu6,Xu7,Xvj,Xvk]
 by_cases hk:k < s.length
 ·have hsu:=Lib.hid (XkO s k hk)
  (repeat' (first|with_reducible (first|refine Xai ?_|refine Xac ?_|refine Xat ?_|refine Xaw ?_|refine Xae ?_|refine Xaa ?_|refine Xaj ?_)|(refine Xal _ rfl (fun h=>?_) (fun h=>?_)<;>((try (simp only [whn] at h));first|(exfalso;omega;done)|skip))|((apply Xad rfl);(case h=>(first|(apply Xab 0 rfl;(first|exact Xar _ rfl|exact Xap _ rfl))|(apply Xab 8 rfl;(exact Xbu _ _ _ _ _ _ _ rfl rfl rfl (by kernel_rfl) rfl (by omega)))|(apply XaD;(case hs=>(intro _ _ h;cases h));(case hx=>rfl);(case hrun=>(intro w;simp [wtb,AV.val,go_sem];(try go_bits);rfl)))));(case hT=>((try simp (disch:=assumption) only [wtn,Xev,Xfn,Xu9,Xu6,Xu7,Xva,Xve,Nat.reduceAdd,Nat.reduceMul,Nat.reduceSub,↓reduceIte,Nat.reduceEqDiff]);rfl)))|(refine Xah rfl ?_;((first|(refine Xaq 13 rfl ?_;(refine XaP _ _ _ _ _ _ _ _ _ _ _ _ _ _ rfl rfl Xb9.out (Src.row _ rfl Xb9.out) XaZ.out (by first|rfl|fail) (Xei _ _ (by omega) (by decide)) (fun ad cap=>?_)))|(refine Xaq 17 rfl ?_;(refine XaF _ _ _ _ _ _ _ _ rfl XaZ.out (by first|rfl|fail) rfl (by decide) rfl (fun b=>?_))));apply Xag;(case hT=>((try simp (disch:=omega) only [wtn,Xev,Xfn,Xu9,Xu6,Xu7,Xva,Xve,Nat.reduceAdd,Nat.reduceMul,Nat.reduceSub,↓reduceIte,Nat.reduceEqDiff]);rfl));(case hH=>((try simp (disch:=omega) only [wtn,Xev,Xfn,Xu9,Xu6,Xu7,Xva,Xve,Nat.reduceAdd,Nat.reduceMul,Nat.reduceSub,↓reduceIte,Nat.reduceEqDiff]);rfl))))|fail))
  ·have e:XbL (s.take (k+1))=XbL (s.take k)++[92,s[k]]:=by rw [hsu.out];congr 1;unfold slB;rw [if_pos (by omega)]
   refine ⟨(k+1,ad,cap),by simp only;omega,by simp only;omega,?_⟩
   simp only [e,Xcx,Xch,Xdm,List.append_assoc,Xvg,Xvf,Xvh,Xu8,Xvb]
   exact (XaH.mk' [_,_] [_] (Xu5 _) (XaB.refl _ _) (by (repeat' (first|exact VwL.nil|(refine VwL.cons ?_ ?_)|exact Vw.refl _|exact Vw.top _|fail))))
  ·have e:XbL (s.take (k+1))=XbL (s.take k)++[s[k]]:=by rw [hsu.out];congr 1;unfold slB;rw [if_neg (by omega)]
   refine ⟨(k+1,ad,cap),by simp only;omega,by simp only;omega,?_⟩
   simp only [e,Xcx,Xch,Xdm,Xvh,Xu8,Xvb]
   exact (XaH.mk' [_] [_] (Xu5 _) (XaB.refl _ _) (by (repeat' (first|exact VwL.nil|(refine VwL.cons ?_ ?_)|exact Vw.refl _|exact Vw.top _|fail))))
 ·obtain rfl:k=s.length:=by omega
  (repeat' (first|with_reducible (first|refine Xai ?_|refine Xac ?_|refine Xas ?_|refine Xa4 ?_|refine Xae ?_|refine Xaa ?_|refine XaN ?_|refine XaK ?_)|(refine Xal _ rfl (fun h=>?_) (fun h=>?_)<;>first|(exact absurd h (by decide))|((try (simp only [] at h));skip))|((apply Xad rfl);(case h=>(first|(apply Xab 0 rfl;(first|exact Xar _ rfl|exact Xap _ rfl))|(apply Xab 12 rfl;(exact XbI _ _ 5 _ _ rfl (by kernel_rfl) (by kernel_rfl) (by kernel_rfl) (Src.row 0 rfl rfl)))|(apply XaD;(case hs=>(intro _ _ h;cases h));(case hx=>rfl);(case hrun=>(intro w;simp [wtb,AV.val,go_sem];skip;rfl)))));(case hT=>((try simp only [wtn]);rfl)))|fail))
  refine Xaf _ _ (Xbi rfl (RV.tmp _) (XaH.mk' [_] [] (Xu5 _) (XaB.refl _ _) (by first|exact VwL.refl _ _|fail))) ?_
  refine ⟨?_,rfl⟩
  simp only [ev,List.getD_cons_succ,List.getD_cons_zero,List.take_length]
end Go.Proofs.YtdpobjakdplljaaGreatDoor

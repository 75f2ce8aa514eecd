import Derived.Test.YtcmfamgnmehojaaGreatDoorW30
import Derived.Test.YtcmfamgnmehojaaGreatDoorW31
import Derived.Test.YtcmfamgnmehojaaGreatDoorW25
/- The program's lexer: All. -/
set_option linter.unusedSimpArgs false
set_option linter.unusedVariables false
set_option maxRecDepth 100000
set_option maxHeartbeats 8000000
namespace Go.Proofs.YtcmfamgnmehojaaGreatDoor
open Go.RowKit
theorem XjC (l:List UInt8) (hl:l.length≤1000000) (h8:8192 < l.length):Xbv Tryz.prog 18 [] [.x (.string (bs l))] (fun r H'=>r=.tup [.sq 0 [],.x (.agg #[.int .i64 1,.int .i64 0,.int .i64 0])]∧H'=[]):=by
 refine XaP Tryz.func18 rfl ?_
 simp only [Tryz.ntmps18,Xpq,Xpt,Xpu,Xpv,Xpy,Xpx,Nat.reduceAdd,Nat.reduceSub]
 (repeat' (first|with_reducible (first|refine Xaj ?_|refine Xac ?_|refine Xaw ?_|refine Xaf ?_|refine Xaa ?_|refine XaA ?_)|(refine Xal _ rfl (fun h=>?_) (fun h=>?_)<;>((try (simp only [whn] at h));first|(exfalso;omega;done)|skip))|((apply Xad rfl);(case h=>((try (intro (hp:(_:Bool)=true);((try simp only [Bool.and_eq_true,Bool.not_eq_true',Bool.not_eq_true] at hp);(try simp only [hp,wte]);(try simp only [whn] at hp))));(first|(apply Xab 0 rfl;(first|exact Xar _ rfl|exact Xav _ rfl))|(apply Xab 10 rfl;(exact XaZ _ _ _ _ _ rfl HPl.out (by first|rfl|fail) rfl))|(apply XaJ;(case hs=>(intro _ _ h;cases h));(case hx=>rfl);(case hrun=>(intro w;simp [wtb,AV.val,go_sem];(try go_bits);rfl))))));(case hT=>((try simp only [wtn,Xpr,Xpo,Xpp,Xps,Xpw,Nat.reduceAdd,Nat.reduceMul,Nat.reduceSub,↓reduceIte,Nat.reduceEqDiff]);rfl)))|(refine Xak rfl ?_;((first|(refine Xap 14 rfl ?_;(refine XaQ _ _ rfl XbK.out rfl (fun b=>?_)))|(refine Xap 16 rfl ?_;(refine Xat _ _ _ _ _ _ _ rfl rfl Xa0.out XaS.out (by first|rfl|fail) (by first|exact Xpm rfl|fail) ?_)));apply Xai;(case hT=>((try simp only [wtn,Xpr,Xpo,Xpp,Xps,Xpw,Nat.reduceAdd,Nat.reduceMul,Nat.reduceSub,↓reduceIte,Nat.reduceEqDiff]);rfl));(case hH=>((try simp only [wtn,Xpr,Xpo,Xpp,Xps,Xpw,Nat.reduceAdd,Nat.reduceMul,Nat.reduceSub,↓reduceIte,Nat.reduceEqDiff]);rfl))))|fail))
 refine Xan _ _ (Xe9 rfl (RV.tmp _) (RV.cell 0 rfl rfl XaT.out (by simp) (by simp)) (XaK.mk' [_] [] (Xpn _) XaI.nil (VwL.cons Vw.nil (VwL.refl _ _)))) ?_
 exact ⟨rfl,rfl⟩
theorem Xmx (l:List UInt8) (h8:l.length≤8192) (ts:List Tok) (hs:Xbv Tryz.prog 31 [] [.x (.string (bs l))] (fun q H'=>q=.tup [.sq ts.length (ta ts),.x .nilIface]∧H'=[])):Xbv Tryz.prog 18 [] [.x (.string (bs l))] (fun r H'=>r=.tup [.sq ts.length (ta ts),.x (.agg #[.int .i64 0,.int .i64 0,.int .i64 0])]∧H'=[]):=by
 refine XaP Tryz.func18 rfl ?_
 simp only [Tryz.ntmps18,Xpq,Xpt,Xpu,Xpv,Xpy,Xpx,Nat.reduceAdd,Nat.reduceSub]
 (repeat' (first|with_reducible (first|refine Xaj ?_|refine Xac ?_|refine Xaw ?_|refine Xaz ?_|refine Xaf ?_|refine Xaa ?_|refine XaA ?_)|(refine Xal _ rfl (fun h=>?_) (fun h=>?_)<;>first|(exact absurd h (by decide))|((try (simp only [whn] at h));first|(exfalso;omega;done)|skip))|((apply Xad rfl);(case h=>((try (intro (hp:(_:Bool)=true);((try simp only [Bool.and_eq_true,Bool.not_eq_true',Bool.not_eq_true] at hp);(try simp only [hp,wte]);(try simp only [whn] at hp))));(first|(apply Xab 0 rfl;(first|exact Xar _ rfl|exact Xav _ rfl))|(apply Xab 2 rfl;(exact Xa9 _ _ _ _ rfl rfl rfl))|(apply Xab 10 rfl;(exact XaZ _ _ _ _ _ rfl HPl.out (by first|rfl|fail) rfl))|(apply Xab 11 rfl;(exact XaE 31 Tryz.f31 _ _ rfl rfl Tryz.func31 (by decide) rfl (VwL.refl _ _) (hs)))|(apply XaJ;(case hs=>(intro _ _ h;cases h));(case hx=>rfl);(case hrun=>(intro w;simp [wtb,AV.val,go_sem];(try go_bits);rfl))))));(case hT=>((try simp only [wtn,Xpr,Xpo,Xpp,Xps,Xpw,Nat.reduceAdd,Nat.reduceMul,Nat.reduceSub,↓reduceIte,Nat.reduceEqDiff]);rfl)))|(refine Xak rfl ?_;((first|(refine Xap 14 rfl ?_;(refine XaQ _ _ rfl XbK.out rfl (fun b=>?_)))|(refine Xap 16 rfl ?_;(refine Xat _ _ _ _ _ _ _ rfl rfl Xa0.out XaS.out (by first|rfl|fail) (by first|exact Xpm rfl|fail) ?_)));apply Xai;(case hT=>((try simp only [wtn,Xpr,Xpo,Xpp,Xps,Xpw,Nat.reduceAdd,Nat.reduceMul,Nat.reduceSub,↓reduceIte,Nat.reduceEqDiff]);rfl));(case hH=>((try simp only [wtn,Xpr,Xpo,Xpp,Xps,Xpw,Nat.reduceAdd,Nat.reduceMul,Nat.reduceSub,↓reduceIte,Nat.reduceEqDiff]);rfl))))|fail))
 refine Xan _ _ (Xe9 rfl (RV.tmp _) (RV.cell 0 rfl rfl XaT.out (by simp) (by simp)) (XaK.mk' [_] [] (Xpn _) XaI.nil (VwL.refl _ _))) ?_
 exact ⟨rfl,rfl⟩
theorem XkU (l:List UInt8) (h8:l.length≤8192) (c:Int) (x y:Int) (hs:Xbv Tryz.prog 31 [] [.x (.string (bs l))] (fun q H'=>∃b,q=.tup [.x (.slice none 0 0),.x (.iface 83 (.pointer (some ⟨b,0,none⟩)))]∧H'=[.box b [.x (.int .i64 x),.x (.int .i64 y),.x (.iface 80 (.int .i64 c))]])):Xbv Tryz.prog 18 [] [.x (.string (bs l))] (fun r H'=>r=.tup [.sq 0 [],.x (.agg #[.int .i64 c,.int .i64 x,.int .i64 y])]∧H'=[]):=by
 refine XaP Tryz.func18 rfl ?_
 simp only [Tryz.ntmps18,Xpq,Xpt,Xpu,Xpv,Xpy,Xpx,Nat.reduceAdd,Nat.reduceSub]
 (repeat' (first|with_reducible (first|refine Xaj ?_|refine Xac ?_|refine Xaz ?_|refine Xaf ?_|refine Xaa ?_)|(refine Xal _ rfl (fun h=>?_) (fun h=>?_)<;>first|(exact absurd h (by decide))|((try (simp only [whn] at h));first|(exfalso;omega;done)|skip))|((apply Xad rfl);(case h=>((try (intro (hp:(_:Bool)=true);((try simp only [Bool.and_eq_true,Bool.not_eq_true',Bool.not_eq_true] at hp);(try simp only [hp,wte]);(try simp only [whn] at hp))));(first|(apply Xab 0 rfl;(first|exact Xar _ rfl|exact Xav _ rfl))|(apply Xab 2 rfl;(exact Xa9 _ _ _ _ rfl rfl rfl))|(apply Xab 5 rfl;(exact Xag _ _ _ _ _ _ rfl rfl Xbb.out))|(apply Xab 6 rfl;(exact Xay _ _ _ _ _ _ _ _ rfl rfl Xa0.out XaT.out (by first|exact Xpm rfl|fail) (by first|exact Xpm rfl|fail)))|(apply XaJ;(case hs=>(intro _ _ h;cases h));(case hx=>rfl);(case hrun=>(intro w;simp [wtb,AV.val,go_sem];(try go_bits);rfl))))));(case hT=>((try simp only [wtn,Xpr,Xpo,Xpp,Xps,Xpw,Nat.reduceAdd,Nat.reduceMul,Nat.reduceSub,↓reduceIte,Nat.reduceEqDiff]);rfl)))|(refine Xak rfl ?_;((first|(refine Xap 11 rfl ?_;(first|(refine Xax 31 Tryz.f31 ([]) _ _ _ rfl rfl Tryz.func31 (by decide) rfl (Xpn _) (VwL.refl _ _) (hs) ?_;rintro _ _ ⟨b2,rfl,rfl⟩)|(refine Xax 32 Tryz.f32 [_,_] [_,_] _ _ rfl rfl Tryz.func32 (by decide) rfl (XpD _ (List.Perm.swap _ _ _)) (VwL.refl _ _) (XiV _ _ _ _ _ _ []) ?_;rintro _ _ ⟨rfl,rfl⟩)|(refine Xax 32 Tryz.f32 [_] _ _ _ rfl rfl Tryz.func32 (by decide) rfl (Xpn _) (VwL.refl _ _) (Xih _ _ _ []) ?_;rintro _ _ ⟨rfl,rfl⟩)))|(refine Xap 14 rfl ?_;(refine XaQ _ _ rfl XbK.out rfl (fun b=>?_)))|(refine Xap 16 rfl ?_;(refine Xat _ _ _ _ _ _ _ rfl rfl Xa0.out XaS.out (by first|rfl|fail) (by first|exact Xpm rfl|fail) ?_)));apply Xai;(case hT=>((try simp only [wtn,Xpr,Xpo,Xpp,Xps,Xpw,Nat.reduceAdd,Nat.reduceMul,Nat.reduceSub,↓reduceIte,Nat.reduceEqDiff]);rfl));(case hH=>((try simp only [wtn,Xpr,Xpo,Xpp,Xps,Xpw,Nat.reduceAdd,Nat.reduceMul,Nat.reduceSub,↓reduceIte,Nat.reduceEqDiff]);rfl))))|fail))
 refine Xbl mixed [] [_,_] _ (XpD _ (List.Perm.swap _ _ _)) ?_
 (first|refine XbN 0 rfl rfl (by kernel_rfl) (by intro c T H hp;simp [Xa1,Xaq,Xa8,XbI] at hp) _ _ _ _ _ _ _ _ rfl rfl Xa0.out XaT.out (by first|exact Xpm rfl|fail) (by first|exact Xpm rfl|fail) ?_|fail);(apply Xae;(case hT=>((try simp only [wtn,Xpr,Xpo,Xpp,Xps,Xpw,Nat.reduceAdd,Nat.reduceMul,Nat.reduceSub,↓reduceIte,Nat.reduceEqDiff]);rfl));(case hH=>rfl));(first|(apply XaN 1 rfl rfl (by kernel_rfl) (by intro c T H hp;simp [Xa1,Xaq,Xa8,XbI] at hp);(case h=>(exact XbZ _ _ _ rfl rfl)))|fail);(apply Xae;(case hT=>((try simp only [wtn,Xpr,Xpo,Xpp,Xps,Xpw,Nat.reduceAdd,Nat.reduceMul,Nat.reduceSub,↓reduceIte,Nat.reduceEqDiff]);rfl));(case hH=>rfl));(first|(apply XaN 2 rfl rfl (by kernel_rfl) (by intro c T H hp;simp [Xa1,Xaq,Xa8,XbI] at hp);(case h=>(exact Xa7 _ _ _ _ _ _ rfl rfl Xbb.out)))|fail);(apply Xae;(case hT=>((try simp only [wtn,Xpr,Xpo,Xpp,Xps,Xpw,Nat.reduceAdd,Nat.reduceMul,Nat.reduceSub,↓reduceIte,Nat.reduceEqDiff]);rfl));(case hH=>rfl));(first|refine XbN 3 rfl rfl (by kernel_rfl) (by intro c T H hp;simp [Xa1,Xaq,Xa8,XbI] at hp) _ _ _ _ _ _ _ _ rfl rfl Xa0.out XaT.out (by first|exact Xpm rfl|fail) (by first|exact Xpm rfl|fail) ?_|fail);(apply Xae;(case hT=>((try simp only [wtn,Xpr,Xpo,Xpp,Xps,Xpw,Nat.reduceAdd,Nat.reduceMul,Nat.reduceSub,↓reduceIte,Nat.reduceEqDiff]);rfl));(case hH=>rfl));(first|refine XbN 4 rfl rfl (by kernel_rfl) (by intro c T H hp;simp [Xa1,Xaq,Xa8,XbI] at hp) _ _ _ _ _ _ _ _ rfl rfl Xa0.out XaT.out (by first|exact Xpm rfl|fail) (by first|exact Xpm rfl|fail) ?_|fail);(apply Xae;(case hT=>((try simp only [wtn,Xpr,Xpo,Xpp,Xps,Xpw,Nat.reduceAdd,Nat.reduceMul,Nat.reduceSub,↓reduceIte,Nat.reduceEqDiff]);rfl));(case hH=>rfl));(first|(apply XaN 5 rfl rfl (by kernel_rfl) (by intro c T H hp;simp [Xa1,Xaq,Xa8,XbI] at hp);(case h=>(exact XbZ _ _ _ rfl rfl)))|fail);(apply Xae;(case hT=>((try simp only [wtn,Xpr,Xpo,Xpp,Xps,Xpw,Nat.reduceAdd,Nat.reduceMul,Nat.reduceSub,↓reduceIte,Nat.reduceEqDiff]);rfl));(case hH=>rfl));(first|(apply XaN 6 rfl rfl (by kernel_rfl) (by intro c T H hp;simp [Xa1,Xaq,Xa8,XbI] at hp);(case h=>(exact Xa7 _ _ _ _ _ _ rfl rfl Xbb.out)))|fail);(apply Xae;(case hT=>((try simp only [wtn,Xpr,Xpo,Xpp,Xps,Xpw,Nat.reduceAdd,Nat.reduceMul,Nat.reduceSub,↓reduceIte,Nat.reduceEqDiff]);rfl));(case hH=>rfl));(first|refine XbN 7 rfl rfl (by kernel_rfl) (by intro c T H hp;simp [Xa1,Xaq,Xa8,XbI] at hp) _ _ _ _ _ _ _ _ rfl rfl Xa0.out XaT.out (by first|exact Xpm rfl|fail) (by first|exact Xpm rfl|fail) ?_|fail);(apply Xae;(case hT=>((try simp only [wtn,Xpr,Xpo,Xpp,Xps,Xpw,Nat.reduceAdd,Nat.reduceMul,Nat.reduceSub,↓reduceIte,Nat.reduceEqDiff]);rfl));(case hH=>rfl));(first|(apply XaN 8 rfl rfl (by kernel_rfl) (by intro c T H hp;simp [Xa1,Xaq,Xa8,XbI] at hp);(case h=>(exact Xa7 _ _ _ _ _ _ rfl rfl Xbb.out)))|fail);(apply Xae;(case hT=>((try simp only [wtn,Xpr,Xpo,Xpp,Xps,Xpw,Nat.reduceAdd,Nat.reduceMul,Nat.reduceSub,↓reduceIte,Nat.reduceEqDiff]);rfl));(case hH=>rfl))
 (repeat ((first|refine XaY 9 (by decide +kernel) rfl rfl ?_|refine XaY 10 (by decide +kernel) rfl rfl ?_|refine XaY 11 (by decide +kernel) rfl rfl ?_|fail);(first|(apply XaU;(case h=>(apply Xab 5 rfl;(exact Xag _ _ _ _ _ _ rfl rfl Xbb.out)));(apply Xae;(case hT=>((try simp only [wtn,Xpr,Xpo,Xpp,Xps,Xpw,Nat.reduceAdd,Nat.reduceMul,Nat.reduceSub,↓reduceIte,Nat.reduceEqDiff]);rfl));(case hH=>rfl)))|((refine Xap 16 rfl ?_;(refine Xat _ _ _ _ _ _ _ rfl rfl Xa0.out XaS.out (by first|rfl|fail) (by first|exact Xpm rfl|fail) ?_));apply Xae;(case hT=>((try simp only [wtn,Xpr,Xpo,Xpp,Xps,Xpw,Nat.reduceAdd,Nat.reduceMul,Nat.reduceSub,↓reduceIte,Nat.reduceEqDiff]);rfl));(case hH=>((try simp only [wtn,Xpr,Xpo,Xpp,Xps,Xpw,Nat.reduceAdd,Nat.reduceMul,Nat.reduceSub,↓reduceIte,Nat.reduceEqDiff]);rfl)))|fail)))
 refine Xbu (by decide +kernel) ?_
 refine Xao rfl (by simp only [Xpy,Xpx];rfl) ?_
 refine XaV (by decide +kernel) ?_
 (repeat' (first|with_reducible (first|refine Xaj ?_|refine Xaa ?_)|fail))
 refine Xbl mixed [] [_] [_,_,_,_] (XpA (l₁:=[_,_,_])) ?_
 (first|refine XbN 0 rfl rfl (by kernel_rfl) (by intro c T H hp;simp [Xa1,Xaq,Xa8,XbI] at hp) _ _ _ _ _ _ _ _ rfl rfl Xa0.out XaT.out (by first|exact Xpm rfl|fail) (by first|exact Xpm rfl|fail) ?_|fail);(apply Xae;(case hT=>((try simp only [wtn,Xpr,Xpo,Xpp,Xps,Xpw,Nat.reduceAdd,Nat.reduceMul,Nat.reduceSub,↓reduceIte,Nat.reduceEqDiff]);rfl));(case hH=>rfl));(first|(apply XaN 1 rfl rfl (by kernel_rfl) (by intro c T H hp;simp [Xa1,Xaq,Xa8,XbI] at hp);(case h=>(exact XgE _ rfl)))|fail);(apply Xae;(case hT=>((try simp only [wtn,Xpr,Xpo,Xpp,Xps,Xpw,Nat.reduceAdd,Nat.reduceMul,Nat.reduceSub,↓reduceIte,Nat.reduceEqDiff]);rfl));(case hH=>rfl))
 (refine XaY 2 (by decide +kernel) rfl rfl ?_;(first|((refine Xap 16 rfl ?_;(refine Xat _ _ _ _ _ _ _ rfl rfl Xa0.out XaS.out (by first|rfl|fail) (by first|exact Xpm rfl|fail) ?_));apply Xae;(case hT=>((try simp only [wtn,Xpr,Xpo,Xpp,Xps,Xpw,Nat.reduceAdd,Nat.reduceMul,Nat.reduceSub,↓reduceIte,Nat.reduceEqDiff]);rfl));(case hH=>((try simp only [wtn,Xpr,Xpo,Xpp,Xps,Xpw,Nat.reduceAdd,Nat.reduceMul,Nat.reduceSub,↓reduceIte,Nat.reduceEqDiff]);rfl)))|fail))
 refine Xbu (by decide +kernel) ?_
 refine Xao rfl (by simp only [Xpy,Xpx];rfl) ?_
 refine XaV (by decide +kernel) ?_
 (repeat' (first|with_reducible (first|refine Xaw ?_|refine Xaa ?_)|fail))
 refine Xan _ _ (Xe9 rfl (RV.tmp _) (RV.cell 4 rfl rfl XaT.out (by simp) (by simp)) (XaK.mk' [_,_,_,_,_] [] (Xpn _) XaI.nil (VwL.cons Vw.nil (VwL.refl _ _)))) ?_
 exact ⟨rfl,rfl⟩
theorem XlN (l:List UInt8) (hl:l.length≤1000000):Xbv Tryz.prog 18 [] [.x (.string (bs l))] (fun r H'=>r=.tup [.sq (Xh4 (lex l)).length (ta (Xh4 (lex l))),(Xml (lex l)).av]∧H'=[]):=by
 by_cases h8:8192 < l.length
 ·have e:lex l=.error ⟨1,0,0⟩:=by unfold lex;rw [if_pos (by omega)]
  rw [e]
  exact XjC l hl h8
 ·have e:lex l=Xb8 (1,1) 0 l:=by unfold lex;rw [if_neg (by omega)]
  have hs:=Xn7 l (by omega)
  rw [e]
  cases hx:Xb8 (1,1) 0 l with
  | ok ts=>rw [hx] at hs;exact Xmx l (by omega) ts hs
  | error f=>rw [hx] at hs;exact XkU l (by omega) _ _ _ hs
section
variable {P:Program} {Δ:List Deferred} {V O:Nat→Prop} {w0 w w':World} {B H H' D:List Hp} {T T':List AV} {a a':Act} {o:Oper} {ops:Array Oper} {Q:Xb9} {K:List AV→List Hp→Prop} {X:List PanicEntry→List AV→List Hp→Prop} {listed:Array Bool} {fuel:Nat} {DD:List Nat}
theorem Xhb {c:List PanicEntry} {d:Option Tmp} {v:Value} (hpan:∀c T H,Q (.panic c) T H→Q (.panic c) (XbH T d .top) H) (h:Xee Δ V O w0 Q (.panic c) (a.put d v) w):Xee Δ V O w0 Q (.panic c) a w:=by
 obtain ⟨T,H,r,q⟩:=h
 obtain ⟨u,e⟩:=XfU a d v
 have r2:=r.put d (av:=.top) (v:=u) (by rw [Den];trivial)
 rw [e] at r2
 exact ⟨_,H,r2,hpan _ _ _ q⟩
theorem Xea (i:Nat) {o:Oper} {l:List Oper} (hi:Xdp l i=some o) (hg:o.guard=none) (hc:Xcg l.toArray listed i DD=true) (hpan:∀c T H,Q (.panic c) T H→Q (.panic c) (XbH T o.dst .top) H) (av:AV)
  (h:∀V wr a w,OK V (B++H) (ev T) o a w→Xdn wr B w→∃v,(∀w',Xdn wr B w'→(execOp a.eval o).run P w'=.ok (.value v) w')∧Den (FB V (B++H)) w av v) (hK:Xd0 P l.toArray Q DD B fuel (listed.setIfInBounds i true) (XbH T o.dst av) H):Xd0 P l.toArray Q DD B (fuel+1) listed T H:=by
 have hi:l.toArray[i]?=some o:=by rw [List.getElem?_toArray,←Xb3];exact hi
 intro Δ V O w0 wr a w r hS
 obtain ⟨v,hv,hd⟩:=h V wr a w (r.oks o) hS
 have hD:=Xe4 hc
 unfold Xcg XdW at hc
 simp only [Bool.and_eq_true] at hc
 exact Xb7.first hi hc.1.1.1 (fun c a w h=>Xhb hpan h) hD (Region.free_spec hi hc.1.1.2) (by simpa using hc.1.2) (.inl ⟨by simp [Region.wanted,hg],hv⟩) hS (hK Δ V O w0 wr _ w (r.put _ hd) hS)
theorem Xdv (i:Nat) {o:Oper} {l:List Oper} (hi:Xdp l i=some o) (hg:o.guard=none) (hc:Xcg l.toArray listed i DD=true) (hpan:∀c T H,Q (.panic c) T H→Q (.panic c) (XbH T o.dst .top) H) (av:AV) (h:XgD P o (ev T) (B++H) av) (hK:Xd0 P l.toArray Q DD B fuel (listed.setIfInBounds i true) (XbH T o.dst av) H):Xd0 P l.toArray Q DD B (fuel+1) listed T H:=
 Xea i hi hg hc hpan av (fun V wr a w ok _=>by obtain ⟨v,hv,hd⟩:=h V a w ok;exact ⟨v,fun w' _=>hv w',hd⟩) hK
theorem XeC (i:Nat) {o:Oper} {l:List Oper} (hi:Xdp l i=some o) (hg:o.guard=none) (hc:Xcg l.toArray listed i DD=true) (hpan:∀c T H,Q (.panic c) T H→Q (.panic c) (XbH T o.dst .top) H) (p:Nat) (t:TypeId) (x:Operand) (b off:Nat) (cells:List AV) (agg:Bool) (n:Nat)
  (ho:o.op=.load t x) (hx:ev T x=.x (.pointer (some ⟨b,off,none⟩))) (hb:B[p]?=some (.box b cells)) (ht:XgF P t=some (agg,n)) (hn:off+n≤cells.length) (hn0:off < cells.length)
  (hK:Xd0 P l.toArray Q DD B fuel (listed.setIfInBounds i true) (XbH T o.dst (ldA agg n (cells.drop off))) H):Xd0 P l.toArray Q DD B (fuel+1) listed T H:=
 Xea i hi hg hc hpan _ (fun V wr a w ok hS=>by
  obtain ⟨vals,hd,hl,hcl⟩:=ok.hok.ok (.box b cells) (List.mem_append_left _ (List.mem_of_getElem? hb))
  obtain ⟨v,hr,hdv⟩:=Xcr (P:=P) t agg n ht w _ b off (cells.drop off) (vals.drop off) (hd.drop off) (by simp;omega) (fun _=>by simp;omega)
  refine ⟨v,fun w' hS'=>?_,hdv⟩
  have hbk:XbO B b:=⟨_,List.mem_of_getElem? hb,rfl⟩
  have hsame:w'.heap[b]?=w.heap[b]?:=(hS' b hbk).trans (hS b hbk).symm
  have:=hr w' fun j u hj=>by
   rw [World.cell?_of_block (a:=⟨b,off+j,none⟩) hsame];exact (hcl (off+j) u (by rwa [List.getElem?_drop] at hj)).1
  simp [execOp,ho,ok.evx (x:=x) (by simp [ho,Op.operands]) hx,Instr.loadAt,Instr.sureAddr,this]) hK
def Xor (X:List PanicEntry→List AV→List Hp→Prop) (Q:Xb9):Xb9
 | .panic c,T,H=>X c T H
 | e,T,H=>Q e T H
theorem XkE {c:Code} (h:awp P c (Xor X Q) T H) (hX:∀ch T H,X ch T H→Q (.panic ch) T H):awp P c Q T H:=fun Δ V O w0 a w r=>wp_mono (h Δ V O w0 a w r) fun e a w ⟨T,H,r,q⟩=>⟨T,H,r,by
 cases e with
 | panic ch=>exact hX _ _ _ q
 | _=>exact q⟩
theorem Xhd (h:Q .normal T H):Xor X Q .normal T H:=h
def XmT (ks:List (Nat × AV)) (Y:List PanicEntry→List Hp→Prop):List PanicEntry→List AV→List Hp→Prop:=fun c T H=>Y c H∧∀p∈ks,T[p.1]?=some p.2
theorem Xlb {ks:List (Nat × AV)} {Y:List PanicEntry→List Hp→Prop} {c:List PanicEntry} {d:Nat} {av:AV} (hd:∀p∈ks,p.1≠d) (h:XmT ks Y c T H):XmT ks Y c (XbH T (some d) av) H:=⟨h.1,fun p hp=>by
 rw [←h.2 p hp]
 simp only [XbH]
 exact List.getElem?_set_ne (fun e=>hd p hp e.symm)⟩
theorem XjV {ks:List (Nat × AV)} {Y:List PanicEntry→List Hp→Prop} {c:List PanicEntry} {d:Nat} {av:AV} (hd:(ks.all fun p=>p.1 != d)=true) (h:XmT ks Y c T H):XmT ks Y c (XbH T (some d) av) H:=Xlb (fun p hp=>by simpa using List.all_eq_true.1 hd p hp) h
theorem XdS {ks:List (Nat × AV)} {Y:List PanicEntry→List Hp→Prop} {c:List PanicEntry} {d:Nat} {av:AV} (hd:(ks.all fun p=>p.1 != d)=true) (h:Xor (XmT ks Y) Q (.panic c) T H):Xor (XmT ks Y) Q (.panic c) (XbH T (some d) av) H:=XjV hd h
end
end Go.Proofs.YtcmfamgnmehojaaGreatDoor

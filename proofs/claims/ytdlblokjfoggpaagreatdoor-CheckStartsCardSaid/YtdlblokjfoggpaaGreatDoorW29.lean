import Derived.Test.YtdlblokjfoggpaaGreatDoorW27
import Derived.Test.YtdlblokjfoggpaaGreatDoorW28
/- The program's parser: tokens, signs, names, texts. It panics with its first fault. -/
set_option linter.unusedSimpArgs false
set_option linter.unusedVariables false
--%old
set_option maxRecDepth 100000
set_option maxHeartbeats 8000000
namespace Go.Proofs.YtdlblokjfoggpaaGreatDoor
open Go.RowKit
def tc (ts:List Tok) (k:Nat):List AV:=[.sq ts.length (ta ts),.x (.int .i64 k)]
def fv (f:Flt):Value:=.iface 32 (.agg #[.int .i64 f.code,.int .i64 (f.line:Nat),.int .i64 (f.col:Nat)])
theorem XdA (e:Int) (t:Tok):XcF Tryz.prog 101 [] [.x (.int .i64 e),t.av] (fun _ _=>False) (fun v H'=>v=fv (flt e t)∧H'=[]):=by
 unfold Tok.av
 refine XbT Tryz.func101 rfl ?_
 simp only [Tryz.ntmps101,Xvw,Xvz,XvA,XvB,XvE,XvD,Nat.reduceAdd,Nat.reduceSub]
 (repeat' (first|with_reducible (first|refine XaK ?_|refine Xah ?_|refine Xay ?_|refine Xac ?_)|((apply Xao rfl);(case h=>((try (intro (hp:(_:Bool)=true);((try simp only [Bool.and_eq_true,Bool.not_eq_true',Bool.not_eq_true] at hp);(try simp only [hp,wte]);(try simp only [whn] at hp))));(first|(apply Xad 0 rfl;(exact XaS _ rfl))|(apply Xad 5 rfl;(exact Xal _ _ _ _ _ _ rfl rfl Xa1.out))|(apply Xad 6 rfl;(exact XaN _ _ _ _ _ _ _ _ rfl rfl Xby.out XaR.out (by first|exact Xvs rfl|fail) (by first|exact Xvs rfl|fail)))|(apply Xad 10 rfl;(exact XbD _ _ _ _ _ rfl HPl.out (by first|rfl|fail) rfl))|(apply XbB;(case hs=>(intro _ _ h;cases h));(case hx=>rfl);(case hrun=>(intro w;simp [wtb,AV.val,go_sem];(try go_bits);rfl))))));(case hT=>((try simp only [wtn,Xvx,Xvu,Xvv,Xvy,XvC,Nat.reduceAdd,Nat.reduceMul,Nat.reduceSub,↓reduceIte,Nat.reduceEqDiff]);rfl)))|(refine Xaa rfl ?_;((refine XaQ 15 rfl ?_;(refine XeT _ _ rfl (by first|rfl|fail) (fun b=>?_)));apply Xam;(case hT=>((try simp only [wtn,Xvx,Xvu,Xvv,Xvy,XvC,Nat.reduceAdd,Nat.reduceMul,Nat.reduceSub,↓reduceIte,Nat.reduceEqDiff]);rfl));(case hH=>((try simp only [wtn,Xvx,Xvu,Xvv,Xvy,XvC,Nat.reduceAdd,Nat.reduceMul,Nat.reduceSub,↓reduceIte,Nat.reduceEqDiff]);rfl))))|fail))
 refine XkK rfl rfl rfl ?_
 exact Xan _ _ (Xaq.mk' [_] [] (Xvt _) Xap.nil VwL.nil) ⟨rfl,rfl⟩
theorem Xkb (ts:List Tok) (k:Nat) (hk:k < ts.length) (hl:ts.length≤1000000):XaM Tryz.prog 75 [] [.at_ (tc ts k)] (fun r H'=>r=ts[k].av∧H'=[]):=by
 unfold tc
 refine Xco Tryz.func75 rfl ?_
 simp only [Tryz.ntmps75,Xvw,Xvz,XvA,XvB,XvE,XvD,Nat.reduceAdd,Nat.reduceSub]
 (repeat' (first|with_reducible (first|refine XaK ?_|refine Xah ?_|refine Xay ?_|refine Xac ?_)|(refine Xaa rfl ?_;((refine XaQ 14 rfl ?_;(refine Xbq _ _ rfl Xb0.out rfl (fun b=>?_)));apply Xam;(case hT=>((try simp only [wtn,Xvx,Xvu,Xvv,Xvy,XvC,Nat.reduceAdd,Nat.reduceMul,Nat.reduceSub,↓reduceIte,Nat.reduceEqDiff]);rfl));(case hH=>((try simp only [wtn,Xvx,Xvu,Xvv,Xvy,XvC,Nat.reduceAdd,Nat.reduceMul,Nat.reduceSub,↓reduceIte,Nat.reduceEqDiff]);rfl))))|fail))
 refine XbO mixed ?_
 (apply XbV 0 rfl rfl (by kernel_rfl) (by intro c T H hp;simp [Xbx,XaC,XbG,XcQ] at hp);(case h=>(first|exact Xbm _ rfl|fail));(apply Xag;(case hT=>((try simp only [wtn,Xvx,Xvu,Xvv,Xvy,XvC,Nat.reduceAdd,Nat.reduceMul,Nat.reduceSub,↓reduceIte,Nat.reduceEqDiff]);rfl));(case hH=>rfl)));(apply XbV 1 rfl rfl (by kernel_rfl) (by intro c T H hp;simp [Xbx,XaC,XbG,XcQ] at hp);(case h=>(first|exact WInd_nil_at _ _ rfl rfl|fail));(apply Xag;(case hT=>((try simp only [wtn,Xvx,Xvu,Xvv,Xvy,XvC,Nat.reduceAdd,Nat.reduceMul,Nat.reduceSub,↓reduceIte,Nat.reduceEqDiff]);rfl));(case hH=>rfl)));(apply XbV 2 rfl rfl (by kernel_rfl) (by intro c T H hp;simp [Xbx,XaC,XbG,XcQ] at hp);(case h=>(first|exact WInd_field_at _ _ _ _ _ rfl rfl Xa1.out|fail));(apply Xag;(case hT=>((try simp only [wtn,Xvx,Xvu,Xvv,Xvy,XvC,Nat.reduceAdd,Nat.reduceMul,Nat.reduceSub,↓reduceIte,Nat.reduceEqDiff]);rfl));(case hH=>rfl)));(apply XbV 4 rfl rfl (by kernel_rfl) (by intro c T H hp;simp [Xbx,XaC,XbG,XcQ] at hp);(case h=>(first|exact Xbm _ rfl|fail));(apply Xag;(case hT=>((try simp only [wtn,Xvx,Xvu,Xvv,Xvy,XvC,Nat.reduceAdd,Nat.reduceMul,Nat.reduceSub,↓reduceIte,Nat.reduceEqDiff]);rfl));(case hH=>rfl)));(apply XbV 5 rfl rfl (by kernel_rfl) (by intro c T H hp;simp [Xbx,XaC,XbG,XcQ] at hp);(case h=>(first|exact WInd_nil_at _ _ rfl rfl|fail));(apply Xag;(case hT=>((try simp only [wtn,Xvx,Xvu,Xvv,Xvy,XvC,Nat.reduceAdd,Nat.reduceMul,Nat.reduceSub,↓reduceIte,Nat.reduceEqDiff]);rfl));(case hH=>rfl)));(apply XbV 6 rfl rfl (by kernel_rfl) (by intro c T H hp;simp [Xbx,XaC,XbG,XcQ] at hp);(case h=>(first|exact WInd_field_at _ _ _ _ _ rfl rfl Xa1.out|fail));(apply Xag;(case hT=>((try simp only [wtn,Xvx,Xvu,Xvv,Xvy,XvC,Nat.reduceAdd,Nat.reduceMul,Nat.reduceSub,↓reduceIte,Nat.reduceEqDiff]);rfl));(case hH=>rfl)))
 refine XjN 3 7 (by decide +kernel) rfl rfl rfl rfl ?_ ?_
 ·(first|(apply Xbr;(case h=>(apply Xad 6 rfl;(exact XaW _ _ _ _ _ rfl rfl XaR.out (by first|exact Xvs rfl|fail) (by first|exact Xvs rfl|fail))));(apply Xag;(case hT=>((try simp only [wtn,Xvx,Xvu,Xvv,Xvy,XvC,Nat.reduceAdd,Nat.reduceMul,Nat.reduceSub,↓reduceIte,Nat.reduceEqDiff]);rfl));(case hH=>rfl)))|fail)
  (refine XbR 7 (by decide +kernel) rfl rfl ?_;(first|(apply Xbr;(case h=>(apply Xad 6 rfl;(exact XaW _ _ _ _ _ rfl rfl XaR.out (by first|exact Xvs rfl|fail) (by first|exact Xvs rfl|fail))));(apply Xag;(case hT=>((try simp only [wtn,Xvx,Xvu,Xvv,Xvy,XvC,Nat.reduceAdd,Nat.reduceMul,Nat.reduceSub,↓reduceIte,Nat.reduceEqDiff]);rfl));(case hH=>rfl)))|fail))
  (repeat ((first|refine XbR 8 (by decide +kernel) rfl rfl ?_|refine XbR 9 (by decide +kernel) rfl rfl ?_|refine XbR 10 (by decide +kernel) rfl rfl ?_|fail);(first|(apply Xbr;(case h=>(first|(apply Xad 6 rfl;(exact XaW _ _ _ _ _ rfl rfl XaR.out (by first|exact Xvs rfl|fail) (by first|exact Xvs rfl|fail)))|(apply Xad 7 rfl;(exact Xa2 _ _ _ _ _ _ _ _ _ _ rfl rfl rfl HEl.out rfl (by first|omega|fail) (by simp;first|omega|fail)))));(apply Xag;(case hT=>((try simp (disch:=assumption) only [wtn,Xfc,Tok.cells,Xvx,Xvu,Xvv,Xvy,XvC,Nat.reduceAdd,Nat.reduceMul,Nat.reduceSub,↓reduceIte,Nat.reduceEqDiff]);rfl));(case hH=>rfl)))|((refine XaQ 16 rfl ?_;(refine XaH _ _ _ _ _ _ _ rfl rfl Xby.out Xa6.out (by first|rfl|fail) (by first|exact Xvs rfl|fail) ?_));apply Xag;(case hT=>((try simp (disch:=omega) only [wtn,Xfc,Tok.cells,Xvx,Xvu,Xvv,Xvy,XvC,Nat.reduceAdd,Nat.reduceMul,Nat.reduceSub,↓reduceIte,Nat.reduceEqDiff]);rfl));(case hH=>((try simp (disch:=omega) only [wtn,Xfc,Tok.cells,Xvx,Xvu,Xvv,Xvy,XvC,Nat.reduceAdd,Nat.reduceMul,Nat.reduceSub,↓reduceIte,Nat.reduceEqDiff]);rfl)))|fail)))
  refine Xar (by decide +kernel) ?_
  (repeat' (first|with_reducible (first|refine Xbn ?_|refine Xac ?_)|fail))
  refine Xab _ _ (Xa0 rfl (RV.cell 0 rfl rfl XaR.out (by simp) (by simp)) (Xaq.mk' [_] [] (Xvt _) Xap.nil (VwL.refl _ _))) ?_
  exact ⟨rfl,rfl⟩
 ·(first|(apply Xbr;(case h=>(apply Xad 6 rfl;(exact XaW _ _ _ _ _ rfl rfl XaR.out (by first|exact Xvs rfl|fail) (by first|exact Xvs rfl|fail))));(apply Xag;(case hT=>((try simp only [wtn,Xvx,Xvu,Xvv,Xvy,XvC,Nat.reduceAdd,Nat.reduceMul,Nat.reduceSub,↓reduceIte,Nat.reduceEqDiff]);rfl));(case hH=>rfl)))|fail)
  (refine XbR 3 (by decide +kernel) rfl rfl ?_;(first|(apply Xbr;(case h=>(apply Xad 6 rfl;(exact XaW _ _ _ _ _ rfl rfl XaR.out (by first|exact Xvs rfl|fail) (by first|exact Xvs rfl|fail))));(apply Xag;(case hT=>((try simp only [wtn,Xvx,Xvu,Xvv,Xvy,XvC,Nat.reduceAdd,Nat.reduceMul,Nat.reduceSub,↓reduceIte,Nat.reduceEqDiff]);rfl));(case hH=>rfl)))|fail))
  (repeat ((first|refine XbR 8 (by decide +kernel) rfl rfl ?_|refine XbR 9 (by decide +kernel) rfl rfl ?_|refine XbR 10 (by decide +kernel) rfl rfl ?_|fail);(first|(apply Xbr;(case h=>(first|(apply Xad 6 rfl;(exact XaW _ _ _ _ _ rfl rfl XaR.out (by first|exact Xvs rfl|fail) (by first|exact Xvs rfl|fail)))|(apply Xad 7 rfl;(exact Xa2 _ _ _ _ _ _ _ _ _ _ rfl rfl rfl HEl.out rfl (by first|omega|fail) (by simp;first|omega|fail)))));(apply Xag;(case hT=>((try simp (disch:=assumption) only [wtn,Xfc,Tok.cells,Xvx,Xvu,Xvv,Xvy,XvC,Nat.reduceAdd,Nat.reduceMul,Nat.reduceSub,↓reduceIte,Nat.reduceEqDiff]);rfl));(case hH=>rfl)))|((refine XaQ 16 rfl ?_;(refine XaH _ _ _ _ _ _ _ rfl rfl Xby.out Xa6.out (by first|rfl|fail) (by first|exact Xvs rfl|fail) ?_));apply Xag;(case hT=>((try simp (disch:=omega) only [wtn,Xfc,Tok.cells,Xvx,Xvu,Xvv,Xvy,XvC,Nat.reduceAdd,Nat.reduceMul,Nat.reduceSub,↓reduceIte,Nat.reduceEqDiff]);rfl));(case hH=>((try simp (disch:=omega) only [wtn,Xfc,Tok.cells,Xvx,Xvu,Xvv,Xvy,XvC,Nat.reduceAdd,Nat.reduceMul,Nat.reduceSub,↓reduceIte,Nat.reduceEqDiff]);rfl)))|fail)))
  refine Xar (by decide +kernel) ?_
  (repeat' (first|with_reducible (first|refine Xbn ?_|refine Xac ?_)|fail))
  refine Xab _ _ (Xa0 rfl (RV.cell 0 rfl rfl XaR.out (by simp) (by simp)) (Xaq.mk' [_] [] (Xvt _) Xap.nil (VwL.refl _ _))) ?_
  exact ⟨rfl,rfl⟩
def Xc9 (ts:List Tok) (k:Nat) (kind:Int):Except Flt Tok:=if (tkA ts k).kind=kind then .ok (tkA ts k) else .error (flt 60 (tkA ts k))
theorem Xfn (pb:Nat) (ts:List Tok) (k:Nat) (kind:Int) (hk:k < ts.length) (hl:ts.length≤1000000):XcF Tryz.prog 100 [.box pb (tc ts k)] [.x (.pointer (some ⟨pb,0,none⟩)),.x (.int .i64 kind)] (fun r H'=>r=ts[k].av∧H'=[.box pb (tc ts (k+1))]∧Xc9 ts k kind=.ok ts[k]∧ts[k].kind=kind) (fun v _=>∃f,Xc9 ts k kind=.error f∧v=fv f):=by
 have hn:=Xkb ts k hk hl
 unfold Tok.av at hn
 simp only [Xc9,XaZ hk]
 refine XbT Tryz.func100 rfl ?_
 simp only [Tryz.ntmps100,Xvw,Xvz,XvA,XvB,XvE,XvD,Nat.reduceAdd,Nat.reduceSub]
 (repeat' (first|with_reducible (first|refine XaK ?_|refine Xah ?_|refine Xbn ?_|refine Xa9 ?_|refine Xay ?_|refine Xac ?_|refine Xae ?_)|(refine XaX _ rfl (fun h=>?_) (fun h=>?_)<;>((try (simp only [whn] at h));skip))|((apply Xao rfl);(case h=>((try (intro (hp:(_:Bool)=true);((try simp only [Bool.and_eq_true,Bool.not_eq_true',Bool.not_eq_true] at hp);(try simp only [hp,wte]);(try simp only [whn] at hp))));(first|(apply Xad 0 rfl;(exact XaS _ rfl))|(apply Xad 4 rfl;(exact Xa3 _ rfl (by first|exact .inl ⟨_,rfl⟩|fail)))|(apply Xad 5 rfl;(exact Xal _ _ _ _ _ _ rfl rfl Xa1.out))|(apply Xad 6 rfl;(exact XaN _ _ _ _ _ _ _ _ rfl rfl Xby.out XaR.out (by first|exact Xvs rfl|fail) (by first|exact Xvs rfl|fail)))|(apply Xad 11 rfl;(exact Xcc 75 Tryz.f75 _ _ rfl rfl Tryz.func75 (by decide) rfl (by (repeat' (first|exact VwL.nil|(refine VwL.cons ?_ ?_)|exact Vw.box (List.Mem.tail _ (List.Mem.head _)) (VwL.refl _ _)|fail));done) (hn)))|(apply XbB;(case hs=>(intro _ _ h;cases h));(case hx=>rfl);(case hrun=>(intro w;simp [wtb,AV.val,go_sem];(try go_bits);rfl))))));(case hT=>((try simp (disch:=omega) only [wtn,tc,Xvx,Xvu,Xvv,Xvy,XvC,Nat.reduceAdd,Nat.reduceMul,Nat.reduceSub,↓reduceIte,Nat.reduceEqDiff]);rfl)))|(refine XaD rfl ?_;refine XaB 101 Tryz.f101 [] _ _ _ _ rfl rfl Tryz.func101 (by decide) rfl (Xvt _) (VwL.refl _ _) (XdA _ ts[k]) ?_ ?_;(case refine_1=>(rintro _ _ ⟨⟩));(case' refine_2=>(rintro _ _ ⟨rfl,rfl⟩)))|(refine Xaa rfl ?_;((first|(refine XaQ 14 rfl ?_;(refine Xbq _ _ rfl Xb0.out rfl (fun b=>?_)))|(refine XaQ 16 rfl ?_;(refine XaH _ _ _ _ _ _ _ rfl rfl Xby.out Xa6.out (by first|rfl|fail) (by first|exact Xvs rfl|fail) ?_)));apply Xam;(case hT=>((try simp (disch:=omega) only [wtn,tc,Xvx,Xvu,Xvv,Xvy,XvC,Nat.reduceAdd,Nat.reduceMul,Nat.reduceSub,↓reduceIte,Nat.reduceEqDiff]);rfl));(case hH=>((try simp (disch:=omega) only [wtn,tc,Xvx,Xvu,Xvv,Xvy,XvC,Nat.reduceAdd,Nat.reduceMul,Nat.reduceSub,↓reduceIte,Nat.reduceEqDiff]);rfl))))|fail))
 ·(repeat (with_reducible first|refine Xae ?_|fail));refine Xan _ _ (Xaq.mk' [] _ (Xvt _) (Xap.refl _ _) VwL.nil) ?_
  exact ⟨_,if_neg h,rfl⟩
 ·exact Xc2 _ _ (Xa0 rfl (RV.cell 1 rfl rfl XaR.out (by simp) (by simp)) (Xaq.mk' [_,_] [.box pb (tc ts (k+1))] (Xvt _) (Xap.refl _ _) (VwL.refl _ _))) ⟨rfl,rfl,if_pos h,h⟩
theorem Xg8 (ts:List Tok) (k:Nat) (s:List UInt8) (hk:k < ts.length) (hl:ts.length≤1000000):XaM Tryz.prog 104 [] [.at_ (tc ts k),.x (.string (bs s))] (fun r H'=>r=.x (.bool (gIs ts k s))∧H'=[]):=by
 have hn:=Xkb ts k hk hl
 unfold Tok.av at hn
 refine Xco Tryz.func104 rfl ?_
 simp only [Tryz.ntmps104,Xvw,Xvz,XvA,XvB,XvE,XvD,Nat.reduceAdd,Nat.reduceSub]
 (repeat' (first|with_reducible (first|refine XaK ?_|refine Xah ?_|refine Xbn ?_|refine Xay ?_|refine Xac ?_)|((first|apply Xao rfl|apply Xd7 _ _ rfl rfl rfl);(case h=>((try (intro (hp:(_:Bool)=true);((try simp only [Bool.and_eq_true,Bool.not_eq_true',Bool.not_eq_true] at hp);(try simp only [hp,wte]);(try simp only [whn] at hp))));(first|(apply Xad 0 rfl;(first|exact XaS _ rfl|exact Xa8 _ rfl))|(apply Xad 1 rfl;(exact XcU _ _ _ _ _ rfl rfl rfl rfl))|(apply Xad 5 rfl;(exact Xal _ _ _ _ _ _ rfl rfl Xa1.out))|(apply Xad 6 rfl;(exact XaN _ _ _ _ _ _ _ _ rfl rfl Xby.out XaR.out (by first|exact Xvs rfl|fail) (by first|exact Xvs rfl|fail)))|(apply Xad 11 rfl;(exact Xcc 75 Tryz.f75 _ _ rfl rfl Tryz.func75 (by decide) rfl (by (repeat' (first|exact VwL.nil|(refine VwL.cons ?_ ?_)|exact Vw.refl _|fail));done) (hn)))|(apply XbB;(case hs=>(intro _ _ h;cases h));(case hx=>rfl);(case hrun=>(intro w;simp [wtb,AV.val,go_sem];(try go_bits);rfl))))));(case hT=>((try simp only [wtn,Xvx,Xvu,Xvv,Xvy,XvC,Nat.reduceAdd,Nat.reduceMul,Nat.reduceSub,↓reduceIte,Nat.reduceEqDiff]);rfl)))|(refine Xaa rfl ?_;((first|(refine XaQ 14 rfl ?_;(refine Xbq _ _ rfl Xb0.out rfl (fun b=>?_)))|(refine XaQ 16 rfl ?_;(refine XaH _ _ _ _ _ _ _ rfl rfl Xby.out Xa6.out (by first|rfl|fail) (by first|exact Xvs rfl|fail) ?_)));apply Xam;(case hT=>((try simp only [wtn,Xvx,Xvu,Xvv,Xvy,XvC,Nat.reduceAdd,Nat.reduceMul,Nat.reduceSub,↓reduceIte,Nat.reduceEqDiff]);rfl));(case hH=>((try simp only [wtn,Xvx,Xvu,Xvv,Xvy,XvC,Nat.reduceAdd,Nat.reduceMul,Nat.reduceSub,↓reduceIte,Nat.reduceEqDiff]);rfl))))|fail))
 refine Xab _ _ (Xa0 rfl (RV.tmp _) (Xaq.mk' [_] [] (Xvt _) (Xap.refl _ _) (by first|exact VwL.refl _ _|fail))) ?_
 exact ⟨by simp only [gIs,XaZ hk];rfl,rfl⟩
theorem Xqg (pb:Nat) (ts:List Tok) (k:Nat) (s:List UInt8) (hk:k < ts.length) (hl:ts.length≤1000000):XcF Tryz.prog 103 [.box pb (tc ts k)] [.x (.pointer (some ⟨pb,0,none⟩)),.x (.string (bs s))] (fun r H'=>r=.x (.tuple #[])∧H'=[.box pb (tc ts (k+1))]∧Xgu ts k s=.ok ()∧gIs ts k s=true) (fun v _=>∃f,Xgu ts k s=.error f∧v=fv f):=by
 have hn:=Xkb ts k hk hl
 unfold Tok.av at hn
 have hi:=Xg8 ts k s hk hl
 simp only [Xgu]
 generalize gIs ts k s=gi at hi ⊢
 refine XbT Tryz.func103 rfl ?_
 simp only [Tryz.ntmps103,Xvw,Xvz,XvA,XvB,XvE,XvD,Nat.reduceAdd,Nat.reduceSub]
 (repeat' (first|with_reducible (first|refine XaK ?_|refine Xah ?_|refine Xa9 ?_|refine Xay ?_|refine Xac ?_|refine Xae ?_)|(refine XaX _ rfl (fun h=>?_) (fun h=>?_)<;>((try (simp only [whn] at h));skip))|((apply Xao rfl);(case h=>((try (intro (hp:(_:Bool)=true);((try simp only [Bool.and_eq_true,Bool.not_eq_true',Bool.not_eq_true] at hp);(try simp only [hp,wte]);(try simp only [whn] at hp))));(first|(apply Xad 0 rfl;(exact XaS _ rfl))|(apply Xad 4 rfl;(exact Xa3 _ rfl (by first|exact .inl ⟨_,rfl⟩|fail)))|(apply Xad 5 rfl;(exact Xal _ _ _ _ _ _ rfl rfl Xa1.out))|(apply Xad 6 rfl;(exact XaN _ _ _ _ _ _ _ _ rfl rfl Xby.out XaR.out (by first|exact Xvs rfl|fail) (by first|exact Xvs rfl|fail)))|(apply Xad 11 rfl;(first|exact Xcc 75 Tryz.f75 _ _ rfl rfl Tryz.func75 (by decide) rfl (by (repeat' (first|exact VwL.nil|(refine VwL.cons ?_ ?_)|exact Vw.box (List.Mem.head _) (VwL.refl _ _)|fail));done) (hn)|exact Xcc 104 Tryz.f104 _ _ rfl rfl Tryz.func104 (by decide) rfl (by (repeat' (first|exact VwL.nil|(refine VwL.cons ?_ ?_)|exact Vw.refl _|exact Vw.box (List.Mem.head _) (VwL.refl _ _)|fail));done) (hi)))|(apply XbB;(case hs=>(intro _ _ h;cases h));(case hx=>rfl);(case hrun=>(intro w;simp [wtb,AV.val,go_sem];(try go_bits);rfl))))));(case hT=>((try simp (disch:=omega) only [wtn,tc,Xvx,Xvu,Xvv,Xvy,XvC,Nat.reduceAdd,Nat.reduceMul,Nat.reduceSub,↓reduceIte,Nat.reduceEqDiff]);rfl)))|(refine XaD rfl ?_;refine XaB 101 Tryz.f101 [] _ _ _ _ rfl rfl Tryz.func101 (by decide) rfl (Xvt _) (VwL.refl _ _) (XdA _ ts[k]) ?_ ?_;(case refine_1=>(rintro _ _ ⟨⟩));(case' refine_2=>(rintro _ _ ⟨rfl,rfl⟩)))|(refine Xaa rfl ?_;((refine XaQ 16 rfl ?_;(refine XaH _ _ _ _ _ _ _ rfl rfl Xby.out Xa6.out (by first|rfl|fail) (by first|exact Xvs rfl|fail) ?_));apply Xam;(case hT=>((try simp (disch:=omega) only [wtn,tc,Xvx,Xvu,Xvv,Xvy,XvC,Nat.reduceAdd,Nat.reduceMul,Nat.reduceSub,↓reduceIte,Nat.reduceEqDiff]);rfl));(case hH=>((try simp (disch:=omega) only [wtn,tc,Xvx,Xvu,Xvv,Xvy,XvC,Nat.reduceAdd,Nat.reduceMul,Nat.reduceSub,↓reduceIte,Nat.reduceEqDiff]);rfl))))|fail))
 ·(repeat (with_reducible first|refine Xae ?_|fail));refine Xan _ _ (Xaq.mk' [] _ (Xvt _) (Xap.refl _ _) VwL.nil) ?_
  exact ⟨_,by rw [XaZ hk,h];rfl,rfl⟩
 ·exact Xba _ _ (Xff rfl (Xaq.mk' [] [_] (Xvt _) (Xap.refl _ _) VwL.nil)) ⟨rfl,rfl,by rw [h];rfl,h⟩
theorem Xm5 (pb:Nat) (ts:List Tok) (k:Nat) (full:Bool) (hk:k < ts.length) (hl:ts.length≤1000000):XcF Tryz.prog 102 [.box pb (tc ts k)] [.x (.pointer (some ⟨pb,0,none⟩)),.x (.bool full)] (fun r H'=>r=ts[k].av∧H'=[.box pb (tc ts (k+1))]∧XeZ ts k full=.ok ts[k]∧ts[k].kind=1) (fun v _=>∃f,XeZ ts k full=.error f∧v=fv f):=by
 have hT:=Xfn pb ts k 1 hk hl
 have e:XeZ ts k full=Xc9 ts k 1 >>= fun t=>if t.text.length > 32∨full=true then .error (flt 1 t) else .ok t:=by
  unfold XeZ XcY Xc9
  rw [XaZ hk]
  by_cases h1:ts[k].kind=1
  ·rw [if_neg (fun h=>h h1),if_pos h1]
   by_cases h2:32 < ts[k].text.length
   ·simp [h2,bind,Except.bind]
   ·cases full<;>simp [h2,bind,Except.bind]
  ·rw [if_pos h1,if_neg h1];rfl
 rw [e]
 clear e
 unfold Tok.av at hT ⊢
 refine XbT Tryz.func102 rfl ?_
 simp only [Tryz.ntmps102,Xvw,Xvz,XvA,XvB,XvE,XvD,Nat.reduceAdd,Nat.reduceSub]
 (repeat' (first|with_reducible (first|refine XaK ?_|refine Xah ?_|refine Xbn ?_|refine Xa9 ?_|refine Xay ?_|refine Xac ?_|refine Xae ?_)|(refine XaX _ rfl (fun h=>?_) (fun h=>?_)<;>((try (simp only [whn] at h));skip))|((first|apply Xao rfl|apply Xd7 _ _ rfl rfl rfl);(case h=>((try (intro (hp:(_:Bool)=true);((try simp only [Bool.and_eq_true,Bool.not_eq_true',Bool.not_eq_true] at hp);(try simp only [hp,wte]);(try simp only [whn] at hp))));(first|(apply Xad 0 rfl;(exact XaS _ rfl))|(apply Xad 1 rfl;(exact XdC _ _ _ _ _ rfl rfl rfl rfl))|(apply Xad 5 rfl;(exact Xal _ _ _ _ _ _ rfl rfl Xa1.out))|(apply Xad 6 rfl;(exact XaN _ _ _ _ _ _ _ _ rfl rfl Xby.out XaR.out (by first|exact Xvs rfl|fail) (by first|exact Xvs rfl|fail)))|(apply XbB;(case hs=>(intro _ _ h;cases h));(case hx=>rfl);(case hrun=>(intro w;simp [wtb,AV.val,go_sem];(try go_bits);rfl))))));(case hT=>((try simp (disch:=omega) only [wtn,tc,Xvx,Xvu,Xvv,Xvy,XvC,Nat.reduceAdd,Nat.reduceMul,Nat.reduceSub,↓reduceIte,Nat.reduceEqDiff]);rfl)))|(refine XaD rfl ?_;refine XaB 100 Tryz.f100 [_] _ _ _ _ rfl rfl Tryz.func100 (by decide) rfl (XvG (l₁:=[_])) (VwL.refl _ _) (hT) ?_ ?_;(case' refine_1=>(rintro _ _ ⟨rfl,rfl,hp,hk1⟩;(apply Xam;(case hT=>((try simp (disch:=omega) only [wtn,tc,Xvx,Xvu,Xvv,Xvy,XvC,Nat.reduceAdd,Nat.reduceMul,Nat.reduceSub,↓reduceIte,Nat.reduceEqDiff]);rfl));(case hH=>((try simp (disch:=omega) only [wtn,tc,Xvx,Xvu,Xvv,Xvy,XvC,Nat.reduceAdd,Nat.reduceMul,Nat.reduceSub,↓reduceIte,Nat.reduceEqDiff]);rfl)))));(case' refine_2=>(rintro _ _ ⟨f,hp,rfl⟩)))|(refine XaD rfl ?_;refine XaB 101 Tryz.f101 [] _ _ _ _ rfl rfl Tryz.func101 (by decide) rfl (Xvt _) (VwL.refl _ _) (XdA _ ts[k]) ?_ ?_;(case refine_1=>(rintro _ _ ⟨⟩));(case' refine_2=>(rintro _ _ ⟨rfl,rfl⟩)))|(refine Xaa rfl ?_;((first|(refine XaQ 14 rfl ?_;(refine Xbq _ _ rfl Xb0.out rfl (fun b=>?_)))|(refine XaQ 16 rfl ?_;(refine XaH _ _ _ _ _ _ _ rfl rfl Xby.out Xa6.out (by first|rfl|fail) (by first|exact Xvs rfl|fail) ?_)));apply Xam;(case hT=>((try simp (disch:=omega) only [wtn,tc,Xvx,Xvu,Xvv,Xvy,XvC,Nat.reduceAdd,Nat.reduceMul,Nat.reduceSub,↓reduceIte,Nat.reduceEqDiff]);rfl));(case hH=>((try simp (disch:=omega) only [wtn,tc,Xvx,Xvu,Xvv,Xvy,XvC,Nat.reduceAdd,Nat.reduceMul,Nat.reduceSub,↓reduceIte,Nat.reduceEqDiff]);rfl))))|fail))
 ·(repeat (with_reducible first|refine Xae ?_|fail));refine Xan _ _ (Xaq.mk' [] _ (Xvt _) (Xap.refl _ _) VwL.nil) ?_
  exact ⟨f,by rw [hp];rfl,rfl⟩
 ·(repeat (with_reducible first|refine Xae ?_|fail));refine Xan _ _ (Xaq.mk' [] _ (Xvt _) (Xap.refl _ _) VwL.nil) ?_
  exact ⟨_,by rw [hp];exact if_pos (by rcases h with h|h;left;omega;right;exact h),rfl⟩
 ·exact Xc2 _ _ (Xa0 rfl (RV.cell 2 rfl rfl XaR.out (by simp) (by simp)) (Xaq.mk' [_,_] [.box pb (tc ts (k+1))] (.cons _ (List.Perm.swap _ _ _)) (Xap.refl _ _) (VwL.refl _ _))) ⟨rfl,rfl,by rw [hp];exact if_neg (by rintro (h1|h1);omega;rw [h.2] at h1;cases h1),hk1⟩
theorem Xew (ts:List Tok) (k:Nat) (kind:Int) (most:Nat):XcY ts k kind most=Xc9 ts k kind >>= fun t=>if most < t.text.length then .error (flt 1 t) else .ok t:=by
 unfold XcY Xc9
 by_cases h1:(tkA ts k).kind=kind
 ·rw [if_neg (fun h=>h h1),if_pos h1];rfl
 ·rw [if_pos h1,if_neg h1];rfl
theorem XnS (pb:Nat) (ts:List Tok) (k:Nat) (kind:Int) (most:Nat) (hk:k < ts.length) (hl:ts.length≤1000000):XcF Tryz.prog 120 [.box pb (tc ts k)] [.x (.pointer (some ⟨pb,0,none⟩)),.x (.int .i64 kind),.x (.int .i64 most)] (fun r H'=>r=.x (.string (bs ts[k].text))∧H'=[.box pb (tc ts (k+1))]∧XcY ts k kind most=.ok ts[k]∧ts[k].kind=kind) (fun v _=>∃f,XcY ts k kind most=.error f∧v=fv f):=by
 have hT:=Xfn pb ts k kind hk hl
 rw [Xew]
 unfold Tok.av at hT
 refine XbT Tryz.func120 rfl ?_
 simp only [Tryz.ntmps120,Xvw,Xvz,XvA,XvB,XvE,XvD,Nat.reduceAdd,Nat.reduceSub]
 (repeat' (first|with_reducible (first|refine XaK ?_|refine Xah ?_|refine Xbn ?_|refine Xa9 ?_|refine Xay ?_|refine Xac ?_|refine Xae ?_)|(refine XaX _ rfl (fun h=>?_) (fun h=>?_)<;>((try (simp only [whn] at h));skip))|((apply Xao rfl);(case h=>((try (intro (hp:(_:Bool)=true);((try simp only [Bool.and_eq_true,Bool.not_eq_true',Bool.not_eq_true] at hp);(try simp only [hp,wte]);(try simp only [whn] at hp))));(first|(apply Xad 0 rfl;(first|exact XaS _ rfl|exact Xa8 _ rfl))|(apply Xad 5 rfl;(exact Xal _ _ _ _ _ _ rfl rfl Xa1.out))|(apply Xad 6 rfl;(exact XaN _ _ _ _ _ _ _ _ rfl rfl Xby.out XaR.out (by first|exact Xvs rfl|fail) (by first|exact Xvs rfl|fail)))|(apply XbB;(case hs=>(intro _ _ h;cases h));(case hx=>rfl);(case hrun=>(intro w;simp [wtb,AV.val,go_sem];(try go_bits);rfl))))));(case hT=>((try simp (disch:=omega) only [wtn,tc,Xvx,Xvu,Xvv,Xvy,XvC,Nat.reduceAdd,Nat.reduceMul,Nat.reduceSub,↓reduceIte,Nat.reduceEqDiff]);rfl)))|(refine XaD rfl ?_;refine XaB 100 Tryz.f100 [_] _ _ _ _ rfl rfl Tryz.func100 (by decide) rfl (Xvt _) (VwL.refl _ _) (hT) ?_ ?_;(case' refine_1=>(rintro _ _ ⟨rfl,rfl,hp,hk1⟩;(apply Xam;(case hT=>((try simp (disch:=omega) only [wtn,tc,Xvx,Xvu,Xvv,Xvy,XvC,Nat.reduceAdd,Nat.reduceMul,Nat.reduceSub,↓reduceIte,Nat.reduceEqDiff]);rfl));(case hH=>((try simp (disch:=omega) only [wtn,tc,Xvx,Xvu,Xvv,Xvy,XvC,Nat.reduceAdd,Nat.reduceMul,Nat.reduceSub,↓reduceIte,Nat.reduceEqDiff]);rfl)))));(case' refine_2=>(rintro _ _ ⟨f,hp,rfl⟩)))|(refine XaD rfl ?_;refine XaB 101 Tryz.f101 [] _ _ _ _ rfl rfl Tryz.func101 (by decide) rfl (Xvt _) (VwL.refl _ _) (XdA _ ts[k]) ?_ ?_;(case refine_1=>(rintro _ _ ⟨⟩));(case' refine_2=>(rintro _ _ ⟨rfl,rfl⟩)))|(refine Xaa rfl ?_;((first|(refine XaQ 14 rfl ?_;(refine Xbq _ _ rfl Xb0.out rfl (fun b=>?_)))|(refine XaQ 16 rfl ?_;(refine XaH _ _ _ _ _ _ _ rfl rfl Xby.out Xa6.out (by first|rfl|fail) (by first|exact Xvs rfl|fail) ?_)));apply Xam;(case hT=>((try simp (disch:=omega) only [wtn,tc,Xvx,Xvu,Xvv,Xvy,XvC,Nat.reduceAdd,Nat.reduceMul,Nat.reduceSub,↓reduceIte,Nat.reduceEqDiff]);rfl));(case hH=>((try simp (disch:=omega) only [wtn,tc,Xvx,Xvu,Xvv,Xvy,XvC,Nat.reduceAdd,Nat.reduceMul,Nat.reduceSub,↓reduceIte,Nat.reduceEqDiff]);rfl))))|fail))
 ·(repeat (with_reducible first|refine Xae ?_|fail));refine Xan _ _ (Xaq.mk' [] _ (Xvt _) (Xap.refl _ _) VwL.nil) ?_
  exact ⟨f,by rw [hp];rfl,rfl⟩
 ·(repeat (with_reducible first|refine Xae ?_|fail));refine Xan _ _ (Xaq.mk' [] _ (Xvt _) (Xap.refl _ _) VwL.nil) ?_
  exact ⟨_,by rw [hp];exact if_pos (by omega),rfl⟩
 ·exact Xc2 _ _ (Xa0 rfl (RV.tmp _) (Xaq.mk' [_] [.box pb (tc ts (k+1))] (Xvt _) (Xap.refl _ _) (VwL.refl _ _))) ⟨rfl,rfl,by rw [hp];exact if_neg (by omega),hk1⟩
theorem XmE (s:List UInt8):XaM Tryz.prog 158 [] [.x (.string (bs s))] (fun r H'=>r=.x (.int .i64 (XrX s))∧H'=[]):=by
 refine Xco Tryz.func158 rfl ?_
 simp only [Tryz.ntmps158,Xvw,Xvz,XvA,XvB,XvE,XvD,Nat.reduceAdd,Nat.reduceSub]
 (repeat' (first|with_reducible (first|refine XaK ?_|refine Xah ?_|refine Xbg ?_|refine Xbn ?_|refine Xa9 ?_|refine Xay ?_|refine Xac ?_|refine XbP ?_|refine Xaz ?_|refine XbA ?_)|(refine XaX _ rfl (fun h=>?_) (fun h=>?_)<;>((try (simp only [whn] at h));skip))|((apply Xao rfl);(case h=>((try (intro (hp:(_:Bool)=true);((try simp only [Bool.and_eq_true,Bool.not_eq_true',Bool.not_eq_true] at hp);(try simp only [hp,wte]);(try simp only [whn] at hp))));(first|(apply Xad 0 rfl;(first|exact XaS _ rfl|exact Xa8 _ rfl))|(apply XbB;(case hs=>(intro _ _ h;cases h));(case hx=>rfl);(case hrun=>(intro w;simp [wtb,AV.val,go_sem];(try go_bits);rfl))))));(case hT=>((try simp only [wtn,Xvx,Xvu,Xvv,Xvy,XvC,Nat.reduceAdd,Nat.reduceMul,Nat.reduceSub,↓reduceIte,Nat.reduceEqDiff]);rfl)))|fail))
 all_goals
  refine Xab _ _ (Xa0 rfl (RV.tmp _) (Xaq.mk' [] _ (Xvt _) (Xap.refl _ _) (VwL.refl _ _))) ?_
  refine ⟨?_,rfl⟩
  first|(simp [XrX,ev, *];done)|fail
theorem XoH (s:List UInt8):XaM Tryz.prog 105 [] [.x (.string (bs s))] (fun r H'=>r=.x (.bool (decide (s∈Xf6)))∧H'=[]):=by
 refine Xco Tryz.func105 rfl ?_
 simp only [Tryz.ntmps105,Xvw,Xvz,XvA,XvB,XvE,XvD,Nat.reduceAdd,Nat.reduceSub]
 (repeat' (first|with_reducible (first|refine XaK ?_|refine Xah ?_|refine Xbg ?_|refine Xbn ?_|refine Xa9 ?_|refine Xay ?_|refine Xac ?_|refine XbP ?_|refine Xaz ?_|refine XbA ?_)|(refine XaX _ rfl (fun h=>?_) (fun h=>?_)<;>((try (simp only [whn] at h));skip))|((apply Xao rfl);(case h=>((try (intro (hp:(_:Bool)=true);((try simp only [Bool.and_eq_true,Bool.not_eq_true',Bool.not_eq_true] at hp);(try simp only [hp,wte]);(try simp only [whn] at hp))));(first|(apply Xad 0 rfl;(first|exact XaS _ rfl|exact Xa8 _ rfl))|(apply XbB;(case hs=>(intro _ _ h;cases h));(case hx=>rfl);(case hrun=>(intro w;simp [wtb,AV.val,go_sem];(try go_bits);rfl))))));(case hT=>((try simp only [wtn,Xvx,Xvu,Xvv,Xvy,XvC,Nat.reduceAdd,Nat.reduceMul,Nat.reduceSub,↓reduceIte,Nat.reduceEqDiff]);rfl)))|fail))
 all_goals first
  | (exfalso;exact h (by assumption))
  | (refine Xab _ _ (Xa0 rfl (RV.tmp _) (Xaq.mk' [] _ (Xvt _) (Xap.refl _ _) (VwL.refl _ _))) ?_
     refine ⟨?_,rfl⟩
     first|(simp [Xf6,Xku,Xhr,XdP,Xfp,Xc4,XcE,XeP,Xlt,ev, *];done)|fail)
theorem Xs6 (ts:List Tok) (k:Nat) (hk:k < ts.length) (hS:ts[k].text.length≤8192):XoD ts k=Xc9 ts k 1 >>= Xtz:=by
 unfold XoD Xtz
 rw [Xew]
 cases h:Xc9 ts k 1 with
 | error f=>rfl
 | ok t=>
   have e:t=ts[k]:=by
    unfold Xc9 at h
    rw [XaZ hk] at h
    split at h
    ·cases h;rfl
    ·cases h
   simp only [bind,Except.bind]
   rw [if_neg (by rw [e];omega)]
theorem Xpb (pb:Nat) (ts:List Tok) (k:Nat) (hk:k < ts.length) (hl:ts.length≤1000000) (hS:ts[k].text.length≤8192):XcF Tryz.prog 125 [.box pb (tc ts k)] [.x (.pointer (some ⟨pb,0,none⟩))] (fun r H'=>∃n,r=.x (.int .i64 n)∧H'=[.box pb (tc ts (k+1))]∧XoD ts k=.ok n∧ts[k].kind=1) (fun v _=>∃f,XoD ts k=.error f∧v=fv f):=by
 have hT:=Xfn pb ts k 1 hk hl
 rw [Xs6 ts k hk hS]
 unfold Tok.av at hT
 refine XbT Tryz.func125 rfl ?_
 simp only [Tryz.ntmps125,Xvw,Xvz,XvA,XvB,XvE,XvD,Nat.reduceAdd,Nat.reduceSub]
 (repeat' (first|with_reducible (first|refine XaK ?_|refine Xah ?_|refine Xbg ?_|refine Xbn ?_|refine Xa9 ?_|refine Xay ?_|refine Xac ?_|refine XbP ?_|refine Xaz ?_|refine XbA ?_|refine Xae ?_)|(refine XaX _ rfl (fun h=>?_) (fun h=>?_)<;>((try (simp only [whn] at h));skip))|((apply Xao rfl);(case h=>((try (intro (hp:(_:Bool)=true);((try simp only [Bool.and_eq_true,Bool.not_eq_true',Bool.not_eq_true] at hp);(try simp only [hp,wte]);(try simp only [whn] at hp))));(first|(apply Xad 0 rfl;(first|exact XaS _ rfl|exact Xa8 _ rfl))|(apply Xad 5 rfl;(exact Xal _ _ _ _ _ _ rfl rfl Xa1.out))|(apply Xad 6 rfl;(exact XaN _ _ _ _ _ _ _ _ rfl rfl Xby.out XaR.out (by first|exact Xvs rfl|fail) (by first|exact Xvs rfl|fail)))|(apply XbB;(case hs=>(intro _ _ h;cases h));(case hx=>rfl);(case hrun=>(intro w;simp [wtb,AV.val,go_sem];(try go_bits);rfl))))));(case hT=>((try simp (disch:=omega) only [wtn,tc,Xvx,Xvu,Xvv,Xvy,XvC,Nat.reduceAdd,Nat.reduceMul,Nat.reduceSub,↓reduceIte,Nat.reduceEqDiff]);rfl)))|(refine XaD rfl ?_;refine XaB 100 Tryz.f100 [_] _ _ _ _ rfl rfl Tryz.func100 (by decide) rfl (Xvt _) (VwL.refl _ _) (hT) ?_ ?_;(case' refine_1=>(rintro _ _ ⟨rfl,rfl,hp,hk1⟩;(apply Xam;(case hT=>((try simp (disch:=omega) only [wtn,tc,Xvx,Xvu,Xvv,Xvy,XvC,Nat.reduceAdd,Nat.reduceMul,Nat.reduceSub,↓reduceIte,Nat.reduceEqDiff]);rfl));(case hH=>((try simp (disch:=omega) only [wtn,tc,Xvx,Xvu,Xvv,Xvy,XvC,Nat.reduceAdd,Nat.reduceMul,Nat.reduceSub,↓reduceIte,Nat.reduceEqDiff]);rfl)))));(case' refine_2=>(rintro _ _ ⟨f,hp,rfl⟩)))|(refine XaD rfl ?_;refine XaB 101 Tryz.f101 [] _ _ _ _ rfl rfl Tryz.func101 (by decide) rfl (Xvt _) (VwL.refl _ _) (XdA _ ts[k]) ?_ ?_;(case refine_1=>(rintro _ _ ⟨⟩));(case' refine_2=>(rintro _ _ ⟨rfl,rfl⟩)))|(refine Xaa rfl ?_;((first|(refine XaQ 14 rfl ?_;(refine Xbq _ _ rfl Xb0.out rfl (fun b=>?_)))|(refine XaQ 16 rfl ?_;(refine XaH _ _ _ _ _ _ _ rfl rfl Xby.out Xa6.out (by first|rfl|fail) (by first|exact Xvs rfl|fail) ?_)));apply Xam;(case hT=>((try simp (disch:=omega) only [wtn,tc,Xvx,Xvu,Xvv,Xvy,XvC,Nat.reduceAdd,Nat.reduceMul,Nat.reduceSub,↓reduceIte,Nat.reduceEqDiff]);rfl));(case hH=>((try simp (disch:=omega) only [wtn,tc,Xvx,Xvu,Xvv,Xvy,XvC,Nat.reduceAdd,Nat.reduceMul,Nat.reduceSub,↓reduceIte,Nat.reduceEqDiff]);rfl))))|fail))
 ·(repeat (with_reducible first|refine Xae ?_|fail));refine Xan _ _ (Xaq.mk' [] _ (Xvt _) (Xap.refl _ _) VwL.nil) ?_
  exact ⟨f,by rw [hp];rfl,rfl⟩
 ·exact Xc2 _ _ (Xa0 rfl (RV.tmp _) (Xaq.mk' [_] [.box pb (tc ts (k+1))] (Xvt _) (Xap.refl _ _) (VwL.refl _ _))) ⟨3,rfl,rfl,by rw [hp];exact if_pos h,hk1⟩
 ·exact Xc2 _ _ (Xa0 rfl (RV.tmp _) (Xaq.mk' [_] [.box pb (tc ts (k+1))] (Xvt _) (Xap.refl _ _) (VwL.refl _ _))) ⟨2,rfl,rfl,by rw [hp];exact (if_neg (by assumption)).trans (if_pos h),hk1⟩
 ·exact Xc2 _ _ (Xa0 rfl (RV.tmp _) (Xaq.mk' [_] [.box pb (tc ts (k+1))] (Xvt _) (Xap.refl _ _) (VwL.refl _ _))) ⟨1,rfl,rfl,by rw [hp];exact (if_neg (by assumption)).trans ((if_neg (by assumption)).trans (if_pos h)),hk1⟩
 ·(repeat (with_reducible first|refine Xae ?_|fail));refine Xan _ _ (Xaq.mk' [] _ (Xvt _) (Xap.refl _ _) VwL.nil) ?_
  exact ⟨_,by rw [hp];exact (if_neg (by assumption)).trans ((if_neg (by assumption)).trans (if_neg h)),rfl⟩
end Go.Proofs.YtdlblokjfoggpaaGreatDoor

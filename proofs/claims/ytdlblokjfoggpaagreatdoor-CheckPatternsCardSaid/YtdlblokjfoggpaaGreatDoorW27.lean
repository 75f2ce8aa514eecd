import Derived.Test.YtdlblokjfoggpaaGreatDoorW25
import Derived.Test.YtdlblokjfoggpaaGreatDoorW26
/- The program's parser: tokens, signs, names, texts. It panics with its first fault. -/
set_option linter.unusedSimpArgs false
set_option linter.unusedVariables false
--%old
set_option maxRecDepth 100000
set_option maxHeartbeats 8000000
namespace Go.Proofs.YtdlblokjfoggpaaGreatDoor
open Go.RowKit
def tc (ts:List Tok) (k:Nat):List AV:=[.sq ts.length (ta ts),.x (.int .i64 k)]
def fv (f:Flt):Value:=.iface 32 (.agg #[.int .i64 f.code,.int .i64 (f.line:Nat),.int .i64 (f.col:Nat)])
theorem XdC (e:Int) (t:Tok):XcH Tryz.prog 101 [] [.x (.int .i64 e),t.av] (fun _ _=>False) (fun v H'=>v=fv (flt e t)∧H'=[]):=by
 unfold Tok.av
 refine XbE Tryz.func101 rfl ?_
 simp only [Tryz.ntmps101,Xyr,Xyu,Xyv,Xyw,Xyz,Xyy,Nat.reduceAdd,Nat.reduceSub]
 (repeat' (first|with_reducible (first|refine XaH ?_|refine Xal ?_|refine Xat ?_|refine Xac ?_)|((apply Xar rfl);(case h=>((try (intro (hp:(_:Bool)=true);((try simp only [Bool.and_eq_true,Bool.not_eq_true',Bool.not_eq_true] at hp);(try simp only [hp,wte]);(try simp only [whn] at hp))));(first|(apply Xag 0 rfl;(exact XaW _ rfl))|(apply Xag 5 rfl;(exact Xaq _ _ _ _ _ _ rfl rfl Xbc.out))|(apply Xag 6 rfl;(exact XaK _ _ _ _ _ _ _ _ rfl rfl Xbt.out XaI.out (by first|exact Xyn rfl|fail) (by first|exact Xyn rfl|fail)))|(apply Xag 10 rfl;(exact XbS _ _ _ _ _ rfl HPl.out (by first|rfl|fail) rfl))|(apply XbI;(case hs=>(intro _ _ h;cases h));(case hx=>rfl);(case hrun=>(intro w;simp [wtb,AV.val,go_sem];(try go_bits);rfl))))));(case hT=>((try simp only [wtn,Xys,Xyp,Xyq,Xyt,Xyx,Nat.reduceAdd,Nat.reduceMul,Nat.reduceSub,↓reduceIte,Nat.reduceEqDiff]);rfl)))|(refine Xab rfl ?_;((refine XaQ 15 rfl ?_;(refine Xfc _ _ rfl (by first|rfl|fail) (fun b=>?_)));apply Xap;(case hT=>((try simp only [wtn,Xys,Xyp,Xyq,Xyt,Xyx,Nat.reduceAdd,Nat.reduceMul,Nat.reduceSub,↓reduceIte,Nat.reduceEqDiff]);rfl));(case hH=>((try simp only [wtn,Xys,Xyp,Xyq,Xyt,Xyx,Nat.reduceAdd,Nat.reduceMul,Nat.reduceSub,↓reduceIte,Nat.reduceEqDiff]);rfl))))|fail))
 refine Xl5 rfl rfl rfl ?_
 exact Xan _ _ (Xaj.mk' [_] [] (Xyo _) Xak.nil VwL.nil) ⟨rfl,rfl⟩
theorem Xlh (ts:List Tok) (k:Nat) (hk:k < ts.length) (hl:ts.length≤1000000):Xay Tryz.prog 75 [] [.at_ (tc ts k)] (fun r H'=>r=ts[k].av∧H'=[]):=by
 unfold tc
 refine Xcx Tryz.func75 rfl ?_
 simp only [Tryz.ntmps75,Xyr,Xyu,Xyv,Xyw,Xyz,Xyy,Nat.reduceAdd,Nat.reduceSub]
 (repeat' (first|with_reducible (first|refine XaH ?_|refine Xal ?_|refine Xat ?_|refine Xac ?_)|(refine Xab rfl ?_;((refine XaQ 14 rfl ?_;(refine Xbf _ _ rfl XbT.out rfl (fun b=>?_)));apply Xap;(case hT=>((try simp only [wtn,Xys,Xyp,Xyq,Xyt,Xyx,Nat.reduceAdd,Nat.reduceMul,Nat.reduceSub,↓reduceIte,Nat.reduceEqDiff]);rfl));(case hH=>((try simp only [wtn,Xys,Xyp,Xyq,Xyt,Xyx,Nat.reduceAdd,Nat.reduceMul,Nat.reduceSub,↓reduceIte,Nat.reduceEqDiff]);rfl))))|fail))
 refine Xbu mixed ?_
 (apply XbJ 0 rfl rfl (by kernel_rfl) (by intro c T H hp;simp [XbH,XaA,XbP,Xdx] at hp);(case h=>(first|exact Xbq _ rfl|fail));(apply Xai;(case hT=>((try simp only [wtn,Xys,Xyp,Xyq,Xyt,Xyx,Nat.reduceAdd,Nat.reduceMul,Nat.reduceSub,↓reduceIte,Nat.reduceEqDiff]);rfl));(case hH=>rfl)));(apply XbJ 1 rfl rfl (by kernel_rfl) (by intro c T H hp;simp [XbH,XaA,XbP,Xdx] at hp);(case h=>(first|exact WInd_nil_at _ _ rfl rfl|fail));(apply Xai;(case hT=>((try simp only [wtn,Xys,Xyp,Xyq,Xyt,Xyx,Nat.reduceAdd,Nat.reduceMul,Nat.reduceSub,↓reduceIte,Nat.reduceEqDiff]);rfl));(case hH=>rfl)));(apply XbJ 2 rfl rfl (by kernel_rfl) (by intro c T H hp;simp [XbH,XaA,XbP,Xdx] at hp);(case h=>(first|exact WInd_field_at _ _ _ _ _ rfl rfl Xbc.out|fail));(apply Xai;(case hT=>((try simp only [wtn,Xys,Xyp,Xyq,Xyt,Xyx,Nat.reduceAdd,Nat.reduceMul,Nat.reduceSub,↓reduceIte,Nat.reduceEqDiff]);rfl));(case hH=>rfl)));(apply XbJ 4 rfl rfl (by kernel_rfl) (by intro c T H hp;simp [XbH,XaA,XbP,Xdx] at hp);(case h=>(first|exact Xbq _ rfl|fail));(apply Xai;(case hT=>((try simp only [wtn,Xys,Xyp,Xyq,Xyt,Xyx,Nat.reduceAdd,Nat.reduceMul,Nat.reduceSub,↓reduceIte,Nat.reduceEqDiff]);rfl));(case hH=>rfl)));(apply XbJ 5 rfl rfl (by kernel_rfl) (by intro c T H hp;simp [XbH,XaA,XbP,Xdx] at hp);(case h=>(first|exact WInd_nil_at _ _ rfl rfl|fail));(apply Xai;(case hT=>((try simp only [wtn,Xys,Xyp,Xyq,Xyt,Xyx,Nat.reduceAdd,Nat.reduceMul,Nat.reduceSub,↓reduceIte,Nat.reduceEqDiff]);rfl));(case hH=>rfl)));(apply XbJ 6 rfl rfl (by kernel_rfl) (by intro c T H hp;simp [XbH,XaA,XbP,Xdx] at hp);(case h=>(first|exact WInd_field_at _ _ _ _ _ rfl rfl Xbc.out|fail));(apply Xai;(case hT=>((try simp only [wtn,Xys,Xyp,Xyq,Xyt,Xyx,Nat.reduceAdd,Nat.reduceMul,Nat.reduceSub,↓reduceIte,Nat.reduceEqDiff]);rfl));(case hH=>rfl)))
 refine Xnq 3 7 (by decide +kernel) rfl rfl rfl rfl ?_ ?_
 ·(first|(apply Xbi;(case h=>(apply Xag 6 rfl;(exact Xbg _ _ _ _ _ rfl rfl XaI.out (by first|exact Xyn rfl|fail) (by first|exact Xyn rfl|fail))));(apply Xai;(case hT=>((try simp only [wtn,Xys,Xyp,Xyq,Xyt,Xyx,Nat.reduceAdd,Nat.reduceMul,Nat.reduceSub,↓reduceIte,Nat.reduceEqDiff]);rfl));(case hH=>rfl)))|fail)
  (refine XbN 7 (by decide +kernel) rfl rfl ?_;(first|(apply Xbi;(case h=>(apply Xag 6 rfl;(exact Xbg _ _ _ _ _ rfl rfl XaI.out (by first|exact Xyn rfl|fail) (by first|exact Xyn rfl|fail))));(apply Xai;(case hT=>((try simp only [wtn,Xys,Xyp,Xyq,Xyt,Xyx,Nat.reduceAdd,Nat.reduceMul,Nat.reduceSub,↓reduceIte,Nat.reduceEqDiff]);rfl));(case hH=>rfl)))|fail))
  (repeat ((first|refine XbN 8 (by decide +kernel) rfl rfl ?_|refine XbN 9 (by decide +kernel) rfl rfl ?_|refine XbN 10 (by decide +kernel) rfl rfl ?_|fail);(first|(apply Xbi;(case h=>(first|(apply Xag 6 rfl;(exact Xbg _ _ _ _ _ rfl rfl XaI.out (by first|exact Xyn rfl|fail) (by first|exact Xyn rfl|fail)))|(apply Xag 7 rfl;(exact Xbv _ _ _ _ _ _ _ _ _ _ rfl rfl rfl HEl.out rfl (by first|omega|fail) (by simp;first|omega|fail)))));(apply Xai;(case hT=>((try simp (disch:=assumption) only [wtn,Xfp,Tok.cells,Xys,Xyp,Xyq,Xyt,Xyx,Nat.reduceAdd,Nat.reduceMul,Nat.reduceSub,↓reduceIte,Nat.reduceEqDiff]);rfl));(case hH=>rfl)))|((refine XaQ 16 rfl ?_;(refine Xaw _ _ _ _ _ _ _ rfl rfl Xbt.out Xa1.out (by first|rfl|fail) (by first|exact Xyn rfl|fail) ?_));apply Xai;(case hT=>((try simp (disch:=omega) only [wtn,Xfp,Tok.cells,Xys,Xyp,Xyq,Xyt,Xyx,Nat.reduceAdd,Nat.reduceMul,Nat.reduceSub,↓reduceIte,Nat.reduceEqDiff]);rfl));(case hH=>((try simp (disch:=omega) only [wtn,Xfp,Tok.cells,Xys,Xyp,Xyq,Xyt,Xyx,Nat.reduceAdd,Nat.reduceMul,Nat.reduceSub,↓reduceIte,Nat.reduceEqDiff]);rfl)))|fail)))
  refine Xao (by decide +kernel) ?_
  (repeat' (first|with_reducible (first|refine Xbj ?_|refine Xac ?_)|fail))
  refine Xaa _ _ (XaF rfl (RV.cell 0 rfl rfl XaI.out (by simp) (by simp)) (Xaj.mk' [_] [] (Xyo _) Xak.nil (VwL.refl _ _))) ?_
  exact ⟨rfl,rfl⟩
 ·(first|(apply Xbi;(case h=>(apply Xag 6 rfl;(exact Xbg _ _ _ _ _ rfl rfl XaI.out (by first|exact Xyn rfl|fail) (by first|exact Xyn rfl|fail))));(apply Xai;(case hT=>((try simp only [wtn,Xys,Xyp,Xyq,Xyt,Xyx,Nat.reduceAdd,Nat.reduceMul,Nat.reduceSub,↓reduceIte,Nat.reduceEqDiff]);rfl));(case hH=>rfl)))|fail)
  (refine XbN 3 (by decide +kernel) rfl rfl ?_;(first|(apply Xbi;(case h=>(apply Xag 6 rfl;(exact Xbg _ _ _ _ _ rfl rfl XaI.out (by first|exact Xyn rfl|fail) (by first|exact Xyn rfl|fail))));(apply Xai;(case hT=>((try simp only [wtn,Xys,Xyp,Xyq,Xyt,Xyx,Nat.reduceAdd,Nat.reduceMul,Nat.reduceSub,↓reduceIte,Nat.reduceEqDiff]);rfl));(case hH=>rfl)))|fail))
  (repeat ((first|refine XbN 8 (by decide +kernel) rfl rfl ?_|refine XbN 9 (by decide +kernel) rfl rfl ?_|refine XbN 10 (by decide +kernel) rfl rfl ?_|fail);(first|(apply Xbi;(case h=>(first|(apply Xag 6 rfl;(exact Xbg _ _ _ _ _ rfl rfl XaI.out (by first|exact Xyn rfl|fail) (by first|exact Xyn rfl|fail)))|(apply Xag 7 rfl;(exact Xbv _ _ _ _ _ _ _ _ _ _ rfl rfl rfl HEl.out rfl (by first|omega|fail) (by simp;first|omega|fail)))));(apply Xai;(case hT=>((try simp (disch:=assumption) only [wtn,Xfp,Tok.cells,Xys,Xyp,Xyq,Xyt,Xyx,Nat.reduceAdd,Nat.reduceMul,Nat.reduceSub,↓reduceIte,Nat.reduceEqDiff]);rfl));(case hH=>rfl)))|((refine XaQ 16 rfl ?_;(refine Xaw _ _ _ _ _ _ _ rfl rfl Xbt.out Xa1.out (by first|rfl|fail) (by first|exact Xyn rfl|fail) ?_));apply Xai;(case hT=>((try simp (disch:=omega) only [wtn,Xfp,Tok.cells,Xys,Xyp,Xyq,Xyt,Xyx,Nat.reduceAdd,Nat.reduceMul,Nat.reduceSub,↓reduceIte,Nat.reduceEqDiff]);rfl));(case hH=>((try simp (disch:=omega) only [wtn,Xfp,Tok.cells,Xys,Xyp,Xyq,Xyt,Xyx,Nat.reduceAdd,Nat.reduceMul,Nat.reduceSub,↓reduceIte,Nat.reduceEqDiff]);rfl)))|fail)))
  refine Xao (by decide +kernel) ?_
  (repeat' (first|with_reducible (first|refine Xbj ?_|refine Xac ?_)|fail))
  refine Xaa _ _ (XaF rfl (RV.cell 0 rfl rfl XaI.out (by simp) (by simp)) (Xaj.mk' [_] [] (Xyo _) Xak.nil (VwL.refl _ _))) ?_
  exact ⟨rfl,rfl⟩
def Xdg (ts:List Tok) (k:Nat) (kind:Int):Except Flt Tok:=if (tkA ts k).kind=kind then .ok (tkA ts k) else .error (flt 60 (tkA ts k))
theorem XfC (pb:Nat) (ts:List Tok) (k:Nat) (kind:Int) (hk:k < ts.length) (hl:ts.length≤1000000):XcH Tryz.prog 100 [.box pb (tc ts k)] [.x (.pointer (some ⟨pb,0,none⟩)),.x (.int .i64 kind)] (fun r H'=>r=ts[k].av∧H'=[.box pb (tc ts (k+1))]∧Xdg ts k kind=.ok ts[k]∧ts[k].kind=kind) (fun v _=>∃f,Xdg ts k kind=.error f∧v=fv f):=by
 have hn:=Xlh ts k hk hl
 unfold Tok.av at hn
 simp only [Xdg,XaN hk]
 refine XbE Tryz.func100 rfl ?_
 simp only [Tryz.ntmps100,Xyr,Xyu,Xyv,Xyw,Xyz,Xyy,Nat.reduceAdd,Nat.reduceSub]
 (repeat' (first|with_reducible (first|refine XaH ?_|refine Xal ?_|refine Xbj ?_|refine Xa4 ?_|refine Xat ?_|refine Xac ?_|refine Xae ?_)|(refine XaR _ rfl (fun h=>?_) (fun h=>?_)<;>((try (simp only [whn] at h));skip))|((apply Xar rfl);(case h=>((try (intro (hp:(_:Bool)=true);((try simp only [Bool.and_eq_true,Bool.not_eq_true',Bool.not_eq_true] at hp);(try simp only [hp,wte]);(try simp only [whn] at hp))));(first|(apply Xag 0 rfl;(exact XaW _ rfl))|(apply Xag 4 rfl;(exact Xbl _ rfl (by first|exact .inl ⟨_,rfl⟩|fail)))|(apply Xag 5 rfl;(exact Xaq _ _ _ _ _ _ rfl rfl Xbc.out))|(apply Xag 6 rfl;(exact XaK _ _ _ _ _ _ _ _ rfl rfl Xbt.out XaI.out (by first|exact Xyn rfl|fail) (by first|exact Xyn rfl|fail)))|(apply Xag 11 rfl;(exact Xb4 75 Tryz.f75 _ _ rfl rfl Tryz.func75 (by decide) rfl (by (repeat' (first|exact VwL.nil|(refine VwL.cons ?_ ?_)|exact Vw.box (List.Mem.tail _ (List.Mem.head _)) (VwL.refl _ _)|fail));done) (hn)))|(apply XbI;(case hs=>(intro _ _ h;cases h));(case hx=>rfl);(case hrun=>(intro w;simp [wtb,AV.val,go_sem];(try go_bits);rfl))))));(case hT=>((try simp (disch:=omega) only [wtn,tc,Xys,Xyp,Xyq,Xyt,Xyx,Nat.reduceAdd,Nat.reduceMul,Nat.reduceSub,↓reduceIte,Nat.reduceEqDiff]);rfl)))|(refine Xav rfl ?_;refine Xas 101 Tryz.f101 [] _ _ _ _ rfl rfl Tryz.func101 (by decide) rfl (Xyo _) (VwL.refl _ _) (XdC _ ts[k]) ?_ ?_;(case refine_1=>(rintro _ _ ⟨⟩));(case' refine_2=>(rintro _ _ ⟨rfl,rfl⟩)))|(refine Xab rfl ?_;((first|(refine XaQ 14 rfl ?_;(refine Xbf _ _ rfl XbT.out rfl (fun b=>?_)))|(refine XaQ 16 rfl ?_;(refine Xaw _ _ _ _ _ _ _ rfl rfl Xbt.out Xa1.out (by first|rfl|fail) (by first|exact Xyn rfl|fail) ?_)));apply Xap;(case hT=>((try simp (disch:=omega) only [wtn,tc,Xys,Xyp,Xyq,Xyt,Xyx,Nat.reduceAdd,Nat.reduceMul,Nat.reduceSub,↓reduceIte,Nat.reduceEqDiff]);rfl));(case hH=>((try simp (disch:=omega) only [wtn,tc,Xys,Xyp,Xyq,Xyt,Xyx,Nat.reduceAdd,Nat.reduceMul,Nat.reduceSub,↓reduceIte,Nat.reduceEqDiff]);rfl))))|fail))
 ·(repeat (with_reducible first|refine Xae ?_|fail));refine Xan _ _ (Xaj.mk' [] _ (Xyo _) (Xak.refl _ _) VwL.nil) ?_
  exact ⟨_,if_neg h,rfl⟩
 ·exact Xc5 _ _ (XaF rfl (RV.cell 1 rfl rfl XaI.out (by simp) (by simp)) (Xaj.mk' [_,_] [.box pb (tc ts (k+1))] (Xyo _) (Xak.refl _ _) (VwL.refl _ _))) ⟨rfl,rfl,if_pos h,h⟩
theorem XhN (ts:List Tok) (k:Nat) (s:List UInt8) (hk:k < ts.length) (hl:ts.length≤1000000):Xay Tryz.prog 104 [] [.at_ (tc ts k),.x (.string (bs s))] (fun r H'=>r=.x (.bool (gIs ts k s))∧H'=[]):=by
 have hn:=Xlh ts k hk hl
 unfold Tok.av at hn
 refine Xcx Tryz.func104 rfl ?_
 simp only [Tryz.ntmps104,Xyr,Xyu,Xyv,Xyw,Xyz,Xyy,Nat.reduceAdd,Nat.reduceSub]
 (repeat' (first|with_reducible (first|refine XaH ?_|refine Xal ?_|refine Xbj ?_|refine Xat ?_|refine Xac ?_)|((first|apply Xar rfl|apply Xeo _ _ rfl rfl rfl);(case h=>((try (intro (hp:(_:Bool)=true);((try simp only [Bool.and_eq_true,Bool.not_eq_true',Bool.not_eq_true] at hp);(try simp only [hp,wte]);(try simp only [whn] at hp))));(first|(apply Xag 0 rfl;(first|exact XaW _ rfl|exact Xbo _ rfl))|(apply Xag 1 rfl;(exact Xem _ _ _ _ _ rfl rfl rfl rfl))|(apply Xag 5 rfl;(exact Xaq _ _ _ _ _ _ rfl rfl Xbc.out))|(apply Xag 6 rfl;(exact XaK _ _ _ _ _ _ _ _ rfl rfl Xbt.out XaI.out (by first|exact Xyn rfl|fail) (by first|exact Xyn rfl|fail)))|(apply Xag 11 rfl;(exact Xb4 75 Tryz.f75 _ _ rfl rfl Tryz.func75 (by decide) rfl (by (repeat' (first|exact VwL.nil|(refine VwL.cons ?_ ?_)|exact Vw.refl _|fail));done) (hn)))|(apply XbI;(case hs=>(intro _ _ h;cases h));(case hx=>rfl);(case hrun=>(intro w;simp [wtb,AV.val,go_sem];(try go_bits);rfl))))));(case hT=>((try simp only [wtn,Xys,Xyp,Xyq,Xyt,Xyx,Nat.reduceAdd,Nat.reduceMul,Nat.reduceSub,↓reduceIte,Nat.reduceEqDiff]);rfl)))|(refine Xab rfl ?_;((first|(refine XaQ 14 rfl ?_;(refine Xbf _ _ rfl XbT.out rfl (fun b=>?_)))|(refine XaQ 16 rfl ?_;(refine Xaw _ _ _ _ _ _ _ rfl rfl Xbt.out Xa1.out (by first|rfl|fail) (by first|exact Xyn rfl|fail) ?_)));apply Xap;(case hT=>((try simp only [wtn,Xys,Xyp,Xyq,Xyt,Xyx,Nat.reduceAdd,Nat.reduceMul,Nat.reduceSub,↓reduceIte,Nat.reduceEqDiff]);rfl));(case hH=>((try simp only [wtn,Xys,Xyp,Xyq,Xyt,Xyx,Nat.reduceAdd,Nat.reduceMul,Nat.reduceSub,↓reduceIte,Nat.reduceEqDiff]);rfl))))|fail))
 refine Xaa _ _ (XaF rfl (RV.tmp _) (Xaj.mk' [_] [] (Xyo _) (Xak.refl _ _) (by first|exact VwL.refl _ _|fail))) ?_
 exact ⟨by simp only [gIs,XaN hk];rfl,rfl⟩
theorem Xsq (pb:Nat) (ts:List Tok) (k:Nat) (s:List UInt8) (hk:k < ts.length) (hl:ts.length≤1000000):XcH Tryz.prog 103 [.box pb (tc ts k)] [.x (.pointer (some ⟨pb,0,none⟩)),.x (.string (bs s))] (fun r H'=>r=.x (.tuple #[])∧H'=[.box pb (tc ts (k+1))]∧XgY ts k s=.ok ()∧gIs ts k s=true) (fun v _=>∃f,XgY ts k s=.error f∧v=fv f):=by
 have hn:=Xlh ts k hk hl
 unfold Tok.av at hn
 have hi:=XhN ts k s hk hl
 simp only [XgY]
 generalize gIs ts k s=gi at hi ⊢
 refine XbE Tryz.func103 rfl ?_
 simp only [Tryz.ntmps103,Xyr,Xyu,Xyv,Xyw,Xyz,Xyy,Nat.reduceAdd,Nat.reduceSub]
 (repeat' (first|with_reducible (first|refine XaH ?_|refine Xal ?_|refine Xa4 ?_|refine Xat ?_|refine Xac ?_|refine Xae ?_)|(refine XaR _ rfl (fun h=>?_) (fun h=>?_)<;>((try (simp only [whn] at h));skip))|((apply Xar rfl);(case h=>((try (intro (hp:(_:Bool)=true);((try simp only [Bool.and_eq_true,Bool.not_eq_true',Bool.not_eq_true] at hp);(try simp only [hp,wte]);(try simp only [whn] at hp))));(first|(apply Xag 0 rfl;(exact XaW _ rfl))|(apply Xag 4 rfl;(exact Xbl _ rfl (by first|exact .inl ⟨_,rfl⟩|fail)))|(apply Xag 5 rfl;(exact Xaq _ _ _ _ _ _ rfl rfl Xbc.out))|(apply Xag 6 rfl;(exact XaK _ _ _ _ _ _ _ _ rfl rfl Xbt.out XaI.out (by first|exact Xyn rfl|fail) (by first|exact Xyn rfl|fail)))|(apply Xag 11 rfl;(first|exact Xb4 75 Tryz.f75 _ _ rfl rfl Tryz.func75 (by decide) rfl (by (repeat' (first|exact VwL.nil|(refine VwL.cons ?_ ?_)|exact Vw.box (List.Mem.head _) (VwL.refl _ _)|fail));done) (hn)|exact Xb4 104 Tryz.f104 _ _ rfl rfl Tryz.func104 (by decide) rfl (by (repeat' (first|exact VwL.nil|(refine VwL.cons ?_ ?_)|exact Vw.refl _|exact Vw.box (List.Mem.head _) (VwL.refl _ _)|fail));done) (hi)))|(apply XbI;(case hs=>(intro _ _ h;cases h));(case hx=>rfl);(case hrun=>(intro w;simp [wtb,AV.val,go_sem];(try go_bits);rfl))))));(case hT=>((try simp (disch:=omega) only [wtn,tc,Xys,Xyp,Xyq,Xyt,Xyx,Nat.reduceAdd,Nat.reduceMul,Nat.reduceSub,↓reduceIte,Nat.reduceEqDiff]);rfl)))|(refine Xav rfl ?_;refine Xas 101 Tryz.f101 [] _ _ _ _ rfl rfl Tryz.func101 (by decide) rfl (Xyo _) (VwL.refl _ _) (XdC _ ts[k]) ?_ ?_;(case refine_1=>(rintro _ _ ⟨⟩));(case' refine_2=>(rintro _ _ ⟨rfl,rfl⟩)))|(refine Xab rfl ?_;((refine XaQ 16 rfl ?_;(refine Xaw _ _ _ _ _ _ _ rfl rfl Xbt.out Xa1.out (by first|rfl|fail) (by first|exact Xyn rfl|fail) ?_));apply Xap;(case hT=>((try simp (disch:=omega) only [wtn,tc,Xys,Xyp,Xyq,Xyt,Xyx,Nat.reduceAdd,Nat.reduceMul,Nat.reduceSub,↓reduceIte,Nat.reduceEqDiff]);rfl));(case hH=>((try simp (disch:=omega) only [wtn,tc,Xys,Xyp,Xyq,Xyt,Xyx,Nat.reduceAdd,Nat.reduceMul,Nat.reduceSub,↓reduceIte,Nat.reduceEqDiff]);rfl))))|fail))
 ·(repeat (with_reducible first|refine Xae ?_|fail));refine Xan _ _ (Xaj.mk' [] _ (Xyo _) (Xak.refl _ _) VwL.nil) ?_
  exact ⟨_,by rw [XaN hk,h];rfl,rfl⟩
 ·exact XaZ _ _ (Xfa rfl (Xaj.mk' [] [_] (Xyo _) (Xak.refl _ _) VwL.nil)) ⟨rfl,rfl,by rw [h];rfl,h⟩
theorem XoB (pb:Nat) (ts:List Tok) (k:Nat) (full:Bool) (hk:k < ts.length) (hl:ts.length≤1000000):XcH Tryz.prog 102 [.box pb (tc ts k)] [.x (.pointer (some ⟨pb,0,none⟩)),.x (.bool full)] (fun r H'=>r=ts[k].av∧H'=[.box pb (tc ts (k+1))]∧Xfh ts k full=.ok ts[k]∧ts[k].kind=1) (fun v _=>∃f,Xfh ts k full=.error f∧v=fv f):=by
 have hT:=XfC pb ts k 1 hk hl
 have e:Xfh ts k full=Xdg ts k 1 >>= fun t=>if t.text.length > 32∨full=true then .error (flt 1 t) else .ok t:=by
  unfold Xfh XcZ Xdg
  rw [XaN hk]
  by_cases h1:ts[k].kind=1
  ·rw [if_neg (fun h=>h h1),if_pos h1]
   by_cases h2:32 < ts[k].text.length
   ·simp [h2,bind,Except.bind]
   ·cases full<;>simp [h2,bind,Except.bind]
  ·rw [if_pos h1,if_neg h1];rfl
 rw [e]
 clear e
 unfold Tok.av at hT ⊢
 refine XbE Tryz.func102 rfl ?_
 simp only [Tryz.ntmps102,Xyr,Xyu,Xyv,Xyw,Xyz,Xyy,Nat.reduceAdd,Nat.reduceSub]
 (repeat' (first|with_reducible (first|refine XaH ?_|refine Xal ?_|refine Xbj ?_|refine Xa4 ?_|refine Xat ?_|refine Xac ?_|refine Xae ?_)|(refine XaR _ rfl (fun h=>?_) (fun h=>?_)<;>((try (simp only [whn] at h));skip))|((first|apply Xar rfl|apply Xeo _ _ rfl rfl rfl);(case h=>((try (intro (hp:(_:Bool)=true);((try simp only [Bool.and_eq_true,Bool.not_eq_true',Bool.not_eq_true] at hp);(try simp only [hp,wte]);(try simp only [whn] at hp))));(first|(apply Xag 0 rfl;(exact XaW _ rfl))|(apply Xag 1 rfl;(exact Xf0 _ _ _ _ _ rfl rfl rfl rfl))|(apply Xag 5 rfl;(exact Xaq _ _ _ _ _ _ rfl rfl Xbc.out))|(apply Xag 6 rfl;(exact XaK _ _ _ _ _ _ _ _ rfl rfl Xbt.out XaI.out (by first|exact Xyn rfl|fail) (by first|exact Xyn rfl|fail)))|(apply XbI;(case hs=>(intro _ _ h;cases h));(case hx=>rfl);(case hrun=>(intro w;simp [wtb,AV.val,go_sem];(try go_bits);rfl))))));(case hT=>((try simp (disch:=omega) only [wtn,tc,Xys,Xyp,Xyq,Xyt,Xyx,Nat.reduceAdd,Nat.reduceMul,Nat.reduceSub,↓reduceIte,Nat.reduceEqDiff]);rfl)))|(refine Xav rfl ?_;refine Xas 100 Tryz.f100 [_] _ _ _ _ rfl rfl Tryz.func100 (by decide) rfl (XyB (l₁:=[_])) (VwL.refl _ _) (hT) ?_ ?_;(case' refine_1=>(rintro _ _ ⟨rfl,rfl,hp,hk1⟩;(apply Xap;(case hT=>((try simp (disch:=omega) only [wtn,tc,Xys,Xyp,Xyq,Xyt,Xyx,Nat.reduceAdd,Nat.reduceMul,Nat.reduceSub,↓reduceIte,Nat.reduceEqDiff]);rfl));(case hH=>((try simp (disch:=omega) only [wtn,tc,Xys,Xyp,Xyq,Xyt,Xyx,Nat.reduceAdd,Nat.reduceMul,Nat.reduceSub,↓reduceIte,Nat.reduceEqDiff]);rfl)))));(case' refine_2=>(rintro _ _ ⟨f,hp,rfl⟩)))|(refine Xav rfl ?_;refine Xas 101 Tryz.f101 [] _ _ _ _ rfl rfl Tryz.func101 (by decide) rfl (Xyo _) (VwL.refl _ _) (XdC _ ts[k]) ?_ ?_;(case refine_1=>(rintro _ _ ⟨⟩));(case' refine_2=>(rintro _ _ ⟨rfl,rfl⟩)))|(refine Xab rfl ?_;((first|(refine XaQ 14 rfl ?_;(refine Xbf _ _ rfl XbT.out rfl (fun b=>?_)))|(refine XaQ 16 rfl ?_;(refine Xaw _ _ _ _ _ _ _ rfl rfl Xbt.out Xa1.out (by first|rfl|fail) (by first|exact Xyn rfl|fail) ?_)));apply Xap;(case hT=>((try simp (disch:=omega) only [wtn,tc,Xys,Xyp,Xyq,Xyt,Xyx,Nat.reduceAdd,Nat.reduceMul,Nat.reduceSub,↓reduceIte,Nat.reduceEqDiff]);rfl));(case hH=>((try simp (disch:=omega) only [wtn,tc,Xys,Xyp,Xyq,Xyt,Xyx,Nat.reduceAdd,Nat.reduceMul,Nat.reduceSub,↓reduceIte,Nat.reduceEqDiff]);rfl))))|fail))
 ·(repeat (with_reducible first|refine Xae ?_|fail));refine Xan _ _ (Xaj.mk' [] _ (Xyo _) (Xak.refl _ _) VwL.nil) ?_
  exact ⟨f,by rw [hp];rfl,rfl⟩
 ·(repeat (with_reducible first|refine Xae ?_|fail));refine Xan _ _ (Xaj.mk' [] _ (Xyo _) (Xak.refl _ _) VwL.nil) ?_
  exact ⟨_,by rw [hp];exact if_pos (by rcases h with h|h;left;omega;right;exact h),rfl⟩
 ·exact Xc5 _ _ (XaF rfl (RV.cell 2 rfl rfl XaI.out (by simp) (by simp)) (Xaj.mk' [_,_] [.box pb (tc ts (k+1))] (.cons _ (List.Perm.swap _ _ _)) (Xak.refl _ _) (VwL.refl _ _))) ⟨rfl,rfl,by rw [hp];exact if_neg (by rintro (h1|h1);omega;rw [h.2] at h1;cases h1),hk1⟩
theorem XeO (ts:List Tok) (k:Nat) (kind:Int) (most:Nat):XcZ ts k kind most=Xdg ts k kind >>= fun t=>if most < t.text.length then .error (flt 1 t) else .ok t:=by
 unfold XcZ Xdg
 by_cases h1:(tkA ts k).kind=kind
 ·rw [if_neg (fun h=>h h1),if_pos h1];rfl
 ·rw [if_pos h1,if_neg h1];rfl
theorem Xpt (pb:Nat) (ts:List Tok) (k:Nat) (kind:Int) (most:Nat) (hk:k < ts.length) (hl:ts.length≤1000000):XcH Tryz.prog 120 [.box pb (tc ts k)] [.x (.pointer (some ⟨pb,0,none⟩)),.x (.int .i64 kind),.x (.int .i64 most)] (fun r H'=>r=.x (.string (bs ts[k].text))∧H'=[.box pb (tc ts (k+1))]∧XcZ ts k kind most=.ok ts[k]∧ts[k].kind=kind) (fun v _=>∃f,XcZ ts k kind most=.error f∧v=fv f):=by
 have hT:=XfC pb ts k kind hk hl
 rw [XeO]
 unfold Tok.av at hT
 refine XbE Tryz.func120 rfl ?_
 simp only [Tryz.ntmps120,Xyr,Xyu,Xyv,Xyw,Xyz,Xyy,Nat.reduceAdd,Nat.reduceSub]
 (repeat' (first|with_reducible (first|refine XaH ?_|refine Xal ?_|refine Xbj ?_|refine Xa4 ?_|refine Xat ?_|refine Xac ?_|refine Xae ?_)|(refine XaR _ rfl (fun h=>?_) (fun h=>?_)<;>((try (simp only [whn] at h));skip))|((apply Xar rfl);(case h=>((try (intro (hp:(_:Bool)=true);((try simp only [Bool.and_eq_true,Bool.not_eq_true',Bool.not_eq_true] at hp);(try simp only [hp,wte]);(try simp only [whn] at hp))));(first|(apply Xag 0 rfl;(first|exact XaW _ rfl|exact Xbo _ rfl))|(apply Xag 5 rfl;(exact Xaq _ _ _ _ _ _ rfl rfl Xbc.out))|(apply Xag 6 rfl;(exact XaK _ _ _ _ _ _ _ _ rfl rfl Xbt.out XaI.out (by first|exact Xyn rfl|fail) (by first|exact Xyn rfl|fail)))|(apply XbI;(case hs=>(intro _ _ h;cases h));(case hx=>rfl);(case hrun=>(intro w;simp [wtb,AV.val,go_sem];(try go_bits);rfl))))));(case hT=>((try simp (disch:=omega) only [wtn,tc,Xys,Xyp,Xyq,Xyt,Xyx,Nat.reduceAdd,Nat.reduceMul,Nat.reduceSub,↓reduceIte,Nat.reduceEqDiff]);rfl)))|(refine Xav rfl ?_;refine Xas 100 Tryz.f100 [_] _ _ _ _ rfl rfl Tryz.func100 (by decide) rfl (Xyo _) (VwL.refl _ _) (hT) ?_ ?_;(case' refine_1=>(rintro _ _ ⟨rfl,rfl,hp,hk1⟩;(apply Xap;(case hT=>((try simp (disch:=omega) only [wtn,tc,Xys,Xyp,Xyq,Xyt,Xyx,Nat.reduceAdd,Nat.reduceMul,Nat.reduceSub,↓reduceIte,Nat.reduceEqDiff]);rfl));(case hH=>((try simp (disch:=omega) only [wtn,tc,Xys,Xyp,Xyq,Xyt,Xyx,Nat.reduceAdd,Nat.reduceMul,Nat.reduceSub,↓reduceIte,Nat.reduceEqDiff]);rfl)))));(case' refine_2=>(rintro _ _ ⟨f,hp,rfl⟩)))|(refine Xav rfl ?_;refine Xas 101 Tryz.f101 [] _ _ _ _ rfl rfl Tryz.func101 (by decide) rfl (Xyo _) (VwL.refl _ _) (XdC _ ts[k]) ?_ ?_;(case refine_1=>(rintro _ _ ⟨⟩));(case' refine_2=>(rintro _ _ ⟨rfl,rfl⟩)))|(refine Xab rfl ?_;((first|(refine XaQ 14 rfl ?_;(refine Xbf _ _ rfl XbT.out rfl (fun b=>?_)))|(refine XaQ 16 rfl ?_;(refine Xaw _ _ _ _ _ _ _ rfl rfl Xbt.out Xa1.out (by first|rfl|fail) (by first|exact Xyn rfl|fail) ?_)));apply Xap;(case hT=>((try simp (disch:=omega) only [wtn,tc,Xys,Xyp,Xyq,Xyt,Xyx,Nat.reduceAdd,Nat.reduceMul,Nat.reduceSub,↓reduceIte,Nat.reduceEqDiff]);rfl));(case hH=>((try simp (disch:=omega) only [wtn,tc,Xys,Xyp,Xyq,Xyt,Xyx,Nat.reduceAdd,Nat.reduceMul,Nat.reduceSub,↓reduceIte,Nat.reduceEqDiff]);rfl))))|fail))
 ·(repeat (with_reducible first|refine Xae ?_|fail));refine Xan _ _ (Xaj.mk' [] _ (Xyo _) (Xak.refl _ _) VwL.nil) ?_
  exact ⟨f,by rw [hp];rfl,rfl⟩
 ·(repeat (with_reducible first|refine Xae ?_|fail));refine Xan _ _ (Xaj.mk' [] _ (Xyo _) (Xak.refl _ _) VwL.nil) ?_
  exact ⟨_,by rw [hp];exact if_pos (by omega),rfl⟩
 ·exact Xc5 _ _ (XaF rfl (RV.tmp _) (Xaj.mk' [_] [.box pb (tc ts (k+1))] (Xyo _) (Xak.refl _ _) (VwL.refl _ _))) ⟨rfl,rfl,by rw [hp];exact if_neg (by omega),hk1⟩
theorem Xn7 (s:List UInt8):Xay Tryz.prog 158 [] [.x (.string (bs s))] (fun r H'=>r=.x (.int .i64 (Xuz s))∧H'=[]):=by
 refine Xcx Tryz.func158 rfl ?_
 simp only [Tryz.ntmps158,Xyr,Xyu,Xyv,Xyw,Xyz,Xyy,Nat.reduceAdd,Nat.reduceSub]
 (repeat' (first|with_reducible (first|refine XaH ?_|refine Xal ?_|refine Xbp ?_|refine Xbj ?_|refine Xa4 ?_|refine Xat ?_|refine Xac ?_|refine XbB ?_|refine Xax ?_|refine Xbs ?_)|(refine XaR _ rfl (fun h=>?_) (fun h=>?_)<;>((try (simp only [whn] at h));skip))|((apply Xar rfl);(case h=>((try (intro (hp:(_:Bool)=true);((try simp only [Bool.and_eq_true,Bool.not_eq_true',Bool.not_eq_true] at hp);(try simp only [hp,wte]);(try simp only [whn] at hp))));(first|(apply Xag 0 rfl;(first|exact XaW _ rfl|exact Xbo _ rfl))|(apply XbI;(case hs=>(intro _ _ h;cases h));(case hx=>rfl);(case hrun=>(intro w;simp [wtb,AV.val,go_sem];(try go_bits);rfl))))));(case hT=>((try simp only [wtn,Xys,Xyp,Xyq,Xyt,Xyx,Nat.reduceAdd,Nat.reduceMul,Nat.reduceSub,↓reduceIte,Nat.reduceEqDiff]);rfl)))|fail))
 all_goals
  refine Xaa _ _ (XaF rfl (RV.tmp _) (Xaj.mk' [] _ (Xyo _) (Xak.refl _ _) (VwL.refl _ _))) ?_
  refine ⟨?_,rfl⟩
  first|(simp [Xuz,ev, *];done)|fail
theorem XqD (s:List UInt8):Xay Tryz.prog 105 [] [.x (.string (bs s))] (fun r H'=>r=.x (.bool (decide (s∈Xgs)))∧H'=[]):=by
 refine Xcx Tryz.func105 rfl ?_
 simp only [Tryz.ntmps105,Xyr,Xyu,Xyv,Xyw,Xyz,Xyy,Nat.reduceAdd,Nat.reduceSub]
 (repeat' (first|with_reducible (first|refine XaH ?_|refine Xal ?_|refine Xbp ?_|refine Xbj ?_|refine Xa4 ?_|refine Xat ?_|refine Xac ?_|refine XbB ?_|refine Xax ?_|refine Xbs ?_)|(refine XaR _ rfl (fun h=>?_) (fun h=>?_)<;>((try (simp only [whn] at h));skip))|((apply Xar rfl);(case h=>((try (intro (hp:(_:Bool)=true);((try simp only [Bool.and_eq_true,Bool.not_eq_true',Bool.not_eq_true] at hp);(try simp only [hp,wte]);(try simp only [whn] at hp))));(first|(apply Xag 0 rfl;(first|exact XaW _ rfl|exact Xbo _ rfl))|(apply XbI;(case hs=>(intro _ _ h;cases h));(case hx=>rfl);(case hrun=>(intro w;simp [wtb,AV.val,go_sem];(try go_bits);rfl))))));(case hT=>((try simp only [wtn,Xys,Xyp,Xyq,Xyt,Xyx,Nat.reduceAdd,Nat.reduceMul,Nat.reduceSub,↓reduceIte,Nat.reduceEqDiff]);rfl)))|fail))
 all_goals first
  | (exfalso;exact h (by assumption))
  | (refine Xaa _ _ (XaF rfl (RV.tmp _) (Xaj.mk' [] _ (Xyo _) (Xak.refl _ _) (VwL.refl _ _))) ?_
     refine ⟨?_,rfl⟩
     first|(simp [Xgs,XlH,Xij,XdQ,XfE,Xda,XcD,Xe7,XmV,ev, *];done)|fail)
theorem XvH (ts:List Tok) (k:Nat) (hk:k < ts.length) (hS:ts[k].text.length≤8192):Xqy ts k=Xdg ts k 1 >>= Xwa:=by
 unfold Xqy Xwa
 rw [XeO]
 cases h:Xdg ts k 1 with
 | error f=>rfl
 | ok t=>
   have e:t=ts[k]:=by
    unfold Xdg at h
    rw [XaN hk] at h
    split at h
    ·cases h;rfl
    ·cases h
   simp only [bind,Except.bind]
   rw [if_neg (by rw [e];omega)]
theorem Xq9 (pb:Nat) (ts:List Tok) (k:Nat) (hk:k < ts.length) (hl:ts.length≤1000000) (hS:ts[k].text.length≤8192):XcH Tryz.prog 125 [.box pb (tc ts k)] [.x (.pointer (some ⟨pb,0,none⟩))] (fun r H'=>∃n,r=.x (.int .i64 n)∧H'=[.box pb (tc ts (k+1))]∧Xqy ts k=.ok n∧ts[k].kind=1) (fun v _=>∃f,Xqy ts k=.error f∧v=fv f):=by
 have hT:=XfC pb ts k 1 hk hl
 rw [XvH ts k hk hS]
 unfold Tok.av at hT
 refine XbE Tryz.func125 rfl ?_
 simp only [Tryz.ntmps125,Xyr,Xyu,Xyv,Xyw,Xyz,Xyy,Nat.reduceAdd,Nat.reduceSub]
 (repeat' (first|with_reducible (first|refine XaH ?_|refine Xal ?_|refine Xbp ?_|refine Xbj ?_|refine Xa4 ?_|refine Xat ?_|refine Xac ?_|refine XbB ?_|refine Xax ?_|refine Xbs ?_|refine Xae ?_)|(refine XaR _ rfl (fun h=>?_) (fun h=>?_)<;>((try (simp only [whn] at h));skip))|((apply Xar rfl);(case h=>((try (intro (hp:(_:Bool)=true);((try simp only [Bool.and_eq_true,Bool.not_eq_true',Bool.not_eq_true] at hp);(try simp only [hp,wte]);(try simp only [whn] at hp))));(first|(apply Xag 0 rfl;(first|exact XaW _ rfl|exact Xbo _ rfl))|(apply Xag 5 rfl;(exact Xaq _ _ _ _ _ _ rfl rfl Xbc.out))|(apply Xag 6 rfl;(exact XaK _ _ _ _ _ _ _ _ rfl rfl Xbt.out XaI.out (by first|exact Xyn rfl|fail) (by first|exact Xyn rfl|fail)))|(apply XbI;(case hs=>(intro _ _ h;cases h));(case hx=>rfl);(case hrun=>(intro w;simp [wtb,AV.val,go_sem];(try go_bits);rfl))))));(case hT=>((try simp (disch:=omega) only [wtn,tc,Xys,Xyp,Xyq,Xyt,Xyx,Nat.reduceAdd,Nat.reduceMul,Nat.reduceSub,↓reduceIte,Nat.reduceEqDiff]);rfl)))|(refine Xav rfl ?_;refine Xas 100 Tryz.f100 [_] _ _ _ _ rfl rfl Tryz.func100 (by decide) rfl (Xyo _) (VwL.refl _ _) (hT) ?_ ?_;(case' refine_1=>(rintro _ _ ⟨rfl,rfl,hp,hk1⟩;(apply Xap;(case hT=>((try simp (disch:=omega) only [wtn,tc,Xys,Xyp,Xyq,Xyt,Xyx,Nat.reduceAdd,Nat.reduceMul,Nat.reduceSub,↓reduceIte,Nat.reduceEqDiff]);rfl));(case hH=>((try simp (disch:=omega) only [wtn,tc,Xys,Xyp,Xyq,Xyt,Xyx,Nat.reduceAdd,Nat.reduceMul,Nat.reduceSub,↓reduceIte,Nat.reduceEqDiff]);rfl)))));(case' refine_2=>(rintro _ _ ⟨f,hp,rfl⟩)))|(refine Xav rfl ?_;refine Xas 101 Tryz.f101 [] _ _ _ _ rfl rfl Tryz.func101 (by decide) rfl (Xyo _) (VwL.refl _ _) (XdC _ ts[k]) ?_ ?_;(case refine_1=>(rintro _ _ ⟨⟩));(case' refine_2=>(rintro _ _ ⟨rfl,rfl⟩)))|(refine Xab rfl ?_;((first|(refine XaQ 14 rfl ?_;(refine Xbf _ _ rfl XbT.out rfl (fun b=>?_)))|(refine XaQ 16 rfl ?_;(refine Xaw _ _ _ _ _ _ _ rfl rfl Xbt.out Xa1.out (by first|rfl|fail) (by first|exact Xyn rfl|fail) ?_)));apply Xap;(case hT=>((try simp (disch:=omega) only [wtn,tc,Xys,Xyp,Xyq,Xyt,Xyx,Nat.reduceAdd,Nat.reduceMul,Nat.reduceSub,↓reduceIte,Nat.reduceEqDiff]);rfl));(case hH=>((try simp (disch:=omega) only [wtn,tc,Xys,Xyp,Xyq,Xyt,Xyx,Nat.reduceAdd,Nat.reduceMul,Nat.reduceSub,↓reduceIte,Nat.reduceEqDiff]);rfl))))|fail))
 ·(repeat (with_reducible first|refine Xae ?_|fail));refine Xan _ _ (Xaj.mk' [] _ (Xyo _) (Xak.refl _ _) VwL.nil) ?_
  exact ⟨f,by rw [hp];rfl,rfl⟩
 ·exact Xc5 _ _ (XaF rfl (RV.tmp _) (Xaj.mk' [_] [.box pb (tc ts (k+1))] (Xyo _) (Xak.refl _ _) (VwL.refl _ _))) ⟨3,rfl,rfl,by rw [hp];exact if_pos h,hk1⟩
 ·exact Xc5 _ _ (XaF rfl (RV.tmp _) (Xaj.mk' [_] [.box pb (tc ts (k+1))] (Xyo _) (Xak.refl _ _) (VwL.refl _ _))) ⟨2,rfl,rfl,by rw [hp];exact (if_neg (by assumption)).trans (if_pos h),hk1⟩
 ·exact Xc5 _ _ (XaF rfl (RV.tmp _) (Xaj.mk' [_] [.box pb (tc ts (k+1))] (Xyo _) (Xak.refl _ _) (VwL.refl _ _))) ⟨1,rfl,rfl,by rw [hp];exact (if_neg (by assumption)).trans ((if_neg (by assumption)).trans (if_pos h)),hk1⟩
 ·(repeat (with_reducible first|refine Xae ?_|fail));refine Xan _ _ (Xaj.mk' [] _ (Xyo _) (Xak.refl _ _) VwL.nil) ?_
  exact ⟨_,by rw [hp];exact (if_neg (by assumption)).trans ((if_neg (by assumption)).trans (if_neg h)),rfl⟩
end Go.Proofs.YtdlblokjfoggpaaGreatDoor

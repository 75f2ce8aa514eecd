import Derived.Test.YtcmfamgnmehojaaGreatDoorW22
import Derived.Test.YtcmfamgnmehojaaGreatDoorW10
/- The program's parser: tokens, signs, names, texts. It panics with its first fault. -/
set_option linter.unusedSimpArgs false
set_option linter.unusedVariables false
set_option maxRecDepth 100000
set_option maxHeartbeats 8000000
namespace Go.Proofs.YtcmfamgnmehojaaGreatDoor
open Go.RowKit
def tc (ts:List Tok) (k:Nat):List AV:=[.sq ts.length (ta ts),.x (.int .i64 k)]
def fv (f:Flt):Value:=.iface 44 (.agg #[.int .i64 f.code,.int .i64 (f.line:Nat),.int .i64 (f.col:Nat)])
theorem Xc1 (e:Int) (t:Tok):Xcp Tryz.prog 34 [] [.x (.int .i64 e),t.av] (fun _ _=>False) (fun v H'=>v=fv (flt e t)∧H'=[]):=by
 unfold Tok.av
 refine XbR Tryz.func34 rfl ?_
 simp only [Tryz.ntmps34,Xpq,Xpt,Xpu,Xpv,Xpy,Xpx,Nat.reduceAdd,Nat.reduceSub]
 (repeat' (first|with_reducible (first|refine Xaj ?_|refine Xac ?_|refine Xaf ?_|refine Xaa ?_)|((apply Xad rfl);(case h=>((try (intro (hp:(_:Bool)=true);((try simp only [Bool.and_eq_true,Bool.not_eq_true',Bool.not_eq_true] at hp);(try simp only [hp,wte]);(try simp only [whn] at hp))));(first|(apply Xab 0 rfl;(exact Xar _ rfl))|(apply Xab 5 rfl;(exact Xag _ _ _ _ _ _ rfl rfl Xbb.out))|(apply Xab 6 rfl;(exact Xay _ _ _ _ _ _ _ _ rfl rfl Xa0.out XaT.out (by first|exact Xpm rfl|fail) (by first|exact Xpm rfl|fail)))|(apply Xab 10 rfl;(exact XaZ _ _ _ _ _ rfl HPl.out (by first|rfl|fail) rfl))|(apply XaJ;(case hs=>(intro _ _ h;cases h));(case hx=>rfl);(case hrun=>(intro w;simp [wtb,AV.val,go_sem];(try go_bits);rfl))))));(case hT=>((try simp only [wtn,Xpr,Xpo,Xpp,Xps,Xpw,Nat.reduceAdd,Nat.reduceMul,Nat.reduceSub,↓reduceIte,Nat.reduceEqDiff]);rfl)))|(refine Xak rfl ?_;((refine Xap 15 rfl ?_;(refine XbB _ _ rfl (by first|rfl|fail) (fun b=>?_)));apply Xai;(case hT=>((try simp only [wtn,Xpr,Xpo,Xpp,Xps,Xpw,Nat.reduceAdd,Nat.reduceMul,Nat.reduceSub,↓reduceIte,Nat.reduceEqDiff]);rfl));(case hH=>((try simp only [wtn,Xpr,Xpo,Xpp,Xps,Xpw,Nat.reduceAdd,Nat.reduceMul,Nat.reduceSub,↓reduceIte,Nat.reduceEqDiff]);rfl))))|fail))
 refine Xij rfl rfl rfl ?_
 exact XaB _ _ (XaK.mk' [_] [] (Xpn _) XaI.nil VwL.nil) ⟨rfl,rfl⟩
theorem XhR (ts:List Tok) (k:Nat) (hk:k < ts.length) (hl:ts.length≤1000000):Xbv Tryz.prog 20 [] [.at_ (tc ts k)] (fun r H'=>r=ts[k].av∧H'=[]):=by
 unfold tc
 refine XaP Tryz.func20 rfl ?_
 simp only [Tryz.ntmps20,Xpq,Xpt,Xpu,Xpv,Xpy,Xpx,Nat.reduceAdd,Nat.reduceSub]
 (repeat' (first|with_reducible (first|refine Xaj ?_|refine Xac ?_|refine Xaf ?_|refine Xaa ?_)|(refine Xak rfl ?_;((refine Xap 14 rfl ?_;(refine XaQ _ _ rfl XbK.out rfl (fun b=>?_)));apply Xai;(case hT=>((try simp only [wtn,Xpr,Xpo,Xpp,Xps,Xpw,Nat.reduceAdd,Nat.reduceMul,Nat.reduceSub,↓reduceIte,Nat.reduceEqDiff]);rfl));(case hH=>((try simp only [wtn,Xpr,Xpo,Xpp,Xps,Xpw,Nat.reduceAdd,Nat.reduceMul,Nat.reduceSub,↓reduceIte,Nat.reduceEqDiff]);rfl))))|fail))
 refine Xch mixed ?_
 (apply XbM 0 rfl rfl (by kernel_rfl) (by intro c T H hp;simp [Xa1,Xaq,Xa8,XbI] at hp);(case h=>(first|exact Xbc _ rfl|fail));(apply Xao;(case hT=>((try simp only [wtn,Xpr,Xpo,Xpp,Xps,Xpw,Nat.reduceAdd,Nat.reduceMul,Nat.reduceSub,↓reduceIte,Nat.reduceEqDiff]);rfl));(case hH=>rfl)));(apply XbM 1 rfl rfl (by kernel_rfl) (by intro c T H hp;simp [Xa1,Xaq,Xa8,XbI] at hp);(case h=>(first|exact Xew _ _ rfl rfl|fail));(apply Xao;(case hT=>((try simp only [wtn,Xpr,Xpo,Xpp,Xps,Xpw,Nat.reduceAdd,Nat.reduceMul,Nat.reduceSub,↓reduceIte,Nat.reduceEqDiff]);rfl));(case hH=>rfl)));(apply XbM 2 rfl rfl (by kernel_rfl) (by intro c T H hp;simp [Xa1,Xaq,Xa8,XbI] at hp);(case h=>(first|exact XdH _ _ _ _ _ rfl rfl Xbb.out|fail));(apply Xao;(case hT=>((try simp only [wtn,Xpr,Xpo,Xpp,Xps,Xpw,Nat.reduceAdd,Nat.reduceMul,Nat.reduceSub,↓reduceIte,Nat.reduceEqDiff]);rfl));(case hH=>rfl)));(apply XbM 4 rfl rfl (by kernel_rfl) (by intro c T H hp;simp [Xa1,Xaq,Xa8,XbI] at hp);(case h=>(first|exact Xbc _ rfl|fail));(apply Xao;(case hT=>((try simp only [wtn,Xpr,Xpo,Xpp,Xps,Xpw,Nat.reduceAdd,Nat.reduceMul,Nat.reduceSub,↓reduceIte,Nat.reduceEqDiff]);rfl));(case hH=>rfl)));(apply XbM 5 rfl rfl (by kernel_rfl) (by intro c T H hp;simp [Xa1,Xaq,Xa8,XbI] at hp);(case h=>(first|exact Xew _ _ rfl rfl|fail));(apply Xao;(case hT=>((try simp only [wtn,Xpr,Xpo,Xpp,Xps,Xpw,Nat.reduceAdd,Nat.reduceMul,Nat.reduceSub,↓reduceIte,Nat.reduceEqDiff]);rfl));(case hH=>rfl)));(apply XbM 6 rfl rfl (by kernel_rfl) (by intro c T H hp;simp [Xa1,Xaq,Xa8,XbI] at hp);(case h=>(first|exact XdH _ _ _ _ _ rfl rfl Xbb.out|fail));(apply Xao;(case hT=>((try simp only [wtn,Xpr,Xpo,Xpp,Xps,Xpw,Nat.reduceAdd,Nat.reduceMul,Nat.reduceSub,↓reduceIte,Nat.reduceEqDiff]);rfl));(case hH=>rfl)))
 refine Xi6 3 7 (by decide +kernel) rfl rfl rfl rfl ?_ ?_
 ·(first|(apply XaU;(case h=>(apply Xab 6 rfl;(exact XaC _ _ _ _ _ rfl rfl XaT.out (by first|exact Xpm rfl|fail) (by first|exact Xpm rfl|fail))));(apply Xao;(case hT=>((try simp only [wtn,Xpr,Xpo,Xpp,Xps,Xpw,Nat.reduceAdd,Nat.reduceMul,Nat.reduceSub,↓reduceIte,Nat.reduceEqDiff]);rfl));(case hH=>rfl)))|fail)
  (refine Xbw 7 (by decide +kernel) rfl rfl ?_;(first|(apply XaU;(case h=>(apply Xab 6 rfl;(exact XaC _ _ _ _ _ rfl rfl XaT.out (by first|exact Xpm rfl|fail) (by first|exact Xpm rfl|fail))));(apply Xao;(case hT=>((try simp only [wtn,Xpr,Xpo,Xpp,Xps,Xpw,Nat.reduceAdd,Nat.reduceMul,Nat.reduceSub,↓reduceIte,Nat.reduceEqDiff]);rfl));(case hH=>rfl)))|fail))
  (repeat ((first|refine Xbw 8 (by decide +kernel) rfl rfl ?_|refine Xbw 9 (by decide +kernel) rfl rfl ?_|refine Xbw 10 (by decide +kernel) rfl rfl ?_|fail);(first|(apply XaU;(case h=>(first|(apply Xab 6 rfl;(exact XaC _ _ _ _ _ rfl rfl XaT.out (by first|exact Xpm rfl|fail) (by first|exact Xpm rfl|fail)))|(apply Xab 7 rfl;(exact XaD _ _ _ _ _ _ _ _ _ _ rfl rfl rfl HEl.out rfl (by first|omega|fail) (by simp;first|omega|fail)))));(apply Xao;(case hT=>((try simp (disch:=assumption) only [wtn,Xd7,Tok.cells,Xpr,Xpo,Xpp,Xps,Xpw,Nat.reduceAdd,Nat.reduceMul,Nat.reduceSub,↓reduceIte,Nat.reduceEqDiff]);rfl));(case hH=>rfl)))|((refine Xap 16 rfl ?_;(refine Xat _ _ _ _ _ _ _ rfl rfl Xa0.out XaS.out (by first|rfl|fail) (by first|exact Xpm rfl|fail) ?_));apply Xao;(case hT=>((try simp (disch:=omega) only [wtn,Xd7,Tok.cells,Xpr,Xpo,Xpp,Xps,Xpw,Nat.reduceAdd,Nat.reduceMul,Nat.reduceSub,↓reduceIte,Nat.reduceEqDiff]);rfl));(case hH=>((try simp (disch:=omega) only [wtn,Xd7,Tok.cells,Xpr,Xpo,Xpp,Xps,Xpw,Nat.reduceAdd,Nat.reduceMul,Nat.reduceSub,↓reduceIte,Nat.reduceEqDiff]);rfl)))|fail)))
  refine XaV (by decide +kernel) ?_
  (repeat' (first|with_reducible (first|refine Xaw ?_|refine Xaa ?_)|fail))
  refine Xan _ _ (Xb2 rfl (RV.cell 0 rfl rfl XaT.out (by simp) (by simp)) (XaK.mk' [_] [] (Xpn _) XaI.nil (VwL.refl _ _))) ?_
  exact ⟨rfl,rfl⟩
 ·(first|(apply XaU;(case h=>(apply Xab 6 rfl;(exact XaC _ _ _ _ _ rfl rfl XaT.out (by first|exact Xpm rfl|fail) (by first|exact Xpm rfl|fail))));(apply Xao;(case hT=>((try simp only [wtn,Xpr,Xpo,Xpp,Xps,Xpw,Nat.reduceAdd,Nat.reduceMul,Nat.reduceSub,↓reduceIte,Nat.reduceEqDiff]);rfl));(case hH=>rfl)))|fail)
  (refine Xbw 3 (by decide +kernel) rfl rfl ?_;(first|(apply XaU;(case h=>(apply Xab 6 rfl;(exact XaC _ _ _ _ _ rfl rfl XaT.out (by first|exact Xpm rfl|fail) (by first|exact Xpm rfl|fail))));(apply Xao;(case hT=>((try simp only [wtn,Xpr,Xpo,Xpp,Xps,Xpw,Nat.reduceAdd,Nat.reduceMul,Nat.reduceSub,↓reduceIte,Nat.reduceEqDiff]);rfl));(case hH=>rfl)))|fail))
  (repeat ((first|refine Xbw 8 (by decide +kernel) rfl rfl ?_|refine Xbw 9 (by decide +kernel) rfl rfl ?_|refine Xbw 10 (by decide +kernel) rfl rfl ?_|fail);(first|(apply XaU;(case h=>(first|(apply Xab 6 rfl;(exact XaC _ _ _ _ _ rfl rfl XaT.out (by first|exact Xpm rfl|fail) (by first|exact Xpm rfl|fail)))|(apply Xab 7 rfl;(exact XaD _ _ _ _ _ _ _ _ _ _ rfl rfl rfl HEl.out rfl (by first|omega|fail) (by simp;first|omega|fail)))));(apply Xao;(case hT=>((try simp (disch:=assumption) only [wtn,Xd7,Tok.cells,Xpr,Xpo,Xpp,Xps,Xpw,Nat.reduceAdd,Nat.reduceMul,Nat.reduceSub,↓reduceIte,Nat.reduceEqDiff]);rfl));(case hH=>rfl)))|((refine Xap 16 rfl ?_;(refine Xat _ _ _ _ _ _ _ rfl rfl Xa0.out XaS.out (by first|rfl|fail) (by first|exact Xpm rfl|fail) ?_));apply Xao;(case hT=>((try simp (disch:=omega) only [wtn,Xd7,Tok.cells,Xpr,Xpo,Xpp,Xps,Xpw,Nat.reduceAdd,Nat.reduceMul,Nat.reduceSub,↓reduceIte,Nat.reduceEqDiff]);rfl));(case hH=>((try simp (disch:=omega) only [wtn,Xd7,Tok.cells,Xpr,Xpo,Xpp,Xps,Xpw,Nat.reduceAdd,Nat.reduceMul,Nat.reduceSub,↓reduceIte,Nat.reduceEqDiff]);rfl)))|fail)))
  refine XaV (by decide +kernel) ?_
  (repeat' (first|with_reducible (first|refine Xaw ?_|refine Xaa ?_)|fail))
  refine Xan _ _ (Xb2 rfl (RV.cell 0 rfl rfl XaT.out (by simp) (by simp)) (XaK.mk' [_] [] (Xpn _) XaI.nil (VwL.refl _ _))) ?_
  exact ⟨rfl,rfl⟩
def XcG (ts:List Tok) (k:Nat) (kind:Int):Except Flt Tok:=if (tkA ts k).kind=kind then .ok (tkA ts k) else .error (flt 60 (tkA ts k))
theorem Xeg (pb:Nat) (ts:List Tok) (k:Nat) (kind:Int) (hk:k < ts.length) (hl:ts.length≤1000000):Xcp Tryz.prog 33 [.box pb (tc ts k)] [.x (.pointer (some ⟨pb,0,none⟩)),.x (.int .i64 kind)] (fun r H'=>r=ts[k].av∧H'=[.box pb (tc ts (k+1))]∧XcG ts k kind=.ok ts[k]∧ts[k].kind=kind) (fun v _=>∃f,XcG ts k kind=.error f∧v=fv f):=by
 have hn:=XhR ts k hk hl
 unfold Tok.av at hn
 simp only [XcG,Xba hk]
 refine XbR Tryz.func33 rfl ?_
 simp only [Tryz.ntmps33,Xpq,Xpt,Xpu,Xpv,Xpy,Xpx,Nat.reduceAdd,Nat.reduceSub]
 (repeat' (first|with_reducible (first|refine Xaj ?_|refine Xac ?_|refine Xaw ?_|refine Xaz ?_|refine Xaf ?_|refine Xaa ?_|refine Xam ?_)|(refine Xal _ rfl (fun h=>?_) (fun h=>?_)<;>((try (simp only [whn] at h));skip))|((apply Xad rfl);(case h=>((try (intro (hp:(_:Bool)=true);((try simp only [Bool.and_eq_true,Bool.not_eq_true',Bool.not_eq_true] at hp);(try simp only [hp,wte]);(try simp only [whn] at hp))));(first|(apply Xab 0 rfl;(exact Xar _ rfl))|(apply Xab 4 rfl;(exact XaR _ rfl (by first|exact .inl ⟨_,rfl⟩|fail)))|(apply Xab 5 rfl;(exact Xag _ _ _ _ _ _ rfl rfl Xbb.out))|(apply Xab 6 rfl;(exact Xay _ _ _ _ _ _ _ _ rfl rfl Xa0.out XaT.out (by first|exact Xpm rfl|fail) (by first|exact Xpm rfl|fail)))|(apply Xab 11 rfl;(exact Xca 20 Tryz.f20 _ _ rfl rfl Tryz.func20 (by decide) rfl (by (repeat' (first|exact VwL.nil|(refine VwL.cons ?_ ?_)|exact Vw.box (List.Mem.tail _ (List.Mem.head _)) (VwL.refl _ _)|fail));done) (hn)))|(apply XaJ;(case hs=>(intro _ _ h;cases h));(case hx=>rfl);(case hrun=>(intro w;simp [wtb,AV.val,go_sem];(try go_bits);rfl))))));(case hT=>((try simp (disch:=omega) only [wtn,tc,Xpr,Xpo,Xpp,Xps,Xpw,Nat.reduceAdd,Nat.reduceMul,Nat.reduceSub,↓reduceIte,Nat.reduceEqDiff]);rfl)))|(refine XaM rfl ?_;refine XaG 34 Tryz.f34 [] _ _ _ _ rfl rfl Tryz.func34 (by decide) rfl (Xpn _) (VwL.refl _ _) (Xc1 _ ts[k]) ?_ ?_;(case refine_1=>(rintro _ _ ⟨⟩));(case' refine_2=>(rintro _ _ ⟨rfl,rfl⟩)))|(refine Xak rfl ?_;((first|(refine Xap 14 rfl ?_;(refine XaQ _ _ rfl XbK.out rfl (fun b=>?_)))|(refine Xap 16 rfl ?_;(refine Xat _ _ _ _ _ _ _ rfl rfl Xa0.out XaS.out (by first|rfl|fail) (by first|exact Xpm rfl|fail) ?_)));apply Xai;(case hT=>((try simp (disch:=omega) only [wtn,tc,Xpr,Xpo,Xpp,Xps,Xpw,Nat.reduceAdd,Nat.reduceMul,Nat.reduceSub,↓reduceIte,Nat.reduceEqDiff]);rfl));(case hH=>((try simp (disch:=omega) only [wtn,tc,Xpr,Xpo,Xpp,Xps,Xpw,Nat.reduceAdd,Nat.reduceMul,Nat.reduceSub,↓reduceIte,Nat.reduceEqDiff]);rfl))))|fail))
 ·(repeat (with_reducible first|refine Xam ?_|fail));refine XaB _ _ (XaK.mk' [] _ (Xpn _) (XaI.refl _ _) VwL.nil) ?_
  exact ⟨_,if_neg h,rfl⟩
 ·exact Xcy _ _ (Xb2 rfl (RV.cell 1 rfl rfl XaT.out (by simp) (by simp)) (XaK.mk' [_,_] [.box pb (tc ts (k+1))] (Xpn _) (XaI.refl _ _) (VwL.refl _ _))) ⟨rfl,rfl,if_pos h,h⟩
theorem XfB (ts:List Tok) (k:Nat) (s:List UInt8) (hk:k < ts.length) (hl:ts.length≤1000000):Xbv Tryz.prog 37 [] [.at_ (tc ts k),.x (.string (bs s))] (fun r H'=>r=.x (.bool (gIs ts k s))∧H'=[]):=by
 have hn:=XhR ts k hk hl
 unfold Tok.av at hn
 refine XaP Tryz.func37 rfl ?_
 simp only [Tryz.ntmps37,Xpq,Xpt,Xpu,Xpv,Xpy,Xpx,Nat.reduceAdd,Nat.reduceSub]
 (repeat' (first|with_reducible (first|refine Xaj ?_|refine Xac ?_|refine Xaw ?_|refine Xaf ?_|refine Xaa ?_)|((first|apply Xad rfl|apply Xbr _ _ rfl rfl rfl);(case h=>((try (intro (hp:(_:Bool)=true);((try simp only [Bool.and_eq_true,Bool.not_eq_true',Bool.not_eq_true] at hp);(try simp only [hp,wte]);(try simp only [whn] at hp))));(first|(apply Xab 0 rfl;(first|exact Xar _ rfl|exact Xav _ rfl))|(apply Xab 1 rfl;(exact XbL _ _ _ _ _ rfl rfl rfl rfl))|(apply Xab 5 rfl;(exact Xag _ _ _ _ _ _ rfl rfl Xbb.out))|(apply Xab 6 rfl;(exact Xay _ _ _ _ _ _ _ _ rfl rfl Xa0.out XaT.out (by first|exact Xpm rfl|fail) (by first|exact Xpm rfl|fail)))|(apply Xab 11 rfl;(exact Xca 20 Tryz.f20 _ _ rfl rfl Tryz.func20 (by decide) rfl (by (repeat' (first|exact VwL.nil|(refine VwL.cons ?_ ?_)|exact Vw.refl _|fail));done) (hn)))|(apply XaJ;(case hs=>(intro _ _ h;cases h));(case hx=>rfl);(case hrun=>(intro w;simp [wtb,AV.val,go_sem];(try go_bits);rfl))))));(case hT=>((try simp only [wtn,Xpr,Xpo,Xpp,Xps,Xpw,Nat.reduceAdd,Nat.reduceMul,Nat.reduceSub,↓reduceIte,Nat.reduceEqDiff]);rfl)))|(refine Xak rfl ?_;((first|(refine Xap 14 rfl ?_;(refine XaQ _ _ rfl XbK.out rfl (fun b=>?_)))|(refine Xap 16 rfl ?_;(refine Xat _ _ _ _ _ _ _ rfl rfl Xa0.out XaS.out (by first|rfl|fail) (by first|exact Xpm rfl|fail) ?_)));apply Xai;(case hT=>((try simp only [wtn,Xpr,Xpo,Xpp,Xps,Xpw,Nat.reduceAdd,Nat.reduceMul,Nat.reduceSub,↓reduceIte,Nat.reduceEqDiff]);rfl));(case hH=>((try simp only [wtn,Xpr,Xpo,Xpp,Xps,Xpw,Nat.reduceAdd,Nat.reduceMul,Nat.reduceSub,↓reduceIte,Nat.reduceEqDiff]);rfl))))|fail))
 refine Xan _ _ (Xb2 rfl (RV.tmp _) (XaK.mk' [_] [] (Xpn _) (XaI.refl _ _) (by first|exact VwL.refl _ _|fail))) ?_
 exact ⟨by simp only [gIs,Xba hk];rfl,rfl⟩
theorem XlV (pb:Nat) (ts:List Tok) (k:Nat) (s:List UInt8) (hk:k < ts.length) (hl:ts.length≤1000000):Xcp Tryz.prog 36 [.box pb (tc ts k)] [.x (.pointer (some ⟨pb,0,none⟩)),.x (.string (bs s))] (fun r H'=>r=.x (.tuple #[])∧H'=[.box pb (tc ts (k+1))]∧Xfe ts k s=.ok ()∧gIs ts k s=true) (fun v _=>∃f,Xfe ts k s=.error f∧v=fv f):=by
 have hn:=XhR ts k hk hl
 unfold Tok.av at hn
 have hi:=XfB ts k s hk hl
 simp only [Xfe]
 generalize gIs ts k s=gi at hi ⊢
 refine XbR Tryz.func36 rfl ?_
 simp only [Tryz.ntmps36,Xpq,Xpt,Xpu,Xpv,Xpy,Xpx,Nat.reduceAdd,Nat.reduceSub]
 (repeat' (first|with_reducible (first|refine Xaj ?_|refine Xac ?_|refine Xaz ?_|refine Xaf ?_|refine Xaa ?_|refine Xam ?_)|(refine Xal _ rfl (fun h=>?_) (fun h=>?_)<;>((try (simp only [whn] at h));skip))|((apply Xad rfl);(case h=>((try (intro (hp:(_:Bool)=true);((try simp only [Bool.and_eq_true,Bool.not_eq_true',Bool.not_eq_true] at hp);(try simp only [hp,wte]);(try simp only [whn] at hp))));(first|(apply Xab 0 rfl;(exact Xar _ rfl))|(apply Xab 4 rfl;(exact XaR _ rfl (by first|exact .inl ⟨_,rfl⟩|fail)))|(apply Xab 5 rfl;(exact Xag _ _ _ _ _ _ rfl rfl Xbb.out))|(apply Xab 6 rfl;(exact Xay _ _ _ _ _ _ _ _ rfl rfl Xa0.out XaT.out (by first|exact Xpm rfl|fail) (by first|exact Xpm rfl|fail)))|(apply Xab 11 rfl;(first|exact Xca 20 Tryz.f20 _ _ rfl rfl Tryz.func20 (by decide) rfl (by (repeat' (first|exact VwL.nil|(refine VwL.cons ?_ ?_)|exact Vw.box (List.Mem.head _) (VwL.refl _ _)|fail));done) (hn)|exact Xca 37 Tryz.f37 _ _ rfl rfl Tryz.func37 (by decide) rfl (by (repeat' (first|exact VwL.nil|(refine VwL.cons ?_ ?_)|exact Vw.refl _|exact Vw.box (List.Mem.head _) (VwL.refl _ _)|fail));done) (hi)))|(apply XaJ;(case hs=>(intro _ _ h;cases h));(case hx=>rfl);(case hrun=>(intro w;simp [wtb,AV.val,go_sem];(try go_bits);rfl))))));(case hT=>((try simp (disch:=omega) only [wtn,tc,Xpr,Xpo,Xpp,Xps,Xpw,Nat.reduceAdd,Nat.reduceMul,Nat.reduceSub,↓reduceIte,Nat.reduceEqDiff]);rfl)))|(refine XaM rfl ?_;refine XaG 34 Tryz.f34 [] _ _ _ _ rfl rfl Tryz.func34 (by decide) rfl (Xpn _) (VwL.refl _ _) (Xc1 _ ts[k]) ?_ ?_;(case refine_1=>(rintro _ _ ⟨⟩));(case' refine_2=>(rintro _ _ ⟨rfl,rfl⟩)))|(refine Xak rfl ?_;((refine Xap 16 rfl ?_;(refine Xat _ _ _ _ _ _ _ rfl rfl Xa0.out XaS.out (by first|rfl|fail) (by first|exact Xpm rfl|fail) ?_));apply Xai;(case hT=>((try simp (disch:=omega) only [wtn,tc,Xpr,Xpo,Xpp,Xps,Xpw,Nat.reduceAdd,Nat.reduceMul,Nat.reduceSub,↓reduceIte,Nat.reduceEqDiff]);rfl));(case hH=>((try simp (disch:=omega) only [wtn,tc,Xpr,Xpo,Xpp,Xps,Xpw,Nat.reduceAdd,Nat.reduceMul,Nat.reduceSub,↓reduceIte,Nat.reduceEqDiff]);rfl))))|fail))
 ·(repeat (with_reducible first|refine Xam ?_|fail));refine XaB _ _ (XaK.mk' [] _ (Xpn _) (XaI.refl _ _) VwL.nil) ?_
  exact ⟨_,by rw [Xba hk,h];rfl,rfl⟩
 ·exact Xbj _ _ (Xeu rfl (XaK.mk' [] [_] (Xpn _) (XaI.refl _ _) VwL.nil)) ⟨rfl,rfl,by rw [h];rfl,h⟩
theorem XjM (pb:Nat) (ts:List Tok) (k:Nat) (full:Bool) (hk:k < ts.length) (hl:ts.length≤1000000):Xcp Tryz.prog 35 [.box pb (tc ts k)] [.x (.pointer (some ⟨pb,0,none⟩)),.x (.bool full)] (fun r H'=>r=ts[k].av∧H'=[.box pb (tc ts (k+1))]∧Xdw ts k full=.ok ts[k]∧ts[k].kind=1) (fun v _=>∃f,Xdw ts k full=.error f∧v=fv f):=by
 have hT:=Xeg pb ts k 1 hk hl
 have e:Xdw ts k full=XcG ts k 1 >>= fun t=>if t.text.length > 32∨full=true then .error (flt 1 t) else .ok t:=by
  unfold Xdw Xb0 XcG
  rw [Xba hk]
  by_cases h1:ts[k].kind=1
  ·rw [if_neg (fun h=>h h1),if_pos h1]
   by_cases h2:32 < ts[k].text.length
   ·simp [h2,bind,Except.bind]
   ·cases full<;>simp [h2,bind,Except.bind]
  ·rw [if_pos h1,if_neg h1];rfl
 rw [e]
 clear e
 unfold Tok.av at hT ⊢
 refine XbR Tryz.func35 rfl ?_
 simp only [Tryz.ntmps35,Xpq,Xpt,Xpu,Xpv,Xpy,Xpx,Nat.reduceAdd,Nat.reduceSub]
 (repeat' (first|with_reducible (first|refine Xaj ?_|refine Xac ?_|refine Xaw ?_|refine Xaz ?_|refine Xaf ?_|refine Xaa ?_|refine Xam ?_)|(refine Xal _ rfl (fun h=>?_) (fun h=>?_)<;>((try (simp only [whn] at h));skip))|((first|apply Xad rfl|apply Xbr _ _ rfl rfl rfl);(case h=>((try (intro (hp:(_:Bool)=true);((try simp only [Bool.and_eq_true,Bool.not_eq_true',Bool.not_eq_true] at hp);(try simp only [hp,wte]);(try simp only [whn] at hp))));(first|(apply Xab 0 rfl;(exact Xar _ rfl))|(apply Xab 1 rfl;(exact Xcn _ _ _ _ _ rfl rfl rfl rfl))|(apply Xab 5 rfl;(exact Xag _ _ _ _ _ _ rfl rfl Xbb.out))|(apply Xab 6 rfl;(exact Xay _ _ _ _ _ _ _ _ rfl rfl Xa0.out XaT.out (by first|exact Xpm rfl|fail) (by first|exact Xpm rfl|fail)))|(apply XaJ;(case hs=>(intro _ _ h;cases h));(case hx=>rfl);(case hrun=>(intro w;simp [wtb,AV.val,go_sem];(try go_bits);rfl))))));(case hT=>((try simp (disch:=omega) only [wtn,tc,Xpr,Xpo,Xpp,Xps,Xpw,Nat.reduceAdd,Nat.reduceMul,Nat.reduceSub,↓reduceIte,Nat.reduceEqDiff]);rfl)))|(refine XaM rfl ?_;refine XaG 33 Tryz.f33 [_] _ _ _ _ rfl rfl Tryz.func33 (by decide) rfl (XpA (l₁:=[_])) (VwL.refl _ _) (hT) ?_ ?_;(case' refine_1=>(rintro _ _ ⟨rfl,rfl,hp,hk1⟩;(apply Xai;(case hT=>((try simp (disch:=omega) only [wtn,tc,Xpr,Xpo,Xpp,Xps,Xpw,Nat.reduceAdd,Nat.reduceMul,Nat.reduceSub,↓reduceIte,Nat.reduceEqDiff]);rfl));(case hH=>((try simp (disch:=omega) only [wtn,tc,Xpr,Xpo,Xpp,Xps,Xpw,Nat.reduceAdd,Nat.reduceMul,Nat.reduceSub,↓reduceIte,Nat.reduceEqDiff]);rfl)))));(case' refine_2=>(rintro _ _ ⟨f,hp,rfl⟩)))|(refine XaM rfl ?_;refine XaG 34 Tryz.f34 [] _ _ _ _ rfl rfl Tryz.func34 (by decide) rfl (Xpn _) (VwL.refl _ _) (Xc1 _ ts[k]) ?_ ?_;(case refine_1=>(rintro _ _ ⟨⟩));(case' refine_2=>(rintro _ _ ⟨rfl,rfl⟩)))|(refine Xak rfl ?_;((first|(refine Xap 14 rfl ?_;(refine XaQ _ _ rfl XbK.out rfl (fun b=>?_)))|(refine Xap 16 rfl ?_;(refine Xat _ _ _ _ _ _ _ rfl rfl Xa0.out XaS.out (by first|rfl|fail) (by first|exact Xpm rfl|fail) ?_)));apply Xai;(case hT=>((try simp (disch:=omega) only [wtn,tc,Xpr,Xpo,Xpp,Xps,Xpw,Nat.reduceAdd,Nat.reduceMul,Nat.reduceSub,↓reduceIte,Nat.reduceEqDiff]);rfl));(case hH=>((try simp (disch:=omega) only [wtn,tc,Xpr,Xpo,Xpp,Xps,Xpw,Nat.reduceAdd,Nat.reduceMul,Nat.reduceSub,↓reduceIte,Nat.reduceEqDiff]);rfl))))|fail))
 ·(repeat (with_reducible first|refine Xam ?_|fail));refine XaB _ _ (XaK.mk' [] _ (Xpn _) (XaI.refl _ _) VwL.nil) ?_
  exact ⟨f,by rw [hp];rfl,rfl⟩
 ·(repeat (with_reducible first|refine Xam ?_|fail));refine XaB _ _ (XaK.mk' [] _ (Xpn _) (XaI.refl _ _) VwL.nil) ?_
  exact ⟨_,by rw [hp];exact if_pos (by rcases h with h|h;left;omega;right;exact h),rfl⟩
 ·exact Xcy _ _ (Xb2 rfl (RV.cell 2 rfl rfl XaT.out (by simp) (by simp)) (XaK.mk' [_,_] [.box pb (tc ts (k+1))] (.cons _ (List.Perm.swap _ _ _)) (XaI.refl _ _) (VwL.refl _ _))) ⟨rfl,rfl,by rw [hp];exact if_neg (by rintro (h1|h1);omega;rw [h.2] at h1;cases h1),hk1⟩
theorem XdN (ts:List Tok) (k:Nat) (kind:Int) (most:Nat):Xb0 ts k kind most=XcG ts k kind >>= fun t=>if most < t.text.length then .error (flt 1 t) else .ok t:=by
 unfold Xb0 XcG
 by_cases h1:(tkA ts k).kind=kind
 ·rw [if_neg (fun h=>h h1),if_pos h1];rfl
 ·rw [if_pos h1,if_neg h1];rfl
theorem Xkm (pb:Nat) (ts:List Tok) (k:Nat) (kind:Int) (most:Nat) (hk:k < ts.length) (hl:ts.length≤1000000):Xcp Tryz.prog 57 [.box pb (tc ts k)] [.x (.pointer (some ⟨pb,0,none⟩)),.x (.int .i64 kind),.x (.int .i64 most)] (fun r H'=>r=.x (.string (bs ts[k].text))∧H'=[.box pb (tc ts (k+1))]∧Xb0 ts k kind most=.ok ts[k]∧ts[k].kind=kind) (fun v _=>∃f,Xb0 ts k kind most=.error f∧v=fv f):=by
 have hT:=Xeg pb ts k kind hk hl
 rw [XdN]
 unfold Tok.av at hT
 refine XbR Tryz.func57 rfl ?_
 simp only [Tryz.ntmps57,Xpq,Xpt,Xpu,Xpv,Xpy,Xpx,Nat.reduceAdd,Nat.reduceSub]
 (repeat' (first|with_reducible (first|refine Xaj ?_|refine Xac ?_|refine Xaw ?_|refine Xaz ?_|refine Xaf ?_|refine Xaa ?_|refine Xam ?_)|(refine Xal _ rfl (fun h=>?_) (fun h=>?_)<;>((try (simp only [whn] at h));skip))|((apply Xad rfl);(case h=>((try (intro (hp:(_:Bool)=true);((try simp only [Bool.and_eq_true,Bool.not_eq_true',Bool.not_eq_true] at hp);(try simp only [hp,wte]);(try simp only [whn] at hp))));(first|(apply Xab 0 rfl;(first|exact Xar _ rfl|exact Xav _ rfl))|(apply Xab 5 rfl;(exact Xag _ _ _ _ _ _ rfl rfl Xbb.out))|(apply Xab 6 rfl;(exact Xay _ _ _ _ _ _ _ _ rfl rfl Xa0.out XaT.out (by first|exact Xpm rfl|fail) (by first|exact Xpm rfl|fail)))|(apply XaJ;(case hs=>(intro _ _ h;cases h));(case hx=>rfl);(case hrun=>(intro w;simp [wtb,AV.val,go_sem];(try go_bits);rfl))))));(case hT=>((try simp (disch:=omega) only [wtn,tc,Xpr,Xpo,Xpp,Xps,Xpw,Nat.reduceAdd,Nat.reduceMul,Nat.reduceSub,↓reduceIte,Nat.reduceEqDiff]);rfl)))|(refine XaM rfl ?_;refine XaG 33 Tryz.f33 [_] _ _ _ _ rfl rfl Tryz.func33 (by decide) rfl (Xpn _) (VwL.refl _ _) (hT) ?_ ?_;(case' refine_1=>(rintro _ _ ⟨rfl,rfl,hp,hk1⟩;(apply Xai;(case hT=>((try simp (disch:=omega) only [wtn,tc,Xpr,Xpo,Xpp,Xps,Xpw,Nat.reduceAdd,Nat.reduceMul,Nat.reduceSub,↓reduceIte,Nat.reduceEqDiff]);rfl));(case hH=>((try simp (disch:=omega) only [wtn,tc,Xpr,Xpo,Xpp,Xps,Xpw,Nat.reduceAdd,Nat.reduceMul,Nat.reduceSub,↓reduceIte,Nat.reduceEqDiff]);rfl)))));(case' refine_2=>(rintro _ _ ⟨f,hp,rfl⟩)))|(refine XaM rfl ?_;refine XaG 34 Tryz.f34 [] _ _ _ _ rfl rfl Tryz.func34 (by decide) rfl (Xpn _) (VwL.refl _ _) (Xc1 _ ts[k]) ?_ ?_;(case refine_1=>(rintro _ _ ⟨⟩));(case' refine_2=>(rintro _ _ ⟨rfl,rfl⟩)))|(refine Xak rfl ?_;((first|(refine Xap 14 rfl ?_;(refine XaQ _ _ rfl XbK.out rfl (fun b=>?_)))|(refine Xap 16 rfl ?_;(refine Xat _ _ _ _ _ _ _ rfl rfl Xa0.out XaS.out (by first|rfl|fail) (by first|exact Xpm rfl|fail) ?_)));apply Xai;(case hT=>((try simp (disch:=omega) only [wtn,tc,Xpr,Xpo,Xpp,Xps,Xpw,Nat.reduceAdd,Nat.reduceMul,Nat.reduceSub,↓reduceIte,Nat.reduceEqDiff]);rfl));(case hH=>((try simp (disch:=omega) only [wtn,tc,Xpr,Xpo,Xpp,Xps,Xpw,Nat.reduceAdd,Nat.reduceMul,Nat.reduceSub,↓reduceIte,Nat.reduceEqDiff]);rfl))))|fail))
 ·(repeat (with_reducible first|refine Xam ?_|fail));refine XaB _ _ (XaK.mk' [] _ (Xpn _) (XaI.refl _ _) VwL.nil) ?_
  exact ⟨f,by rw [hp];rfl,rfl⟩
 ·(repeat (with_reducible first|refine Xam ?_|fail));refine XaB _ _ (XaK.mk' [] _ (Xpn _) (XaI.refl _ _) VwL.nil) ?_
  exact ⟨_,by rw [hp];exact if_pos (by omega),rfl⟩
 ·exact Xcy _ _ (Xb2 rfl (RV.tmp _) (XaK.mk' [_] [.box pb (tc ts (k+1))] (Xpn _) (XaI.refl _ _) (VwL.refl _ _))) ⟨rfl,rfl,by rw [hp];exact if_neg (by omega),hk1⟩
theorem Xjx (s:List UInt8):Xbv Tryz.prog 85 [] [.x (.string (bs s))] (fun r H'=>r=.x (.int .i64 (Xm0 s))∧H'=[]):=by
 refine XaP Tryz.func85 rfl ?_
 simp only [Tryz.ntmps85,Xpq,Xpt,Xpu,Xpv,Xpy,Xpx,Nat.reduceAdd,Nat.reduceSub]
 (repeat' (first|with_reducible (first|refine Xaj ?_|refine Xac ?_|refine Xas ?_|refine Xaw ?_|refine Xaz ?_|refine Xaf ?_|refine Xaa ?_|refine XaA ?_|refine Xah ?_|refine Xau ?_)|(refine Xal _ rfl (fun h=>?_) (fun h=>?_)<;>((try (simp only [whn] at h));skip))|((apply Xad rfl);(case h=>((try (intro (hp:(_:Bool)=true);((try simp only [Bool.and_eq_true,Bool.not_eq_true',Bool.not_eq_true] at hp);(try simp only [hp,wte]);(try simp only [whn] at hp))));(first|(apply Xab 0 rfl;(first|exact Xar _ rfl|exact Xav _ rfl))|(apply XaJ;(case hs=>(intro _ _ h;cases h));(case hx=>rfl);(case hrun=>(intro w;simp [wtb,AV.val,go_sem];(try go_bits);rfl))))));(case hT=>((try simp only [wtn,Xpr,Xpo,Xpp,Xps,Xpw,Nat.reduceAdd,Nat.reduceMul,Nat.reduceSub,↓reduceIte,Nat.reduceEqDiff]);rfl)))|fail))
 all_goals
  refine Xan _ _ (Xb2 rfl (RV.tmp _) (XaK.mk' [] _ (Xpn _) (XaI.refl _ _) (VwL.refl _ _))) ?_
  refine ⟨?_,rfl⟩
  first|(simp [Xm0,ev, *];done)|fail
theorem XkQ (s:List UInt8):Xbv Tryz.prog 38 [] [.x (.string (bs s))] (fun r H'=>r=.x (.bool (decide (s∈Xek)))∧H'=[]):=by
 refine XaP Tryz.func38 rfl ?_
 simp only [Tryz.ntmps38,Xpq,Xpt,Xpu,Xpv,Xpy,Xpx,Nat.reduceAdd,Nat.reduceSub]
 (repeat' (first|with_reducible (first|refine Xaj ?_|refine Xac ?_|refine Xas ?_|refine Xaw ?_|refine Xaz ?_|refine Xaf ?_|refine Xaa ?_|refine XaA ?_|refine Xah ?_|refine Xau ?_)|(refine Xal _ rfl (fun h=>?_) (fun h=>?_)<;>((try (simp only [whn] at h));skip))|((apply Xad rfl);(case h=>((try (intro (hp:(_:Bool)=true);((try simp only [Bool.and_eq_true,Bool.not_eq_true',Bool.not_eq_true] at hp);(try simp only [hp,wte]);(try simp only [whn] at hp))));(first|(apply Xab 0 rfl;(first|exact Xar _ rfl|exact Xav _ rfl))|(apply XaJ;(case hs=>(intro _ _ h;cases h));(case hx=>rfl);(case hrun=>(intro w;simp [wtb,AV.val,go_sem];(try go_bits);rfl))))));(case hT=>((try simp only [wtn,Xpr,Xpo,Xpp,Xps,Xpw,Nat.reduceAdd,Nat.reduceMul,Nat.reduceSub,↓reduceIte,Nat.reduceEqDiff]);rfl)))|fail))
 all_goals first
  | (exfalso;exact h (by assumption))
  | (refine Xan _ _ (Xb2 rfl (RV.tmp _) (XaK.mk' [] _ (Xpn _) (XaI.refl _ _) (VwL.refl _ _))) ?_
     refine ⟨?_,rfl⟩
     first|(simp [Xek,Xh6,XfS,Xdd,Xeh,XcC,Xcm,XdX,XiI,ev, *];done)|fail)
theorem XnF (ts:List Tok) (k:Nat) (hk:k < ts.length) (hS:ts[k].text.length≤8192):XkP ts k=XcG ts k 1 >>= Xn3:=by
 unfold XkP Xn3
 rw [XdN]
 cases h:XcG ts k 1 with
 | error f=>rfl
 | ok t=>
   have e:t=ts[k]:=by
    unfold XcG at h
    rw [Xba hk] at h
    split at h
    ·cases h;rfl
    ·cases h
   simp only [bind,Except.bind]
   rw [if_neg (by rw [e];omega)]
theorem Xlg (pb:Nat) (ts:List Tok) (k:Nat) (hk:k < ts.length) (hl:ts.length≤1000000) (hS:ts[k].text.length≤8192):Xcp Tryz.prog 62 [.box pb (tc ts k)] [.x (.pointer (some ⟨pb,0,none⟩))] (fun r H'=>∃n,r=.x (.int .i64 n)∧H'=[.box pb (tc ts (k+1))]∧XkP ts k=.ok n∧ts[k].kind=1) (fun v _=>∃f,XkP ts k=.error f∧v=fv f):=by
 have hT:=Xeg pb ts k 1 hk hl
 rw [XnF ts k hk hS]
 unfold Tok.av at hT
 refine XbR Tryz.func62 rfl ?_
 simp only [Tryz.ntmps62,Xpq,Xpt,Xpu,Xpv,Xpy,Xpx,Nat.reduceAdd,Nat.reduceSub]
 (repeat' (first|with_reducible (first|refine Xaj ?_|refine Xac ?_|refine Xas ?_|refine Xaw ?_|refine Xaz ?_|refine Xaf ?_|refine Xaa ?_|refine XaA ?_|refine Xah ?_|refine Xau ?_|refine Xam ?_)|(refine Xal _ rfl (fun h=>?_) (fun h=>?_)<;>((try (simp only [whn] at h));skip))|((apply Xad rfl);(case h=>((try (intro (hp:(_:Bool)=true);((try simp only [Bool.and_eq_true,Bool.not_eq_true',Bool.not_eq_true] at hp);(try simp only [hp,wte]);(try simp only [whn] at hp))));(first|(apply Xab 0 rfl;(first|exact Xar _ rfl|exact Xav _ rfl))|(apply Xab 5 rfl;(exact Xag _ _ _ _ _ _ rfl rfl Xbb.out))|(apply Xab 6 rfl;(exact Xay _ _ _ _ _ _ _ _ rfl rfl Xa0.out XaT.out (by first|exact Xpm rfl|fail) (by first|exact Xpm rfl|fail)))|(apply XaJ;(case hs=>(intro _ _ h;cases h));(case hx=>rfl);(case hrun=>(intro w;simp [wtb,AV.val,go_sem];(try go_bits);rfl))))));(case hT=>((try simp (disch:=omega) only [wtn,tc,Xpr,Xpo,Xpp,Xps,Xpw,Nat.reduceAdd,Nat.reduceMul,Nat.reduceSub,↓reduceIte,Nat.reduceEqDiff]);rfl)))|(refine XaM rfl ?_;refine XaG 33 Tryz.f33 [_] _ _ _ _ rfl rfl Tryz.func33 (by decide) rfl (Xpn _) (VwL.refl _ _) (hT) ?_ ?_;(case' refine_1=>(rintro _ _ ⟨rfl,rfl,hp,hk1⟩;(apply Xai;(case hT=>((try simp (disch:=omega) only [wtn,tc,Xpr,Xpo,Xpp,Xps,Xpw,Nat.reduceAdd,Nat.reduceMul,Nat.reduceSub,↓reduceIte,Nat.reduceEqDiff]);rfl));(case hH=>((try simp (disch:=omega) only [wtn,tc,Xpr,Xpo,Xpp,Xps,Xpw,Nat.reduceAdd,Nat.reduceMul,Nat.reduceSub,↓reduceIte,Nat.reduceEqDiff]);rfl)))));(case' refine_2=>(rintro _ _ ⟨f,hp,rfl⟩)))|(refine XaM rfl ?_;refine XaG 34 Tryz.f34 [] _ _ _ _ rfl rfl Tryz.func34 (by decide) rfl (Xpn _) (VwL.refl _ _) (Xc1 _ ts[k]) ?_ ?_;(case refine_1=>(rintro _ _ ⟨⟩));(case' refine_2=>(rintro _ _ ⟨rfl,rfl⟩)))|(refine Xak rfl ?_;((first|(refine Xap 14 rfl ?_;(refine XaQ _ _ rfl XbK.out rfl (fun b=>?_)))|(refine Xap 16 rfl ?_;(refine Xat _ _ _ _ _ _ _ rfl rfl Xa0.out XaS.out (by first|rfl|fail) (by first|exact Xpm rfl|fail) ?_)));apply Xai;(case hT=>((try simp (disch:=omega) only [wtn,tc,Xpr,Xpo,Xpp,Xps,Xpw,Nat.reduceAdd,Nat.reduceMul,Nat.reduceSub,↓reduceIte,Nat.reduceEqDiff]);rfl));(case hH=>((try simp (disch:=omega) only [wtn,tc,Xpr,Xpo,Xpp,Xps,Xpw,Nat.reduceAdd,Nat.reduceMul,Nat.reduceSub,↓reduceIte,Nat.reduceEqDiff]);rfl))))|fail))
 ·(repeat (with_reducible first|refine Xam ?_|fail));refine XaB _ _ (XaK.mk' [] _ (Xpn _) (XaI.refl _ _) VwL.nil) ?_
  exact ⟨f,by rw [hp];rfl,rfl⟩
 ·exact Xcy _ _ (Xb2 rfl (RV.tmp _) (XaK.mk' [_] [.box pb (tc ts (k+1))] (Xpn _) (XaI.refl _ _) (VwL.refl _ _))) ⟨3,rfl,rfl,by rw [hp];exact if_pos h,hk1⟩
 ·exact Xcy _ _ (Xb2 rfl (RV.tmp _) (XaK.mk' [_] [.box pb (tc ts (k+1))] (Xpn _) (XaI.refl _ _) (VwL.refl _ _))) ⟨2,rfl,rfl,by rw [hp];exact (if_neg (by assumption)).trans (if_pos h),hk1⟩
 ·exact Xcy _ _ (Xb2 rfl (RV.tmp _) (XaK.mk' [_] [.box pb (tc ts (k+1))] (Xpn _) (XaI.refl _ _) (VwL.refl _ _))) ⟨1,rfl,rfl,by rw [hp];exact (if_neg (by assumption)).trans ((if_neg (by assumption)).trans (if_pos h)),hk1⟩
 ·(repeat (with_reducible first|refine Xam ?_|fail));refine XaB _ _ (XaK.mk' [] _ (Xpn _) (XaI.refl _ _) VwL.nil) ?_
  exact ⟨_,by rw [hp];exact (if_neg (by assumption)).trans ((if_neg (by assumption)).trans (if_neg h)),rfl⟩
end Go.Proofs.YtcmfamgnmehojaaGreatDoor

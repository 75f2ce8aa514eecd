import Derived.Test.YtcmfamgnmehojaaGreatDoorW28
import Derived.Test.YtcmfamgnmehojaaGreatDoorW23
import Derived.Test.YtcmfamgnmehojaaGreatDoorW13
import Derived.Test.YtcmfamgnmehojaaGreatDoorW10
import Derived.Test.YtcmfamgnmehojaaGreatDoorW12
/- The program's parser: what its deferred function does. -/
set_option linter.unusedSimpArgs false
set_option linter.unusedVariables false
set_option maxRecDepth 100000
set_option maxHeartbeats 8000000
namespace Go.Proofs.YtcmfamgnmehojaaGreatDoor
open Go.RowKit
theorem Xl9 (b2 b3:Nat) (c:AV) (d0 d1 d2:AV) (f:Flt):XiS Tryz.prog 19 [.box b2 [c],.box b3 [d0,d1,d2]] ([.pointer (some ⟨b2,0,none⟩),.pointer (some ⟨b3,0,none⟩)].map AV.x) (.panicking (Xku (fv f))) (.panicking [{ v:=fv f,recovered:=true }])
  (fun r H'=>H'=[.box b2 [.x (.slice none 0 0)],.box b3 [.x (.int .i64 f.code),.x (.int .i64 (f.line:Nat)),.x (.int .i64 (f.col:Nat))]]):=by
 refine Xhv Tryz.func19 rfl fun V O w0 a w r c₀ cs hu=>?_
 refine Xkr rfl rfl rfl rfl rfl rfl r (v:=fv f) (.inl (by simp [recoverD,hu,Xku])) rfl ?_
 unfold fv
 simp only [Tryz.ntmps19,Xpq,Xpt,Xpu,Xpv,Xpy,Xpx,Nat.reduceAdd,Nat.reduceSub,Xps,Xpw,XbH,XpB,XpC]
 (repeat' (first|with_reducible (first|refine Xaj ?_|refine Xac ?_|refine Xaf ?_|refine Xaa ?_)|(refine Xal _ rfl (fun h=>?_) (fun h=>?_)<;>first|(exact absurd h (by decide))|((try (simp only [whn] at h));skip))|((apply Xad rfl);(case h=>((try (intro (hp:(_:Bool)=true);((try simp only [Bool.and_eq_true,Bool.not_eq_true',Bool.not_eq_true] at hp);(try simp only [hp,wte]);(try simp only [whn] at hp))));(first|(apply Xab 0 rfl;(exact Xar _ rfl))|(apply XaJ;(case hs=>(intro _ _ h;cases h));(case hx=>rfl);(case hrun=>(intro w;simp [wtb,AV.val,go_sem];(try go_bits);rfl))))));(case hT=>((try simp only [wtn,Xpr,Xpo,Xpp,Xps,Xpw,Nat.reduceAdd,Nat.reduceMul,Nat.reduceSub,↓reduceIte,Nat.reduceEqDiff]);rfl)))|(refine Xak rfl ?_;((refine Xap 16 rfl ?_;(refine Xat _ _ _ _ _ _ _ rfl rfl Xa0.out XaS.out (by first|rfl|fail) (by first|exact Xpm rfl|fail) ?_));apply Xai;(case hT=>((try simp only [wtn,Xpr,Xpo,Xpp,Xps,Xpw,Nat.reduceAdd,Nat.reduceMul,Nat.reduceSub,↓reduceIte,Nat.reduceEqDiff]);rfl));(case hH=>((try simp only [wtn,Xpr,Xpo,Xpp,Xps,Xpw,Nat.reduceAdd,Nat.reduceMul,Nat.reduceSub,↓reduceIte,Nat.reduceEqDiff]);rfl))))|fail))
 exact Xcj _ _ (Xeu rfl (XaK.mk' [] _ (Xpn _) (XaI.refl _ _) VwL.nil)) rfl
theorem XnH (b2 b3:Nat) (H:List Hp):XiS Tryz.prog 19 H ([.pointer (some ⟨b2,0,none⟩),.pointer (some ⟨b3,0,none⟩)].map AV.x) .returning .returning (fun r H'=>H'=H):=by
 refine Xhv Tryz.func19 rfl fun V O w0 a w r c₀ cs hu=>?_
 refine Xkr rfl rfl rfl rfl rfl rfl r (v:=.nilIface) (.inr ⟨by simp [recoverD,hu],rfl,hu.symm⟩) rfl ?_
 simp only [Tryz.ntmps19,Xpq,Xpt,Xpu,Xpv,Xpy,Xpx,Nat.reduceAdd,Nat.reduceSub,Xps,Xpw,XbH,XpB,XpC]
 (repeat' (first|with_reducible (first|refine Xaj ?_|refine Xac ?_|refine Xaz ?_|refine Xaf ?_|refine Xaa ?_)|(refine Xal _ rfl (fun h=>?_) (fun h=>?_)<;>first|(exact absurd h (by decide))|((try (simp only [whn] at h));skip))|((apply Xad rfl);(case h=>((try (intro (hp:(_:Bool)=true);((try simp only [Bool.and_eq_true,Bool.not_eq_true',Bool.not_eq_true] at hp);(try simp only [hp,wte]);(try simp only [whn] at hp))));(first|(apply Xab 0 rfl;(exact Xar _ rfl))|(apply XaJ;(case hs=>(intro _ _ h;cases h));(case hx=>rfl);(case hrun=>(intro w;simp [wtb,AV.val,go_sem];(try go_bits);rfl))))));(case hT=>((try simp only [wtn,Xpr,Xpo,Xpp,Xps,Xpw,Nat.reduceAdd,Nat.reduceMul,Nat.reduceSub,↓reduceIte,Nat.reduceEqDiff]);rfl)))|fail))
 exact Xcj _ _ (Xeu rfl (XaK.mk' [] _ (Xpn _) (XaI.refl _ _) VwL.nil)) rfl
theorem XcD {P:Program} {o:Oper} {ρ:Operand→AV} {H:List Hp} (t:TypeId) (x:Operand) (lo hi:Option Operand) (l h:Nat) (s:List UInt8) (ho:o.op=.slice t x lo hi none) (hx:ρ x=.x (.string (bs s))) (ht:P.underlying t=some .string)
  (hlo:(lo=none∧l=0)∨∃y k,lo=some y∧ρ y=.x (.int k l)) (hhi:(hi=none∧h=s.length)∨∃y k,hi=some y∧ρ y=.x (.int k h)) (h1:l≤h) (h2:h≤s.length):XgD P o ρ H (.x (.string (bs ((s.take h).drop l)))):=by
 intro V a w r
 have he:(bs s).extract l h=bs ((s.take h).drop l):=by
  apply ByteArray.ext;apply Array.toList_inj.1
  simp [bs,ByteArray.data_extract,List.extract_eq_take_drop,List.drop_take]
 have hrun:∀w',(Instr.sliceAt t (.string (bs s)) (lo.map a.eval) (hi.map a.eval) none).run P w'=.ok (.string (bs ((s.take h).drop l))) w':=by
  intro w'
  rw [←he]
  rcases hlo with ⟨rfl,rfl⟩|⟨y,k,rfl,hy⟩<;>rcases hhi with ⟨rfl,rfl⟩|⟨z,k',rfl,hz⟩<;>
   (try rw [Option.map_some,r.evx (by simp [ho,Op.operands]) hy])<;>(try rw [Option.map_some,r.evx (by simp [ho,Op.operands]) hz])<;>
   simp [Instr.sliceAt,run_underlying ht,Instr.slice,Instr.sliceBounds,Instr.sliceBound,asIntOf,h1,h2]
 refine ⟨.string (bs ((s.take h).drop l)),fun w'=>?_,by rw [Den]⟩
 simp [execOp,ho,r.evx (by simp [ho,Op.operands]) hx,hrun]
def XiO:Except Int (Int × List UInt8 × Nat)→AV
 | .ok x=>.tup [.x (.int .i64 x.1),.x (.string (bs x.2.1)),.x (.int .i64 (x.2.2:Nat)),.x .nilIface]
 | .error e=>.tup [.x (.int .i64 0),.x (.string (bs [])),.x (.int .i64 0),.x (.iface 80 (.int .i64 e))]
theorem XiH (c:UInt8) (r:List UInt8) (hl:r.length≤50000):Xbv Tryz.prog 50 [] [.x (.string (bs (c :: r)))] (fun q H'=>q=XiO (one (c :: r))∧H'=[]):=by
 have ht:=Xfp c
 have hd:=XeR c
 have hw:=XlW 75 Tryz.f75 XcZ Tryz.func75 (by decide) rfl XkR (c :: r) (by simp;omega)
 have hg:=XlW 76 Tryz.f76 XbC Tryz.func76 (by decide) rfl XeR (c :: r) (by simp;omega)
 have hq:=Xli (c :: r) (by simp) (by simp;omega) []
 have hp:=Xj0 (c :: r) (by simp) (by simp;omega) []
 simp only [List.drop_succ_cons,List.drop_zero] at hq hp
 have hwl:=Xh2 XcZ (c :: r)
 have hgl:=Xh2 XbC (c :: r)
 simp only [Xpq] at hwl hgl
 refine XaP Tryz.func50 rfl ?_
 simp only [Tryz.ntmps50,Xpq,Xpt,Xpu,Xpv,Xpy,Xpx,Nat.reduceAdd,Nat.reduceSub]
 (repeat' (first|with_reducible (first|refine Xaj ?_|refine Xac ?_|refine Xas ?_|refine Xaw ?_|refine Xaz ?_|refine Xaf ?_|refine Xaa ?_|refine XaA ?_|refine Xah ?_|refine Xau ?_)|(refine Xal _ rfl (fun h=>?_) (fun h=>?_)<;>((try (simp only [whn] at h));skip))|((first|apply Xad rfl|apply Xbr _ _ rfl rfl rfl);(case h=>((try (intro (hp:(_:Bool)=true);((try simp only [Bool.and_eq_true,Bool.not_eq_true',Bool.not_eq_true] at hp);(try simp only [hp,wte]);(try simp only [whn] at hp))));(first|(apply Xab 0 rfl;(first|exact Xar _ rfl|exact Xav _ rfl))|(apply Xab 1 rfl;(first|exact Xcn _ _ _ _ _ rfl rfl rfl rfl|exact XbY _ _ _ _ _ rfl rfl rfl rfl))|(apply Xab 8 rfl;(exact XaW _ _ _ _ _ 0 _ rfl rfl rfl (by kernel_rfl) rfl (by simp;first|done|fail)))|(apply Xab 11 rfl;(first|exact XaE 73 Tryz.f73 _ _ rfl rfl Tryz.func73 (by decide) rfl (VwL.refl _ _) (ht)|exact XaE 76 Tryz.f76 _ _ rfl rfl Tryz.func76 (by decide) rfl (VwL.refl _ _) (hd)|exact XaE 74 Tryz.f74 _ _ rfl rfl Tryz.func74 (by decide) rfl (VwL.refl _ _) (hw)|exact XaE 74 Tryz.f74 _ _ rfl rfl Tryz.func74 (by decide) rfl (VwL.refl _ _) (hg)|exact XaE 77 Tryz.f77 _ _ rfl rfl Tryz.func77 (by decide) rfl (VwL.refl _ _) (hq)|exact XaE 78 Tryz.f78 _ _ rfl rfl Tryz.func78 (by decide) rfl (VwL.refl _ _) (hp)))|(apply XaJ;(case hs=>(intro _ _ h;cases h));(case hx=>rfl);(case hrun=>(intro w;simp [wtb,AV.val,go_sem];(try go_bits);rfl))))));(case hT=>((try simp only [wtn,Xpr,Xpo,Xpp,Xps,Xpw,Nat.reduceAdd,Nat.reduceMul,Nat.reduceSub,↓reduceIte,Nat.reduceEqDiff]);rfl)))|fail))
 ·refine XdZ mixed ?_
  (first|(apply Xb5 0 rfl rfl (by kernel_rfl) (by intro c T H hp;simp [Xa1,Xaq,Xa8,XbI] at hp);(case h=>(exact Xbc _ rfl)))|fail);(apply Xb4;(case hT=>((try simp (disch:=first|omega|fail) only [wtn,List.drop_zero,Xpr,Xpo,Xpp,Xps,Xpw,Nat.reduceAdd,Nat.reduceMul,Nat.reduceSub,↓reduceIte,Nat.reduceEqDiff]);rfl));(case hH=>rfl));(first|(apply Xb5 1 rfl rfl (by kernel_rfl) (by intro c T H hp;simp [Xa1,Xaq,Xa8,XbI] at hp);(case h=>(exact Xbc _ rfl)))|fail);(apply Xb4;(case hT=>((try simp (disch:=first|omega|fail) only [wtn,List.drop_zero,Xpr,Xpo,Xpp,Xps,Xpw,Nat.reduceAdd,Nat.reduceMul,Nat.reduceSub,↓reduceIte,Nat.reduceEqDiff]);rfl));(case hH=>rfl));(first|(apply Xb5 2 rfl rfl (by kernel_rfl) (by intro c T H hp;simp [Xa1,Xaq,Xa8,XbI] at hp);(case h=>(exact XcD _ _ _ _ _ _ _ rfl rfl (by kernel_rfl) (by first|exact .inl ⟨rfl,rfl⟩|fail) (by first|exact .inr ⟨_,_,rfl,rfl⟩|fail) (by simp;done) (by simp;first|omega|fail))))|fail);(apply Xb4;(case hT=>((try simp (disch:=first|omega|fail) only [wtn,List.drop_zero,Xpr,Xpo,Xpp,Xps,Xpw,Nat.reduceAdd,Nat.reduceMul,Nat.reduceSub,↓reduceIte,Nat.reduceEqDiff]);rfl));(case hH=>rfl));(first|(apply Xb5 3 rfl rfl (by kernel_rfl) (by intro c T H hp;simp [Xa1,Xaq,Xa8,XbI] at hp);(case h=>(exact Xbc _ rfl)))|fail);(apply Xb4;(case hT=>((try simp (disch:=first|omega|fail) only [wtn,List.drop_zero,Xpr,Xpo,Xpp,Xps,Xpw,Nat.reduceAdd,Nat.reduceMul,Nat.reduceSub,↓reduceIte,Nat.reduceEqDiff]);rfl));(case hH=>rfl))
  refine XgR ?_
  (refine Xc0 4 (by decide +kernel) rfl rfl ?_;(first|(apply XaU;(case h=>(apply Xab 0 rfl;(exact Xav _ rfl)));(apply XbS;(case hT=>((try simp only [wtn,Xpr,Xpo,Xpp,Xps,Xpw,Nat.reduceAdd,Nat.reduceMul,Nat.reduceSub,↓reduceIte,Nat.reduceEqDiff]);rfl));(case hH=>rfl)))|fail));(refine Xc0 5 (by decide +kernel) rfl rfl ?_;(first|(apply XaU;(case h=>(apply Xab 0 rfl;(exact Xav _ rfl)));(apply XbS;(case hT=>((try simp only [wtn,Xpr,Xpo,Xpp,Xps,Xpw,Nat.reduceAdd,Nat.reduceMul,Nat.reduceSub,↓reduceIte,Nat.reduceEqDiff]);rfl));(case hH=>rfl)))|fail));(refine Xc0 6 (by decide +kernel) rfl rfl ?_;(first|(apply XaU;(case h=>(apply Xab 0 rfl;(exact Xav _ rfl)));(apply XbS;(case hT=>((try simp only [wtn,Xpr,Xpo,Xpp,Xps,Xpw,Nat.reduceAdd,Nat.reduceMul,Nat.reduceSub,↓reduceIte,Nat.reduceEqDiff]);rfl));(case hH=>rfl)))|fail));(refine Xc0 7 (by decide +kernel) rfl rfl ?_;(first|(apply XaU;(case h=>(apply Xab 0 rfl;(exact Xav _ rfl)));(apply XbS;(case hT=>((try simp only [wtn,Xpr,Xpo,Xpp,Xps,Xpw,Nat.reduceAdd,Nat.reduceMul,Nat.reduceSub,↓reduceIte,Nat.reduceEqDiff]);rfl));(case hH=>rfl)))|fail))
  refine Xez (by decide +kernel) ?_
  (repeat' (first|with_reducible (first|refine Xaw ?_|refine Xaa ?_|refine XaA ?_|refine Xau ?_)|fail))
  rw [Xk8 c r (by assumption)]
  exact Xan _ _ (Xkx rfl (RV.tmp _) (RV.tmp _) (RV.tmp _) (RV.tmp _) (XaK.mk' [] [] (Xpn _) (XaI.refl _ _) (VwL.refl _ _))) ⟨by (simp only [XiO];(first|rfl|fail)),rfl⟩
 ·rw [Xk6 c r (by assumption) (by assumption) (by first|omega|fail)]
  exact Xan _ _ (Xkx rfl (RV.tmp _) (RV.tmp _) (RV.tmp _) (RV.tmp _) (XaK.mk' [] [] (Xpn _) (XaI.refl _ _) (VwL.refl _ _))) ⟨by (simp only [XiO];(first|rfl|fail)),rfl⟩
 ·skip
  refine XdZ mixed ?_
  (first|(apply Xb5 0 rfl rfl (by kernel_rfl) (by intro c T H hp;simp [Xa1,Xaq,Xa8,XbI] at hp);(case h=>(exact Xbc _ rfl)))|fail);(apply Xb4;(case hT=>((try simp (disch:=first|omega|fail) only [wtn,List.drop_zero,Xpr,Xpo,Xpp,Xps,Xpw,Nat.reduceAdd,Nat.reduceMul,Nat.reduceSub,↓reduceIte,Nat.reduceEqDiff]);rfl));(case hH=>rfl));(first|(apply Xb5 1 rfl rfl (by kernel_rfl) (by intro c T H hp;simp [Xa1,Xaq,Xa8,XbI] at hp);(case h=>(exact Xbc _ rfl)))|fail);(apply Xb4;(case hT=>((try simp (disch:=first|omega|fail) only [wtn,List.drop_zero,Xpr,Xpo,Xpp,Xps,Xpw,Nat.reduceAdd,Nat.reduceMul,Nat.reduceSub,↓reduceIte,Nat.reduceEqDiff]);rfl));(case hH=>rfl));(first|(apply Xb5 2 rfl rfl (by kernel_rfl) (by intro c T H hp;simp [Xa1,Xaq,Xa8,XbI] at hp);(case h=>(exact XcD _ _ _ _ _ _ _ rfl rfl (by kernel_rfl) (by first|exact .inl ⟨rfl,rfl⟩|fail) (by first|exact .inr ⟨_,_,rfl,rfl⟩|fail) (by simp;done) (by simp;first|omega|fail))))|fail);(apply Xb4;(case hT=>((try simp (disch:=first|omega|fail) only [wtn,List.drop_zero,Xpr,Xpo,Xpp,Xps,Xpw,Nat.reduceAdd,Nat.reduceMul,Nat.reduceSub,↓reduceIte,Nat.reduceEqDiff]);rfl));(case hH=>rfl));(first|(apply Xb5 3 rfl rfl (by kernel_rfl) (by intro c T H hp;simp [Xa1,Xaq,Xa8,XbI] at hp);(case h=>(exact Xbc _ rfl)))|fail);(apply Xb4;(case hT=>((try simp (disch:=first|omega|fail) only [wtn,List.drop_zero,Xpr,Xpo,Xpp,Xps,Xpw,Nat.reduceAdd,Nat.reduceMul,Nat.reduceSub,↓reduceIte,Nat.reduceEqDiff]);rfl));(case hH=>rfl))
  refine XgR ?_
  (refine Xc0 4 (by decide +kernel) rfl rfl ?_;(first|(apply XaU;(case h=>(apply Xab 0 rfl;(exact Xav _ rfl)));(apply XbS;(case hT=>((try simp only [wtn,Xpr,Xpo,Xpp,Xps,Xpw,Nat.reduceAdd,Nat.reduceMul,Nat.reduceSub,↓reduceIte,Nat.reduceEqDiff]);rfl));(case hH=>rfl)))|fail));(refine Xc0 5 (by decide +kernel) rfl rfl ?_;(first|(apply XaU;(case h=>(apply Xab 0 rfl;(exact Xav _ rfl)));(apply XbS;(case hT=>((try simp only [wtn,Xpr,Xpo,Xpp,Xps,Xpw,Nat.reduceAdd,Nat.reduceMul,Nat.reduceSub,↓reduceIte,Nat.reduceEqDiff]);rfl));(case hH=>rfl)))|fail));(refine Xc0 6 (by decide +kernel) rfl rfl ?_;(first|(apply XaU;(case h=>(apply Xab 0 rfl;(exact Xav _ rfl)));(apply XbS;(case hT=>((try simp only [wtn,Xpr,Xpo,Xpp,Xps,Xpw,Nat.reduceAdd,Nat.reduceMul,Nat.reduceSub,↓reduceIte,Nat.reduceEqDiff]);rfl));(case hH=>rfl)))|fail));(refine Xc0 7 (by decide +kernel) rfl rfl ?_;(first|(apply XaU;(case h=>(apply Xab 0 rfl;(exact Xav _ rfl)));(apply XbS;(case hT=>((try simp only [wtn,Xpr,Xpo,Xpp,Xps,Xpw,Nat.reduceAdd,Nat.reduceMul,Nat.reduceSub,↓reduceIte,Nat.reduceEqDiff]);rfl));(case hH=>rfl)))|fail))
  refine Xez (by decide +kernel) ?_
  (repeat' (first|with_reducible (first|refine Xaw ?_|refine Xaa ?_|refine XaA ?_|refine Xau ?_)|fail))
  rw [XmP c r (by assumption) (by assumption) (by first|omega|fail)]
  exact Xan _ _ (Xkx rfl (RV.tmp _) (RV.tmp _) (RV.tmp _) (RV.tmp _) (XaK.mk' [] [] (Xpn _) (XaI.refl _ _) (VwL.refl _ _))) ⟨by (simp only [XiO];(first|rfl|fail)),rfl⟩
 ·skip
  cases hqq:quo r with
  | none=>
    simp only [hqq,Xgn]
    (repeat' (first|with_reducible (first|refine Xaj ?_|refine Xac ?_|refine Xaw ?_|refine Xaf ?_|refine Xaa ?_|refine XaA ?_|refine Xau ?_)|(refine Xal _ rfl (fun h=>?_) (fun h=>?_)<;>first|(exact absurd h (by decide))|((try (simp only [whn] at h));skip))|((apply Xad rfl);(case h=>((try (intro (hp:(_:Bool)=true);((try simp only [Bool.and_eq_true,Bool.not_eq_true',Bool.not_eq_true] at hp);(try simp only [hp,wte]);(try simp only [whn] at hp))));(first|(apply Xab 0 rfl;(first|exact Xar _ rfl|exact Xav _ rfl))|(apply XaJ;(case hs=>(intro _ _ h;cases h));(case hx=>rfl);(case hrun=>(intro w;simp [wtb,AV.val,go_sem];(try go_bits);rfl))))));(case hT=>((try simp only [wtn,Xpr,Xpo,Xpp,Xps,Xpw,Nat.reduceAdd,Nat.reduceMul,Nat.reduceSub,↓reduceIte,Nat.reduceEqDiff]);rfl)))|fail))
    rw [XjS c r (by assumption) (by assumption) (by omega)]
    simp only [hqq]
    exact Xan _ _ (Xkx rfl (RV.tmp _) (RV.tmp _) (RV.tmp _) (RV.tmp _) (XaK.mk' [] [] (Xpn _) (XaI.refl _ _) (VwL.refl _ _))) ⟨by (simp only [XiO];(first|rfl|fail)),rfl⟩
  | some x=>
    simp only [hqq,Xgn]
    (repeat' (first|with_reducible (first|refine Xaj ?_|refine Xac ?_|refine Xaw ?_|refine Xaz ?_|refine Xaf ?_|refine Xaa ?_|refine XaA ?_|refine Xau ?_)|(refine Xal _ rfl (fun h=>?_) (fun h=>?_)<;>first|(exact absurd h (by decide))|((try (simp only [whn] at h));skip))|((apply Xad rfl);(case h=>((try (intro (hp:(_:Bool)=true);((try simp only [Bool.and_eq_true,Bool.not_eq_true',Bool.not_eq_true] at hp);(try simp only [hp,wte]);(try simp only [whn] at hp))));(first|(apply Xab 0 rfl;(first|exact Xar _ rfl|exact Xav _ rfl))|(apply XaJ;(case hs=>(intro _ _ h;cases h));(case hx=>rfl);(case hrun=>(intro w;simp [wtb,AV.val,go_sem];(try go_bits);rfl))))));(case hT=>((try simp only [wtn,Xpr,Xpo,Xpp,Xps,Xpw,Nat.reduceAdd,Nat.reduceMul,Nat.reduceSub,↓reduceIte,Nat.reduceEqDiff]);rfl)))|fail))
    rw [XjS c r (by assumption) (by assumption) (by omega)]
    simp only [hqq]
    exact Xan _ _ (Xkx rfl (RV.tmp _) (RV.tmp _) (RV.tmp _) (RV.tmp _) (XaK.mk' [] [] (Xpn _) (XaI.refl _ _) (VwL.refl _ _))) ⟨by (simp only [XiO];(first|rfl|fail)),rfl⟩
 ·cases hqq:sla r with
  | none=>
    simp only [hqq,Xgn]
    (repeat' (first|with_reducible (first|refine Xaj ?_|refine Xac ?_|refine Xaw ?_|refine Xaf ?_|refine Xaa ?_|refine XaA ?_|refine Xau ?_)|(refine Xal _ rfl (fun h=>?_) (fun h=>?_)<;>first|(exact absurd h (by decide))|((try (simp only [whn] at h));skip))|((apply Xad rfl);(case h=>((try (intro (hp:(_:Bool)=true);((try simp only [Bool.and_eq_true,Bool.not_eq_true',Bool.not_eq_true] at hp);(try simp only [hp,wte]);(try simp only [whn] at hp))));(first|(apply Xab 0 rfl;(first|exact Xar _ rfl|exact Xav _ rfl))|(apply XaJ;(case hs=>(intro _ _ h;cases h));(case hx=>rfl);(case hrun=>(intro w;simp [wtb,AV.val,go_sem];(try go_bits);rfl))))));(case hT=>((try simp only [wtn,Xpr,Xpo,Xpp,Xps,Xpw,Nat.reduceAdd,Nat.reduceMul,Nat.reduceSub,↓reduceIte,Nat.reduceEqDiff]);rfl)))|fail))
    rw [XjR c r (by assumption) (by assumption) (by omega)]
    simp only [hqq]
    exact Xan _ _ (Xkx rfl (RV.tmp _) (RV.tmp _) (RV.tmp _) (RV.tmp _) (XaK.mk' [] [] (Xpn _) (XaI.refl _ _) (VwL.refl _ _))) ⟨by (simp only [XiO];(first|rfl|fail)),rfl⟩
  | some x=>
    simp only [hqq,Xgn]
    (repeat' (first|with_reducible (first|refine Xaj ?_|refine Xac ?_|refine Xaw ?_|refine Xaz ?_|refine Xaf ?_|refine Xaa ?_|refine XaA ?_|refine Xau ?_)|(refine Xal _ rfl (fun h=>?_) (fun h=>?_)<;>first|(exact absurd h (by decide))|((try (simp only [whn] at h));skip))|((apply Xad rfl);(case h=>((try (intro (hp:(_:Bool)=true);((try simp only [Bool.and_eq_true,Bool.not_eq_true',Bool.not_eq_true] at hp);(try simp only [hp,wte]);(try simp only [whn] at hp))));(first|(apply Xab 0 rfl;(first|exact Xar _ rfl|exact Xav _ rfl))|(apply XaJ;(case hs=>(intro _ _ h;cases h));(case hx=>rfl);(case hrun=>(intro w;simp [wtb,AV.val,go_sem];(try go_bits);rfl))))));(case hT=>((try simp only [wtn,Xpr,Xpo,Xpp,Xps,Xpw,Nat.reduceAdd,Nat.reduceMul,Nat.reduceSub,↓reduceIte,Nat.reduceEqDiff]);rfl)))|fail))
    rw [XjR c r (by assumption) (by assumption) (by omega)]
    simp only [hqq]
    exact Xan _ _ (Xkx rfl (RV.tmp _) (RV.tmp _) (RV.tmp _) (RV.tmp _) (XaK.mk' [] [] (Xpn _) (XaI.refl _ _) (VwL.refl _ _))) ⟨by (simp only [XiO];(first|rfl|fail)),rfl⟩
 ·skip
  refine XdZ mixed ?_
  (first|(apply Xb5 0 rfl rfl (by kernel_rfl) (by intro c T H hp;simp [Xa1,Xaq,Xa8,XbI] at hp);(case h=>(exact Xbc _ rfl)))|fail);(apply Xb4;(case hT=>((try simp (disch:=first|omega|fail) only [wtn,List.drop_zero,Xpr,Xpo,Xpp,Xps,Xpw,Nat.reduceAdd,Nat.reduceMul,Nat.reduceSub,↓reduceIte,Nat.reduceEqDiff]);rfl));(case hH=>rfl));(first|(apply Xb5 1 rfl rfl (by kernel_rfl) (by intro c T H hp;simp [Xa1,Xaq,Xa8,XbI] at hp);(case h=>(exact XcD _ _ _ _ _ _ _ rfl rfl (by kernel_rfl) (by first|exact .inl ⟨rfl,rfl⟩|fail) (by first|exact .inr ⟨_,_,rfl,rfl⟩|fail) (by simp;done) (by simp;first|done|fail))))|fail);(apply Xb4;(case hT=>((try simp (disch:=first|omega|fail) only [wtn,List.drop_zero,Xpr,Xpo,Xpp,Xps,Xpw,Nat.reduceAdd,Nat.reduceMul,Nat.reduceSub,↓reduceIte,Nat.reduceEqDiff]);rfl));(case hH=>rfl))
  refine XgR ?_
  (refine Xc0 2 (by decide +kernel) rfl rfl ?_;(first|(apply XaU;(case h=>(apply Xab 0 rfl;(exact Xav _ rfl)));(apply XbS;(case hT=>((try simp only [wtn,Xpr,Xpo,Xpp,Xps,Xpw,Nat.reduceAdd,Nat.reduceMul,Nat.reduceSub,↓reduceIte,Nat.reduceEqDiff]);rfl));(case hH=>rfl)))|fail));(refine Xc0 3 (by decide +kernel) rfl rfl ?_;(first|(apply XaU;(case h=>(apply Xab 0 rfl;(exact Xav _ rfl)));(apply XbS;(case hT=>((try simp only [wtn,Xpr,Xpo,Xpp,Xps,Xpw,Nat.reduceAdd,Nat.reduceMul,Nat.reduceSub,↓reduceIte,Nat.reduceEqDiff]);rfl));(case hH=>rfl)))|fail));(refine Xc0 4 (by decide +kernel) rfl rfl ?_;(first|(apply XaU;(case h=>(apply Xab 0 rfl;(exact Xav _ rfl)));(apply XbS;(case hT=>((try simp only [wtn,Xpr,Xpo,Xpp,Xps,Xpw,Nat.reduceAdd,Nat.reduceMul,Nat.reduceSub,↓reduceIte,Nat.reduceEqDiff]);rfl));(case hH=>rfl)))|fail));(refine Xc0 5 (by decide +kernel) rfl rfl ?_;(first|(apply XaU;(case h=>(apply Xab 0 rfl;(exact Xav _ rfl)));(apply XbS;(case hT=>((try simp only [wtn,Xpr,Xpo,Xpp,Xps,Xpw,Nat.reduceAdd,Nat.reduceMul,Nat.reduceSub,↓reduceIte,Nat.reduceEqDiff]);rfl));(case hH=>rfl)))|fail))
  refine Xez (by decide +kernel) ?_
  (repeat' (first|with_reducible (first|refine Xaw ?_|refine Xaa ?_|refine XaA ?_|refine Xau ?_)|fail))
  rw [Xk7 c r (by assumption) (by assumption) (by first|omega|fail)]
  exact Xan _ _ (Xkx rfl (RV.tmp _) (RV.tmp _) (RV.tmp _) (RV.tmp _) (XaK.mk' [] [] (Xpn _) (XaI.refl _ _) (VwL.refl _ _))) ⟨by (simp only [XiO];(first|rfl|fail)),rfl⟩
 ·rw [XmL c r (by assumption) (by assumption) (by omega) (by omega) (by first|omega|fail)]
  exact Xan _ _ (Xkx rfl (RV.tmp _) (RV.tmp _) (RV.tmp _) (RV.tmp _) (XaK.mk' [] [] (Xpn _) (XaI.refl _ _) (VwL.refl _ _))) ⟨by (simp only [XiO];(first|rfl|fail)),rfl⟩
def XiC (l:List UInt8):Prop:=∀b∈l,b.toNat≠10
theorem Xcl:XiC []:=fun b h=>by cases h
theorem Xbq {c:UInt8} {r:List UInt8} (h:c.toNat≠10) (hr:XiC r):XiC (c :: r):=fun b hb=>by
 rcases List.mem_cons.1 hb with rfl|hb
 ·exact h
 ·exact hr b hb
theorem Xk3 {a b:List UInt8} (ha:XiC a) (hb:XiC b):XiC (a++b):=fun x hx=>by
 rcases List.mem_append.1 hx with h|h
 ·exact ha x h
 ·exact hb x h
theorem XhT:∀(l:List UInt8) (p:Nat × Nat),XiC l→plc p l=(p.1,p.2+l.length)
 | [],p,_=>by simp [plc]
 | c :: r,p,h=>by
   rw [plc,if_neg (h c (List.mem_cons_self ..)),XhT r _ (fun b hb=>h b (List.mem_cons_of_mem _ hb))]
   simp;omega
theorem Xjz {b:UInt8} {n:Nat} (h:Xgg b=some n):b.toNat≠10:=by
 unfold Xgg at h
 split at h
 ·omega
 ·split at h
  ·omega
  ·split at h
   ·omega
   ·cases h
theorem Xjn {l:List UInt8} {b:UInt8} {n:Nat} (h:XdF l=some (b,n)):XiC (l.take n):=by
 unfold XdF at h
 split at h
 ·cases h
 ·rename_i d r
  split at h
  ·cases h;exact Xbq (by omega) Xcl
  ·split at h
   ·cases h;exact Xbq (by omega) Xcl
   ·split at h
    ·cases h;exact Xbq (by omega) Xcl
    ·split at h
     ·split at h
      ·split at h
       ·rename_i h1 h2
        cases h;exact Xbq (by omega) (Xbq (Xjz h1) (Xbq (Xjz h2) Xcl))
       ·cases h
      ·cases h
     ·cases h
theorem XjY {l:List UInt8} {b:UInt8} {n:Nat} (h:part l=some (b,n)):XiC (l.take n):=by
 unfold part at h
 split at h
 ·cases h
 ·rename_i c r
  split at h
  ·cases h
  ·split at h
   ·cases h;exact Xbq (by omega) Xcl
   ·cases he:XdF r with
    | none=>rw [he] at h;cases h
    | some x=>rw [he] at h;cases h;rw [List.take_succ_cons];exact Xbq (by omega) (Xjn he)
theorem XhY (l:List UInt8):∀x,quo l=some x→XiC (l.take x.2):=by
 match h:l with
 | []=>intro x hx;rw [Xhk] at hx;cases hx
 | c :: r=>
   intro x hx
   by_cases h1:c.toNat=34
   ·rw [XfM c r h1] at hx;cases hx;exact Xbq (by omega) Xcl
   ·cases hp:part (c :: r) with
    | none=>rw [XhZ c r h1 hp] at hx;cases hx
    | some y=>
      obtain ⟨b,n⟩:=y
      have hle:=Xhf hp
      rw [XdT c r b n h1 hp] at hx
      cases hq:quo ((c :: r).drop n) with
      | none=>rw [hq] at hx;cases hx
      | some z=>
        have:=XhY ((c :: r).drop n) z hq
        rw [hq] at hx;cases hx
        simp only
        rw [List.take_add]
        exact Xk3 (XjY hp) this
termination_by l.length
decreasing_by subst h;simp;omega
theorem Xes (l:List UInt8):∀x,sla l=some x→XiC (l.take x.2):=by
 match h:l with
 | []=>intro x hx;rw [Xhr] at hx;cases hx
 | c :: r=>
   intro x hx
   by_cases h1:c.toNat=47
   ·rw [Xhp c r h1] at hx;cases hx;exact Xbq (by omega) Xcl
   by_cases h2:c.toNat < 32
   ·rw [Xho c r h2] at hx;cases hx
   by_cases h3:c.toNat=92
   ·match r,hx with
    | [],hx=>rw [XfO c h3] at hx;cases hx
    | d :: r,hx=>
      by_cases h4:d.toNat < 32
      ·rw [XfN c d r h3 h4] at hx;cases hx
      by_cases h5:d.toNat=47
      ·rw [Xhq c d r h3 h5] at hx
       cases hq:sla r with
       | none=>rw [hq] at hx;cases hx
       | some z=>have:=Xes r z hq;rw [hq] at hx;cases hx;simp only [Nat.add_comm 2,List.take_succ_cons];exact Xbq (by omega) (Xbq (by omega) this)
      ·rw [Xht c d r h3 (by omega) h5] at hx
       cases hq:sla r with
       | none=>rw [hq] at hx;cases hx
       | some z=>have:=Xes r z hq;rw [hq] at hx;cases hx;simp only [Nat.add_comm 2,List.take_succ_cons];exact Xbq (by omega) (Xbq (by omega) this)
   ·rw [Xhs c r h1 (by omega) h3] at hx
    cases hq:sla r with
    | none=>rw [hq] at hx;cases hx
    | some z=>have:=Xes r z hq;rw [hq] at hx;cases hx;simp only [Nat.add_comm 1,List.take_succ_cons];exact Xbq (by omega) this
termination_by l.length
decreasing_by
 all_goals subst h;simp;try omega
theorem XfP (p:UInt8→Bool) (hp:∀b,p b=true→b.toNat≠10):∀l:List UInt8,XiC (l.take (spn p l))
 | []=>Xcl
 | c :: r=>by
   cases h:p c with
   | false=>rw [Xkl _ _ _ h];exact Xcl
   | true=>rw [Xd6 _ _ _ h,List.take_succ_cons];exact Xbq (hp c h) (XfP p hp r)
theorem Xk4 {l:List UInt8} {x:Int × List UInt8 × Nat} (h:one l=.ok x):XiC (l.take x.2.2):=by
 cases l with
 | nil=>simp [one] at h
 | cons c r=>
   simp only [one] at h
   split at h
   ·cases h
    exact XfP XcZ (fun b hb=>by simp only [XcZ,XbC,Xc3,Bool.or_eq_true,decide_eq_true_eq] at hb;omega) _
   ·split at h
    ·split at h
     ·cases h
     ·cases h
      exact XfP XbC (fun b hb=>by simp only [XbC,decide_eq_true_eq] at hb;omega) _
    ·split at h
     ·cases hq:quo r with
      | none=>rw [hq] at h;cases h
      | some y=>rw [hq] at h;cases h;exact Xbq (by omega) (XhY r y hq)
     ·split at h
      ·cases hq:sla r with
       | none=>rw [hq] at h;cases h
       | some y=>rw [hq] at h;cases h;exact Xbq (by omega) (Xes r y hq)
      ·split at h
       ·cases h;exact Xbq (by omega) Xcl
       ·cases h
theorem XmU {l:List UInt8} {k:Nat} {a:Int} {t:List UInt8} {m:Nat} (h:one (l.drop k)=.ok (a,t,m)):plc (1,1) (l.take (k+m))=((plc (1,1) (l.take k)).1,(plc (1,1) (l.take k)).2+m):=by
 rw [←Xef,XhT _ _ (Xk4 h),List.length_take]
 have:=XeV h
 simp only at this
 rw [Nat.min_eq_left this.2.1]
end Go.Proofs.YtcmfamgnmehojaaGreatDoor

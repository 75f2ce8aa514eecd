import Derived.Test.YtcmfamgnmehojaaGreatDoorW19
import Derived.Test.YtcmfamgnmehojaaGreatDoorW15
/- The program's printer: which jobs are the same: exactly. -/
set_option linter.unusedSimpArgs false
set_option linter.unusedVariables false
set_option maxRecDepth 100000
set_option maxHeartbeats 8000000
namespace Go.Proofs.YtcmfamgnmehojaaGreatDoor
open Go.RowKit
theorem XoE (a d:List (List UInt8)) (ha:a.length≤140737488355328):Xbv Tryz.prog 28 [] [.sq a.length (sa a),.sq d.length (sa d)] (fun r H'=>r=.x (.bool (decide (a=d)))∧H'=[]):=by
 refine XaP Tryz.func28 rfl ?_
 simp only [Tryz.ntmps28,Xpq,Xpt,Xpu,Xpv,Xpy,Xpx,Nat.reduceAdd,Nat.reduceSub]
 (repeat' (first|with_reducible (first|refine Xaj ?_|refine Xac ?_|refine Xas ?_|refine Xaw ?_|refine Xaz ?_|refine Xaf ?_|refine Xaa ?_|refine XaA ?_)|(refine Xal _ rfl (fun h=>?_) (fun h=>?_)<;>((try (simp only [whn] at h));skip))|((apply Xad rfl);(case h=>((try (intro (hp:(_:Bool)=true);((try simp only [Bool.and_eq_true,Bool.not_eq_true',Bool.not_eq_true] at hp);(try simp only [hp,wte]);(try simp only [whn] at hp))));(first|(apply Xab 0 rfl;(first|exact Xar _ rfl|exact Xav _ rfl))|(apply Xab 3 rfl;(exact Xbh _ _ _ _ _ _ HEl.out rfl rfl))|(apply XaJ;(case hs=>(intro _ _ h;cases h));(case hx=>rfl);(case hrun=>(intro w;simp [wtb,AV.val,go_sem];(try go_bits);rfl))))));(case hT=>((try simp only [wtn,Xpr,Xpo,Xpp,Xps,Xpw,Nat.reduceAdd,Nat.reduceMul,Nat.reduceSub,↓reduceIte,Nat.reduceEqDiff]);rfl)))|fail))
 ·refine Xan _ _ (Xb2 rfl (RV.tmp _) (XaK.mk' [] [] (Xpn _) (XaI.refl _ _) (by first|exact VwL.refl _ _|fail))) ?_
  exact ⟨by rw [decide_eq_false (fun e=>by rw [e] at h;exact h rfl)];rfl,rfl⟩
 have hlen:a.length=d.length:=by omega
 apply Xbn (S:=Nat) (fun q=>frm 26 [(0,.sq a.length (sa a)),(1,.sq d.length (sa d)),(12,.x (.int .i64 a.length)),(13,.x (.int .i64 q))]) (fun _=>[]) (fun q=>q≤a.length∧a.take q=d.take q) (fun q=>a.length - q) 0
 case h0=>exact (XaK.mk' [] _ (Xpn _) (XaI.refl _ _) (by (repeat' (first|exact VwL.nil|(refine VwL.cons ?_ ?_)|exact Vw.refl _|exact Vw.top _|fail))))
 case hi=>exact ⟨Nat.zero_le _,by simp⟩
 rintro i ⟨hi,ht⟩
 have ht':=Lib.hid ht
 clear ht
 simp only [frm,Xpu,Xpv,Xpo,Xpp,XpB,XpC]
 by_cases hlt:i < a.length
 ·have hlt2:i < d.length:=by omega
  (repeat' (first|with_reducible (first|refine Xaj ?_|refine Xac ?_|refine Xas ?_|refine Xaw ?_|refine Xaz ?_|refine Xaf ?_|refine XbP ?_|refine Xaa ?_|refine XaA ?_|refine Xah ?_|refine Xau ?_)|(with_reducible refine Xbd mixed ?_ ?_;(decide +kernel))|(refine Xal _ rfl (fun h=>?_) (fun h=>?_)<;>((try (simp only [whn] at h));first|(exfalso;omega;done)|skip))|((first|apply Xad rfl|apply Xbz rfl);(case h=>((try (intro (hp:(_:Bool)=true);((try simp only [Bool.and_eq_true,Bool.not_eq_true',Bool.not_eq_true] at hp);(try simp only [hp,wte]);(try simp only [whn] at hp))));(first|(apply Xab 0 rfl;(first|exact Xar _ rfl|exact Xav _ rfl))|(apply Xab 6 rfl;(exact XaC _ _ _ _ _ rfl rfl XaT.out (by first|exact Xpm rfl|fail) (by first|exact Xpm rfl|fail)))|(apply Xab 7 rfl;(exact XaD _ _ _ _ _ _ _ _ _ _ rfl rfl rfl HEl.out rfl (by first|omega|fail) (by simp;first|omega|fail)))|(apply XaJ;(case hs=>(intro _ _ h;cases h));(case hx=>rfl);(case hrun=>(intro w;simp [wtb,AV.val,go_sem];(try go_bits);rfl))))));(case hT=>((try simp (disch:=assumption) only [wtn,XdB,Xpr,Xpo,Xpp,Xps,Xpw,Nat.reduceAdd,Nat.reduceMul,Nat.reduceSub,↓reduceIte,Nat.reduceEqDiff]);rfl)))|fail))
  ·refine Xan _ _ (Xb2 rfl (RV.tmp _) (XaK.mk' [] [] (Xpn _) (XaI.refl _ _) (by first|exact VwL.refl _ _|fail))) ?_
   exact ⟨by rw [show decide (a=d)=false from decide_eq_false fun e=>by subst e;exact h rfl];rfl,rfl⟩
  ·exact ⟨i+1,by omega,⟨by omega,by rw [Xbg a i hlt,Xbg d i hlt2,ht'.out];congr 2<;>first|assumption|fail⟩,(XaK.mk' [] _ (Xpn _) (XaI.refl _ _) (by (repeat' (first|exact VwL.nil|(refine VwL.cons ?_ ?_)|exact Vw.refl _|exact Vw.top _|fail))))⟩
 ·(repeat' (first|with_reducible (first|refine Xaj ?_|refine Xac ?_|refine Xaw ?_|refine Xa4 ?_|refine Xaf ?_|refine Xaa ?_|refine XaO ?_|refine XaH ?_)|(refine Xal _ rfl (fun h=>?_) (fun h=>?_)<;>((try (simp only [whn] at h));first|(exfalso;omega;done)|skip))|((apply Xad rfl);(case h=>((try (intro (hp:(_:Bool)=true);((try simp only [Bool.and_eq_true,Bool.not_eq_true',Bool.not_eq_true] at hp);(try simp only [hp,wte]);(try simp only [whn] at hp))));(first|(apply Xab 0 rfl;(exact Xav _ rfl))|(apply XaJ;(case hs=>(intro _ _ h;cases h));(case hx=>rfl);(case hrun=>(intro w;simp [wtb,AV.val,go_sem];(try go_bits);rfl))))));(case hT=>((try simp only [wtn,Xpr,Xpo,Xpp,Xps,Xpw,Nat.reduceAdd,Nat.reduceMul,Nat.reduceSub,↓reduceIte,Nat.reduceEqDiff]);rfl)))|fail))
  refine Xan _ _ (Xb2 rfl (RV.tmp _) (XaK.mk' [] [] (Xpn _) (XaI.refl _ _) (by first|exact VwL.refl _ _|fail))) ?_
  have ht:=ht'.out
  rw [List.take_of_length_le (by omega),List.take_of_length_le (by omega)] at ht
  exact ⟨by rw [decide_eq_true ht];rfl,rfl⟩
theorem XoF (a d:List (List UInt8 × List UInt8)) (ha:a.length≤140737488355328):Xbv Tryz.prog 27 [] [.sq a.length (ea a),.sq d.length (ea d)] (fun r H'=>r=.x (.bool (decide (a=d)))∧H'=[]):=by
 refine XaP Tryz.func27 rfl ?_
 simp only [Tryz.ntmps27,Xpq,Xpt,Xpu,Xpv,Xpy,Xpx,Nat.reduceAdd,Nat.reduceSub]
 (repeat' (first|with_reducible (first|refine Xaj ?_|refine Xac ?_|refine Xas ?_|refine Xaw ?_|refine Xaz ?_|refine Xaf ?_|refine Xaa ?_|refine XaA ?_)|(refine Xal _ rfl (fun h=>?_) (fun h=>?_)<;>((try (simp only [whn] at h));skip))|((apply Xad rfl);(case h=>((try (intro (hp:(_:Bool)=true);((try simp only [Bool.and_eq_true,Bool.not_eq_true',Bool.not_eq_true] at hp);(try simp only [hp,wte]);(try simp only [whn] at hp))));(first|(apply Xab 0 rfl;(first|exact Xar _ rfl|exact Xav _ rfl))|(apply Xab 3 rfl;(exact Xbh _ _ _ _ _ _ HEl.out rfl rfl))|(apply XaJ;(case hs=>(intro _ _ h;cases h));(case hx=>rfl);(case hrun=>(intro w;simp [wtb,AV.val,go_sem];(try go_bits);rfl))))));(case hT=>((try simp only [wtn,Xpr,Xpo,Xpp,Xps,Xpw,Nat.reduceAdd,Nat.reduceMul,Nat.reduceSub,↓reduceIte,Nat.reduceEqDiff]);rfl)))|fail))
 ·refine Xan _ _ (Xb2 rfl (RV.tmp _) (XaK.mk' [] [] (Xpn _) (XaI.refl _ _) (by first|exact VwL.refl _ _|fail))) ?_
  exact ⟨by rw [decide_eq_false (fun e=>by rw [e] at h;exact h rfl)];rfl,rfl⟩
 have hlen:a.length=d.length:=by omega
 apply Xbn (S:=Nat) (fun q=>frm 26 [(0,.sq a.length (ea a)),(1,.sq d.length (ea d)),(12,.x (.int .i64 a.length)),(13,.x (.int .i64 q))]) (fun _=>[]) (fun q=>q≤a.length∧a.take q=d.take q) (fun q=>a.length - q) 0
 case h0=>exact (XaK.mk' [] _ (Xpn _) (XaI.refl _ _) (by (repeat' (first|exact VwL.nil|(refine VwL.cons ?_ ?_)|exact Vw.refl _|exact Vw.top _|fail))))
 case hi=>exact ⟨Nat.zero_le _,by simp⟩
 rintro i ⟨hi,ht⟩
 have ht':=Lib.hid ht
 clear ht
 simp only [frm,Xpu,Xpv,Xpo,Xpp,XpB,XpC]
 by_cases hlt:i < a.length
 ·have hlt2:i < d.length:=by omega
  (repeat' (first|with_reducible (first|refine Xaj ?_|refine Xac ?_|refine Xas ?_|refine Xaw ?_|refine Xaz ?_|refine Xaf ?_|refine XbP ?_|refine Xaa ?_|refine XaA ?_|refine Xah ?_|refine Xau ?_)|(with_reducible refine Xbd mixed ?_ ?_;(decide +kernel))|(refine Xal _ rfl (fun h=>?_) (fun h=>?_)<;>((try (simp only [whn] at h));first|(exfalso;omega;done)|skip))|((first|apply Xad rfl|apply Xbz rfl);(case h=>((try (intro (hp:(_:Bool)=true);((try simp only [Bool.and_eq_true,Bool.not_eq_true',Bool.not_eq_true] at hp);(try simp only [hp,wte]);(try simp only [whn] at hp))));(first|(apply Xab 0 rfl;(first|exact Xar _ rfl|exact Xav _ rfl))|(apply Xab 6 rfl;(exact XaC _ _ _ _ _ rfl rfl XaT.out (by first|exact Xpm rfl|fail) (by first|exact Xpm rfl|fail)))|(apply Xab 7 rfl;(exact XaD _ _ _ _ _ _ _ _ _ _ rfl rfl rfl HEl.out rfl (by first|omega|fail) (by simp;first|omega|fail)))|(apply Xab 12 rfl;(apply XaJ;(case hs=>(intro _ _ h;cases h));(case hx=>rfl);(case hrun=>(intro w;simp [wtb,AV.val,go_sem];simp only [XhM,Bool.and_false,Bool.and_true,Bool.false_or,Bool.or_false];rfl))))|(apply XaJ;(case hs=>(intro _ _ h;cases h));(case hx=>rfl);(case hrun=>(intro w;simp [wtb,AV.val,go_sem];(try go_bits);rfl))))));(case hT=>((try simp (disch:=assumption) only [wtn,XeI,Xpr,Xpo,Xpp,Xps,Xpw,Nat.reduceAdd,Nat.reduceMul,Nat.reduceSub,↓reduceIte,Nat.reduceEqDiff]);rfl)))|fail))
  ·refine Xan _ _ (Xb2 rfl (RV.tmp _) (XaK.mk' [] [] (Xpn _) (XaI.refl _ _) (by first|exact VwL.refl _ _|fail))) ?_
   exact ⟨by rw [show decide (a=d)=false from decide_eq_false fun e=>by subst e;simp at h];rfl,rfl⟩
  ·exact ⟨i+1,by omega,⟨by omega,by rw [Xbg a i hlt,Xbg d i hlt2,ht'.out];congr 2<;>first|exact eqw h|fail⟩,(XaK.mk' [] _ (Xpn _) (XaI.refl _ _) (by (repeat' (first|exact VwL.nil|(refine VwL.cons ?_ ?_)|exact Vw.refl _|exact Vw.top _|fail))))⟩
 ·(repeat' (first|with_reducible (first|refine Xaj ?_|refine Xac ?_|refine Xaw ?_|refine Xa4 ?_|refine Xaf ?_|refine Xaa ?_|refine XaO ?_|refine XaH ?_)|(refine Xal _ rfl (fun h=>?_) (fun h=>?_)<;>((try (simp only [whn] at h));first|(exfalso;omega;done)|skip))|((apply Xad rfl);(case h=>((try (intro (hp:(_:Bool)=true);((try simp only [Bool.and_eq_true,Bool.not_eq_true',Bool.not_eq_true] at hp);(try simp only [hp,wte]);(try simp only [whn] at hp))));(first|(apply Xab 0 rfl;(exact Xav _ rfl))|(apply XaJ;(case hs=>(intro _ _ h;cases h));(case hx=>rfl);(case hrun=>(intro w;simp [wtb,AV.val,go_sem];(try go_bits);rfl))))));(case hT=>((try simp only [wtn,Xpr,Xpo,Xpp,Xps,Xpw,Nat.reduceAdd,Nat.reduceMul,Nat.reduceSub,↓reduceIte,Nat.reduceEqDiff]);rfl)))|fail))
  refine Xan _ _ (Xb2 rfl (RV.tmp _) (XaK.mk' [] [] (Xpn _) (XaI.refl _ _) (by first|exact VwL.refl _ _|fail))) ?_
  have ht:=ht'.out
  rw [List.take_of_length_le (by omega),List.take_of_length_le (by omega)] at ht
  exact ⟨by rw [decide_eq_true ht];rfl,rfl⟩
theorem XoD (a d:List (Int × Int)) (ha:a.length≤140737488355328):Xbv Tryz.prog 29 [] [.sq a.length (ra a),.sq d.length (ra d)] (fun r H'=>r=.x (.bool (decide (a=d)))∧H'=[]):=by
 refine XaP Tryz.func29 rfl ?_
 simp only [Tryz.ntmps29,Xpq,Xpt,Xpu,Xpv,Xpy,Xpx,Nat.reduceAdd,Nat.reduceSub]
 (repeat' (first|with_reducible (first|refine Xaj ?_|refine Xac ?_|refine Xas ?_|refine Xaw ?_|refine Xaz ?_|refine Xaf ?_|refine Xaa ?_|refine XaA ?_)|(refine Xal _ rfl (fun h=>?_) (fun h=>?_)<;>((try (simp only [whn] at h));skip))|((apply Xad rfl);(case h=>((try (intro (hp:(_:Bool)=true);((try simp only [Bool.and_eq_true,Bool.not_eq_true',Bool.not_eq_true] at hp);(try simp only [hp,wte]);(try simp only [whn] at hp))));(first|(apply Xab 0 rfl;(first|exact Xar _ rfl|exact Xav _ rfl))|(apply Xab 3 rfl;(exact Xbh _ _ _ _ _ _ HEl.out rfl rfl))|(apply XaJ;(case hs=>(intro _ _ h;cases h));(case hx=>rfl);(case hrun=>(intro w;simp [wtb,AV.val,go_sem];(try go_bits);rfl))))));(case hT=>((try simp only [wtn,Xpr,Xpo,Xpp,Xps,Xpw,Nat.reduceAdd,Nat.reduceMul,Nat.reduceSub,↓reduceIte,Nat.reduceEqDiff]);rfl)))|fail))
 ·refine Xan _ _ (Xb2 rfl (RV.tmp _) (XaK.mk' [] [] (Xpn _) (XaI.refl _ _) (by first|exact VwL.refl _ _|fail))) ?_
  exact ⟨by rw [decide_eq_false (fun e=>by rw [e] at h;exact h rfl)];rfl,rfl⟩
 have hlen:a.length=d.length:=by omega
 apply Xbn (S:=Nat) (fun q=>frm 26 [(0,.sq a.length (ra a)),(1,.sq d.length (ra d)),(12,.x (.int .i64 a.length)),(13,.x (.int .i64 q))]) (fun _=>[]) (fun q=>q≤a.length∧a.take q=d.take q) (fun q=>a.length - q) 0
 case h0=>exact (XaK.mk' [] _ (Xpn _) (XaI.refl _ _) (by (repeat' (first|exact VwL.nil|(refine VwL.cons ?_ ?_)|exact Vw.refl _|exact Vw.top _|fail))))
 case hi=>exact ⟨Nat.zero_le _,by simp⟩
 rintro i ⟨hi,ht⟩
 have ht':=Lib.hid ht
 clear ht
 simp only [frm,Xpu,Xpv,Xpo,Xpp,XpB,XpC]
 by_cases hlt:i < a.length
 ·have hlt2:i < d.length:=by omega
  (repeat' (first|with_reducible (first|refine Xaj ?_|refine Xac ?_|refine Xas ?_|refine Xaw ?_|refine Xaz ?_|refine Xaf ?_|refine XbP ?_|refine Xaa ?_|refine XaA ?_|refine Xah ?_|refine Xau ?_)|(with_reducible refine Xbd mixed ?_ ?_;(decide +kernel))|(refine Xal _ rfl (fun h=>?_) (fun h=>?_)<;>((try (simp only [whn] at h));first|(exfalso;omega;done)|skip))|((first|apply Xad rfl|apply Xbz rfl);(case h=>((try (intro (hp:(_:Bool)=true);((try simp only [Bool.and_eq_true,Bool.not_eq_true',Bool.not_eq_true] at hp);(try simp only [hp,wte]);(try simp only [whn] at hp))));(first|(apply Xab 0 rfl;(first|exact Xar _ rfl|exact Xav _ rfl))|(apply Xab 6 rfl;(exact XaC _ _ _ _ _ rfl rfl XaT.out (by first|exact Xpm rfl|fail) (by first|exact Xpm rfl|fail)))|(apply Xab 7 rfl;(exact XaD _ _ _ _ _ _ _ _ _ _ rfl rfl rfl HEl.out rfl (by first|omega|fail) (by simp;first|omega|fail)))|(apply Xab 12 rfl;(apply XaJ;(case hs=>(intro _ _ h;cases h));(case hx=>rfl);(case hrun=>(intro w;simp [wtb,AV.val,go_sem];simp only [XhM,Bool.and_false,Bool.and_true,Bool.false_or,Bool.or_false];rfl))))|(apply XaJ;(case hs=>(intro _ _ h;cases h));(case hx=>rfl);(case hrun=>(intro w;simp [wtb,AV.val,go_sem];(try go_bits);rfl))))));(case hT=>((try simp (disch:=assumption) only [wtn,Xj8,Xpr,Xpo,Xpp,Xps,Xpw,Nat.reduceAdd,Nat.reduceMul,Nat.reduceSub,↓reduceIte,Nat.reduceEqDiff]);rfl)))|fail))
  ·refine Xan _ _ (Xb2 rfl (RV.tmp _) (XaK.mk' [] [] (Xpn _) (XaI.refl _ _) (by first|exact VwL.refl _ _|fail))) ?_
   exact ⟨by rw [show decide (a=d)=false from decide_eq_false fun e=>by subst e;simp at h];rfl,rfl⟩
  ·exact ⟨i+1,by omega,⟨by omega,by rw [Xbg a i hlt,Xbg d i hlt2,ht'.out];congr 2<;>first|exact eqw h|fail⟩,(XaK.mk' [] _ (Xpn _) (XaI.refl _ _) (by (repeat' (first|exact VwL.nil|(refine VwL.cons ?_ ?_)|exact Vw.refl _|exact Vw.top _|fail))))⟩
 ·(repeat' (first|with_reducible (first|refine Xaj ?_|refine Xac ?_|refine Xaw ?_|refine Xa4 ?_|refine Xaf ?_|refine Xaa ?_|refine XaO ?_|refine XaH ?_)|(refine Xal _ rfl (fun h=>?_) (fun h=>?_)<;>((try (simp only [whn] at h));first|(exfalso;omega;done)|skip))|((apply Xad rfl);(case h=>((try (intro (hp:(_:Bool)=true);((try simp only [Bool.and_eq_true,Bool.not_eq_true',Bool.not_eq_true] at hp);(try simp only [hp,wte]);(try simp only [whn] at hp))));(first|(apply Xab 0 rfl;(exact Xav _ rfl))|(apply XaJ;(case hs=>(intro _ _ h;cases h));(case hx=>rfl);(case hrun=>(intro w;simp [wtb,AV.val,go_sem];(try go_bits);rfl))))));(case hT=>((try simp only [wtn,Xpr,Xpo,Xpp,Xps,Xpw,Nat.reduceAdd,Nat.reduceMul,Nat.reduceSub,↓reduceIte,Nat.reduceEqDiff]);rfl)))|fail))
  refine Xan _ _ (Xb2 rfl (RV.tmp _) (XaK.mk' [] [] (Xpn _) (XaI.refl _ _) (by first|exact VwL.refl _ _|fail))) ?_
  have ht:=ht'.out
  rw [List.take_of_length_le (by omega),List.take_of_length_le (by omega)] at ht
  exact ⟨by rw [decide_eq_true ht];rfl,rfl⟩
theorem XmW (a d:JF) (ha:a.env.length≤140737488355328∧a.needs.length≤140737488355328∧a.ladder.length≤140737488355328):Xbv Tryz.prog 16 [] [.agg a.cells,.agg d.cells] (fun r H'=>r=.x (.bool (XcT a d))∧H'=[]):=by
 obtain ⟨ha1,ha2,ha3⟩:=ha
 unfold JF.cells
 refine XaP Tryz.func16 rfl ?_
 simp only [Tryz.ntmps16,Xpq,Xpt,Xpu,Xpv,Xpy,Xpx,Nat.reduceAdd,Nat.reduceSub]
 (repeat' (first|with_reducible (first|refine Xaj ?_|refine Xac ?_|refine Xaw ?_|refine Xaf ?_|refine Xaa ?_)|((first|apply Xad rfl|apply Xbr _ _ rfl rfl rfl);(case h=>((try (intro (hp:(_:Bool)=true);((try simp only [Bool.and_eq_true,Bool.not_eq_true',Bool.not_eq_true] at hp);(try simp only [hp,wte]);(try simp only [whn] at hp))));(first|(apply Xab 0 rfl;(first|exact Xar _ rfl|exact Xav _ rfl))|(apply Xab 1 rfl;(exact XbL _ _ _ _ _ rfl rfl rfl rfl))|(apply Xab 5 rfl;(exact Xag _ _ _ _ _ _ rfl rfl Xbb.out))|(apply Xab 6 rfl;(exact Xay _ _ _ _ _ _ _ _ rfl rfl Xa0.out XaT.out (by first|exact Xpm rfl|fail) (by first|exact Xpm rfl|fail)))|(apply Xab 11 rfl;(first|exact XaE 28 Tryz.f28 _ _ rfl rfl Tryz.func28 (by decide) rfl (VwL.refl _ _) (XoE a.needs d.needs ha2)|exact XaE 27 Tryz.f27 _ _ rfl rfl Tryz.func27 (by decide) rfl (VwL.refl _ _) (XoF a.env d.env ha1)|exact XaE 29 Tryz.f29 _ _ rfl rfl Tryz.func29 (by decide) rfl (VwL.refl _ _) (XoD a.ladder d.ladder ha3)))|(apply XaJ;(case hs=>(intro _ _ h;cases h));(case hx=>rfl);(case hrun=>(intro w;simp [wtb,AV.val,go_sem];(try go_bits);rfl))))));(case hT=>((try simp only [wtn,Xpr,Xpo,Xpp,Xps,Xpw,Nat.reduceAdd,Nat.reduceMul,Nat.reduceSub,↓reduceIte,Nat.reduceEqDiff]);rfl)))|(refine Xak rfl ?_;((refine Xap 15 rfl ?_;(refine XbB _ _ rfl (by first|rfl|fail) (fun b=>?_)));apply Xai;(case hT=>((try simp only [wtn,Xpr,Xpo,Xpp,Xps,Xpw,Nat.reduceAdd,Nat.reduceMul,Nat.reduceSub,↓reduceIte,Nat.reduceEqDiff]);rfl));(case hH=>((try simp only [wtn,Xpr,Xpo,Xpp,Xps,Xpw,Nat.reduceAdd,Nat.reduceMul,Nat.reduceSub,↓reduceIte,Nat.reduceEqDiff]);rfl))))|fail))
 refine Xan _ _ (Xb2 rfl (RV.tmp _) (XaK.mk' [_,_] [] (Xpn _) XaI.nil (VwL.refl _ _))) ?_
 refine ⟨?_,rfl⟩
 have e:XcT a d=(a.name == d.name && a.run == d.run && decide (a.env=d.env) && decide (a.needs=d.needs) && a.hasr == d.hasr && a.ready == d.ready && a.restart == d.restart && a.base == d.base && a.cap == d.cap && a.stable == d.stable && a.burst == d.burst && a.window == d.window && decide (a.ladder=d.ladder)):=by
  unfold XcT
  rw [Bool.eq_iff_iff,decide_eq_true_eq]
  simp only [Bool.and_eq_true,beq_iff_eq,decide_eq_true_eq]
  constructor
  ·rintro ⟨h1,h2,h3,h4,h5,h6,h7,h8,h9,h10,h11,h12,h13⟩
   exact ⟨⟨⟨⟨⟨⟨⟨⟨⟨⟨⟨⟨h1,h2⟩,h11⟩,h12⟩,h3⟩,h4⟩,h5⟩,h6⟩,h7⟩,h8⟩,h9⟩,h10⟩,h13⟩
  ·rintro ⟨⟨⟨⟨⟨⟨⟨⟨⟨⟨⟨⟨h1,h2⟩,h11⟩,h12⟩,h3⟩,h4⟩,h5⟩,h6⟩,h7⟩,h8⟩,h9⟩,h10⟩,h13⟩
   exact ⟨h1,h2,h3,h4,h5,h6,h7,h8,h9,h10,h11,h12,h13⟩
 rw [e];rfl
theorem Xn1 (a d:List JF) (ha:JBs a):Xbv Tryz.prog 15 [] [.sq a.length (jfa a),.sq d.length (jfa d),.x (.func (.func 16) #[] #[])] (fun r H'=>r=.x (.bool (Xcf a d))∧H'=[]):=by
 obtain ⟨ha1,ha2⟩:=ha
 have ha2':=Lib.hid ha2
 clear ha2
 refine XaP Tryz.func15 rfl ?_
 simp only [Tryz.ntmps15,Xpq,Xpt,Xpu,Xpv,Xpy,Xpx,Nat.reduceAdd,Nat.reduceSub]
 (repeat' (first|with_reducible (first|refine Xaj ?_|refine Xac ?_|refine Xas ?_|refine Xaw ?_|refine Xaz ?_|refine Xaf ?_|refine Xaa ?_|refine XaA ?_)|(refine Xal _ rfl (fun h=>?_) (fun h=>?_)<;>((try (simp only [whn] at h));skip))|((apply Xad rfl);(case h=>((try (intro (hp:(_:Bool)=true);((try simp only [Bool.and_eq_true,Bool.not_eq_true',Bool.not_eq_true] at hp);(try simp only [hp,wte]);(try simp only [whn] at hp))));(first|(apply Xab 0 rfl;(first|exact Xar _ rfl|exact Xav _ rfl))|(apply Xab 3 rfl;(exact Xbh _ _ _ _ _ _ HEl.out rfl rfl))|(apply XaJ;(case hs=>(intro _ _ h;cases h));(case hx=>rfl);(case hrun=>(intro w;simp [wtb,AV.val,go_sem];(try go_bits);rfl))))));(case hT=>((try simp only [wtn,Xpr,Xpo,Xpp,Xps,Xpw,Nat.reduceAdd,Nat.reduceMul,Nat.reduceSub,↓reduceIte,Nat.reduceEqDiff]);rfl)))|fail))
 ·refine Xan _ _ (Xb2 rfl (RV.tmp _) (XaK.mk' [] [] (Xpn _) (XaI.refl _ _) (by first|exact VwL.refl _ _|fail))) ?_
  exact ⟨by rw [show Xcf a d=false by unfold Xcf;rw [decide_eq_false (by omega)];rfl];rfl,rfl⟩
 have hlen:a.length=d.length:=by omega
 apply Xbn (S:=Nat) (fun q=>frm 32 [(0,.sq a.length (jfa a)),(1,.sq d.length (jfa d)),(2,.x (.func (.func 16) #[] #[])),(15,.sq a.length (jfa a)),(16,.x (.int .i64 a.length)),(17,.x (.int .i64 q))]) (fun _=>[]) (fun q=>q≤a.length∧(((a.take q).zip (d.take q)).all fun p=>XcT p.1 p.2)=true) (fun q=>a.length - q) 0
 case h0=>exact (XaK.mk' [] _ (Xpn _) (XaI.refl _ _) (by (repeat' (first|exact VwL.nil|(refine VwL.cons ?_ ?_)|exact Vw.refl _|exact Vw.top _|fail))))
 case hi=>exact ⟨Nat.zero_le _,by simp⟩
 rintro i ⟨hi,ht⟩
 have ht':=Lib.hid ht
 clear ht
 simp only [frm,Xpu,Xpv,Xpo,Xpp,XpB,XpC]
 by_cases hlt:i < a.length
 ·have hlt2:i < d.length:=by omega
  have hS:=XmW a[i] d[i] (ha2'.out _ (List.getElem_mem hlt))
  unfold JF.cells at hS
  (repeat' (first|with_reducible (first|refine Xaj ?_|refine Xac ?_|refine Xas ?_|refine Xaw ?_|refine Xaz ?_|refine Xaf ?_|refine Xaa ?_|refine XaA ?_|refine Xah ?_|refine Xau ?_)|(refine Xal _ rfl (fun h=>?_) (fun h=>?_)<;>((try (simp only [whn] at h));first|(exfalso;omega;done)|skip))|((apply Xad rfl);(case h=>((try (intro (hp:(_:Bool)=true);((try simp only [Bool.and_eq_true,Bool.not_eq_true',Bool.not_eq_true] at hp);(try simp only [hp,wte]);(try simp only [whn] at hp))));(first|(apply Xab 0 rfl;(first|exact Xar _ rfl|exact Xav _ rfl))|(apply Xab 6 rfl;(first|exact XaC _ _ _ _ _ rfl rfl XaT.out (by first|exact Xpm rfl|fail) (by first|exact Xpm rfl|fail)|exact Xay _ _ _ _ _ _ _ _ rfl rfl Xa0.out XaT.out (by first|exact Xpm rfl|fail) (by first|exact Xpm rfl|fail)))|(apply Xab 7 rfl;(exact XaD _ _ _ _ _ _ _ _ _ _ rfl rfl rfl HEl.out rfl (by first|omega|fail) (by simp;first|omega|fail)))|(apply Xab 11 rfl;(exact XaE 16 Tryz.f16 _ _ rfl rfl Tryz.func16 (by decide) rfl (VwL.refl _ _) (hS)))|(apply XaJ;(case hs=>(intro _ _ h;cases h));(case hx=>rfl);(case hrun=>(intro w;simp [wtb,AV.val,go_sem];(try go_bits);rfl))))));(case hT=>((try simp (disch:=assumption) only [wtn,Xcv,Xpr,Xpo,Xpp,Xps,Xpw,Nat.reduceAdd,Nat.reduceMul,Nat.reduceSub,↓reduceIte,Nat.reduceEqDiff]);rfl)))|(refine Xak rfl ?_;((first|(refine Xap 14 rfl ?_;(refine XaQ _ _ rfl XbK.out rfl (fun b=>?_)))|(refine Xap 16 rfl ?_;(refine Xat _ _ _ _ _ _ _ rfl rfl Xa0.out XaS.out (by first|rfl|fail) (by first|exact Xpm rfl|fail) ?_)));apply Xai;(case hT=>((try simp (disch:=omega) only [wtn,Xcv,Xpr,Xpo,Xpp,Xps,Xpw,Nat.reduceAdd,Nat.reduceMul,Nat.reduceSub,↓reduceIte,Nat.reduceEqDiff]);rfl));(case hH=>((try simp (disch:=omega) only [wtn,Xcv,Xpr,Xpo,Xpp,Xps,Xpw,Nat.reduceAdd,Nat.reduceMul,Nat.reduceSub,↓reduceIte,Nat.reduceEqDiff]);rfl))))|fail))
  ·refine Xan _ _ (Xb2 rfl (RV.tmp _) (XaK.mk' [_,_] [] (Xpn _) XaI.nil (VwL.refl _ _))) ⟨by rw [Xgp hlt hlt2 h];rfl,rfl⟩
  ·exact ⟨i+1,by omega,⟨by omega,Xe3 hlt hlt2 ht'.out (by assumption)⟩,XaK.mk' [_,_] [] (Xpn _) XaI.nil (by (repeat' (first|exact VwL.nil|(refine VwL.cons ?_ ?_)|exact Vw.refl _|exact Vw.top _|fail)))⟩
 ·(repeat' (first|with_reducible (first|refine Xaj ?_|refine Xac ?_|refine Xaw ?_|refine Xa4 ?_|refine Xaf ?_|refine Xaa ?_|refine XaO ?_|refine XaH ?_)|(refine Xal _ rfl (fun h=>?_) (fun h=>?_)<;>((try (simp only [whn] at h));first|(exfalso;omega;done)|skip))|((apply Xad rfl);(case h=>((try (intro (hp:(_:Bool)=true);((try simp only [Bool.and_eq_true,Bool.not_eq_true',Bool.not_eq_true] at hp);(try simp only [hp,wte]);(try simp only [whn] at hp))));(first|(apply Xab 0 rfl;(exact Xav _ rfl))|(apply XaJ;(case hs=>(intro _ _ h;cases h));(case hx=>rfl);(case hrun=>(intro w;simp [wtb,AV.val,go_sem];(try go_bits);rfl))))));(case hT=>((try simp only [wtn,Xpr,Xpo,Xpp,Xps,Xpw,Nat.reduceAdd,Nat.reduceMul,Nat.reduceSub,↓reduceIte,Nat.reduceEqDiff]);rfl)))|fail))
  refine Xan _ _ (Xb2 rfl (RV.tmp _) (XaK.mk' [] [] (Xpn _) (XaI.refl _ _) (by first|exact VwL.refl _ _|fail))) ?_
  have ht:=ht'.out
  rw [List.take_of_length_le (by omega),List.take_of_length_le (by omega)] at ht
  exact ⟨by rw [show Xcf a d=true by unfold Xcf;rw [decide_eq_true hlen,ht];rfl];rfl,rfl⟩
theorem XfL (a b:List JF) (ha:JBs a):Xbv Tryz.prog 8 [] [.sq a.length (jfa a),.sq b.length (jfa b)] (fun r H'=>r=.x (.bool (Xcf a b))∧H'=[]):=by
 refine XaP Tryz.func8 rfl ?_
 simp only [Tryz.ntmps8,Xpq,Xpt,Xpu,Xpv,Xpy,Xpx,Nat.reduceAdd,Nat.reduceSub]
 (repeat' (first|with_reducible (first|refine Xaj ?_|refine Xac ?_|refine Xaw ?_|refine Xaf ?_|refine Xaa ?_)|((apply Xad rfl);(case h=>((try (intro (hp:(_:Bool)=true);((try simp only [Bool.and_eq_true,Bool.not_eq_true',Bool.not_eq_true] at hp);(try simp only [hp,wte]);(try simp only [whn] at hp))));(first|(apply Xab 0 rfl;(first|exact Xar _ rfl|exact Xav _ rfl))|(apply Xab 11 rfl;(exact XaE 15 Tryz.f15 _ _ rfl rfl Tryz.func15 (by decide) rfl (VwL.refl _ _) (Xn1 a b ha))))));(case hT=>((try simp only [wtn,Xpr,Xpo,Xpp,Xps,Xpw,Nat.reduceAdd,Nat.reduceMul,Nat.reduceSub,↓reduceIte,Nat.reduceEqDiff]);rfl)))|fail))
 refine Xan _ _ (Xb2 rfl (RV.tmp _) (XaK.mk' [] [] (Xpn _) (XaI.refl _ _) (by first|exact VwL.refl _ _|fail))) ?_
 exact ⟨rfl,rfl⟩
theorem XnT (l:List Int) (H:List Hp):Xbv Tryz.prog 6 H [.sq l.length (ia l)] (fun r H'=>∃b,r=.x (.pointer (some ⟨b,0,none⟩))∧H'=.box b [.sq l.length (ia l),.x (.int .i64 0)] :: H):=by
 refine XaP Tryz.func6 rfl ?_
 simp only [Tryz.ntmps6,Xpq,Xpt,Xpu,Xpv,Xpy,Xpx,Nat.reduceAdd,Nat.reduceSub]
 (repeat' (first|with_reducible (first|refine Xaj ?_|refine Xac ?_|refine Xaw ?_|refine Xaf ?_|refine Xaa ?_)|((apply Xad rfl);(case h=>((try (intro (hp:(_:Bool)=true);((try simp only [Bool.and_eq_true,Bool.not_eq_true',Bool.not_eq_true] at hp);(try simp only [hp,wte]);(try simp only [whn] at hp))));(first|(apply Xab 0 rfl;(first|exact Xar _ rfl|exact Xav _ rfl))|(apply Xab 10 rfl;(exact XaZ _ _ _ _ _ rfl HPl.out (by first|rfl|fail) rfl)))));(case hT=>((try simp only [wtn,Xpr,Xpo,Xpp,Xps,Xpw,Nat.reduceAdd,Nat.reduceMul,Nat.reduceSub,↓reduceIte,Nat.reduceEqDiff]);rfl)))|(refine Xak rfl ?_;((refine Xap 15 rfl ?_;(refine XbB _ _ rfl (by first|rfl|fail) (fun b=>?_)));apply Xai;(case hT=>((try simp only [wtn,Xpr,Xpo,Xpp,Xps,Xpw,Nat.reduceAdd,Nat.reduceMul,Nat.reduceSub,↓reduceIte,Nat.reduceEqDiff]);rfl));(case hH=>((try simp only [wtn,Xpr,Xpo,Xpp,Xps,Xpw,Nat.reduceAdd,Nat.reduceMul,Nat.reduceSub,↓reduceIte,Nat.reduceEqDiff]);rfl))))|fail))
 refine Xan _ _ (Xb2 rfl (RV.tmp _) (XaK.mk' [] _ (Xpn _) (XaI.refl _ _) (VwL.refl _ _))) ?_
 exact ⟨_,rfl,rfl⟩
end Go.Proofs.YtcmfamgnmehojaaGreatDoor

import Derived.Test.YtcmfamgnmehojaaGreatDoorW18
import Derived.Test.YtcmfamgnmehojaaGreatDoorW6
/- The reference's parser: are two jobs the same, but for their places. -/
set_option linter.unusedSimpArgs false
set_option linter.unusedVariables false
set_option maxRecDepth 100000
set_option maxHeartbeats 8000000
namespace Go.Proofs.YtcmfamgnmehojaaGreatDoor
open Go.RowKit
theorem XhM {p:Prop} [Decidable p] {x y:Bool} {w:World}:(if p then (Result.ok (Next.value (.bool x)) w:Result Next) else .ok (.value (.bool y)) w)=.ok (.value (.bool ((decide p && x) || (!decide p && y)))) w:=by
 by_cases h:p<;>simp [h]
theorem eqw {α β:Type} [DecidableEq α] [DecidableEq β] {x y:α × β} (h:(¬x.1=y.1∨x.2=y.2)∧x.1=y.1):x=y:=Prod.ext h.2 (h.1.resolve_left fun n=>n h.2)
def XcT (a b:JF):Bool:=decide (a.name=b.name∧a.run=b.run∧a.hasr=b.hasr∧a.ready=b.ready∧a.restart=b.restart∧a.base=b.base∧a.cap=b.cap∧a.stable=b.stable∧a.burst=b.burst∧a.window=b.window∧a.env=b.env∧a.needs=b.needs∧a.ladder=b.ladder)
theorem XmZ (a d:JF) (ha:a.env.length≤140737488355328∧a.needs.length≤140737488355328∧a.ladder.length≤140737488355328):Xbv Tryz.prog 30 [] [.agg a.cells,.agg d.cells] (fun r H'=>r=.x (.bool (XcT a d))∧H'=[]):=by
 obtain ⟨ha1,ha2,ha3⟩:=ha
 unfold JF.cells
 refine XaP Tryz.func30 rfl ?_
 simp only [Tryz.ntmps30,Xpq,Xpt,Xpu,Xpv,Xpy,Xpx,Nat.reduceAdd,Nat.reduceSub]
 (repeat' (first|with_reducible (first|refine Xaj ?_|refine Xac ?_|refine Xas ?_|refine Xaw ?_|refine Xaz ?_|refine Xaf ?_|refine Xaa ?_|refine XaA ?_)|(refine Xal _ rfl (fun h=>?_) (fun h=>?_)<;>((try (simp only [whn] at h));skip))|((first|apply Xad rfl|apply Xbr _ _ rfl rfl rfl);(case h=>((try (intro (hp:(_:Bool)=true);((try simp only [Bool.and_eq_true,Bool.not_eq_true',Bool.not_eq_true] at hp);(try simp only [hp,wte]);(try simp only [whn] at hp))));(first|(apply Xab 0 rfl;(first|exact Xar _ rfl|exact Xav _ rfl))|(apply Xab 1 rfl;(exact Xcn _ _ _ _ _ rfl rfl rfl rfl))|(apply Xab 3 rfl;(exact Xbh _ _ _ _ _ _ HEl.out rfl rfl))|(apply Xab 5 rfl;(exact Xag _ _ _ _ _ _ rfl rfl Xbb.out))|(apply Xab 6 rfl;(exact Xay _ _ _ _ _ _ _ _ rfl rfl Xa0.out XaT.out (by first|exact Xpm rfl|fail) (by first|exact Xpm rfl|fail)))|(apply XaJ;(case hs=>(intro _ _ h;cases h));(case hx=>rfl);(case hrun=>(intro w;simp [wtb,AV.val,go_sem];(try go_bits);rfl))))));(case hT=>((try simp only [wtn,Xpr,Xpo,Xpp,Xps,Xpw,Nat.reduceAdd,Nat.reduceMul,Nat.reduceSub,↓reduceIte,Nat.reduceEqDiff]);rfl)))|(refine Xak rfl ?_;((refine Xap 15 rfl ?_;(refine XbB _ _ rfl (by first|rfl|fail) (fun b=>?_)));apply Xai;(case hT=>((try simp only [wtn,Xpr,Xpo,Xpp,Xps,Xpw,Nat.reduceAdd,Nat.reduceMul,Nat.reduceSub,↓reduceIte,Nat.reduceEqDiff]);rfl));(case hH=>((try simp only [wtn,Xpr,Xpo,Xpp,Xps,Xpw,Nat.reduceAdd,Nat.reduceMul,Nat.reduceSub,↓reduceIte,Nat.reduceEqDiff]);rfl))))|fail))
 ·refine Xan _ _ (Xb2 rfl (RV.tmp _) (XaK.mk' [_,_] [] (Xpn _) (XaI.refl _ _) (by first|exact VwL.refl _ _|fail))) ?_
  exact ⟨by rw [show XcT a d=false from decide_eq_false (by rintro ⟨h1,h2,h3,h4,h5,h6,h7,h8,h9,h10,h11,h12,h13⟩;simp [h1,h2,h3,h4,h5,h6,h7,h8,h9,h10] at h)];rfl,rfl⟩
 ·refine Xan _ _ (Xb2 rfl (RV.tmp _) (XaK.mk' [_,_] [] (Xpn _) (XaI.refl _ _) (by first|exact VwL.refl _ _|fail))) ?_
  exact ⟨by rw [show XcT a d=false from decide_eq_false (by rintro ⟨h1,h2,h3,h4,h5,h6,h7,h8,h9,h10,h11,h12,h13⟩;simp [h11,h12,h13] at h)];rfl,rfl⟩
 rename_i ab h0
 obtain ⟨⟨n1,n2⟩,n3⟩:=h
 have h0':=Lib.hid h0
 clear h0
 apply Xbn (S:=Nat) (fun q=>frm 155 [(2,.x (.pointer (some ⟨ab,0,none⟩))),(3,.x (.pointer (some ⟨b,0,none⟩))),(5,.x (.int .i64 q))]) (fun _=>[.box b [.x (.string (bs d.name)),.x (.string (bs d.run)),.sq d.env.length (ea d.env),.sq d.needs.length (sa d.needs),.x (.bool d.hasr),.x (.string (bs d.ready)),.x (.int .i64 d.restart),.x (.int .u64 d.base),.x (.int .u64 d.cap),.x (.int .u64 d.stable),.x (.int .i64 d.burst),.x (.int .u64 d.window),.sq d.ladder.length (ra d.ladder),.x (.int .i64 d.line),.x (.int .i64 d.col)],.box ab [.x (.string (bs a.name)),.x (.string (bs a.run)),.sq a.env.length (ea a.env),.sq a.needs.length (sa a.needs),.x (.bool a.hasr),.x (.string (bs a.ready)),.x (.int .i64 a.restart),.x (.int .u64 a.base),.x (.int .u64 a.cap),.x (.int .u64 a.stable),.x (.int .i64 a.burst),.x (.int .u64 a.window),.sq a.ladder.length (ra a.ladder),.x (.int .i64 a.line),.x (.int .i64 a.col)]]) (fun q=>q≤a.env.length∧a.env.take q=d.env.take q) (fun q=>a.env.length - q) 0
 case h0=>exact (XaK.mk' [] _ (Xpn _) (XaI.refl _ _) (by (repeat' (first|exact VwL.nil|(refine VwL.cons ?_ ?_)|exact Vw.refl _|exact Vw.top _|fail))))
 case hi=>exact ⟨Nat.zero_le _,by simp⟩
 rintro i ⟨hi,ht⟩
 simp only [frm,Xpu,Xpv,Xpo,Xpp,XpB,XpC]
 by_cases hlt:i < a.env.length
 ·have ht':=Lib.hid ht
  clear ht
  (repeat' (first|with_reducible (first|refine Xaj ?_|refine Xac ?_|refine Xas ?_|refine Xaw ?_|refine Xaz ?_|refine Xaf ?_|refine XbP ?_|refine Xaa ?_|refine XaA ?_|refine Xah ?_|refine Xau ?_)|(with_reducible refine Xbd mixed ?_ ?_;(decide +kernel))|(refine Xal _ rfl (fun h=>?_) (fun h=>?_)<;>((try (simp only [whn] at h));first|(exfalso;omega;done)|skip))|((first|apply Xad rfl|apply Xbz rfl);(case h=>((try (intro (hp:(_:Bool)=true);((try simp only [Bool.and_eq_true,Bool.not_eq_true',Bool.not_eq_true] at hp);(try simp only [hp,wte]);(try simp only [whn] at hp))));(first|(apply Xab 0 rfl;(first|exact Xar _ rfl|exact Xav _ rfl))|(apply Xab 3 rfl;(exact Xbh _ _ _ _ _ _ HEl.out rfl rfl))|(apply Xab 5 rfl;(exact Xag _ _ _ _ _ _ rfl rfl Xbb.out))|(apply Xab 6 rfl;(first|exact XaC _ _ _ _ _ rfl rfl XaT.out (by first|exact Xpm rfl|fail) (by first|exact Xpm rfl|fail)|exact Xay _ _ _ _ _ _ _ _ rfl rfl Xa0.out XaT.out (by first|exact Xpm rfl|fail) (by first|exact Xpm rfl|fail)))|(apply Xab 7 rfl;(exact XaD _ _ _ _ _ _ _ _ _ _ rfl rfl rfl HEl.out rfl (by first|omega|fail) (by simp;first|omega|fail)))|(apply Xab 12 rfl;(apply XaJ;(case hs=>(intro _ _ h;cases h));(case hx=>rfl);(case hrun=>(intro w;simp [wtb,AV.val,go_sem];simp only [XhM,Bool.and_false,Bool.and_true,Bool.false_or,Bool.or_false];rfl))))|(apply XaJ;(case hs=>(intro _ _ h;cases h));(case hx=>rfl);(case hrun=>(intro w;simp [wtb,AV.val,go_sem];(try go_bits);rfl))))));(case hT=>((try simp (disch:=first|assumption|omega) only [wtn,XeI,Xpr,Xpo,Xpp,Xps,Xpw,Nat.reduceAdd,Nat.reduceMul,Nat.reduceSub,↓reduceIte,Nat.reduceEqDiff]);rfl)))|fail))
  ·refine Xan _ _ (Xb2 rfl (RV.tmp _) (XaK.mk' [_,_] [] (Xpn _) (XaI.refl _ _) (by first|exact VwL.refl _ _|fail))) ?_
   exact ⟨by rw [show XcT a d=false from decide_eq_false (by rintro ⟨h1,h2,h3,h4,h5,h6,h7,h8,h9,h10,h11,h12,h13⟩;simp [h11] at h)];rfl,rfl⟩
  ·exact ⟨i+1,by omega,⟨by omega,by rw [Xbg a.env i hlt,Xbg d.env i (by omega),ht'.out];congr 2<;>first|exact eqw h|fail⟩,(XaK.mk' [] _ (Xpn _) (XaI.refl _ _) (by (repeat' (first|exact VwL.nil|(refine VwL.cons ?_ ?_)|exact Vw.refl _|exact Vw.top _|fail))))⟩
 ·have e1:a.env=d.env:=by rwa [List.take_of_length_le (by omega),List.take_of_length_le (by omega)] at ht
  have e1':=Lib.hid e1
  clear e1 ht
  (repeat' (first|with_reducible (first|refine Xaj ?_|refine Xac ?_|refine Xas ?_|refine Xa4 ?_|refine Xaf ?_|refine Xaa ?_|refine XaO ?_|refine XaH ?_)|(refine Xal _ rfl (fun h=>?_) (fun h=>?_)<;>((try (simp only [whn] at h));first|(exfalso;omega;done)|skip))|((apply Xad rfl);(case h=>((try (intro (hp:(_:Bool)=true);((try simp only [Bool.and_eq_true,Bool.not_eq_true',Bool.not_eq_true] at hp);(try simp only [hp,wte]);(try simp only [whn] at hp))));(first|(apply Xab 0 rfl;(first|exact Xar _ rfl|exact Xav _ rfl))|(apply Xab 3 rfl;(exact Xbh _ _ _ _ _ _ HEl.out rfl rfl))|(apply Xab 5 rfl;(exact Xag _ _ _ _ _ _ rfl rfl Xbb.out))|(apply Xab 6 rfl;(exact Xay _ _ _ _ _ _ _ _ rfl rfl Xa0.out XaT.out (by first|exact Xpm rfl|fail) (by first|exact Xpm rfl|fail)))|(apply XaJ;(case hs=>(intro _ _ h;cases h));(case hx=>rfl);(case hrun=>(intro w;simp [wtb,AV.val,go_sem];(try go_bits);rfl))))));(case hT=>((try simp only [wtn,Xpr,Xpo,Xpp,Xps,Xpw,Nat.reduceAdd,Nat.reduceMul,Nat.reduceSub,↓reduceIte,Nat.reduceEqDiff]);rfl)))|fail))
  apply Xbn (S:=Nat) (fun q=>frm 155 [(2,.x (.pointer (some ⟨ab,0,none⟩))),(3,.x (.pointer (some ⟨b,0,none⟩))),(6,.x (.int .i64 q))]) (fun _=>[.box b [.x (.string (bs d.name)),.x (.string (bs d.run)),.sq d.env.length (ea d.env),.sq d.needs.length (sa d.needs),.x (.bool d.hasr),.x (.string (bs d.ready)),.x (.int .i64 d.restart),.x (.int .u64 d.base),.x (.int .u64 d.cap),.x (.int .u64 d.stable),.x (.int .i64 d.burst),.x (.int .u64 d.window),.sq d.ladder.length (ra d.ladder),.x (.int .i64 d.line),.x (.int .i64 d.col)],.box ab [.x (.string (bs a.name)),.x (.string (bs a.run)),.sq a.env.length (ea a.env),.sq a.needs.length (sa a.needs),.x (.bool a.hasr),.x (.string (bs a.ready)),.x (.int .i64 a.restart),.x (.int .u64 a.base),.x (.int .u64 a.cap),.x (.int .u64 a.stable),.x (.int .i64 a.burst),.x (.int .u64 a.window),.sq a.ladder.length (ra a.ladder),.x (.int .i64 a.line),.x (.int .i64 a.col)]]) (fun q=>q≤a.needs.length∧a.needs.take q=d.needs.take q) (fun q=>a.needs.length - q) 0
  case h0=>exact (XaK.mk' [] _ (Xpn _) (XaI.refl _ _) (by (repeat' (first|exact VwL.nil|(refine VwL.cons ?_ ?_)|exact Vw.refl _|exact Vw.top _|fail))))
  case hi=>exact ⟨Nat.zero_le _,by simp⟩
  rintro i ⟨hi,ht⟩
  simp only [frm,Xpu,Xpv,Xpo,Xpp,XpB,XpC]
  by_cases hlt:i < a.needs.length
  ·have ht':=Lib.hid ht
   clear ht
   (repeat' (first|with_reducible (first|refine Xaj ?_|refine Xac ?_|refine Xas ?_|refine Xaw ?_|refine Xaz ?_|refine Xaf ?_|refine XbP ?_|refine Xaa ?_|refine XaA ?_|refine Xah ?_|refine Xau ?_)|(with_reducible refine Xbd mixed ?_ ?_;(decide +kernel))|(refine Xal _ rfl (fun h=>?_) (fun h=>?_)<;>((try (simp only [whn] at h));first|(exfalso;omega;done)|skip))|((first|apply Xad rfl|apply Xbz rfl);(case h=>((try (intro (hp:(_:Bool)=true);((try simp only [Bool.and_eq_true,Bool.not_eq_true',Bool.not_eq_true] at hp);(try simp only [hp,wte]);(try simp only [whn] at hp))));(first|(apply Xab 0 rfl;(first|exact Xar _ rfl|exact Xav _ rfl))|(apply Xab 3 rfl;(exact Xbh _ _ _ _ _ _ HEl.out rfl rfl))|(apply Xab 5 rfl;(exact Xag _ _ _ _ _ _ rfl rfl Xbb.out))|(apply Xab 6 rfl;(first|exact XaC _ _ _ _ _ rfl rfl XaT.out (by first|exact Xpm rfl|fail) (by first|exact Xpm rfl|fail)|exact Xay _ _ _ _ _ _ _ _ rfl rfl Xa0.out XaT.out (by first|exact Xpm rfl|fail) (by first|exact Xpm rfl|fail)))|(apply Xab 7 rfl;(exact XaD _ _ _ _ _ _ _ _ _ _ rfl rfl rfl HEl.out rfl (by first|omega|fail) (by simp;first|omega|fail)))|(apply XaJ;(case hs=>(intro _ _ h;cases h));(case hx=>rfl);(case hrun=>(intro w;simp [wtb,AV.val,go_sem];(try go_bits);rfl))))));(case hT=>((try simp (disch:=first|assumption|omega) only [wtn,XdB,Xpr,Xpo,Xpp,Xps,Xpw,Nat.reduceAdd,Nat.reduceMul,Nat.reduceSub,↓reduceIte,Nat.reduceEqDiff]);rfl)))|fail))
   ·refine Xan _ _ (Xb2 rfl (RV.tmp _) (XaK.mk' [_,_] [] (Xpn _) (XaI.refl _ _) (by first|exact VwL.refl _ _|fail))) ?_
    exact ⟨by rw [show XcT a d=false from decide_eq_false (by rintro ⟨h1,h2,h3,h4,h5,h6,h7,h8,h9,h10,h11,h12,h13⟩;simp [h12] at h)];rfl,rfl⟩
   ·exact ⟨i+1,by omega,⟨by omega,by rw [Xbg a.needs i hlt,Xbg d.needs i (by omega),ht'.out];congr 2<;>first|assumption|fail⟩,(XaK.mk' [] _ (Xpn _) (XaI.refl _ _) (by (repeat' (first|exact VwL.nil|(refine VwL.cons ?_ ?_)|exact Vw.refl _|exact Vw.top _|fail))))⟩
  ·have e2:a.needs=d.needs:=by rwa [List.take_of_length_le (by omega),List.take_of_length_le (by omega)] at ht
   have e2':=Lib.hid e2
   clear e2 ht
   (repeat' (first|with_reducible (first|refine Xaj ?_|refine Xac ?_|refine Xas ?_|refine Xa4 ?_|refine Xaf ?_|refine Xaa ?_|refine XaO ?_|refine XaH ?_)|(refine Xal _ rfl (fun h=>?_) (fun h=>?_)<;>((try (simp only [whn] at h));first|(exfalso;omega;done)|skip))|((apply Xad rfl);(case h=>((try (intro (hp:(_:Bool)=true);((try simp only [Bool.and_eq_true,Bool.not_eq_true',Bool.not_eq_true] at hp);(try simp only [hp,wte]);(try simp only [whn] at hp))));(first|(apply Xab 0 rfl;(first|exact Xar _ rfl|exact Xav _ rfl))|(apply Xab 3 rfl;(exact Xbh _ _ _ _ _ _ HEl.out rfl rfl))|(apply Xab 5 rfl;(exact Xag _ _ _ _ _ _ rfl rfl Xbb.out))|(apply Xab 6 rfl;(exact Xay _ _ _ _ _ _ _ _ rfl rfl Xa0.out XaT.out (by first|exact Xpm rfl|fail) (by first|exact Xpm rfl|fail)))|(apply XaJ;(case hs=>(intro _ _ h;cases h));(case hx=>rfl);(case hrun=>(intro w;simp [wtb,AV.val,go_sem];(try go_bits);rfl))))));(case hT=>((try simp only [wtn,Xpr,Xpo,Xpp,Xps,Xpw,Nat.reduceAdd,Nat.reduceMul,Nat.reduceSub,↓reduceIte,Nat.reduceEqDiff]);rfl)))|fail))
   apply Xbn (S:=Nat) (fun q=>frm 155 [(2,.x (.pointer (some ⟨ab,0,none⟩))),(3,.x (.pointer (some ⟨b,0,none⟩))),(7,.x (.int .i64 q))]) (fun _=>[.box b [.x (.string (bs d.name)),.x (.string (bs d.run)),.sq d.env.length (ea d.env),.sq d.needs.length (sa d.needs),.x (.bool d.hasr),.x (.string (bs d.ready)),.x (.int .i64 d.restart),.x (.int .u64 d.base),.x (.int .u64 d.cap),.x (.int .u64 d.stable),.x (.int .i64 d.burst),.x (.int .u64 d.window),.sq d.ladder.length (ra d.ladder),.x (.int .i64 d.line),.x (.int .i64 d.col)],.box ab [.x (.string (bs a.name)),.x (.string (bs a.run)),.sq a.env.length (ea a.env),.sq a.needs.length (sa a.needs),.x (.bool a.hasr),.x (.string (bs a.ready)),.x (.int .i64 a.restart),.x (.int .u64 a.base),.x (.int .u64 a.cap),.x (.int .u64 a.stable),.x (.int .i64 a.burst),.x (.int .u64 a.window),.sq a.ladder.length (ra a.ladder),.x (.int .i64 a.line),.x (.int .i64 a.col)]]) (fun q=>q≤a.ladder.length∧a.ladder.take q=d.ladder.take q) (fun q=>a.ladder.length - q) 0
   case h0=>exact (XaK.mk' [] _ (Xpn _) (XaI.refl _ _) (by (repeat' (first|exact VwL.nil|(refine VwL.cons ?_ ?_)|exact Vw.refl _|exact Vw.top _|fail))))
   case hi=>exact ⟨Nat.zero_le _,by simp⟩
   rintro i ⟨hi,ht⟩
   simp only [frm,Xpu,Xpv,Xpo,Xpp,XpB,XpC]
   by_cases hlt:i < a.ladder.length
   ·have ht':=Lib.hid ht
    clear ht
    (repeat' (first|with_reducible (first|refine Xaj ?_|refine Xac ?_|refine Xas ?_|refine Xaw ?_|refine Xaz ?_|refine Xaf ?_|refine XbP ?_|refine Xaa ?_|refine XaA ?_|refine Xah ?_|refine Xau ?_)|(with_reducible refine Xbd mixed ?_ ?_;(decide +kernel))|(refine Xal _ rfl (fun h=>?_) (fun h=>?_)<;>((try (simp only [whn] at h));first|(exfalso;omega;done)|skip))|((first|apply Xad rfl|apply Xbz rfl);(case h=>((try (intro (hp:(_:Bool)=true);((try simp only [Bool.and_eq_true,Bool.not_eq_true',Bool.not_eq_true] at hp);(try simp only [hp,wte]);(try simp only [whn] at hp))));(first|(apply Xab 0 rfl;(first|exact Xar _ rfl|exact Xav _ rfl))|(apply Xab 3 rfl;(exact Xbh _ _ _ _ _ _ HEl.out rfl rfl))|(apply Xab 5 rfl;(exact Xag _ _ _ _ _ _ rfl rfl Xbb.out))|(apply Xab 6 rfl;(first|exact XaC _ _ _ _ _ rfl rfl XaT.out (by first|exact Xpm rfl|fail) (by first|exact Xpm rfl|fail)|exact Xay _ _ _ _ _ _ _ _ rfl rfl Xa0.out XaT.out (by first|exact Xpm rfl|fail) (by first|exact Xpm rfl|fail)))|(apply Xab 7 rfl;(exact XaD _ _ _ _ _ _ _ _ _ _ rfl rfl rfl HEl.out rfl (by first|omega|fail) (by simp;first|omega|fail)))|(apply Xab 12 rfl;(apply XaJ;(case hs=>(intro _ _ h;cases h));(case hx=>rfl);(case hrun=>(intro w;simp [wtb,AV.val,go_sem];simp only [XhM,Bool.and_false,Bool.and_true,Bool.false_or,Bool.or_false];rfl))))|(apply XaJ;(case hs=>(intro _ _ h;cases h));(case hx=>rfl);(case hrun=>(intro w;simp [wtb,AV.val,go_sem];(try go_bits);rfl))))));(case hT=>((try simp (disch:=first|assumption|omega) only [wtn,Xj8,Xpr,Xpo,Xpp,Xps,Xpw,Nat.reduceAdd,Nat.reduceMul,Nat.reduceSub,↓reduceIte,Nat.reduceEqDiff]);rfl)))|fail))
    ·refine Xan _ _ (Xb2 rfl (RV.tmp _) (XaK.mk' [_,_] [] (Xpn _) (XaI.refl _ _) (by first|exact VwL.refl _ _|fail))) ?_
     exact ⟨by rw [show XcT a d=false from decide_eq_false (by rintro ⟨h1,h2,h3,h4,h5,h6,h7,h8,h9,h10,h11,h12,h13⟩;simp [h13] at h)];rfl,rfl⟩
    ·exact ⟨i+1,by omega,⟨by omega,by rw [Xbg a.ladder i hlt,Xbg d.ladder i (by omega),ht'.out];congr 2<;>first|exact eqw h|fail⟩,(XaK.mk' [] _ (Xpn _) (XaI.refl _ _) (by (repeat' (first|exact VwL.nil|(refine VwL.cons ?_ ?_)|exact Vw.refl _|exact Vw.top _|fail))))⟩
   ·have e3:a.ladder=d.ladder:=by rwa [List.take_of_length_le (by omega),List.take_of_length_le (by omega)] at ht
    have e3':=Lib.hid e3
    clear e3 ht
    (repeat' (first|with_reducible (first|refine Xaj ?_|refine Xac ?_|refine Xaw ?_|refine Xa4 ?_|refine Xaf ?_|refine Xaa ?_|refine XaO ?_|refine XaH ?_)|(refine Xal _ rfl (fun h=>?_) (fun h=>?_)<;>((try (simp only [whn] at h));first|(exfalso;omega;done)|skip))|((apply Xad rfl);(case h=>((try (intro (hp:(_:Bool)=true);((try simp only [Bool.and_eq_true,Bool.not_eq_true',Bool.not_eq_true] at hp);(try simp only [hp,wte]);(try simp only [whn] at hp))));(first|(apply Xab 0 rfl;(first|exact Xar _ rfl|exact Xav _ rfl))|(apply Xab 3 rfl;(exact Xbh _ _ _ _ _ _ HEl.out rfl rfl))|(apply Xab 5 rfl;(exact Xag _ _ _ _ _ _ rfl rfl Xbb.out))|(apply Xab 6 rfl;(exact Xay _ _ _ _ _ _ _ _ rfl rfl Xa0.out XaT.out (by first|exact Xpm rfl|fail) (by first|exact Xpm rfl|fail)))|(apply XaJ;(case hs=>(intro _ _ h;cases h));(case hx=>rfl);(case hrun=>(intro w;simp [wtb,AV.val,go_sem];(try go_bits);rfl))))));(case hT=>((try simp only [wtn,Xpr,Xpo,Xpp,Xps,Xpw,Nat.reduceAdd,Nat.reduceMul,Nat.reduceSub,↓reduceIte,Nat.reduceEqDiff]);rfl)))|fail))
    refine Xan _ _ (Xb2 rfl (RV.tmp _) (XaK.mk' [_,_] [] (Xpn _) (XaI.refl _ _) (by first|exact VwL.refl _ _|fail))) ?_
    have h0:=h0'.out
    obtain ⟨⟨⟨⟨⟨⟨⟨⟨⟨h1,h2⟩,h3⟩,h4⟩,h5⟩,h6⟩,h7⟩,h8⟩,h9⟩,h10⟩:=h0
    exact ⟨by rw [show XcT a d=true from decide_eq_true ⟨h1,h2,h3,h4,h5,h6,h7,h8,h9,h10,e1'.out,e2'.out,e3'.out⟩];rfl,rfl⟩
def Xcf (a b:List JF):Bool:=decide (a.length=b.length) && (a.zip b).all fun p=>XcT p.1 p.2
def JBs (l:List JF):Prop:=l.length≤140737488355328∧∀j∈l,j.env.length≤140737488355328∧j.needs.length≤140737488355328∧j.ladder.length≤140737488355328
theorem Xe3 {a b:List JF} {k:Nat} (ha:k < a.length) (hb:k < b.length) (h:(((a.take k).zip (b.take k)).all fun p=>XcT p.1 p.2)=true) (h2:XcT a[k] b[k]=true):(((a.take (k+1)).zip (b.take (k+1))).all fun p=>XcT p.1 p.2)=true:=by
 rw [Xbg a k ha,Xbg b k hb,List.zip_append (by simp;omega)]
 simp only [List.all_append,h,Bool.true_and]
 simp [h2]
theorem Xgp {a b:List JF} {k:Nat} (ha:k < a.length) (hb:k < b.length) (h2:XcT a[k] b[k]=false):Xcf a b=false:=by
 unfold Xcf
 rw [Bool.and_eq_false_iff];right
 rw [List.all_eq_false]
 refine ⟨(a[k],b[k]),List.mem_iff_getElem.2 ⟨k,by simp;omega,by simp⟩,by simp [h2]⟩
theorem Xll (a b:List JF) (ha:JBs a):Xbv Tryz.prog 17 [] [.sq a.length (jfa a),.sq b.length (jfa b)] (fun r H'=>r=.x (.bool (Xcf a b))∧H'=[]):=by
 obtain ⟨ha1,ha2⟩:=ha
 have ha2':=Lib.hid ha2
 clear ha2
 refine XaP Tryz.func17 rfl ?_
 simp only [Tryz.ntmps17,Xpq,Xpt,Xpu,Xpv,Xpy,Xpx,Nat.reduceAdd,Nat.reduceSub]
 (repeat' (first|with_reducible (first|refine Xaj ?_|refine Xac ?_|refine Xas ?_|refine Xaw ?_|refine Xaz ?_|refine Xaf ?_|refine Xaa ?_|refine XaA ?_)|(refine Xal _ rfl (fun h=>?_) (fun h=>?_)<;>((try (simp only [whn] at h));skip))|((apply Xad rfl);(case h=>((try (intro (hp:(_:Bool)=true);((try simp only [Bool.and_eq_true,Bool.not_eq_true',Bool.not_eq_true] at hp);(try simp only [hp,wte]);(try simp only [whn] at hp))));(first|(apply Xab 0 rfl;(first|exact Xar _ rfl|exact Xav _ rfl))|(apply Xab 3 rfl;(exact Xbh _ _ _ _ _ _ HEl.out rfl rfl))|(apply XaJ;(case hs=>(intro _ _ h;cases h));(case hx=>rfl);(case hrun=>(intro w;simp [wtb,AV.val,go_sem];(try go_bits);rfl))))));(case hT=>((try simp only [wtn,Xpr,Xpo,Xpp,Xps,Xpw,Nat.reduceAdd,Nat.reduceMul,Nat.reduceSub,↓reduceIte,Nat.reduceEqDiff]);rfl)))|fail))
 ·refine Xan _ _ (Xb2 rfl (RV.tmp _) (XaK.mk' [] [] (Xpn _) (XaI.refl _ _) (by first|exact VwL.refl _ _|fail))) ?_
  exact ⟨by rw [show Xcf a b=false by unfold Xcf;rw [decide_eq_false (by omega)];rfl];rfl,rfl⟩
 have hlen:a.length=b.length:=by omega
 apply Xbn (S:=Nat) (fun q=>frm 27 [(0,.sq a.length (jfa a)),(1,.sq b.length (jfa b)),(5,.x (.int .i64 q))]) (fun _=>[]) (fun q=>q≤a.length∧(((a.take q).zip (b.take q)).all fun p=>XcT p.1 p.2)=true) (fun q=>a.length - q) 0
 case h0=>exact (XaK.mk' [] _ (Xpn _) (XaI.refl _ _) (by (repeat' (first|exact VwL.nil|(refine VwL.cons ?_ ?_)|exact Vw.refl _|exact Vw.top _|fail))))
 case hi=>exact ⟨Nat.zero_le _,by simp⟩
 rintro i ⟨hi,ht⟩
 have ht':=Lib.hid ht
 clear ht
 simp only [frm,Xpu,Xpv,Xpo,Xpp,XpB,XpC]
 by_cases hlt:i < a.length
 ·have hlt2:i < b.length:=by omega
  (repeat' (first|with_reducible (first|refine Xaj ?_|refine Xac ?_|refine Xas ?_|refine Xaw ?_|refine Xaz ?_|refine Xaf ?_|refine XbP ?_|refine Xaa ?_|refine XaA ?_|refine Xah ?_|refine Xau ?_)|(with_reducible refine Xbd mixed ?_ ?_;(decide +kernel))|(refine Xal _ rfl (fun h=>?_) (fun h=>?_)<;>((try (simp only [whn] at h));first|(exfalso;omega;done)|skip))|((first|apply Xad rfl|apply Xbz rfl);(case h=>((try (intro (hp:(_:Bool)=true);((try simp only [Bool.and_eq_true,Bool.not_eq_true',Bool.not_eq_true] at hp);(try simp only [hp,wte]);(try simp only [whn] at hp))));(first|(apply Xab 0 rfl;(first|exact Xar _ rfl|exact Xav _ rfl))|(apply Xab 3 rfl;(exact Xbh _ _ _ _ _ _ HEl.out rfl rfl))|(apply Xab 6 rfl;(exact XaC _ _ _ _ _ rfl rfl XaT.out (by first|exact Xpm rfl|fail) (by first|exact Xpm rfl|fail)))|(apply Xab 7 rfl;(exact XaD _ _ _ _ _ _ _ _ _ _ rfl rfl rfl HEl.out rfl (by first|omega|fail) (by simp;first|omega|fail)))|(apply Xab 11 rfl;(exact XaE 30 Tryz.f30 _ _ rfl rfl Tryz.func30 (by decide) rfl (VwL.refl _ _) (XmZ a[i] b[i] (ha2'.out _ (List.getElem_mem hlt)))))|(apply XaJ;(case hs=>(intro _ _ h;cases h));(case hx=>rfl);(case hrun=>(intro w;simp [wtb,AV.val,go_sem];(try go_bits);rfl))))));(case hT=>((try simp (disch:=assumption) only [wtn,Xcv,Xpr,Xpo,Xpp,Xps,Xpw,Nat.reduceAdd,Nat.reduceMul,Nat.reduceSub,↓reduceIte,Nat.reduceEqDiff]);rfl)))|fail))
  ·refine Xan _ _ (Xb2 rfl (RV.tmp _) (XaK.mk' [] [] (Xpn _) (XaI.refl _ _) (by first|exact VwL.refl _ _|fail))) ?_
   exact ⟨by rw [Xgp hlt hlt2 (by assumption)];rfl,rfl⟩
  ·exact ⟨i+1,by omega,⟨by omega,Xe3 hlt hlt2 ht'.out (by assumption)⟩,(XaK.mk' [] _ (Xpn _) (XaI.refl _ _) (by (repeat' (first|exact VwL.nil|(refine VwL.cons ?_ ?_)|exact Vw.refl _|exact Vw.top _|fail))))⟩
 ·(repeat' (first|with_reducible (first|refine Xaj ?_|refine Xac ?_|refine Xaw ?_|refine Xa4 ?_|refine Xaf ?_|refine Xaa ?_|refine XaO ?_|refine XaH ?_)|(refine Xal _ rfl (fun h=>?_) (fun h=>?_)<;>((try (simp only [whn] at h));first|(exfalso;omega;done)|skip))|((apply Xad rfl);(case h=>((try (intro (hp:(_:Bool)=true);((try simp only [Bool.and_eq_true,Bool.not_eq_true',Bool.not_eq_true] at hp);(try simp only [hp,wte]);(try simp only [whn] at hp))));(first|(apply Xab 0 rfl;(first|exact Xar _ rfl|exact Xav _ rfl))|(apply Xab 3 rfl;(exact Xbh _ _ _ _ _ _ HEl.out rfl rfl))|(apply XaJ;(case hs=>(intro _ _ h;cases h));(case hx=>rfl);(case hrun=>(intro w;simp [wtb,AV.val,go_sem];(try go_bits);rfl))))));(case hT=>((try simp only [wtn,Xpr,Xpo,Xpp,Xps,Xpw,Nat.reduceAdd,Nat.reduceMul,Nat.reduceSub,↓reduceIte,Nat.reduceEqDiff]);rfl)))|fail))
  refine Xan _ _ (Xb2 rfl (RV.tmp _) (XaK.mk' [] [] (Xpn _) (XaI.refl _ _) (by first|exact VwL.refl _ _|fail))) ?_
  have ht:=ht'.out
  rw [List.take_of_length_le (by omega),List.take_of_length_le (by omega)] at ht
  exact ⟨by rw [show Xcf a b=true by unfold Xcf;rw [decide_eq_true hlen,ht];rfl];rfl,rfl⟩
theorem XiF (a b:List JF) (ha:JBs a):Xbv Tryz.prog 9 [] [.sq a.length (jfa a),.sq b.length (jfa b)] (fun r H'=>r=.x (.bool (Xcf a b))∧H'=[]):=by
 refine XaP Tryz.func9 rfl ?_
 simp only [Tryz.ntmps9,Xpq,Xpt,Xpu,Xpv,Xpy,Xpx,Nat.reduceAdd,Nat.reduceSub]
 (repeat' (first|with_reducible (first|refine Xaj ?_|refine Xac ?_|refine Xaw ?_|refine Xaf ?_|refine Xaa ?_)|((apply Xad rfl);(case h=>((try (intro (hp:(_:Bool)=true);((try simp only [Bool.and_eq_true,Bool.not_eq_true',Bool.not_eq_true] at hp);(try simp only [hp,wte]);(try simp only [whn] at hp))));(first|(apply Xab 0 rfl;(first|exact Xar _ rfl|exact Xav _ rfl))|(apply Xab 11 rfl;(exact XaE 17 Tryz.f17 _ _ rfl rfl Tryz.func17 (by decide) rfl (VwL.refl _ _) (Xll a b ha))))));(case hT=>((try simp only [wtn,Xpr,Xpo,Xpp,Xps,Xpw,Nat.reduceAdd,Nat.reduceMul,Nat.reduceSub,↓reduceIte,Nat.reduceEqDiff]);rfl)))|fail))
 refine Xan _ _ (Xb2 rfl (RV.tmp _) (XaK.mk' [] [] (Xpn _) (XaI.refl _ _) (by first|exact VwL.refl _ _|fail))) ?_
 exact ⟨rfl,rfl⟩
end Go.Proofs.YtcmfamgnmehojaaGreatDoor

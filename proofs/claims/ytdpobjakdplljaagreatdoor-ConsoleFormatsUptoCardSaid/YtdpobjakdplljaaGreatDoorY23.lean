import Derived.Test.YtdpobjakdplljaaGreatDoorY22
import Derived.Test.YtdpobjakdplljaaGreatDoorY6
import Derived.Test.YtdpobjakdplljaaGreatDoorY18
import Derived.Test.YtdpobjakdplljaaGreatDoorY16
/- The reference's parser: are two jobs the same, but for their places. -/
set_option linter.unusedSimpArgs false
set_option linter.unusedVariables false
set_option maxRecDepth 100000
set_option maxHeartbeats 8000000
namespace Go.Proofs.YtdpobjakdplljaaGreatDoor
open Go.RowKit
theorem Xru {p:Prop} [Decidable p] {x y:Bool} {w:World}:(if p then (Result.ok (Next.value (.bool x)) w:Result Next) else .ok (.value (.bool y)) w)=.ok (.value (.bool ((decide p && x) || (!decide p && y)))) w:=by
 by_cases h:p<;>simp [h]
theorem eqw {α β:Type} [DecidableEq α] [DecidableEq β] {x y:α × β} (h:(¬x.1=y.1∨x.2=y.2)∧x.1=y.1):x=y:=Prod.ext h.2 (h.1.resolve_left fun n=>n h.2)
def Xez (a b:JF):Bool:=decide (a.name=b.name∧a.run=b.run∧a.hasr=b.hasr∧a.ready=b.ready∧a.restart=b.restart∧a.base=b.base∧a.cap=b.cap∧a.stable=b.stable∧a.burst=b.burst∧a.window=b.window∧a.env=b.env∧a.needs=b.needs∧a.ladder=b.ladder)
theorem XsY (a d:JF) (ha:a.env.length≤1000000∧a.needs.length≤1000000∧a.ladder.length≤1000000):Xa3 Tryz.prog 81 [] [.agg a.cells,.agg d.cells] (fun r H'=>r=.x (.bool (Xez a d))∧H'=[]):=by
 obtain ⟨ha1,ha2,ha3⟩:=ha
 unfold JF.cells
 refine XaD Tryz.func81 rfl ?_
 simp only [Tryz.ntmps81,Xvy,XvB,XvC,XvD,XvG,XvF,Nat.reduceAdd,Nat.reduceSub]
 (repeat' (first|with_reducible (first|refine Xag ?_|refine Xac ?_|refine Xao ?_|refine Xar ?_|refine Xau ?_|refine Xae ?_|refine Xaa ?_|refine Xax ?_)|(refine Xak _ rfl (fun h=>?_) (fun h=>?_)<;>((try (simp only [whn] at h));skip))|((first|apply Xad rfl|apply Xa8 _ _ rfl rfl rfl);(case h=>((try (intro (hp:(_:Bool)=true);((try simp only [Bool.not_eq_true'] at hp);(try simp only [hp,wte]);(try simp only [whn] at hp))));(first|(apply Xab 0 rfl;(first|exact Xap _ rfl|exact Xan _ rfl))|(apply Xab 1 rfl;(exact XdJ _ _ _ _ _ rfl rfl rfl rfl))|(apply Xab 3 rfl;(exact XaX _ _ _ _ _ _ HEl.out rfl rfl))|(apply Xab 5 rfl;(exact Xal _ _ _ _ _ _ rfl rfl Xa5.out))|(apply Xab 6 rfl;(exact Xaz _ _ _ _ _ _ _ _ rfl rfl XaS.out XaN.out (by first|exact Xvu rfl|fail) (by first|exact Xvu rfl|fail)))|(apply XaC;(case hs=>(intro _ _ h;cases h));(case hx=>rfl);(case hrun=>(intro w;simp [wtb,AV.val,go_sem];skip;rfl))))));(case hT=>((try simp only [wtn]);rfl)))|(refine Xai rfl ?_;((refine Xas 15 rfl ?_;(refine Xbo _ _ rfl (by first|rfl|fail) (fun b=>?_)));apply Xah;(case hT=>((try simp only [wtn]);rfl));(case hH=>((try simp only [wtn]);rfl))))|fail))
 ·refine Xaf _ _ (Xbh rfl (RV.tmp _) (XaH.mk' [_,_] [] (Xvv _) (XaB.refl _ _) (by first|exact VwL.refl _ _|fail))) ?_
  exact ⟨by rw [show Xez a d=false from decide_eq_false (by rintro ⟨h1,h2,h3,h4,h5,h6,h7,h8,h9,h10,h11,h12,h13⟩;simp [h1,h2,h3,h4,h5,h6,h7,h8,h9,h10] at h)];rfl,rfl⟩
 ·refine Xaf _ _ (Xbh rfl (RV.tmp _) (XaH.mk' [_,_] [] (Xvv _) (XaB.refl _ _) (by first|exact VwL.refl _ _|fail))) ?_
  exact ⟨by rw [show Xez a d=false from decide_eq_false (by rintro ⟨h1,h2,h3,h4,h5,h6,h7,h8,h9,h10,h11,h12,h13⟩;simp [h11,h12,h13] at h)];rfl,rfl⟩
 rename_i ab h0
 obtain ⟨⟨n1,n2⟩,n3⟩:=h
 have h0':=Lib.hid h0
 clear h0
 apply XaQ (S:=Nat) (fun q=>frm 155 [(2,.x (.pointer (some ⟨ab,0,none⟩))),(3,.x (.pointer (some ⟨b,0,none⟩))),(5,.x (.int .i64 q))]) (fun _=>[.box b [.x (.string (bs d.name)),.x (.string (bs d.run)),.sq d.env.length (ea d.env),.sq d.needs.length (sa d.needs),.x (.bool d.hasr),.x (.string (bs d.ready)),.x (.int .i64 d.restart),.x (.int .u64 d.base),.x (.int .u64 d.cap),.x (.int .u64 d.stable),.x (.int .i64 d.burst),.x (.int .u64 d.window),.sq d.ladder.length (ra d.ladder),.x (.int .i64 d.line),.x (.int .i64 d.col)],.box ab [.x (.string (bs a.name)),.x (.string (bs a.run)),.sq a.env.length (ea a.env),.sq a.needs.length (sa a.needs),.x (.bool a.hasr),.x (.string (bs a.ready)),.x (.int .i64 a.restart),.x (.int .u64 a.base),.x (.int .u64 a.cap),.x (.int .u64 a.stable),.x (.int .i64 a.burst),.x (.int .u64 a.window),.sq a.ladder.length (ra a.ladder),.x (.int .i64 a.line),.x (.int .i64 a.col)]]) (fun q=>q≤a.env.length∧a.env.take q=d.env.take q) (fun q=>a.env.length - q) 0
 case h0=>exact (XaH.mk' [] _ (Xvv _) (XaB.refl _ _) (by (repeat' (first|exact VwL.nil|(refine VwL.cons ?_ ?_)|exact Vw.refl _|exact Vw.top _|fail))))
 case hi=>exact ⟨Nat.zero_le _,by simp⟩
 rintro i ⟨hi,ht⟩
 simp only [frm,XvC,XvD,Xvw,Xvx,XvJ,XvK]
 by_cases hlt:i < a.env.length
 ·have ht':=Lib.hid ht
  clear ht
  (repeat' (first|with_reducible (first|refine Xag ?_|refine Xac ?_|refine Xao ?_|refine Xar ?_|refine Xau ?_|refine Xae ?_|refine Xch ?_|refine Xaa ?_|refine Xax ?_|refine Xaj ?_|refine Xav ?_)|(with_reducible refine Xbe mixed ?_ ?_;(decide +kernel))|(refine Xak _ rfl (fun h=>?_) (fun h=>?_)<;>((try (simp only [whn] at h));first|(exfalso;omega;done)|skip))|((first|apply Xad rfl|apply XbO rfl);(case h=>(first|(apply Xab 0 rfl;(first|exact Xap _ rfl|exact Xan _ rfl))|(apply Xab 3 rfl;(exact XaX _ _ _ _ _ _ HEl.out rfl rfl))|(apply Xab 5 rfl;(exact Xal _ _ _ _ _ _ rfl rfl Xa5.out))|(apply Xab 6 rfl;(first|exact XaF _ _ _ _ _ rfl rfl XaN.out (by first|exact Xvu rfl|fail) (by first|exact Xvu rfl|fail)|exact Xaz _ _ _ _ _ _ _ _ rfl rfl XaS.out XaN.out (by first|exact Xvu rfl|fail) (by first|exact Xvu rfl|fail)))|(apply Xab 7 rfl;(exact XaG _ _ _ _ _ _ _ _ _ _ rfl rfl rfl HEl.out rfl (by first|omega|fail) (by simp;first|omega|fail)))|(apply Xab 12 rfl;(apply XaC;(case hs=>(intro _ _ h;cases h));(case hx=>rfl);(case hrun=>(intro w;simp [wtb,AV.val,go_sem];simp only [Xru,Bool.and_false,Bool.and_true,Bool.false_or];rfl))))|(apply XaC;(case hs=>(intro _ _ h;cases h));(case hx=>rfl);(case hrun=>(intro w;simp [wtb,AV.val,go_sem];(try go_bits);rfl)))));(case hT=>((try simp (disch:=first|assumption|omega) only [wtn,Xgn,Xvz,Xvw,Xvx,XvA,XvE,Nat.reduceAdd,Nat.reduceMul,Nat.reduceSub,↓reduceIte,Nat.reduceEqDiff]);rfl)))|fail))
  ·refine Xaf _ _ (Xbh rfl (RV.tmp _) (XaH.mk' [_,_] [] (Xvv _) (XaB.refl _ _) (by first|exact VwL.refl _ _|fail))) ?_
   exact ⟨by rw [show Xez a d=false from decide_eq_false (by rintro ⟨h1,h2,h3,h4,h5,h6,h7,h8,h9,h10,h11,h12,h13⟩;simp [h11] at h)];rfl,rfl⟩
  ·exact ⟨i+1,by omega,⟨by omega,by rw [Xa0 a.env i hlt,Xa0 d.env i (by omega),ht'.out];congr 2<;>first|exact eqw h|fail⟩,(XaH.mk' [] _ (Xvv _) (XaB.refl _ _) (by (repeat' (first|exact VwL.nil|(refine VwL.cons ?_ ?_)|exact Vw.refl _|exact Vw.top _|fail))))⟩
 ·have e1:a.env=d.env:=by rwa [List.take_of_length_le (by omega),List.take_of_length_le (by omega)] at ht
  have e1':=Lib.hid e1
  clear e1 ht
  (repeat' (first|with_reducible (first|refine Xag ?_|refine Xac ?_|refine Xao ?_|refine XaW ?_|refine Xae ?_|refine Xaa ?_|refine XaL ?_|refine XaJ ?_)|(refine Xak _ rfl (fun h=>?_) (fun h=>?_)<;>((try (simp only [whn] at h));first|(exfalso;omega;done)|skip))|((apply Xad rfl);(case h=>(first|(apply Xab 0 rfl;(first|exact Xap _ rfl|exact Xan _ rfl))|(apply Xab 3 rfl;(exact XaX _ _ _ _ _ _ HEl.out rfl rfl))|(apply Xab 5 rfl;(exact Xal _ _ _ _ _ _ rfl rfl Xa5.out))|(apply Xab 6 rfl;(exact Xaz _ _ _ _ _ _ _ _ rfl rfl XaS.out XaN.out (by first|exact Xvu rfl|fail) (by first|exact Xvu rfl|fail)))|(apply XaC;(case hs=>(intro _ _ h;cases h));(case hx=>rfl);(case hrun=>(intro w;simp [wtb,AV.val,go_sem];skip;rfl)))));(case hT=>((try simp only [wtn]);rfl)))|fail))
  apply XaQ (S:=Nat) (fun q=>frm 155 [(2,.x (.pointer (some ⟨ab,0,none⟩))),(3,.x (.pointer (some ⟨b,0,none⟩))),(6,.x (.int .i64 q))]) (fun _=>[.box b [.x (.string (bs d.name)),.x (.string (bs d.run)),.sq d.env.length (ea d.env),.sq d.needs.length (sa d.needs),.x (.bool d.hasr),.x (.string (bs d.ready)),.x (.int .i64 d.restart),.x (.int .u64 d.base),.x (.int .u64 d.cap),.x (.int .u64 d.stable),.x (.int .i64 d.burst),.x (.int .u64 d.window),.sq d.ladder.length (ra d.ladder),.x (.int .i64 d.line),.x (.int .i64 d.col)],.box ab [.x (.string (bs a.name)),.x (.string (bs a.run)),.sq a.env.length (ea a.env),.sq a.needs.length (sa a.needs),.x (.bool a.hasr),.x (.string (bs a.ready)),.x (.int .i64 a.restart),.x (.int .u64 a.base),.x (.int .u64 a.cap),.x (.int .u64 a.stable),.x (.int .i64 a.burst),.x (.int .u64 a.window),.sq a.ladder.length (ra a.ladder),.x (.int .i64 a.line),.x (.int .i64 a.col)]]) (fun q=>q≤a.needs.length∧a.needs.take q=d.needs.take q) (fun q=>a.needs.length - q) 0
  case h0=>exact (XaH.mk' [] _ (Xvv _) (XaB.refl _ _) (by (repeat' (first|exact VwL.nil|(refine VwL.cons ?_ ?_)|exact Vw.refl _|exact Vw.top _|fail))))
  case hi=>exact ⟨Nat.zero_le _,by simp⟩
  rintro i ⟨hi,ht⟩
  simp only [frm,XvC,XvD,Xvw,Xvx,XvJ,XvK]
  by_cases hlt:i < a.needs.length
  ·have ht':=Lib.hid ht
   clear ht
   (repeat' (first|with_reducible (first|refine Xag ?_|refine Xac ?_|refine Xao ?_|refine Xar ?_|refine Xau ?_|refine Xae ?_|refine Xch ?_|refine Xaa ?_|refine Xax ?_|refine Xaj ?_|refine Xav ?_)|(with_reducible refine Xbe mixed ?_ ?_;(decide +kernel))|(refine Xak _ rfl (fun h=>?_) (fun h=>?_)<;>((try (simp only [whn] at h));first|(exfalso;omega;done)|skip))|((first|apply Xad rfl|apply XbO rfl);(case h=>(first|(apply Xab 0 rfl;(first|exact Xap _ rfl|exact Xan _ rfl))|(apply Xab 3 rfl;(exact XaX _ _ _ _ _ _ HEl.out rfl rfl))|(apply Xab 5 rfl;(exact Xal _ _ _ _ _ _ rfl rfl Xa5.out))|(apply Xab 6 rfl;(first|exact XaF _ _ _ _ _ rfl rfl XaN.out (by first|exact Xvu rfl|fail) (by first|exact Xvu rfl|fail)|exact Xaz _ _ _ _ _ _ _ _ rfl rfl XaS.out XaN.out (by first|exact Xvu rfl|fail) (by first|exact Xvu rfl|fail)))|(apply Xab 7 rfl;(exact XaG _ _ _ _ _ _ _ _ _ _ rfl rfl rfl HEl.out rfl (by first|omega|fail) (by simp;first|omega|fail)))|(apply XaC;(case hs=>(intro _ _ h;cases h));(case hx=>rfl);(case hrun=>(intro w;simp [wtb,AV.val,go_sem];(try go_bits);rfl)))));(case hT=>((try simp (disch:=first|assumption|omega) only [wtn,XdF,Xvz,Xvw,Xvx,XvA,XvE,Nat.reduceAdd,Nat.reduceMul,Nat.reduceSub,↓reduceIte,Nat.reduceEqDiff]);rfl)))|fail))
   ·refine Xaf _ _ (Xbh rfl (RV.tmp _) (XaH.mk' [_,_] [] (Xvv _) (XaB.refl _ _) (by first|exact VwL.refl _ _|fail))) ?_
    exact ⟨by rw [show Xez a d=false from decide_eq_false (by rintro ⟨h1,h2,h3,h4,h5,h6,h7,h8,h9,h10,h11,h12,h13⟩;simp [h12] at h)];rfl,rfl⟩
   ·exact ⟨i+1,by omega,⟨by omega,by rw [Xa0 a.needs i hlt,Xa0 d.needs i (by omega),ht'.out];congr 2<;>first|assumption|fail⟩,(XaH.mk' [] _ (Xvv _) (XaB.refl _ _) (by (repeat' (first|exact VwL.nil|(refine VwL.cons ?_ ?_)|exact Vw.refl _|exact Vw.top _|fail))))⟩
  ·have e2:a.needs=d.needs:=by rwa [List.take_of_length_le (by omega),List.take_of_length_le (by omega)] at ht
   have e2':=Lib.hid e2
   clear e2 ht
   (repeat' (first|with_reducible (first|refine Xag ?_|refine Xac ?_|refine Xao ?_|refine XaW ?_|refine Xae ?_|refine Xaa ?_|refine XaL ?_|refine XaJ ?_)|(refine Xak _ rfl (fun h=>?_) (fun h=>?_)<;>((try (simp only [whn] at h));first|(exfalso;omega;done)|skip))|((apply Xad rfl);(case h=>(first|(apply Xab 0 rfl;(first|exact Xap _ rfl|exact Xan _ rfl))|(apply Xab 3 rfl;(exact XaX _ _ _ _ _ _ HEl.out rfl rfl))|(apply Xab 5 rfl;(exact Xal _ _ _ _ _ _ rfl rfl Xa5.out))|(apply Xab 6 rfl;(exact Xaz _ _ _ _ _ _ _ _ rfl rfl XaS.out XaN.out (by first|exact Xvu rfl|fail) (by first|exact Xvu rfl|fail)))|(apply XaC;(case hs=>(intro _ _ h;cases h));(case hx=>rfl);(case hrun=>(intro w;simp [wtb,AV.val,go_sem];skip;rfl)))));(case hT=>((try simp only [wtn]);rfl)))|fail))
   apply XaQ (S:=Nat) (fun q=>frm 155 [(2,.x (.pointer (some ⟨ab,0,none⟩))),(3,.x (.pointer (some ⟨b,0,none⟩))),(7,.x (.int .i64 q))]) (fun _=>[.box b [.x (.string (bs d.name)),.x (.string (bs d.run)),.sq d.env.length (ea d.env),.sq d.needs.length (sa d.needs),.x (.bool d.hasr),.x (.string (bs d.ready)),.x (.int .i64 d.restart),.x (.int .u64 d.base),.x (.int .u64 d.cap),.x (.int .u64 d.stable),.x (.int .i64 d.burst),.x (.int .u64 d.window),.sq d.ladder.length (ra d.ladder),.x (.int .i64 d.line),.x (.int .i64 d.col)],.box ab [.x (.string (bs a.name)),.x (.string (bs a.run)),.sq a.env.length (ea a.env),.sq a.needs.length (sa a.needs),.x (.bool a.hasr),.x (.string (bs a.ready)),.x (.int .i64 a.restart),.x (.int .u64 a.base),.x (.int .u64 a.cap),.x (.int .u64 a.stable),.x (.int .i64 a.burst),.x (.int .u64 a.window),.sq a.ladder.length (ra a.ladder),.x (.int .i64 a.line),.x (.int .i64 a.col)]]) (fun q=>q≤a.ladder.length∧a.ladder.take q=d.ladder.take q) (fun q=>a.ladder.length - q) 0
   case h0=>exact (XaH.mk' [] _ (Xvv _) (XaB.refl _ _) (by (repeat' (first|exact VwL.nil|(refine VwL.cons ?_ ?_)|exact Vw.refl _|exact Vw.top _|fail))))
   case hi=>exact ⟨Nat.zero_le _,by simp⟩
   rintro i ⟨hi,ht⟩
   simp only [frm,XvC,XvD,Xvw,Xvx,XvJ,XvK]
   by_cases hlt:i < a.ladder.length
   ·have ht':=Lib.hid ht
    clear ht
    (repeat' (first|with_reducible (first|refine Xag ?_|refine Xac ?_|refine Xao ?_|refine Xar ?_|refine Xau ?_|refine Xae ?_|refine Xch ?_|refine Xaa ?_|refine Xax ?_|refine Xaj ?_|refine Xav ?_)|(with_reducible refine Xbe mixed ?_ ?_;(decide +kernel))|(refine Xak _ rfl (fun h=>?_) (fun h=>?_)<;>((try (simp only [whn] at h));first|(exfalso;omega;done)|skip))|((first|apply Xad rfl|apply XbO rfl);(case h=>(first|(apply Xab 0 rfl;(first|exact Xap _ rfl|exact Xan _ rfl))|(apply Xab 3 rfl;(exact XaX _ _ _ _ _ _ HEl.out rfl rfl))|(apply Xab 5 rfl;(exact Xal _ _ _ _ _ _ rfl rfl Xa5.out))|(apply Xab 6 rfl;(first|exact XaF _ _ _ _ _ rfl rfl XaN.out (by first|exact Xvu rfl|fail) (by first|exact Xvu rfl|fail)|exact Xaz _ _ _ _ _ _ _ _ rfl rfl XaS.out XaN.out (by first|exact Xvu rfl|fail) (by first|exact Xvu rfl|fail)))|(apply Xab 7 rfl;(exact XaG _ _ _ _ _ _ _ _ _ _ rfl rfl rfl HEl.out rfl (by first|omega|fail) (by simp;first|omega|fail)))|(apply Xab 12 rfl;(apply XaC;(case hs=>(intro _ _ h;cases h));(case hx=>rfl);(case hrun=>(intro w;simp [wtb,AV.val,go_sem];simp only [Xru,Bool.and_false,Bool.and_true,Bool.false_or];rfl))))|(apply XaC;(case hs=>(intro _ _ h;cases h));(case hx=>rfl);(case hrun=>(intro w;simp [wtb,AV.val,go_sem];(try go_bits);rfl)))));(case hT=>((try simp (disch:=first|assumption|omega) only [wtn,XoX,Xvz,Xvw,Xvx,XvA,XvE,Nat.reduceAdd,Nat.reduceMul,Nat.reduceSub,↓reduceIte,Nat.reduceEqDiff]);rfl)))|fail))
    ·refine Xaf _ _ (Xbh rfl (RV.tmp _) (XaH.mk' [_,_] [] (Xvv _) (XaB.refl _ _) (by first|exact VwL.refl _ _|fail))) ?_
     exact ⟨by rw [show Xez a d=false from decide_eq_false (by rintro ⟨h1,h2,h3,h4,h5,h6,h7,h8,h9,h10,h11,h12,h13⟩;simp [h13] at h)];rfl,rfl⟩
    ·exact ⟨i+1,by omega,⟨by omega,by rw [Xa0 a.ladder i hlt,Xa0 d.ladder i (by omega),ht'.out];congr 2<;>first|exact eqw h|fail⟩,(XaH.mk' [] _ (Xvv _) (XaB.refl _ _) (by (repeat' (first|exact VwL.nil|(refine VwL.cons ?_ ?_)|exact Vw.refl _|exact Vw.top _|fail))))⟩
   ·have e3:a.ladder=d.ladder:=by rwa [List.take_of_length_le (by omega),List.take_of_length_le (by omega)] at ht
    have e3':=Lib.hid e3
    clear e3 ht
    (repeat' (first|with_reducible (first|refine Xag ?_|refine Xac ?_|refine Xar ?_|refine XaW ?_|refine Xae ?_|refine Xaa ?_|refine XaL ?_|refine XaJ ?_)|(refine Xak _ rfl (fun h=>?_) (fun h=>?_)<;>((try (simp only [whn] at h));first|(exfalso;omega;done)|skip))|((apply Xad rfl);(case h=>(first|(apply Xab 0 rfl;(first|exact Xap _ rfl|exact Xan _ rfl))|(apply Xab 3 rfl;(exact XaX _ _ _ _ _ _ HEl.out rfl rfl))|(apply Xab 5 rfl;(exact Xal _ _ _ _ _ _ rfl rfl Xa5.out))|(apply Xab 6 rfl;(exact Xaz _ _ _ _ _ _ _ _ rfl rfl XaS.out XaN.out (by first|exact Xvu rfl|fail) (by first|exact Xvu rfl|fail)))|(apply XaC;(case hs=>(intro _ _ h;cases h));(case hx=>rfl);(case hrun=>(intro w;simp [wtb,AV.val,go_sem];skip;rfl)))));(case hT=>((try simp only [wtn]);rfl)))|fail))
    refine Xaf _ _ (Xbh rfl (RV.tmp _) (XaH.mk' [_,_] [] (Xvv _) (XaB.refl _ _) (by first|exact VwL.refl _ _|fail))) ?_
    have h0:=h0'.out
    obtain ⟨⟨⟨⟨⟨⟨⟨⟨⟨h1,h2⟩,h3⟩,h4⟩,h5⟩,h6⟩,h7⟩,h8⟩,h9⟩,h10⟩:=h0
    exact ⟨by rw [show Xez a d=true from decide_eq_true ⟨h1,h2,h3,h4,h5,h6,h7,h8,h9,h10,e1'.out,e2'.out,e3'.out⟩];rfl,rfl⟩
def sameJs (a b:List JF):Bool:=decide (a.length=b.length) && (a.zip b).all fun p=>Xez p.1 p.2
def JBs (l:List JF):Prop:=l.length≤1000000∧∀j∈l,j.env.length≤1000000∧j.needs.length≤1000000∧j.ladder.length≤1000000
theorem XkO {a b:List JF} {k:Nat} (ha:k < a.length) (hb:k < b.length) (h:(((a.take k).zip (b.take k)).all fun p=>Xez p.1 p.2)=true) (h2:Xez a[k] b[k]=true):(((a.take (k+1)).zip (b.take (k+1))).all fun p=>Xez p.1 p.2)=true:=by
 rw [Xa0 a k ha,Xa0 b k hb,List.zip_append (by simp;omega)]
 simp only [List.all_append,h,Bool.true_and]
 simp [h2]
theorem Xo7 {a b:List JF} {k:Nat} (ha:k < a.length) (hb:k < b.length) (h2:Xez a[k] b[k]=false):sameJs a b=false:=by
 unfold sameJs
 rw [Bool.and_eq_false_iff];right
 rw [List.all_eq_false]
 refine ⟨(a[k],b[k]),List.mem_iff_getElem.2 ⟨k,by simp;omega,by simp⟩,by simp [h2]⟩
theorem XqV (a b:List JF) (ha:JBs a):Xa3 Tryz.prog 47 [] [.sq a.length (jfa a),.sq b.length (jfa b)] (fun r H'=>r=.x (.bool (sameJs a b))∧H'=[]):=by
 obtain ⟨ha1,ha2⟩:=ha
 have ha2':=Lib.hid ha2
 clear ha2
 refine XaD Tryz.func47 rfl ?_
 simp only [Tryz.ntmps47,Xvy,XvB,XvC,XvD,XvG,XvF,Nat.reduceAdd,Nat.reduceSub]
 (repeat' (first|with_reducible (first|refine Xag ?_|refine Xac ?_|refine Xao ?_|refine Xar ?_|refine Xau ?_|refine Xae ?_|refine Xaa ?_|refine Xax ?_)|(refine Xak _ rfl (fun h=>?_) (fun h=>?_)<;>((try (simp only [whn] at h));skip))|((apply Xad rfl);(case h=>(first|(apply Xab 0 rfl;(first|exact Xap _ rfl|exact Xan _ rfl))|(apply Xab 3 rfl;(exact XaX _ _ _ _ _ _ HEl.out rfl rfl))|(apply XaC;(case hs=>(intro _ _ h;cases h));(case hx=>rfl);(case hrun=>(intro w;simp [wtb,AV.val,go_sem];skip;rfl)))));(case hT=>((try simp only [wtn]);rfl)))|fail))
 ·refine Xaf _ _ (Xbh rfl (RV.tmp _) (XaH.mk' [] [] (Xvv _) (XaB.refl _ _) (by first|exact VwL.refl _ _|fail))) ?_
  exact ⟨by rw [show sameJs a b=false by unfold sameJs;rw [decide_eq_false (by omega)];rfl];rfl,rfl⟩
 have hlen:a.length=b.length:=by omega
 apply XaQ (S:=Nat) (fun q=>frm 27 [(0,.sq a.length (jfa a)),(1,.sq b.length (jfa b)),(5,.x (.int .i64 q))]) (fun _=>[]) (fun q=>q≤a.length∧(((a.take q).zip (b.take q)).all fun p=>Xez p.1 p.2)=true) (fun q=>a.length - q) 0
 case h0=>exact (XaH.mk' [] _ (Xvv _) (XaB.refl _ _) (by (repeat' (first|exact VwL.nil|(refine VwL.cons ?_ ?_)|exact Vw.refl _|exact Vw.top _|fail))))
 case hi=>exact ⟨Nat.zero_le _,by simp⟩
 rintro i ⟨hi,ht⟩
 have ht':=Lib.hid ht
 clear ht
 simp only [frm,XvC,XvD,Xvw,Xvx,XvJ,XvK]
 by_cases hlt:i < a.length
 ·have hlt2:i < b.length:=by omega
  (repeat' (first|with_reducible (first|refine Xag ?_|refine Xac ?_|refine Xao ?_|refine Xar ?_|refine Xau ?_|refine Xae ?_|refine Xch ?_|refine Xaa ?_|refine Xax ?_|refine Xaj ?_|refine Xav ?_)|(with_reducible refine Xbe mixed ?_ ?_;(decide +kernel))|(refine Xak _ rfl (fun h=>?_) (fun h=>?_)<;>((try (simp only [whn] at h));first|(exfalso;omega;done)|skip))|((first|apply Xad rfl|apply XbO rfl);(case h=>(first|(apply Xab 0 rfl;(first|exact Xap _ rfl|exact Xan _ rfl))|(apply Xab 3 rfl;(exact XaX _ _ _ _ _ _ HEl.out rfl rfl))|(apply Xab 6 rfl;(exact XaF _ _ _ _ _ rfl rfl XaN.out (by first|exact Xvu rfl|fail) (by first|exact Xvu rfl|fail)))|(apply Xab 7 rfl;(exact XaG _ _ _ _ _ _ _ _ _ _ rfl rfl rfl HEl.out rfl (by first|omega|fail) (by simp;first|omega|fail)))|(apply Xab 11 rfl;(exact Xay 81 Tryz.f81 _ _ rfl rfl Tryz.func81 (by decide) rfl (VwL.refl _ _) (XsY a[i] b[i] (ha2'.out _ (List.getElem_mem hlt)))))|(apply XaC;(case hs=>(intro _ _ h;cases h));(case hx=>rfl);(case hrun=>(intro w;simp [wtb,AV.val,go_sem];(try go_bits);rfl)))));(case hT=>((try simp (disch:=assumption) only [wtn,XeZ,Xvz,Xvw,Xvx,XvA,XvE,Nat.reduceAdd,Nat.reduceMul,Nat.reduceSub,↓reduceIte,Nat.reduceEqDiff]);rfl)))|fail))
  ·refine Xaf _ _ (Xbh rfl (RV.tmp _) (XaH.mk' [] [] (Xvv _) (XaB.refl _ _) (by first|exact VwL.refl _ _|fail))) ?_
   exact ⟨by rw [Xo7 hlt hlt2 (by assumption)];rfl,rfl⟩
  ·exact ⟨i+1,by omega,⟨by omega,XkO hlt hlt2 ht'.out (by assumption)⟩,(XaH.mk' [] _ (Xvv _) (XaB.refl _ _) (by (repeat' (first|exact VwL.nil|(refine VwL.cons ?_ ?_)|exact Vw.refl _|exact Vw.top _|fail))))⟩
 ·(repeat' (first|with_reducible (first|refine Xag ?_|refine Xac ?_|refine Xar ?_|refine XaW ?_|refine Xae ?_|refine Xaa ?_|refine XaL ?_|refine XaJ ?_)|(refine Xak _ rfl (fun h=>?_) (fun h=>?_)<;>((try (simp only [whn] at h));first|(exfalso;omega;done)|skip))|((apply Xad rfl);(case h=>(first|(apply Xab 0 rfl;(first|exact Xap _ rfl|exact Xan _ rfl))|(apply Xab 3 rfl;(exact XaX _ _ _ _ _ _ HEl.out rfl rfl))|(apply XaC;(case hs=>(intro _ _ h;cases h));(case hx=>rfl);(case hrun=>(intro w;simp [wtb,AV.val,go_sem];skip;rfl)))));(case hT=>((try simp only [wtn]);rfl)))|fail))
  refine Xaf _ _ (Xbh rfl (RV.tmp _) (XaH.mk' [] [] (Xvv _) (XaB.refl _ _) (by first|exact VwL.refl _ _|fail))) ?_
  have ht:=ht'.out
  rw [List.take_of_length_le (by omega),List.take_of_length_le (by omega)] at ht
  exact ⟨by rw [show sameJs a b=true by unfold sameJs;rw [decide_eq_true hlen,ht];rfl];rfl,rfl⟩
theorem XmP (a b:List JF) (ha:JBs a):Xa3 Tryz.prog 21 [] [.sq a.length (jfa a),.sq b.length (jfa b)] (fun r H'=>r=.x (.bool (sameJs a b))∧H'=[]):=by
 refine XaD Tryz.func21 rfl ?_
 simp only [Tryz.ntmps21,Xvy,XvB,XvC,XvD,XvG,XvF,Nat.reduceAdd,Nat.reduceSub]
 (repeat' (first|with_reducible (first|refine Xag ?_|refine Xac ?_|refine Xar ?_|refine Xae ?_|refine Xaa ?_)|((apply Xad rfl);(case h=>(first|(apply Xab 0 rfl;(first|exact Xap _ rfl|exact Xan _ rfl))|(apply Xab 11 rfl;(exact Xay 47 Tryz.f47 _ _ rfl rfl Tryz.func47 (by decide) rfl (VwL.refl _ _) (XqV a b ha)))));(case hT=>((try simp only [wtn]);rfl)))|fail))
 refine Xaf _ _ (Xbh rfl (RV.tmp _) (XaH.mk' [] [] (Xvv _) (XaB.refl _ _) (by first|exact VwL.refl _ _|fail))) ?_
 exact ⟨rfl,rfl⟩
def Got {α:Type} (ts:List Tok) (s:PS) (x:Except Flt (α × Nat)) (s':PS) (v:α):Prop:=
 s'.k < ts.length∧s.k≤s'.k∧(s.e≠0→s'=s)∧(s.e=0→match x with
  | .ok p=>v=p.1∧s'=⟨p.2,0,s.l,s.c⟩
  | .error f=>f.code≠0∧s'.e=f.code∧s'.l=f.line∧s'.c=f.col)
theorem Got.bind {α β:Type} {ts:List Tok} {s s1 s2:PS} {x:Except Flt (α × Nat)} {y:α→Nat→Except Flt (β × Nat)} {a:α} {b:β} (h1:Got ts s x s1 a) (h2:Got ts s1 (y a s1.k) s2 b):Got ts s (x >>= fun p=>y p.1 p.2) s2 b:=by
 obtain ⟨_,hq1,h1n,h1z⟩:=h1
 obtain ⟨hk,hq2,h2n,h2z⟩:=h2
 refine ⟨hk,Nat.le_trans hq1 hq2,fun h=>?_,fun h=>?_⟩
 ·have e:=h1n h
  subst e
  exact h2n h
 ·have h1':=h1z h
  cases x with
  | ok p=>
    obtain ⟨e1,e2⟩:=h1'
    subst e1 e2
    exact h2z rfl
  | error f=>
    obtain ⟨g1,g2,g3,g4⟩:=h1'
    have e:=h2n (by rw [g2];exact g1)
    subst e
    exact ⟨g1,g2,g3,g4⟩
theorem Got.of {α:Type} {ts:List Tok} {s s':PS} {x y:Except Flt (α × Nat)} {v:α} (h:Got ts s x s' v) (e:y=x):Got ts s y s' v:=e▸h
theorem Got.val {α β:Type} {ts:List Tok} {s s':PS} {x:Except Flt (α × Nat)} {v:α} (f:α→β) (h:Got ts s x s' v):Got ts s (x.map fun p=>(f p.1,p.2)) s' (f v):=by
 obtain ⟨hk,hq,hn,hz⟩:=h
 refine ⟨hk,hq,hn,fun e=>?_⟩
 have h':=hz e
 cases x with
 | ok p=>exact ⟨by rw [h'.1],h'.2⟩
 | error g=>exact h'
theorem Got.any {α:Type} {ts:List Tok} {s s':PS} {x:Except Flt (α × Nat)} {v w:α} (h:Got ts s x s' v) (hb:s'.e≠0):Got ts s x s' w:=by
 obtain ⟨hk,hq,hn,hz⟩:=h
 refine ⟨hk,hq,hn,fun e=>?_⟩
 have h':=hz e
 cases x with
 | ok p=>exfalso;rw [h'.2] at hb;exact hb rfl
 | error g=>exact h'
theorem Got.pure {α:Type} {ts:List Tok} {s:PS} (hk:s.k < ts.length) (v:α):Got ts s (.ok (v,s.k)) s v:=⟨hk,Nat.le_refl _,fun _=>rfl,fun e=>⟨rfl,by cases s;simp only at e;subst e;rfl⟩⟩
theorem Got.test {α:Type} {ts:List Tok} {s:PS} (hk:s.k < ts.length) (e2:Int) (h2:e2≠0) (t:Tok) (v:α):Got ts s (.error (flt e2 t)) (s.fail e2 t) v:=by
 refine ⟨by simp only [PS.fail];split<;>exact hk,by simp only [PS.fail];split<;>exact Nat.le_refl _,fun e=>by simp only [PS.fail,if_neg e],fun e=>?_⟩
 simp only [PS.fail,if_pos e]
 exact ⟨h2,rfl,rfl,rfl⟩
theorem Got.bad {α:Type} {ts:List Tok} {s:PS} (hk:s.k < ts.length) (hb:s.e≠0) (x:Except Flt (α × Nat)) (v:α):Got ts s x s v:=⟨hk,Nat.le_refl _,fun _=>rfl,fun e=>absurd e hb⟩
theorem Got.lt {α:Type} {ts:List Tok} {s s':PS} {x:Except Flt (α × Nat)} {v:α} (h:Got ts s x s' v):s'.k < ts.length:=h.1
theorem Got.ok {α:Type} {ts:List Tok} {s s':PS} {x:Except Flt (α × Nat)} {v:α} (h:Got ts s x s' v) (hz:s'.e=0):s.e=0∧x=.ok (v,s'.k)∧s'.l=s.l∧s'.c=s.c:=by
 obtain ⟨hk,-,hn,hz'⟩:=h
 by_cases e:s.e=0
 ·have h':=hz' e
  cases x with
  | ok p=>obtain ⟨h1,h2⟩:=h';subst h1 h2;exact ⟨e,rfl,rfl,rfl⟩
  | error g=>exact absurd (h'.2.1▸hz) h'.1
 ·exact absurd ((hn e)▸hz) e
theorem Xip {α:Type} {ts:List Tok} {s:PS} (x:Except Flt α) (n:Nat) (v:α) (hk:s.k < ts.length) (ho:∀a,s.e=0→x=.ok a→a=v∧s.k+n < ts.length) (he:∀f,x=.error f→f.code≠0):Got ts s (x.map fun a=>(a,s.k+n)) (s.upon x n) v:=by
 cases x with
 | ok a=>
   refine ⟨?_,by simp only [PS.upon,PS.on];split<;>simp,fun e=>by simp only [PS.upon,PS.on,if_neg e],fun e=>?_⟩
   ·simp only [PS.upon,PS.on]
    split
    ·exact (ho a (by assumption) rfl).2
    ·exact hk
   ·refine ⟨(ho a e rfl).1.symm,?_⟩
    simp only [PS.upon,PS.on,if_pos e]
 | error f=>
   refine ⟨?_,by simp only [PS.upon,PS.flt];split<;>simp,fun e=>by simp only [PS.upon,PS.flt,if_neg e],fun e=>⟨he f rfl,?_⟩⟩
   ·simp only [PS.upon,PS.flt]
    split<;>exact hk
   ·simp only [PS.upon,PS.flt,if_pos e]
    exact ⟨trivial,trivial,trivial⟩
theorem Xlf {ts:List Tok} {k:Nat} {kind:Int} {most:Nat} {t:Tok} (h:Xbf ts k kind most=.ok t):t=tkA ts k∧t.kind=kind∧t.text.length≤most:=by
 unfold Xbf at h
 split at h
 ·cases h
 ·split at h
  ·cases h
  ·cases h
   refine ⟨rfl,?_,by omega⟩
   rename_i h1 _
   exact Decidable.not_not.mp h1
theorem Xi2 {ts:List Tok} {k:Nat} {kind:Int} {most:Nat} {f:Flt} (h:Xbf ts k kind most=.error f):f.code≠0:=by
 unfold Xbf at h
 split at h
 ·cases h;simp only [flt];decide
 ·split at h
  ·cases h;simp only [flt];decide
  ·cases h
theorem Xqb {ts:List Tok} {k:Nat} {s:List UInt8} {u:Unit} (h:Xb5 ts k s=.ok u):(tkA ts k).kind=5:=by
 unfold Xb5 at h
 split at h
 ·rename_i h1
  simp only [gIs,Bool.and_eq_true,beq_iff_eq] at h1
  exact h1.1
 ·cases h
theorem Xof {ts:List Tok} {k:Nat} {s:List UInt8} {f:Flt} (h:Xb5 ts k s=.error f):f.code≠0:=by
 unfold Xb5 at h
 split at h
 ·cases h
 ·cases h;simp only [flt];decide
theorem Xpl (b:Nat) (ts:List Tok) (s:PS) (sv:AV) (hsv:sv.one=true) (kind:Int) (most:Nat) (hk:s.k < ts.length) (hl:ts.length≤1000000) (hv:VT ts) (hkd:kind≠6) :
  Xa3 Tryz.prog 203 [.box b (s.cells ts sv)] [.x (.pointer (some ⟨b,0,none⟩)),.x (.int .i64 kind),.x (.int .i64 most)] (fun r H'=>∃s',r=(tkA ts s.k).av∧H'=[.box b (PS.cells s' ts sv)]∧Got ts s ((Xbf ts s.k kind most).map fun t=>(t,s.k+1)) s' (tkA ts s.k)):=by
 refine (XrC b ts s sv hsv kind most hk hl).mono fun r H' ⟨h1,h2⟩=>⟨_,h1,h2,Xip _ 1 _ hk (fun a _ h=>?_) (fun f h=>Xi2 h)⟩
 have g:=Xlf h
 refine ⟨g.1,hv s.k hk ?_⟩
 rw [←Xbm hk,←g.1,g.2.1]
 exact hkd
theorem Xul (b:Nat) (ts:List Tok) (s:PS) (sv:AV) (hsv:sv.one=true) (t:List UInt8) (hk:s.k < ts.length) (hl:ts.length≤1000000) (hv:VT ts) :
  Xa3 Tryz.prog 204 [.box b (s.cells ts sv)] [.x (.pointer (some ⟨b,0,none⟩)),.x (.string (bs t))] (fun r H'=>∃s',r=.x (.tuple #[])∧H'=[.box b (PS.cells s' ts sv)]∧Got ts s ((Xb5 ts s.k t).map fun u=>(u,s.k+1)) s' ()):=by
 refine (Xum b ts s sv hsv t hk hl).mono fun r H' ⟨h1,h2⟩=>⟨_,h1,h2,Xip _ 1 _ hk (fun a _ h=>?_) (fun f h=>Xof h)⟩
 have g:=Xqb h
 refine ⟨rfl,hv s.k hk ?_⟩
 rw [←Xbm hk,g]
 decide
theorem Xqy (b:Nat) (ts:List Tok) (s:PS) (sv:AV) (hsv:sv.one=true) (hk:s.k < ts.length) (hl:ts.length≤1000000) (hv:VT ts) (hN:XeI ts) :
  Xa3 Tryz.prog 212 [.box b (s.cells ts sv)] [.x (.pointer (some ⟨b,0,none⟩))] (fun r H'=>∃s' n,r=.x (.int .u64 n)∧H'=[.box b (PS.cells s' ts sv)]∧Got ts s ((Xc1 ts s.k).map fun n=>(n,s.k+1)) s' n):=by
 refine (Xqz b ts s sv hsv hk hl hN).mono fun r H' ⟨h1,h2⟩=>⟨_,_,h1,h2,?_⟩
 have g:Got ts s ((Xbf ts s.k 2 18).map fun t=>(t,s.k+1)) (s.upon (Xbf ts s.k 2 18) 1) (tkA ts s.k):=Xip _ 1 _ hk (fun a _ h=>by
  have g:=Xlf h
  refine ⟨g.1,hv s.k hk ?_⟩
  rw [←Xbm hk,←g.1,g.2.1]
  decide) (fun f h=>Xi2 h)
 have g2:=(g.val fun t=>Xdm t.text).of (y:=(Xc1 ts s.k).map fun n=>(n,s.k+1)) (by
  unfold Xc1
  rw [Xsm hN hk]
  cases Xbf ts s.k 2 18<;>rfl)
 split
 ·exact g2
 ·exact g2.any (by assumption)
def Xjm (t:Tok):Except Flt Int:=if t.text=[97,108,119,97,121,115] then .ok 3 else if t.text=[111,110,45,102,97,105,108,117,114,101] then .ok 2 else if t.text=[110,101,118,101,114] then .ok 1 else .error (flt 60 t)
theorem Xoe (ts:List Tok) (k:Nat):(Xix ts k).map (fun n=>(n,k+1))=((Xbf ts k 1 8192).map fun t=>(t,k+1)) >>= fun p=>(Xjm p.1).map fun n=>(n,p.2):=by
 unfold Xix Xjm
 cases Xbf ts k 1 8192<;>rfl
theorem Xo1 (b:Nat) (ts:List Tok) (s:PS) (sv:AV) (hsv:sv.one=true) (hk:s.k < ts.length) (hl:ts.length≤1000000) (hv:VT ts) :
  Xa3 Tryz.prog 211 [.box b (s.cells ts sv)] [.x (.pointer (some ⟨b,0,none⟩))] (fun r H'=>∃s' n,r=.x (.int .i64 n)∧H'=[.box b (PS.cells s' ts sv)]∧Got ts s ((Xix ts s.k).map fun n=>(n,s.k+1)) s' n):=by
 have hT:=Xpl b ts s sv hsv 1 8192 hk hl hv (by decide)
 obtain ⟨k,e,l,c⟩:=s
 simp only [Xbm hk] at hT
 refine XaD Tryz.func211 rfl ?_
 simp only [Tryz.ntmps211,Xvy,XvB,XvC,XvD,XvG,XvF,Nat.reduceAdd,Nat.reduceSub]
 (repeat' (first|with_reducible (first|refine Xag ?_|refine Xac ?_|refine Xao ?_|refine Xar ?_|refine Xau ?_|refine Xae ?_|refine Xaa ?_|refine Xax ?_|refine Xaj ?_|refine Xav ?_)|(refine Xak _ rfl (fun h=>?_) (fun h=>?_)<;>((try (simp only [whn] at h));skip))|((apply Xad rfl);(case h=>(first|(apply Xab 0 rfl;(first|exact Xap _ rfl|exact Xan _ rfl))|(apply Xab 5 rfl;(exact Xal _ _ _ _ _ _ rfl rfl Xa5.out))|(apply Xab 6 rfl;(exact Xaz _ _ _ _ _ _ _ _ rfl rfl XaS.out XaN.out (by first|exact Xvu rfl|fail) (by first|exact Xvu rfl|fail)))|(apply Xab 11 rfl;(exact Xa9 189 Tryz.f189 _ _ rfl rfl Tryz.func189 (by decide) rfl (by (repeat' (first|exact VwL.nil|(refine VwL.cons ?_ ?_)|exact Vw.box (List.Mem.tail _ (List.Mem.head _)) (VwL.refl _ _)|fail));done) (Xca ts _ _ _ _ sv)))|(apply XaC;(case hs=>(intro _ _ h;cases h));(case hx=>rfl);(case hrun=>(intro w;simp [wtb,AV.val,go_sem];skip;rfl)))));(case hT=>((try simp (disch:=omega) only [wtn,pc,PS.cells,Tok.av,Xvz,Xvw,Xvx,XvA,XvE,Nat.reduceAdd,Nat.reduceMul,Nat.reduceSub,↓reduceIte,Nat.reduceEqDiff]);rfl)))|(refine Xai rfl ?_;((first|(refine Xas 11 rfl ?_;(first|(refine Xam 203 Tryz.f203 [_] _ _ _ rfl rfl Tryz.func203 (by decide) rfl (Xvv _) (VwL.refl _ _) (hT) ?_;rintro _ _ ⟨⟨k1,e1,l1,c1⟩,rfl,rfl,g1⟩)|(refine Xam 202 Tryz.f202 [_] _ _ _ rfl rfl Tryz.func202 (by decide) rfl (XvI (l₁:=[_])) (VwL.refl _ _) (Xgr _ ts ⟨k1,_,_,_⟩ sv hsv _ ts[k]) ?_;rintro _ _ ⟨rfl,rfl⟩)))|(refine Xas 14 rfl ?_;(refine XaK _ _ rfl Xbk.out rfl (fun b=>?_)))|(refine Xas 16 rfl ?_;(refine Xaw _ _ _ _ _ _ _ rfl rfl XaS.out XaR.out (by first|rfl|fail) (by first|exact Xvu rfl|fail) ?_)));apply Xah;(case hT=>((try simp (disch:=omega) only [wtn,pc,PS.cells,Tok.av,Xvz,Xvw,Xvx,XvA,XvE,Nat.reduceAdd,Nat.reduceMul,Nat.reduceSub,↓reduceIte,Nat.reduceEqDiff]);rfl));(case hH=>((try simp (disch:=omega) only [wtn,pc,PS.cells,Tok.av,Xvz,Xvw,Xvx,XvA,XvE,Nat.reduceAdd,Nat.reduceMul,Nat.reduceSub,↓reduceIte,Nat.reduceEqDiff]);rfl))))|fail))
 all_goals first
  | (refine Xaf _ _ (Xbh rfl (RV.tmp _) (XaH.mk' [_] [_] (Xvv _) (XaB.refl _ _) (VwL.refl _ _))) ?_;refine ⟨⟨k1,e1,l1,c1⟩,_,rfl,rfl,(Got.bind (y:=fun t q=>(Xjm t).map fun n=>(n,q)) g1 ?_).of (Xoe ts k)⟩)
  | (refine Xaf _ _ (Xbh rfl (RV.tmp _) (XaH.mk' [_] [_] (XvI (l₁:=[_]) (l₂:=[])) (XaB.refl _ _) (VwL.refl _ _))) ?_;refine ⟨PS.fail ⟨k1,e1,l1,c1⟩ 60 ts[k],_,rfl,rfl,(Got.bind (y:=fun t q=>(Xjm t).map fun n=>(n,q)) g1 ?_).of (Xoe ts k)⟩)
 ·exact Got.bad g1.1 (by assumption) _ _
 ·exact (Got.pure g1.1 3).of (by simp only [Xjm,if_pos h];rfl)
 ·exact (Got.pure g1.1 2).of (by simp only [Xjm,h];rfl)
 ·exact (Got.pure g1.1 1).of (by simp only [Xjm,h];rfl)
 ·exact (Got.test g1.1 60 (by decide) ts[k] 0).of (by simp only [Xjm];rw [if_neg (by assumption),if_neg (by assumption),if_neg (by assumption)];rfl)
end Go.Proofs.YtdpobjakdplljaaGreatDoor

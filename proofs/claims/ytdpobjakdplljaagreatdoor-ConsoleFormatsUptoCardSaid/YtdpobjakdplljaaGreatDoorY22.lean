import Derived.Test.YtdpobjakdplljaaGreatDoorY18
import Derived.Test.YtdpobjakdplljaaGreatDoorY21
/- The reference's printer: a job's lines, exactly. -/
set_option linter.unusedSimpArgs false
set_option linter.unusedVariables false
set_option maxRecDepth 100000
set_option maxHeartbeats 8000000
namespace Go.Proofs.YtdpobjakdplljaaGreatDoor
open Go.RowKit
theorem Xhr (l:List (List UInt8)) (i:Nat) (h:i < l.length):XfL (l.take (i+1))=XfL (l.take i)++if i=0 then [32,32,110,101,101,100,115,32]++l[i] else [44,32]++l[i]:=by
 rw [Xa0 l i h]
 cases i with
 | zero=>simp [XfL]
 | succ i=>
   rw [if_neg (by omega)]
   cases l with
   | nil=>simp at h
   | cons x r=>simp only [List.take_succ_cons,XvG,XfL,List.flatMap_append,List.flatMap_cons,List.flatMap_nil,List.append_nil,Xd0,List.getElem_cons_succ,List.append_assoc]
theorem Xi8 (l:List (Int × Int)) (i:Nat) (h:i < l.length):Xi7 (l.take (i+1))=Xi7 (l.take i)++if i=0 then Xcy l[i] else [44]++Xcy l[i]:=by
 rw [Xa0 l i h]
 cases i with
 | zero=>simp [Xi7]
 | succ i=>
   rw [if_neg (by omega)]
   cases l with
   | nil=>simp at h
   | cons x r=>simp only [List.take_succ_cons,XvG,Xi7,List.flatMap_append,List.flatMap_cons,List.flatMap_nil,List.append_nil,Xdk,List.getElem_cons_succ,List.append_assoc,XvF]
theorem XoD (l:List (List UInt8)):XdN l=if 0 < l.length then XfL l++[10] else []:=by
 unfold XdN
 cases l with
 | nil=>rfl
 | cons x r=>rw [if_neg (by simp),if_pos (by simp)]
theorem Xsp (j:JF) (hj:XfA j):Xa3 Tryz.prog 186 [] [.agg j.cells] (fun r H'=>r=.x (.string (bs (Xe0 j)))∧H'=[]∧(Xe0 j).length≤900):=by
 obtain ⟨j1,j2,j3,j4,j5,j6,j7,j8,j9,j10,j11,j12,j13,j14⟩:=hj
 have j4':=Lib.hid j4
 have j6':=Lib.hid j6
 have j9':=Lib.hid j9
 clear j4 j6 j9
 have q1:=XcI j.run
 have q2:=Xfv j.ready
 have q3:=Xew j.restart
 have q4:=XdM j.base j10.2
 have q5:=XdM j.cap j11.2
 have q6:=XdM j.stable j12.2
 have q7:=XdM j.window j13.2
 have qb:U64 (if 0 < j.burst then j.burst else 0):=by unfold U64;have:=j14.1;have:=j14.2;split<;>omega
 have q8:=XdM _ qb.2
 unfold JF.cells
 refine XaD Tryz.func186 rfl ?_
 simp only [Tryz.ntmps186,Xvy,XvB,XvC,XvD,XvG,XvF,Nat.reduceAdd,Nat.reduceSub]
 (repeat' (first|with_reducible (first|refine Xag ?_|refine Xac ?_|refine Xao ?_|refine Xae ?_|refine Xch ?_|refine Xaa ?_)|(with_reducible refine Xbe mixed ?_ ?_;(decide +kernel))|((first|apply Xad rfl|apply XbO rfl);(case h=>(first|(apply Xab 0 rfl;(exact Xan _ rfl))|(apply Xab 5 rfl;(exact Xal _ _ _ _ _ _ rfl rfl Xa5.out))|(apply Xab 6 rfl;(exact Xaz _ _ _ _ _ _ _ _ rfl rfl XaS.out XaN.out (by first|exact Xvu rfl|fail) (by first|exact Xvu rfl|fail)))|(apply Xab 11 rfl;(exact Xay 69 Tryz.f69 _ _ rfl rfl Tryz.func69 (by decide) rfl (VwL.refl _ _) (XkH j.run (by omega))))|(apply Xab 12 rfl;(exact Xbv _ _ _ _ rfl rfl rfl (by simp;omega)))));(case hT=>((try simp only [wtn]);rfl)))|(refine Xai rfl ?_;((refine Xas 15 rfl ?_;(refine Xbo _ _ rfl (by first|rfl|fail) (fun b=>?_)));apply Xah;(case hT=>((try simp only [wtn]);rfl));(case hH=>((try simp only [wtn]);rfl))))|fail))
 apply XaQ (S:=Nat × List UInt8) (fun q=>frm 143 [(1,.x (.pointer (some ⟨b,0,none⟩))),(3,.x (.string (bs q.2))),(4,.x (.int .i64 q.1))]) (fun _=>[.box b [.x (.string (bs j.name)),.x (.string (bs j.run)),.sq j.env.length (ea j.env),.sq j.needs.length (sa j.needs),.x (.bool j.hasr),.x (.string (bs j.ready)),.x (.int .i64 j.restart),.x (.int .u64 j.base),.x (.int .u64 j.cap),.x (.int .u64 j.stable),.x (.int .i64 j.burst),.x (.int .u64 j.window),.sq j.ladder.length (ra j.ladder),.x (.int .i64 j.line),.x (.int .i64 j.col)]]) (fun q=>q.1≤j.env.length∧q.2.length≤100+60*q.1∧q.2=Xgs j++Xmg (j.env.take q.1)) (fun q=>j.env.length - q.1) (0,_)
 case h0=>exact (XaH.mk' [] _ (Xvv _) (XaB.refl _ _) (by (repeat' (first|exact VwL.nil|(refine VwL.cons ?_ ?_)|exact Vw.refl _|exact Vw.top _|fail))))
 case hi=>exact ⟨Nat.zero_le _,by simp;omega,by simp [Xgs,Xmg]⟩
 rintro ⟨i,s⟩ ⟨hi,hs,he⟩
 simp only at hi hs he
 have he':=Lib.hid he
 clear he
 simp only [frm,XvC,XvD,Xvw,Xvx,XvJ,XvK]
 by_cases hlt:i < j.env.length
 ·have hp:=j4'.out j.env[i] (List.getElem_mem hlt)
  have hp2:=XcI j.env[i].2
  (repeat' (first|with_reducible (first|refine Xag ?_|refine Xac ?_|refine Xao ?_|refine Xau ?_|refine Xae ?_|refine Xch ?_|refine Xaa ?_|refine Xaj ?_)|(with_reducible refine Xbe mixed ?_ ?_;(decide +kernel))|(refine Xak _ rfl (fun h=>?_) (fun h=>?_)<;>((try (simp only [whn] at h));first|(exfalso;omega;done)|skip))|((first|apply Xad rfl|apply XbO rfl);(case h=>(first|(apply Xab 0 rfl;(first|exact Xap _ rfl|exact Xan _ rfl))|(apply Xab 3 rfl;(exact XaX _ _ _ _ _ _ HEl.out rfl rfl))|(apply Xab 5 rfl;(first|exact Xal _ _ _ _ _ _ rfl rfl Xa5.out|exact XbV _ _ _ _ _ rfl rfl Xa5.out))|(apply Xab 6 rfl;(first|exact XaF _ _ _ _ _ rfl rfl XaN.out (by first|exact Xvu rfl|fail) (by first|exact Xvu rfl|fail)|exact Xaz _ _ _ _ _ _ _ _ rfl rfl XaS.out XaN.out (by first|exact Xvu rfl|fail) (by first|exact Xvu rfl|fail)))|(apply Xab 7 rfl;(exact XaG _ _ _ _ _ _ _ _ _ _ rfl rfl rfl HEl.out rfl (by first|omega|fail) (by simp;first|omega|fail)))|(apply Xab 11 rfl;(exact Xay 69 Tryz.f69 _ _ rfl rfl Tryz.func69 (by decide) rfl (VwL.refl _ _) (XkH _ (by omega))))|(apply Xab 12 rfl;(exact Xbv _ _ _ _ rfl rfl rfl (by simp;omega)))|(apply XaC;(case hs=>(intro _ _ h;cases h));(case hx=>rfl);(case hrun=>(intro w;simp [wtb,AV.val,go_sem];(try go_bits);rfl)))));(case hT=>((try simp (disch:=assumption) only [wtn,Xgn,Xvz,Xvw,Xvx,XvA,XvE,Nat.reduceAdd,Nat.reduceMul,Nat.reduceSub,↓reduceIte,Nat.reduceEqDiff]);rfl)))|fail))
  exact ⟨(i+1,s++[32,32,101,110,118,32]++j.env[i].1++[32,61,32]++XcE j.env[i].2++[10]),by simp only;omega,⟨by simp only;omega,by simp;omega,by simp only;rw [he'.out,Xa0 _ i hlt];simp only [Xmg,List.flatMap_append,List.flatMap_cons,List.flatMap_nil,List.append_nil,XnR,List.append_assoc,XvG,XvF]⟩,(XaH.mk' [] _ (Xvv _) (XaB.refl _ _) (by (repeat' (first|exact VwL.nil|(refine VwL.cons ?_ ?_)|exact Vw.refl _|exact Vw.top _|fail))))⟩
 ·(repeat' (first|with_reducible (first|refine Xag ?_|refine Xac ?_|refine Xao ?_|refine XaW ?_|refine Xae ?_|refine Xaa ?_|refine XaL ?_|refine XaJ ?_)|(refine Xak _ rfl (fun h=>?_) (fun h=>?_)<;>((try (simp only [whn] at h));first|(exfalso;omega;done)|skip))|((apply Xad rfl);(case h=>(first|(apply Xab 0 rfl;(first|exact Xap _ rfl|exact Xan _ rfl))|(apply Xab 3 rfl;(exact XaX _ _ _ _ _ _ HEl.out rfl rfl))|(apply Xab 5 rfl;(exact Xal _ _ _ _ _ _ rfl rfl Xa5.out))|(apply Xab 6 rfl;(exact Xaz _ _ _ _ _ _ _ _ rfl rfl XaS.out XaN.out (by first|exact Xvu rfl|fail) (by first|exact Xvu rfl|fail)))|(apply XaC;(case hs=>(intro _ _ h;cases h));(case hx=>rfl);(case hrun=>(intro w;simp [wtb,AV.val,go_sem];skip;rfl)))));(case hT=>((try simp only [wtn]);rfl)))|fail))
  apply XaQ (S:=Nat × List UInt8) (fun q=>frm 143 [(1,.x (.pointer (some ⟨b,0,none⟩))),(3,.x (.string (bs q.2))),(5,.x (.int .i64 q.1))]) (fun _=>[.box b [.x (.string (bs j.name)),.x (.string (bs j.run)),.sq j.env.length (ea j.env),.sq j.needs.length (sa j.needs),.x (.bool j.hasr),.x (.string (bs j.ready)),.x (.int .i64 j.restart),.x (.int .u64 j.base),.x (.int .u64 j.cap),.x (.int .u64 j.stable),.x (.int .i64 j.burst),.x (.int .u64 j.window),.sq j.ladder.length (ra j.ladder),.x (.int .i64 j.line),.x (.int .i64 j.col)]]) (fun q=>q.1≤j.needs.length∧q.2.length≤220+20*q.1∧q.2=Xgs j++Xmg j.env++XfL (j.needs.take q.1)) (fun q=>j.needs.length - q.1) (0,_)
  case h0=>exact (XaH.mk' [] _ (Xvv _) (XaB.refl _ _) (by (repeat' (first|exact VwL.nil|(refine VwL.cons ?_ ?_)|exact Vw.refl _|exact Vw.top _|fail))))
  case hi=>exact ⟨Nat.zero_le _,by simp only;omega,by simp only;rw [he'.out,List.take_of_length_le (by omega)];simp [XfL]⟩
  clear hi hs he'
  rintro ⟨i,s⟩ ⟨hi,hs,he⟩
  simp only at hi hs he
  have he':=Lib.hid he
  clear he
  simp only [frm,XvC,XvD,Xvw,Xvx,XvJ,XvK]
  by_cases hlt2:i < j.needs.length
  ·have hp:=j6'.out j.needs[i] (List.getElem_mem hlt2)
   (repeat' (first|with_reducible (first|refine Xag ?_|refine Xac ?_|refine Xao ?_|refine Xau ?_|refine Xae ?_|refine Xaa ?_|refine Xaj ?_)|(refine Xak _ rfl (fun h=>?_) (fun h=>?_)<;>((try (simp only [whn] at h));first|(exfalso;omega;done)|skip))|((apply Xad rfl);(case h=>(first|(apply Xab 0 rfl;(first|exact Xap _ rfl|exact Xan _ rfl))|(apply Xab 3 rfl;(exact XaX _ _ _ _ _ _ HEl.out rfl rfl))|(apply Xab 5 rfl;(exact Xal _ _ _ _ _ _ rfl rfl Xa5.out))|(apply Xab 6 rfl;(first|exact XaF _ _ _ _ _ rfl rfl XaN.out (by first|exact Xvu rfl|fail) (by first|exact Xvu rfl|fail)|exact Xaz _ _ _ _ _ _ _ _ rfl rfl XaS.out XaN.out (by first|exact Xvu rfl|fail) (by first|exact Xvu rfl|fail)))|(apply Xab 7 rfl;(exact XaG _ _ _ _ _ _ _ _ _ _ rfl rfl rfl HEl.out rfl (by first|omega|fail) (by simp;first|omega|fail)))|(apply Xab 12 rfl;(exact Xbv _ _ _ _ rfl rfl rfl (by simp;omega)))|(apply XaC;(case hs=>(intro _ _ h;cases h));(case hx=>rfl);(case hrun=>(intro w;simp [wtb,AV.val,go_sem];(try go_bits);rfl)))));(case hT=>((try simp (disch:=assumption) only [wtn,XdF,Xvz,Xvw,Xvx,XvA,XvE,Nat.reduceAdd,Nat.reduceMul,Nat.reduceSub,↓reduceIte,Nat.reduceEqDiff]);rfl)))|fail))
   ·exact ⟨(i+1,s++[32,32,110,101,101,100,115,32]++j.needs[i]),by simp only;omega,⟨by simp only;omega,by simp;omega,by simp only;rw [he'.out,Xhr j.needs i hlt2];(first|rw [if_pos (by omega)]|fail);simp only [List.append_assoc]⟩,(XaH.mk' [] _ (Xvv _) (XaB.refl _ _) (by (repeat' (first|exact VwL.nil|(refine VwL.cons ?_ ?_)|exact Vw.refl _|exact Vw.top _|fail))))⟩
   ·exact ⟨(i+1,s++[44,32]++j.needs[i]),by simp only;omega,⟨by simp only;omega,by simp;omega,by simp only;rw [he'.out,Xhr j.needs i hlt2];(first|rw [if_neg (by omega)]|fail);simp only [List.append_assoc]⟩,(XaH.mk' [] _ (Xvv _) (XaB.refl _ _) (by (repeat' (first|exact VwL.nil|(refine VwL.cons ?_ ?_)|exact Vw.refl _|exact Vw.top _|fail))))⟩
  ·(repeat' (first|with_reducible (first|refine Xag ?_|refine Xac ?_|refine Xao ?_|refine Xau ?_|refine XaW ?_|refine Xae ?_|refine Xch ?_|refine Xaa ?_|refine XaL ?_|refine XaJ ?_)|(with_reducible refine Xbe mixed ?_ ?_;(decide +kernel))|(refine Xak _ rfl (fun h=>?_) (fun h=>?_)<;>((try (simp only [whn] at h));first|(exfalso;omega;done)|skip))|((first|apply Xad rfl|apply XbO rfl);(case h=>(first|(apply Xab 0 rfl;(first|exact Xap _ rfl|exact Xan _ rfl))|(apply Xab 3 rfl;(exact XaX _ _ _ _ _ _ HEl.out rfl rfl))|(apply Xab 5 rfl;(exact Xal _ _ _ _ _ _ rfl rfl Xa5.out))|(apply Xab 6 rfl;(exact Xaz _ _ _ _ _ _ _ _ rfl rfl XaS.out XaN.out (by first|exact Xvu rfl|fail) (by first|exact Xvu rfl|fail)))|(apply Xab 11 rfl;(first|exact Xay 197 Tryz.f197 _ _ rfl rfl Tryz.func197 (by decide) rfl (VwL.refl _ _) (XkT j.ready (by omega))|exact Xay 198 Tryz.f198 _ _ rfl rfl Tryz.func198 (by decide) rfl (VwL.refl _ _) (XqL _)|exact Xay 199 Tryz.f199 _ _ rfl rfl Tryz.func199 (by decide) rfl (VwL.refl _ _) (XiU _ (by first|exact j10.1|exact j11.1|exact j12.1|exact j13.1|exact qb.1|fail) (by first|exact j10.2|exact j11.2|exact j12.2|exact j13.2|exact qb.2|fail))))|(apply Xab 12 rfl;(exact Xbv _ _ _ _ rfl rfl rfl (by simp;omega)))|(apply XaC;(case hs=>(intro _ _ h;cases h));(case hx=>rfl);(case hrun=>(intro w;simp [wtb,AV.val,go_sem];(try go_bits);rfl)))));(case hT=>((try simp only [wtn]);rfl)))|fail))
   all_goals
    apply XaQ (S:=Nat × List UInt8) (fun q=>frm 143 [(1,.x (.pointer (some ⟨b,0,none⟩))),(3,.x (.string (bs q.2))),(6,.x (.int .i64 q.1))]) (fun _=>[.box b [.x (.string (bs j.name)),.x (.string (bs j.run)),.sq j.env.length (ea j.env),.sq j.needs.length (sa j.needs),.x (.bool j.hasr),.x (.string (bs j.ready)),.x (.int .i64 j.restart),.x (.int .u64 j.base),.x (.int .u64 j.cap),.x (.int .u64 j.stable),.x (.int .i64 j.burst),.x (.int .u64 j.window),.sq j.ladder.length (ra j.ladder),.x (.int .i64 j.line),.x (.int .i64 j.col)]]) (fun q=>q.1≤j.ladder.length∧q.2.length≤660+40*q.1∧q.2=Xgs j++Xmg j.env++XdN j.needs++Xd1 j++Xii j++Xi7 (j.ladder.take q.1)) (fun q=>j.ladder.length - q.1) (0,_)
    case h0=>exact (XaH.mk' [] _ (Xvv _) (XaB.refl _ _) (by (repeat' (first|exact VwL.nil|(refine VwL.cons ?_ ?_)|exact Vw.refl _|exact Vw.top _|fail))))
    case hi=>
     refine ⟨Nat.zero_le _,by simp;omega,?_⟩
     have hz:=he'.out
     rw [List.take_of_length_le (by omega)] at hz
     simp only
     rw [hz,XoD,List.take_zero]
     first
      | rw [if_pos (show 0 < j.needs.length by omega)]
      | rw [if_neg (show ¬0 < j.needs.length by omega),show XfL j.needs=[] by rw [List.length_eq_zero_iff.1 (show j.needs.length=0 by omega)];rfl]
     first
      | (have hr:j.hasr=true:=by assumption
         simp only [Xd1,hr,if_true])
      | (have hr:j.hasr=false:=by first|assumption|fail
         simp only [Xd1,hr,Bool.false_eq_true,if_false])
     simp only [Xii,Xi7,List.append_nil,List.append_assoc,XvG,XvF]
    clear hi hs he'
    rintro ⟨i,s⟩ ⟨hi,hs,he⟩
    simp only at hi hs he
    have he':=Lib.hid he
    clear he
    simp only [frm,XvC,XvD,Xvw,Xvx,XvJ,XvK]
    by_cases hlt3:i < j.ladder.length
    ·have hp:=j9'.out j.ladder[i] (List.getElem_mem hlt3)
     have hp2:=Xik j.ladder[i].1
     have hp3:=XdM j.ladder[i].2 hp.2
     (repeat' (first|with_reducible (first|refine Xag ?_|refine Xac ?_|refine Xao ?_|refine Xau ?_|refine Xae ?_|refine Xch ?_|refine Xaa ?_|refine Xaj ?_)|(with_reducible refine Xbe mixed ?_ ?_;(decide +kernel))|(refine Xak _ rfl (fun h=>?_) (fun h=>?_)<;>((try (simp only [whn] at h));first|(exfalso;omega;done)|skip))|((first|apply Xad rfl|apply XbO rfl);(case h=>(first|(apply Xab 0 rfl;(first|exact Xap _ rfl|exact Xan _ rfl))|(apply Xab 3 rfl;(exact XaX _ _ _ _ _ _ HEl.out rfl rfl))|(apply Xab 5 rfl;(first|exact Xal _ _ _ _ _ _ rfl rfl Xa5.out|exact XbV _ _ _ _ _ rfl rfl Xa5.out))|(apply Xab 6 rfl;(first|exact XaF _ _ _ _ _ rfl rfl XaN.out (by first|exact Xvu rfl|fail) (by first|exact Xvu rfl|fail)|exact Xaz _ _ _ _ _ _ _ _ rfl rfl XaS.out XaN.out (by first|exact Xvu rfl|fail) (by first|exact Xvu rfl|fail)))|(apply Xab 7 rfl;(exact XaG _ _ _ _ _ _ _ _ _ _ rfl rfl rfl HEl.out rfl (by first|omega|fail) (by simp;first|omega|fail)))|(apply Xab 11 rfl;(first|exact Xay 200 Tryz.f200 _ _ rfl rfl Tryz.func200 (by decide) rfl (VwL.refl _ _) (Xpc _)|exact Xay 199 Tryz.f199 _ _ rfl rfl Tryz.func199 (by decide) rfl (VwL.refl _ _) (XiU _ hp.1 hp.2)))|(apply Xab 12 rfl;(exact Xbv _ _ _ _ rfl rfl rfl (by simp;omega)))|(apply XaC;(case hs=>(intro _ _ h;cases h));(case hx=>rfl);(case hrun=>(intro w;simp [wtb,AV.val,go_sem];(try go_bits);rfl)))));(case hT=>((try simp (disch:=assumption) only [wtn,XoX,Xvz,Xvw,Xvx,XvA,XvE,Nat.reduceAdd,Nat.reduceMul,Nat.reduceSub,↓reduceIte,Nat.reduceEqDiff]);rfl)))|fail))
     ·exact ⟨(i+1,s++[44]++[32]++Xg5 j.ladder[i].1++[32]++XbJ j.ladder[i].2.toNat),by simp only;omega,⟨by simp only;omega,by simp;omega,by simp only;rw [he'.out,Xi8 j.ladder i hlt3];(first|rw [if_neg (by omega)]|fail);simp only [Xcy,List.append_assoc]⟩,(XaH.mk' [] _ (Xvv _) (XaB.refl _ _) (by (repeat' (first|exact VwL.nil|(refine VwL.cons ?_ ?_)|exact Vw.refl _|exact Vw.top _|fail))))⟩
     ·exact ⟨(i+1,s++[32]++Xg5 j.ladder[i].1++[32]++XbJ j.ladder[i].2.toNat),by simp only;omega,⟨by simp only;omega,by simp;omega,by simp only;rw [he'.out,Xi8 j.ladder i hlt3];(first|rw [if_pos (by omega)]|fail);simp only [Xcy,List.append_assoc]⟩,(XaH.mk' [] _ (Xvv _) (XaB.refl _ _) (by (repeat' (first|exact VwL.nil|(refine VwL.cons ?_ ?_)|exact Vw.refl _|exact Vw.top _|fail))))⟩
    ·(repeat' (first|with_reducible (first|refine Xag ?_|refine Xac ?_|refine Xar ?_|refine XaW ?_|refine Xae ?_|refine Xaa ?_|refine XaL ?_|refine XaJ ?_)|(refine Xak _ rfl (fun h=>?_) (fun h=>?_)<;>((try (simp only [whn] at h));first|(exfalso;omega;done)|skip))|((apply Xad rfl);(case h=>(first|(apply Xab 0 rfl;(first|exact Xap _ rfl|exact Xan _ rfl))|(apply Xab 3 rfl;(exact XaX _ _ _ _ _ _ HEl.out rfl rfl))|(apply Xab 5 rfl;(exact Xal _ _ _ _ _ _ rfl rfl Xa5.out))|(apply Xab 6 rfl;(exact Xaz _ _ _ _ _ _ _ _ rfl rfl XaS.out XaN.out (by first|exact Xvu rfl|fail) (by first|exact Xvu rfl|fail)))|(apply Xab 12 rfl;(exact Xbv _ _ _ _ rfl rfl rfl (by simp;omega)))|(apply XaC;(case hs=>(intro _ _ h;cases h));(case hx=>rfl);(case hrun=>(intro w;simp [wtb,AV.val,go_sem];skip;rfl)))));(case hT=>((try simp only [wtn]);rfl)))|fail))
     refine Xaf _ _ (Xbh rfl (RV.tmp _) (XaH.mk' [_] [] (Xvv _) (XaB.refl _ _) (by first|exact VwL.refl _ _|fail))) ?_
     have e:s++[10,125,10]=Xe0 j:=by rw [he'.out,List.take_of_length_le (by omega)];rfl
     exact ⟨by rw [←e];rfl,rfl,by rw [←e];simp;omega⟩
theorem Xgy:∀s∈Xcp,Xct s∧s.length≤32:=by
 intro s hs
 simp only [Xcp,List.mem_cons,List.not_mem_nil,or_false] at hs
 rcases hs with rfl|rfl|rfl|rfl<;>exact ⟨XbD (by decide),by decide⟩
theorem Xjh:Xcp.Nodup:=by decide
theorem XsP:∀s∈XmX,XhH s∧s.length≤128:=by
 intro s hs
 simp only [XmX,List.mem_cons,List.not_mem_nil,or_false] at hs
 rcases hs with rfl|rfl|rfl|rfl|rfl|rfl|rfl<;>refine ⟨?_,by decide⟩<;>simp [XhH]
theorem JM.good {j:JF} (h:JM j):XgW j:=by
 obtain ⟨i,hi,h⟩:=h
 obtain ⟨hS,h1,h2,⟨v,hv,h3⟩,h4,h5,h6,h7,h8,h9,h10,h11,h12,h13⟩:=h
 have hsub:∀s∈j.needs,s∈Xcp:=fun s hs=>List.mem_of_mem_take (h4.subset hs)
 refine ⟨?_,?_,?_,?_,?_,?_,?_,?_,?_,h6,⟨h7.1,by omega⟩,⟨h8.1,by omega⟩,⟨h9.1,by omega⟩,⟨h11.1,by omega⟩,⟨h10.1,by omega⟩,⟨h12.1,by omega⟩,?_⟩
 ·rw [h1];exact Xgy _ (XeX Xcp [] i hi)
 ·have:=hS.run;omega
 ·have:=hS.env;omega
 ·intro p hp
  rw [h3] at hp
  have:=List.mem_of_mem_take hp
  simp only [XnS,List.mem_cons,List.not_mem_nil,or_false] at this
  rcases this with rfl|rfl<;>exact ⟨XbD (by decide),by decide,by decide⟩
 ·rw [h3,List.map_take]
  exact (show (XnS.map (·.1)).Nodup by decide).sublist (List.take_sublist _ _)
 ·have:=hS.needs;omega
 ·exact fun s hs=>Xgy s (hsub s hs)
 ·exact (Xjh.sublist (List.take_sublist _ _)).sublist h4
 ·rcases h5 with ⟨a,b⟩|⟨a,b⟩
  ·exact .inl ⟨a,XsP _ b⟩
  ·exact .inr ⟨a,b⟩
 ·intro p hp
  obtain ⟨a,b,c⟩:=h13 p hp
  simp only [Xtr,List.mem_cons,List.not_mem_nil,or_false] at a
  exact ⟨by omega,b,by omega⟩
theorem JM.toks {j:JF} (h:JM j):(Xg2 j).length≤60:=by
 obtain ⟨i,hi,h⟩:=h
 have h1:=h.small.env
 have h2:=h.small.needs
 have h3:=h.ladder.2
 have a1:(Xmf j.env).length=4*j.env.length:=by
  unfold Xmf
  induction j.env with
  | nil=>rfl
  | cons p l ih=>simp only [List.flatMap_cons,XvH,ih,Xvy];simp [XnQ];omega
 have a2:(Xeu j.needs).length≤2*j.needs.length:=by
  cases j.needs with
  | nil=>simp [Xeu]
  | cons x r=>simp only [Xeu,Xvy,Xhq];omega
 have a3:(Xdx j).length≤2:=by unfold Xdx;split<;>simp
 have a4:(XmW j.ladder).length≤3*j.ladder.length:=by
  cases j.ladder with
  | nil=>simp [XmW]
  | cons x r=>simp only [XmW,Xjy,Xvy,XvH,XvB,Xhx];omega
 simp only [Xg2,Xi3,Xjr,XvH,Xvy,XvB];omega
theorem XjF:∀l:List JF,(∀j∈l,JM j)→(l.flatMap Xg2).length≤60*l.length
 | [],_=>Nat.le_refl _
 | j :: l,h=>by
   have:=XjF l fun x hx=>h x (by simp [hx])
   have:=(h j (by simp)).toks
   rw [List.flatMap_cons,XvH,Xvy];omega
end Go.Proofs.YtdpobjakdplljaaGreatDoor

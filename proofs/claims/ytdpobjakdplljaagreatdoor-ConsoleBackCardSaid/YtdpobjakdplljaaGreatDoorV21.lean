import Derived.Test.YtdpobjakdplljaaGreatDoorV17
import Derived.Test.YtdpobjakdplljaaGreatDoorV20
/- The reference's printer: a job's lines, exactly. -/
set_option linter.unusedSimpArgs false
set_option linter.unusedVariables false
set_option maxRecDepth 100000
set_option maxHeartbeats 8000000
namespace Go.Proofs.YtdpobjakdplljaaGreatDoor
open Go.RowKit
theorem Xhm (l:List (List UInt8)) (i:Nat) (h:i < l.length):XfO (l.take (i+1))=XfO (l.take i)++if i=0 then [32,32,110,101,101,100,115,32]++l[i] else [44,32]++l[i]:=by
 rw [XaX l i h]
 cases i with
 | zero=>simp [XfO]
 | succ i=>
   rw [if_neg (by omega)]
   cases l with
   | nil=>simp at h
   | cons x r=>simp only [List.take_succ_cons,Xvg,XfO,List.flatMap_append,List.flatMap_cons,List.flatMap_nil,List.append_nil,XdX,List.getElem_cons_succ,List.append_assoc]
theorem Xi4 (l:List (Int × Int)) (i:Nat) (h:i < l.length):Xi3 (l.take (i+1))=Xi3 (l.take i)++if i=0 then Xcw l[i] else [44]++Xcw l[i]:=by
 rw [XaX l i h]
 cases i with
 | zero=>simp [Xi3]
 | succ i=>
   rw [if_neg (by omega)]
   cases l with
   | nil=>simp at h
   | cons x r=>simp only [List.take_succ_cons,Xvg,Xi3,List.flatMap_append,List.flatMap_cons,List.flatMap_nil,List.append_nil,Xdg,List.getElem_cons_succ,List.append_assoc,Xvf]
theorem Xoz (l:List (List UInt8)):XdL l=if 0 < l.length then XfO l++[10] else []:=by
 unfold XdL
 cases l with
 | nil=>rfl
 | cons x r=>rw [if_neg (by simp),if_pos (by simp)]
theorem XrZ (j:JF) (hj:XfC j):Xa8 Tryz.prog 186 [] [.agg j.cells] (fun r H'=>r=.x (.string (bs (Xe1 j)))∧H'=[]∧(Xe1 j).length≤900):=by
 obtain ⟨j1,j2,j3,j4,j5,j6,j7,j8,j9,j10,j11,j12,j13,j14⟩:=hj
 have j4':=Lib.hid j4
 have j6':=Lib.hid j6
 have j9':=Lib.hid j9
 clear j4 j6 j9
 have q1:=XcG j.run
 have q2:=Xfx j.ready
 have q3:=Xey j.restart
 have q4:=XdK j.base j10.2
 have q5:=XdK j.cap j11.2
 have q6:=XdK j.stable j12.2
 have q7:=XdK j.window j13.2
 have qb:U64 (if 0 < j.burst then j.burst else 0):=by unfold U64;have:=j14.1;have:=j14.2;split<;>omega
 have q8:=XdK _ qb.2
 unfold JF.cells
 refine XaE Tryz.func186 rfl ?_
 simp only [Tryz.ntmps186,Xu8,Xvb,Xvc,Xvd,Xvg,Xvf,Nat.reduceAdd,Nat.reduceSub]
 (repeat' (first|with_reducible (first|refine Xai ?_|refine Xac ?_|refine Xat ?_|refine Xae ?_|refine Xcd ?_|refine Xaa ?_)|(with_reducible refine Xbc mixed ?_ ?_;(decide +kernel))|((first|apply Xad rfl|apply XbG rfl);(case h=>(first|(apply Xab 0 rfl;(exact Xap _ rfl))|(apply Xab 5 rfl;(exact Xam _ _ _ _ _ _ rfl rfl Xa3.out))|(apply Xab 6 rfl;(exact Xaz _ _ _ _ _ _ _ _ rfl rfl XaU.out XaM.out (by first|exact Xu4 rfl|fail) (by first|exact Xu4 rfl|fail)))|(apply Xab 11 rfl;(exact XaA 69 Tryz.f69 _ _ rfl rfl Tryz.func69 (by decide) rfl (VwL.refl _ _) (XoU j.run (by omega))))|(apply Xab 12 rfl;(exact Xck _ _ _ _ rfl rfl rfl (by simp;omega)))));(case hT=>((try simp only [wtn]);rfl)))|(refine Xah rfl ?_;((refine Xaq 15 rfl ?_;(refine Xbx _ _ rfl (by first|rfl|fail) (fun b=>?_)));apply Xag;(case hT=>((try simp only [wtn]);rfl));(case hH=>((try simp only [wtn]);rfl))))|fail))
 apply XaW (S:=Nat × List UInt8) (fun q=>frm 143 [(1,.x (.pointer (some ⟨b,0,none⟩))),(3,.x (.string (bs q.2))),(4,.x (.int .i64 q.1))]) (fun _=>[.box b [.x (.string (bs j.name)),.x (.string (bs j.run)),.sq j.env.length (ea j.env),.sq j.needs.length (sa j.needs),.x (.bool j.hasr),.x (.string (bs j.ready)),.x (.int .i64 j.restart),.x (.int .u64 j.base),.x (.int .u64 j.cap),.x (.int .u64 j.stable),.x (.int .i64 j.burst),.x (.int .u64 j.window),.sq j.ladder.length (ra j.ladder),.x (.int .i64 j.line),.x (.int .i64 j.col)]]) (fun q=>q.1≤j.env.length∧q.2.length≤100+60*q.1∧q.2=Xgs j++Xmd (j.env.take q.1)) (fun q=>j.env.length - q.1) (0,_)
 case h0=>exact (XaH.mk' [] _ (Xu5 _) (XaB.refl _ _) (by (repeat' (first|exact VwL.nil|(refine VwL.cons ?_ ?_)|exact Vw.refl _|exact Vw.top _|fail))))
 case hi=>exact ⟨Nat.zero_le _,by simp;omega,by simp [Xgs,Xmd]⟩
 rintro ⟨i,s⟩ ⟨hi,hs,he⟩
 simp only at hi hs he
 have he':=Lib.hid he
 clear he
 simp only [frm,Xvc,Xvd,Xu6,Xu7,Xvj,Xvk]
 by_cases hlt:i < j.env.length
 ·have hp:=j4'.out j.env[i] (List.getElem_mem hlt)
  have hp2:=XcG j.env[i].2
  (repeat' (first|with_reducible (first|refine Xai ?_|refine Xac ?_|refine Xat ?_|refine Xaw ?_|refine Xae ?_|refine Xcd ?_|refine Xaa ?_|refine Xaj ?_)|(with_reducible refine Xbc mixed ?_ ?_;(decide +kernel))|(refine Xal _ rfl (fun h=>?_) (fun h=>?_)<;>((try (simp only [whn] at h));first|(exfalso;omega;done)|skip))|((first|apply Xad rfl|apply XbG rfl);(case h=>(first|(apply Xab 0 rfl;(first|exact Xar _ rfl|exact Xap _ rfl))|(apply Xab 3 rfl;(exact Xa2 _ _ _ _ _ _ HEl.out rfl rfl))|(apply Xab 5 rfl;(first|exact Xam _ _ _ _ _ _ rfl rfl Xa3.out|exact XbY _ _ _ _ _ rfl rfl Xa3.out))|(apply Xab 6 rfl;(first|exact XaG _ _ _ _ _ rfl rfl XaM.out (by first|exact Xu4 rfl|fail) (by first|exact Xu4 rfl|fail)|exact Xaz _ _ _ _ _ _ _ _ rfl rfl XaU.out XaM.out (by first|exact Xu4 rfl|fail) (by first|exact Xu4 rfl|fail)))|(apply Xab 7 rfl;(exact XaI _ _ _ _ _ _ _ _ _ _ rfl rfl rfl HEl.out rfl (by first|omega|fail) (by simp;first|omega|fail)))|(apply Xab 11 rfl;(exact XaA 69 Tryz.f69 _ _ rfl rfl Tryz.func69 (by decide) rfl (VwL.refl _ _) (XoU _ (by omega))))|(apply Xab 12 rfl;(exact Xck _ _ _ _ rfl rfl rfl (by simp;omega)))|(apply XaD;(case hs=>(intro _ _ h;cases h));(case hx=>rfl);(case hrun=>(intro w;simp [wtb,AV.val,go_sem];(try go_bits);rfl)))));(case hT=>((try simp (disch:=assumption) only [wtn,Xgn,Xu9,Xu6,Xu7,Xva,Xve,Nat.reduceAdd,Nat.reduceMul,Nat.reduceSub,↓reduceIte,Nat.reduceEqDiff]);rfl)))|fail))
  exact ⟨(i+1,s++[32,32,101,110,118,32]++j.env[i].1++[32,61,32]++Xcq j.env[i].2++[10]),by simp only;omega,⟨by simp only;omega,by simp;omega,by simp only;rw [he'.out,XaX _ i hlt];simp only [Xmd,List.flatMap_append,List.flatMap_cons,List.flatMap_nil,List.append_nil,XnN,List.append_assoc,Xvg,Xvf]⟩,(XaH.mk' [] _ (Xu5 _) (XaB.refl _ _) (by (repeat' (first|exact VwL.nil|(refine VwL.cons ?_ ?_)|exact Vw.refl _|exact Vw.top _|fail))))⟩
 ·(repeat' (first|with_reducible (first|refine Xai ?_|refine Xac ?_|refine Xat ?_|refine Xa4 ?_|refine Xae ?_|refine Xaa ?_|refine XaN ?_|refine XaK ?_)|(refine Xal _ rfl (fun h=>?_) (fun h=>?_)<;>((try (simp only [whn] at h));first|(exfalso;omega;done)|skip))|((apply Xad rfl);(case h=>(first|(apply Xab 0 rfl;(first|exact Xar _ rfl|exact Xap _ rfl))|(apply Xab 3 rfl;(exact Xa2 _ _ _ _ _ _ HEl.out rfl rfl))|(apply Xab 5 rfl;(exact Xam _ _ _ _ _ _ rfl rfl Xa3.out))|(apply Xab 6 rfl;(exact Xaz _ _ _ _ _ _ _ _ rfl rfl XaU.out XaM.out (by first|exact Xu4 rfl|fail) (by first|exact Xu4 rfl|fail)))|(apply XaD;(case hs=>(intro _ _ h;cases h));(case hx=>rfl);(case hrun=>(intro w;simp [wtb,AV.val,go_sem];skip;rfl)))));(case hT=>((try simp only [wtn]);rfl)))|fail))
  apply XaW (S:=Nat × List UInt8) (fun q=>frm 143 [(1,.x (.pointer (some ⟨b,0,none⟩))),(3,.x (.string (bs q.2))),(5,.x (.int .i64 q.1))]) (fun _=>[.box b [.x (.string (bs j.name)),.x (.string (bs j.run)),.sq j.env.length (ea j.env),.sq j.needs.length (sa j.needs),.x (.bool j.hasr),.x (.string (bs j.ready)),.x (.int .i64 j.restart),.x (.int .u64 j.base),.x (.int .u64 j.cap),.x (.int .u64 j.stable),.x (.int .i64 j.burst),.x (.int .u64 j.window),.sq j.ladder.length (ra j.ladder),.x (.int .i64 j.line),.x (.int .i64 j.col)]]) (fun q=>q.1≤j.needs.length∧q.2.length≤220+20*q.1∧q.2=Xgs j++Xmd j.env++XfO (j.needs.take q.1)) (fun q=>j.needs.length - q.1) (0,_)
  case h0=>exact (XaH.mk' [] _ (Xu5 _) (XaB.refl _ _) (by (repeat' (first|exact VwL.nil|(refine VwL.cons ?_ ?_)|exact Vw.refl _|exact Vw.top _|fail))))
  case hi=>exact ⟨Nat.zero_le _,by simp only;omega,by simp only;rw [he'.out,List.take_of_length_le (by omega)];simp [XfO]⟩
  clear hi hs he'
  rintro ⟨i,s⟩ ⟨hi,hs,he⟩
  simp only at hi hs he
  have he':=Lib.hid he
  clear he
  simp only [frm,Xvc,Xvd,Xu6,Xu7,Xvj,Xvk]
  by_cases hlt2:i < j.needs.length
  ·have hp:=j6'.out j.needs[i] (List.getElem_mem hlt2)
   (repeat' (first|with_reducible (first|refine Xai ?_|refine Xac ?_|refine Xat ?_|refine Xaw ?_|refine Xae ?_|refine Xaa ?_|refine Xaj ?_)|(refine Xal _ rfl (fun h=>?_) (fun h=>?_)<;>((try (simp only [whn] at h));first|(exfalso;omega;done)|skip))|((apply Xad rfl);(case h=>(first|(apply Xab 0 rfl;(first|exact Xar _ rfl|exact Xap _ rfl))|(apply Xab 3 rfl;(exact Xa2 _ _ _ _ _ _ HEl.out rfl rfl))|(apply Xab 5 rfl;(exact Xam _ _ _ _ _ _ rfl rfl Xa3.out))|(apply Xab 6 rfl;(first|exact XaG _ _ _ _ _ rfl rfl XaM.out (by first|exact Xu4 rfl|fail) (by first|exact Xu4 rfl|fail)|exact Xaz _ _ _ _ _ _ _ _ rfl rfl XaU.out XaM.out (by first|exact Xu4 rfl|fail) (by first|exact Xu4 rfl|fail)))|(apply Xab 7 rfl;(exact XaI _ _ _ _ _ _ _ _ _ _ rfl rfl rfl HEl.out rfl (by first|omega|fail) (by simp;first|omega|fail)))|(apply Xab 12 rfl;(exact Xck _ _ _ _ rfl rfl rfl (by simp;omega)))|(apply XaD;(case hs=>(intro _ _ h;cases h));(case hx=>rfl);(case hrun=>(intro w;simp [wtb,AV.val,go_sem];(try go_bits);rfl)))));(case hT=>((try simp (disch:=assumption) only [wtn,Xd0,Xu9,Xu6,Xu7,Xva,Xve,Nat.reduceAdd,Nat.reduceMul,Nat.reduceSub,↓reduceIte,Nat.reduceEqDiff]);rfl)))|fail))
   ·exact ⟨(i+1,s++[32,32,110,101,101,100,115,32]++j.needs[i]),by simp only;omega,⟨by simp only;omega,by simp;omega,by simp only;rw [he'.out,Xhm j.needs i hlt2];(first|rw [if_pos (by omega)]|fail);simp only [List.append_assoc]⟩,(XaH.mk' [] _ (Xu5 _) (XaB.refl _ _) (by (repeat' (first|exact VwL.nil|(refine VwL.cons ?_ ?_)|exact Vw.refl _|exact Vw.top _|fail))))⟩
   ·exact ⟨(i+1,s++[44,32]++j.needs[i]),by simp only;omega,⟨by simp only;omega,by simp;omega,by simp only;rw [he'.out,Xhm j.needs i hlt2];(first|rw [if_neg (by omega)]|fail);simp only [List.append_assoc]⟩,(XaH.mk' [] _ (Xu5 _) (XaB.refl _ _) (by (repeat' (first|exact VwL.nil|(refine VwL.cons ?_ ?_)|exact Vw.refl _|exact Vw.top _|fail))))⟩
  ·(repeat' (first|with_reducible (first|refine Xai ?_|refine Xac ?_|refine Xat ?_|refine Xaw ?_|refine Xa4 ?_|refine Xae ?_|refine Xcd ?_|refine Xaa ?_|refine XaN ?_|refine XaK ?_)|(with_reducible refine Xbc mixed ?_ ?_;(decide +kernel))|(refine Xal _ rfl (fun h=>?_) (fun h=>?_)<;>((try (simp only [whn] at h));first|(exfalso;omega;done)|skip))|((first|apply Xad rfl|apply XbG rfl);(case h=>(first|(apply Xab 0 rfl;(first|exact Xar _ rfl|exact Xap _ rfl))|(apply Xab 3 rfl;(exact Xa2 _ _ _ _ _ _ HEl.out rfl rfl))|(apply Xab 5 rfl;(exact Xam _ _ _ _ _ _ rfl rfl Xa3.out))|(apply Xab 6 rfl;(exact Xaz _ _ _ _ _ _ _ _ rfl rfl XaU.out XaM.out (by first|exact Xu4 rfl|fail) (by first|exact Xu4 rfl|fail)))|(apply Xab 11 rfl;(first|exact XaA 197 Tryz.f197 _ _ rfl rfl Tryz.func197 (by decide) rfl (VwL.refl _ _) (XkP j.ready (by omega))|exact XaA 198 Tryz.f198 _ _ rfl rfl Tryz.func198 (by decide) rfl (VwL.refl _ _) (Xqx _)|exact XaA 199 Tryz.f199 _ _ rfl rfl Tryz.func199 (by decide) rfl (VwL.refl _ _) (XiP _ (by first|exact j10.1|exact j11.1|exact j12.1|exact j13.1|exact qb.1|fail) (by first|exact j10.2|exact j11.2|exact j12.2|exact j13.2|exact qb.2|fail))))|(apply Xab 12 rfl;(exact Xck _ _ _ _ rfl rfl rfl (by simp;omega)))|(apply XaD;(case hs=>(intro _ _ h;cases h));(case hx=>rfl);(case hrun=>(intro w;simp [wtb,AV.val,go_sem];(try go_bits);rfl)))));(case hT=>((try simp only [wtn]);rfl)))|fail))
   all_goals
    apply XaW (S:=Nat × List UInt8) (fun q=>frm 143 [(1,.x (.pointer (some ⟨b,0,none⟩))),(3,.x (.string (bs q.2))),(6,.x (.int .i64 q.1))]) (fun _=>[.box b [.x (.string (bs j.name)),.x (.string (bs j.run)),.sq j.env.length (ea j.env),.sq j.needs.length (sa j.needs),.x (.bool j.hasr),.x (.string (bs j.ready)),.x (.int .i64 j.restart),.x (.int .u64 j.base),.x (.int .u64 j.cap),.x (.int .u64 j.stable),.x (.int .i64 j.burst),.x (.int .u64 j.window),.sq j.ladder.length (ra j.ladder),.x (.int .i64 j.line),.x (.int .i64 j.col)]]) (fun q=>q.1≤j.ladder.length∧q.2.length≤660+40*q.1∧q.2=Xgs j++Xmd j.env++XdL j.needs++XdY j++Xib j++Xi3 (j.ladder.take q.1)) (fun q=>j.ladder.length - q.1) (0,_)
    case h0=>exact (XaH.mk' [] _ (Xu5 _) (XaB.refl _ _) (by (repeat' (first|exact VwL.nil|(refine VwL.cons ?_ ?_)|exact Vw.refl _|exact Vw.top _|fail))))
    case hi=>
     refine ⟨Nat.zero_le _,by simp;omega,?_⟩
     have hz:=he'.out
     rw [List.take_of_length_le (by omega)] at hz
     simp only
     rw [hz,Xoz,List.take_zero]
     first
      | rw [if_pos (show 0 < j.needs.length by omega)]
      | rw [if_neg (show ¬0 < j.needs.length by omega),show XfO j.needs=[] by rw [List.length_eq_zero_iff.1 (show j.needs.length=0 by omega)];rfl]
     first
      | (have hr:j.hasr=true:=by assumption
         simp only [XdY,hr,if_true])
      | (have hr:j.hasr=false:=by first|assumption|fail
         simp only [XdY,hr,Bool.false_eq_true,if_false])
     simp only [Xib,Xi3,List.append_nil,List.append_assoc,Xvg,Xvf]
    clear hi hs he'
    rintro ⟨i,s⟩ ⟨hi,hs,he⟩
    simp only at hi hs he
    have he':=Lib.hid he
    clear he
    simp only [frm,Xvc,Xvd,Xu6,Xu7,Xvj,Xvk]
    by_cases hlt3:i < j.ladder.length
    ·have hp:=j9'.out j.ladder[i] (List.getElem_mem hlt3)
     have hp2:=Xid j.ladder[i].1
     have hp3:=XdK j.ladder[i].2 hp.2
     (repeat' (first|with_reducible (first|refine Xai ?_|refine Xac ?_|refine Xat ?_|refine Xaw ?_|refine Xae ?_|refine Xcd ?_|refine Xaa ?_|refine Xaj ?_)|(with_reducible refine Xbc mixed ?_ ?_;(decide +kernel))|(refine Xal _ rfl (fun h=>?_) (fun h=>?_)<;>((try (simp only [whn] at h));first|(exfalso;omega;done)|skip))|((first|apply Xad rfl|apply XbG rfl);(case h=>(first|(apply Xab 0 rfl;(first|exact Xar _ rfl|exact Xap _ rfl))|(apply Xab 3 rfl;(exact Xa2 _ _ _ _ _ _ HEl.out rfl rfl))|(apply Xab 5 rfl;(first|exact Xam _ _ _ _ _ _ rfl rfl Xa3.out|exact XbY _ _ _ _ _ rfl rfl Xa3.out))|(apply Xab 6 rfl;(first|exact XaG _ _ _ _ _ rfl rfl XaM.out (by first|exact Xu4 rfl|fail) (by first|exact Xu4 rfl|fail)|exact Xaz _ _ _ _ _ _ _ _ rfl rfl XaU.out XaM.out (by first|exact Xu4 rfl|fail) (by first|exact Xu4 rfl|fail)))|(apply Xab 7 rfl;(exact XaI _ _ _ _ _ _ _ _ _ _ rfl rfl rfl HEl.out rfl (by first|omega|fail) (by simp;first|omega|fail)))|(apply Xab 11 rfl;(first|exact XaA 200 Tryz.f200 _ _ rfl rfl Tryz.func200 (by decide) rfl (VwL.refl _ _) (Xpc _)|exact XaA 199 Tryz.f199 _ _ rfl rfl Tryz.func199 (by decide) rfl (VwL.refl _ _) (XiP _ hp.1 hp.2)))|(apply Xab 12 rfl;(exact Xck _ _ _ _ rfl rfl rfl (by simp;omega)))|(apply XaD;(case hs=>(intro _ _ h;cases h));(case hx=>rfl);(case hrun=>(intro w;simp [wtb,AV.val,go_sem];(try go_bits);rfl)))));(case hT=>((try simp (disch:=assumption) only [wtn,XoW,Xu9,Xu6,Xu7,Xva,Xve,Nat.reduceAdd,Nat.reduceMul,Nat.reduceSub,↓reduceIte,Nat.reduceEqDiff]);rfl)))|fail))
     ·exact ⟨(i+1,s++[44]++[32]++Xg6 j.ladder[i].1++[32]++Xb5 j.ladder[i].2.toNat),by simp only;omega,⟨by simp only;omega,by simp;omega,by simp only;rw [he'.out,Xi4 j.ladder i hlt3];(first|rw [if_neg (by omega)]|fail);simp only [Xcw,List.append_assoc]⟩,(XaH.mk' [] _ (Xu5 _) (XaB.refl _ _) (by (repeat' (first|exact VwL.nil|(refine VwL.cons ?_ ?_)|exact Vw.refl _|exact Vw.top _|fail))))⟩
     ·exact ⟨(i+1,s++[32]++Xg6 j.ladder[i].1++[32]++Xb5 j.ladder[i].2.toNat),by simp only;omega,⟨by simp only;omega,by simp;omega,by simp only;rw [he'.out,Xi4 j.ladder i hlt3];(first|rw [if_pos (by omega)]|fail);simp only [Xcw,List.append_assoc]⟩,(XaH.mk' [] _ (Xu5 _) (XaB.refl _ _) (by (repeat' (first|exact VwL.nil|(refine VwL.cons ?_ ?_)|exact Vw.refl _|exact Vw.top _|fail))))⟩
    ·(repeat' (first|with_reducible (first|refine Xai ?_|refine Xac ?_|refine Xas ?_|refine Xa4 ?_|refine Xae ?_|refine Xaa ?_|refine XaN ?_|refine XaK ?_)|(refine Xal _ rfl (fun h=>?_) (fun h=>?_)<;>((try (simp only [whn] at h));first|(exfalso;omega;done)|skip))|((apply Xad rfl);(case h=>(first|(apply Xab 0 rfl;(first|exact Xar _ rfl|exact Xap _ rfl))|(apply Xab 3 rfl;(exact Xa2 _ _ _ _ _ _ HEl.out rfl rfl))|(apply Xab 5 rfl;(exact Xam _ _ _ _ _ _ rfl rfl Xa3.out))|(apply Xab 6 rfl;(exact Xaz _ _ _ _ _ _ _ _ rfl rfl XaU.out XaM.out (by first|exact Xu4 rfl|fail) (by first|exact Xu4 rfl|fail)))|(apply Xab 12 rfl;(exact Xck _ _ _ _ rfl rfl rfl (by simp;omega)))|(apply XaD;(case hs=>(intro _ _ h;cases h));(case hx=>rfl);(case hrun=>(intro w;simp [wtb,AV.val,go_sem];skip;rfl)))));(case hT=>((try simp only [wtn]);rfl)))|fail))
     refine Xaf _ _ (Xbi rfl (RV.tmp _) (XaH.mk' [_] [] (Xu5 _) (XaB.refl _ _) (by first|exact VwL.refl _ _|fail))) ?_
     have e:s++[10,125,10]=Xe1 j:=by rw [he'.out,List.take_of_length_le (by omega)];rfl
     exact ⟨by rw [←e];rfl,rfl,by rw [←e];simp;omega⟩
theorem Xgy:∀s∈Xcp,XbZ s∧s.length≤32:=by
 intro s hs
 simp only [Xcp,List.mem_cons,List.not_mem_nil,or_false] at hs
 rcases hs with rfl|rfl|rfl|rfl<;>exact ⟨Xbz (by decide),by decide⟩
theorem Xjd:Xcp.Nodup:=by decide
theorem Xsp:∀s∈XmT,XhC s∧s.length≤128:=by
 intro s hs
 simp only [XmT,List.mem_cons,List.not_mem_nil,or_false] at hs
 rcases hs with rfl|rfl|rfl|rfl|rfl|rfl|rfl<;>refine ⟨?_,by decide⟩<;>simp [XhC]
theorem JM.good {j:JF} (h:JM j):XgW j:=by
 obtain ⟨i,hi,h⟩:=h
 obtain ⟨hS,h1,h2,⟨v,hv,h3⟩,h4,h5,h6,h7,h8,h9,h10,h11,h12,h13⟩:=h
 have hsub:∀s∈j.needs,s∈Xcp:=fun s hs=>List.mem_of_mem_take (h4.subset hs)
 refine ⟨?_,?_,?_,?_,?_,?_,?_,?_,?_,h6,⟨h7.1,by omega⟩,⟨h8.1,by omega⟩,⟨h9.1,by omega⟩,⟨h11.1,by omega⟩,⟨h10.1,by omega⟩,⟨h12.1,by omega⟩,?_⟩
 ·rw [h1];exact Xgy _ (XeY Xcp [] i hi)
 ·have:=hS.run;omega
 ·have:=hS.env;omega
 ·intro p hp
  rw [h3] at hp
  have:=List.mem_of_mem_take hp
  simp only [XnO,List.mem_cons,List.not_mem_nil,or_false] at this
  rcases this with rfl|rfl<;>exact ⟨Xbz (by decide),by decide,by decide⟩
 ·rw [h3,List.map_take]
  exact (show (XnO.map (·.1)).Nodup by decide).sublist (List.take_sublist _ _)
 ·have:=hS.needs;omega
 ·exact fun s hs=>Xgy s (hsub s hs)
 ·exact (Xjd.sublist (List.take_sublist _ _)).sublist h4
 ·rcases h5 with ⟨a,b⟩|⟨a,b⟩
  ·exact .inl ⟨a,Xsp _ b⟩
  ·exact .inr ⟨a,b⟩
 ·intro p hp
  obtain ⟨a,b,c⟩:=h13 p hp
  simp only [Xs0,List.mem_cons,List.not_mem_nil,or_false] at a
  exact ⟨by omega,b,by omega⟩
theorem JM.toks {j:JF} (h:JM j):(Xg2 j).length≤60:=by
 obtain ⟨i,hi,h⟩:=h
 have h1:=h.small.env
 have h2:=h.small.needs
 have h3:=h.ladder.2
 have a1:(Xmc j.env).length=4*j.env.length:=by
  unfold Xmc
  induction j.env with
  | nil=>rfl
  | cons p l ih=>simp only [List.flatMap_cons,Xvh,ih,Xu8];simp [XnM];omega
 have a2:(Xew j.needs).length≤2*j.needs.length:=by
  cases j.needs with
  | nil=>simp [Xew]
  | cons x r=>simp only [Xew,Xu8,Xhl];omega
 have a3:(Xdy j).length≤2:=by unfold Xdy;split<;>simp
 have a4:(XmS j.ladder).length≤3*j.ladder.length:=by
  cases j.ladder with
  | nil=>simp [XmS]
  | cons x r=>simp only [XmS,Xjv,Xu8,Xvh,Xvb,Xhs];omega
 simp only [Xg2,XiZ,Xjo,Xvh,Xu8,Xvb];omega
theorem XjC:∀l:List JF,(∀j∈l,JM j)→(l.flatMap Xg2).length≤60*l.length
 | [],_=>Nat.le_refl _
 | j :: l,h=>by
   have:=XjC l fun x hx=>h x (by simp [hx])
   have:=(h j (by simp)).toks
   rw [List.flatMap_cons,Xvh,Xu8];omega
end Go.Proofs.YtdpobjakdplljaaGreatDoor

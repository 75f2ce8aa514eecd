import Derived.Test.YtdpobjakdplljaaGreatDoorY41
import Derived.Test.YtdpobjakdplljaaGreatDoorY36
import Derived.Test.YtdpobjakdplljaaGreatDoorY31
import Derived.Test.YtdpobjakdplljaaGreatDoorY34
import Derived.Lib.AppendIntMem
import Derived.Test.YtdpobjakdplljaaGreatDoorY38
import Derived.Test.YtdpobjakdplljaaGreatDoorY11
import Derived.Lib.Builder
/- The laws of scripts: the examples of the sanity check. -/
set_option linter.unusedSimpArgs false
set_option linter.unusedVariables false
set_option maxRecDepth 100000
set_option maxHeartbeats 8000000
namespace Go.Proofs.YtdpobjakdplljaaGreatDoor
open Go.RowKit
def e5:EF:=⟨4,[],false,0,[],5,0,0⟩
def t5:List UInt8:=[116,105,99,107,32,53]
def tf:List UInt8:=[116,105,99,107,32,102,105,118,101]
theorem Xr2:XfI e5:=⟨3,by decide,rfl,(fun f hf=>by obtain rfl:f=84:=List.mem_singleton.1 hf;exact ⟨by decide,by decide⟩),rfl⟩
theorem XnM:XdO e5=t5:=by
 have h:XbJ 5=[53]:=XfX 5 (by decide)
 show [116,105,99,107]++(32 :: XbJ 5++[])=t5
 rw [h];rfl
theorem XqE:XcT t5=([e5],1,0):=by
 obtain ⟨ts,q1,q2,q3⟩:=Xr2.lex (by rw [XnM];decide)
 rw [XnM] at q1
 show cGo [t5] 0 []=_
 rw [cGo,q1]
 simp only [if_neg q2,q3]
 rfl
theorem XqF:XcT tf=([],0,320):=by
 have hr:XaZ Brk ([116,105,99,107]++32 :: [102,105,118,101]) ([(1,[116,105,99,107])]++[(1,[102,105,118,101])]):=(XaZ.word (XbD (by decide))).brk (by decide) (.bl 32 (by unfold Xc2;decide) (XaZ.word (XbD (by decide))))
 obtain ⟨ts,x,q1,q2⟩:=Xrv hr (by decide) (by decide)
 show cGo [tf] 0 []=_
 have q1':lex tf=.ok (ts++[x]):=q1
 have hl:ts.length=2:=by have:=congrArg List.length q2;simpa [kts] using this
 have he:Xcf ts=none:=by
  match ts,hl with
  | [a,b],_=>
    simp only [kts,XvA,XvE,XvG,XvF,List.cons.injEq,Prod.mk.injEq,and_true] at q2
    obtain ⟨⟨a1,a2⟩,b1,b2⟩:=q2
    rw [XdX (k:=3) (by simp) (by exact a1) (by decide) (by rw [show XbA.getD 3 []=[116,105,99,107] from rfl];exact a2.symm),if_neg (by simp [Xa2])]
    show (XeS (ev0 4) 84 b).bind _=none
    have:XeS (ev0 4) 84 b=none:=by
     unfold XeS
     rw [if_neg (by decide),if_neg (by decide),if_neg (by decide),if_pos (by rw [b1];decide)]
    rw [this];rfl
 rw [cGo,q1']
 simp only [XvH,Xvy,XvB,hl,List.dropLast_concat,he]
 rfl
theorem XmF:Xa3 Tryz.prog 10 [] [.x (.string (bs t5))] (fun r H'=>r=.tup [.sq 1 [.x (.int .i64 4),.x (.string (bs [])),.x (.bool false),.x (.int .i64 0),.sq 0 [],.x (.int .u64 5),.x (.int .i64 0),.x (.int .i64 0)],.x (.int .i64 1),.x (.int .i64 0)]∧H'=[]):=by
 have h:=XkC t5 (by decide)
 rw [XqE] at h
 exact h
theorem XmC:Xa3 Tryz.prog 10 [] [.x (.string (bs tf))] (fun r H'=>r=.tup [.sq 0 [],.x (.int .i64 0),.x (.int .i64 320)]∧H'=[]):=by
 have h:=XkC tf (by decide)
 rw [XqF] at h
 exact h
theorem XqW:Xa3 Tryz.prog 8 [] [] (fun r H'=>r=.x (.bool true)∧H'=[]):=by
 refine XaD Tryz.func8 rfl ?_
 simp only [Tryz.ntmps8,Xvy,XvB,XvC,XvD,XvG,XvF,Nat.reduceAdd,Nat.reduceSub]
 (repeat' (first|with_reducible (first|refine Xag ?_|refine Xac ?_|refine Xar ?_|refine Xae ?_|refine Xaa ?_)|((first|apply Xad rfl|apply Xa8 _ _ rfl rfl rfl);(case h=>((try (intro (hp:(_:Bool)=true);((try simp only [Bool.and_eq_true,Bool.not_eq_true',Bool.not_eq_true] at hp);(try simp only [hp,wte]);(try simp only [whn] at hp))));(first|(apply Xab 0 rfl;(first|exact Xap _ rfl|exact Xan _ rfl))|(apply Xab 1 rfl;(exact XcQ _ _ _ rfl rfl))|(apply Xab 2 rfl;(exact XaM _ _ _ _ rfl rfl rfl))|(apply Xab 3 rfl;(exact XaX _ _ _ _ _ _ HEl.out rfl rfl))|(apply Xab 5 rfl;(exact XbV _ _ _ _ _ rfl rfl Xa5.out))|(apply Xab 6 rfl;(exact XaF _ _ _ _ _ rfl rfl XaN.out (by first|exact Xvu rfl|fail) (by first|exact Xvu rfl|fail)))|(apply Xab 7 rfl;(exact XaG _ _ _ _ _ _ _ _ 0 _ rfl rfl rfl HEl.out rfl (by omega) (by decide)))|(apply Xab 11 rfl;(first|exact Xay 10 Tryz.f10 _ _ rfl rfl Tryz.func10 (by decide) rfl (VwL.refl _ _) (XmF)|exact Xay 10 Tryz.f10 _ _ rfl rfl Tryz.func10 (by decide) rfl (VwL.refl _ _) (XmC)))|(apply XaC;(case hs=>(intro _ _ h;cases h));(case hx=>rfl);(case hrun=>(intro w;simp [wtb,AV.val,go_sem];(try go_bits);rfl))))));(case hT=>((try simp only [wtn,Xvz,Xvw,Xvx,XvA,XvE,Nat.reduceAdd,Nat.reduceMul,Nat.reduceSub,↓reduceIte,Nat.reduceEqDiff]);rfl)))|fail))
 refine Xaf _ _ (Xbh rfl (RV.tmp _) (XaH.mk' [] _ (Xvv _) (XaB.refl _ _) (VwL.refl _ _))) ?_
 exact ⟨rfl,rfl⟩
theorem XhS (n:Nat):XbJ n=Lib.decDigits n:=by
 induction n using Nat.strongRecOn with
 | _ n ih=>
   by_cases h:n < 10
   ·rw [XbJ,dif_pos h,Lib.decDigits,dif_pos h]
   ·rw [Xkc n h,ih (n / 10) (by omega)]
    conv=>rhs;rw [Lib.decDigits,dif_neg h]
theorem XpP (n:Int):Lib.itoa n=dcI n:=by
 unfold Lib.itoa dcI
 split
 ·rw [←XhS,show n.natAbs=(-n).toNat from by omega]
 ·rw [XhS]
theorem Xok (n:Int) (h0 : -9223372036854775808≤n) (h1:n≤9223372036854775807):Xa3 Tryz.prog 65 [] [.x (.int .i64 n)] (fun r H'=>r=.x (.string (bs (dcI n)))∧H'=[]):=by
 refine (Xer (args:=[.int .i64 n]) (Q:=fun v=>v=.string (bs (dcI n))) (fun w hg=>?_) []).mono fun r H' ⟨v,hv,hr,hH⟩=>⟨by rw [hr,hv],hH⟩
 refine (strconv_Itoa n h0 h1 w hg.pow).mono ?_
 rintro e w' ⟨rfl,k,os,rfl⟩
 exact ⟨_,rfl,by rw [XpP];rfl,Go.Lib.below_grow w.heap.size w (Nat.le_refl _) k os⟩
theorem XpD (a d:List UInt8):Xa3 Tryz.prog 68 [] [.sq a.length (u8a a),.sq d.length (u8a d)] (fun r H'=>r=.x (.bool (a == d))∧H'=[]):=by
 refine XaD Tryz.func68 rfl ?_
 simp only [Tryz.ntmps68,Xvy,XvB,XvC,XvD,XvG,XvF,Nat.reduceAdd,Nat.reduceSub]
 (repeat' (first|with_reducible (first|refine Xag ?_|refine Xac ?_|refine Xar ?_|refine Xae ?_|refine Xaa ?_)|((apply Xad rfl);(case h=>((try (intro (hp:(_:Bool)=true);((try simp only [Bool.and_eq_true,Bool.not_eq_true',Bool.not_eq_true] at hp);(try simp only [hp,wte]);(try simp only [whn] at hp))));(first|(apply Xab 0 rfl;(first|exact Xap _ rfl|exact Xan _ rfl))|(apply Xab 12 rfl;(first|exact Xbz _ _ 5 _ a rfl (by kernel_rfl) (by kernel_rfl) (by kernel_rfl) (Src.sq rfl)|exact Xbz _ _ 5 _ d rfl (by kernel_rfl) (by kernel_rfl) (by kernel_rfl) (Src.sq rfl)))|(apply XaC;(case hs=>(intro _ _ h;cases h));(case hx=>rfl);(case hrun=>(intro w;simp [wtb,AV.val,go_sem];(try go_bits);rfl))))));(case hT=>((try simp only [wtn,Xvz,Xvw,Xvx,XvA,XvE,Nat.reduceAdd,Nat.reduceMul,Nat.reduceSub,↓reduceIte,Nat.reduceEqDiff]);rfl)))|fail))
 refine Xaf _ _ (Xbh rfl (RV.tmp _) (XaH.mk' [] _ (Xvv _) (XaB.refl _ _) (VwL.refl _ _))) ?_
 exact ⟨rfl,rfl⟩
theorem Xuh (a d:EF):Xa3 Tryz.prog 38 [] [.agg a.cells,.agg d.cells] (fun r H'=>r=.x (.bool (Xfs a d))∧H'=[]):=by
 unfold EF.cells
 refine XaD Tryz.func38 rfl ?_
 simp only [Tryz.ntmps38,Xvy,XvB,XvC,XvD,XvG,XvF,Nat.reduceAdd,Nat.reduceSub]
 (repeat' (first|with_reducible (first|refine Xag ?_|refine Xac ?_|refine Xar ?_|refine Xau ?_|refine Xae ?_|refine Xaa ?_|refine Xax ?_)|(refine Xak _ rfl (fun h=>?_) (fun h=>?_)<;>((try (simp only [whn] at h));skip))|((first|apply Xad rfl|apply Xa8 _ _ rfl rfl rfl);(case h=>((try (intro (hp:(_:Bool)=true);((try simp only [Bool.and_eq_true,Bool.not_eq_true',Bool.not_eq_true] at hp);(try simp only [hp,wte]);(try simp only [whn] at hp))));(first|(apply Xab 0 rfl;(first|exact Xap _ rfl|exact Xan _ rfl))|(apply Xab 1 rfl;(first|exact XbC _ _ _ _ _ rfl rfl rfl rfl|exact XdJ _ _ _ _ _ rfl rfl rfl rfl))|(apply Xab 5 rfl;(exact Xal _ _ _ _ _ _ rfl rfl Xa5.out))|(apply Xab 6 rfl;(exact Xaz _ _ _ _ _ _ _ _ rfl rfl XaS.out XaN.out (by first|exact Xvu rfl|fail) (by first|exact Xvu rfl|fail)))|(apply Xab 11 rfl;(exact Xay 68 Tryz.f68 _ _ rfl rfl Tryz.func68 (by decide) rfl (VwL.refl _ _) (XpD a.data d.data)))|(apply XaC;(case hs=>(intro _ _ h;cases h));(case hx=>rfl);(case hrun=>(intro w;simp [wtb,AV.val,go_sem];(try go_bits);rfl))))));(case hT=>((try simp only [wtn,Xvz,Xvw,Xvx,XvA,XvE,Nat.reduceAdd,Nat.reduceMul,Nat.reduceSub,↓reduceIte,Nat.reduceEqDiff]);rfl)))|(refine Xai rfl ?_;((refine Xas 15 rfl ?_;(refine Xbo _ _ rfl (by first|rfl|fail) (fun b=>?_)));apply Xah;(case hT=>((try simp only [wtn,Xvz,Xvw,Xvx,XvA,XvE,Nat.reduceAdd,Nat.reduceMul,Nat.reduceSub,↓reduceIte,Nat.reduceEqDiff]);rfl));(case hH=>((try simp only [wtn,Xvz,Xvw,Xvx,XvA,XvE,Nat.reduceAdd,Nat.reduceMul,Nat.reduceSub,↓reduceIte,Nat.reduceEqDiff]);rfl))))|fail))
 ·refine Xaf _ _ (Xbh rfl (RV.tmp _) (XaH.mk' [_,_] [] (Xvv _) XaB.nil (VwL.refl _ _))) ?_
  refine ⟨?_,rfl⟩
  have e:Xfs a d=false:=by
   unfold Xfs
   rw [Bool.eq_false_iff]
   intro h2
   simp only [Bool.and_eq_true,beq_iff_eq] at h2
   obtain ⟨⟨⟨⟨⟨⟨⟨h3,h4⟩,h5⟩,h6⟩,-⟩,-⟩,-⟩,-⟩:=h2
   simp [h3,h4,h5,h6] at h
  rw [e];rfl
 ·refine Xaf _ _ (Xbh rfl (RV.tmp _) (XaH.mk' [_,_] [] (Xvv _) XaB.nil (VwL.refl _ _))) ?_
  refine ⟨?_,rfl⟩
  have q1:a.kind=d.kind∧a.job=d.job∧a.ok=d.ok∧a.code=d.code:=by simpa [and_assoc] using h
  obtain ⟨h3,h4,h5,h6⟩:=q1
  have e:Xfs a d=(a.time == d.time && a.client == d.client && a.num == d.num && a.data == d.data):=by
   unfold Xfs
   rw [h3,h4,h5,h6]
   simp only [beq_self_eq_true,Bool.true_and]
   cases (a.data == d.data)<;>cases (a.time == d.time)<;>cases (a.client == d.client)<;>cases (a.num == d.num)<;>rfl
  rw [e];rfl
theorem Xn6 (be:Nat) (e:EF) (wd fs:List UInt8) (kd:Int):Xa3 Tryz.prog 32 [.box be e.cells] [.x (.agg #[.string (bs wd),.int .i64 kd,.string (bs fs)]),.x (.pointer (some ⟨be,0,none⟩))] (fun r H'=>r=.x (.bool (kd == e.kind))∧H'=[.box be e.cells]):=by
 unfold EF.cells
 refine XaD Tryz.func32 rfl ?_
 simp only [Tryz.ntmps32,Xvy,XvB,XvC,XvD,XvG,XvF,Nat.reduceAdd,Nat.reduceSub]
 (repeat' (first|with_reducible (first|refine Xag ?_|refine Xac ?_|refine Xar ?_|refine Xae ?_|refine Xaa ?_)|((apply Xad rfl);(case h=>((try (intro (hp:(_:Bool)=true);((try simp only [Bool.and_eq_true,Bool.not_eq_true',Bool.not_eq_true] at hp);(try simp only [hp,wte]);(try simp only [whn] at hp))));(first|(apply Xab 0 rfl;(exact Xan _ rfl))|(apply Xab 5 rfl;(exact Xal _ _ _ _ _ _ rfl rfl Xa5.out))|(apply Xab 6 rfl;(exact Xaz _ _ _ _ _ _ _ _ rfl rfl XaS.out XaN.out (by first|exact Xvu rfl|fail) (by first|exact Xvu rfl|fail)))|(apply XaC;(case hs=>(intro _ _ h;cases h));(case hx=>rfl);(case hrun=>(intro w;simp [wtb,AV.val,go_sem];(try go_bits);rfl))))));(case hT=>((try simp only [wtn,Xvz,Xvw,Xvx,XvA,XvE,Nat.reduceAdd,Nat.reduceMul,Nat.reduceSub,↓reduceIte,Nat.reduceEqDiff]);rfl)))|(refine Xai rfl ?_;((refine Xas 15 rfl ?_;(refine Xbo _ _ rfl (by first|rfl|fail) (fun b=>?_)));apply Xah;(case hT=>((try simp only [wtn,Xvz,Xvw,Xvx,XvA,XvE,Nat.reduceAdd,Nat.reduceMul,Nat.reduceSub,↓reduceIte,Nat.reduceEqDiff]);rfl));(case hH=>((try simp only [wtn,Xvz,Xvw,Xvx,XvA,XvE,Nat.reduceAdd,Nat.reduceMul,Nat.reduceSub,↓reduceIte,Nat.reduceEqDiff]);rfl))))|fail))
 refine Xaf _ _ (Xbh rfl (RV.tmp _) (XaH.mk' [_] [_] (Xvv _) (XaB.refl _ _) (VwL.refl _ _))) ?_
 exact ⟨rfl,rfl⟩
theorem XtR (be:Nat) (e:EF):Xa3 Tryz.prog 31 [.box be e.cells] [.x (.func (.func 32) #[] #[.pointer (some ⟨be,0,none⟩)])] (fun r H'=>H'=[.box be e.cells]∧((∃(k:Nat) (wd:List UInt8) (kd:Int) (fs:List UInt8),k < 14∧Xhj k=(wd,kd,fs)∧kd=e.kind∧r=.tup [.x (.agg #[.string (bs wd),.int .i64 kd,.string (bs fs)]),.x (.bool true)])∨((∀k,k < 14→(Xhj k).2.1≠e.kind)∧r=Xlo))):=by
 refine XaD Tryz.func31 rfl ?_
 simp only [Tryz.ntmps31,Xvy,XvB,XvC,XvD,XvG,XvF,Nat.reduceAdd,Nat.reduceSub]
 (repeat' (first|with_reducible (first|refine Xag ?_|refine Xac ?_|refine Xao ?_|refine Xae ?_|refine Xaa ?_)|((apply Xad rfl);(case h=>((try (intro (hp:(_:Bool)=true);((try simp only [Bool.and_eq_true,Bool.not_eq_true',Bool.not_eq_true] at hp);(try simp only [hp,wte]);(try simp only [whn] at hp))));(first|(apply Xab 0 rfl;(first|exact Xap _ rfl|exact Xan _ rfl))|(apply Xab 6 rfl;(exact Xem rfl)))));(case hT=>((try simp only [wtn,Xvz,Xvw,Xvx,XvA,XvE,Nat.reduceAdd,Nat.reduceMul,Nat.reduceSub,↓reduceIte,Nat.reduceEqDiff]);rfl)))|(refine Xai rfl ?_;((refine Xas 14 rfl ?_;(refine XaK _ _ rfl Xbk.out rfl (fun b=>?_)));apply Xah;(case hT=>((try simp only [wtn,Xvz,Xvw,Xvx,XvA,XvE,Nat.reduceAdd,Nat.reduceMul,Nat.reduceSub,↓reduceIte,Nat.reduceEqDiff]);rfl));(case hH=>((try simp only [wtn,Xvz,Xvw,Xvx,XvA,XvE,Nat.reduceAdd,Nat.reduceMul,Nat.reduceSub,↓reduceIte,Nat.reduceEqDiff]);rfl))))|fail))
 revert b
 intro br
 apply XaQ (S:=Nat) (fun k=>frm 16 [(0,.x (.func (.func 32) #[] #[.pointer (some ⟨be,0,none⟩)])),(2,.x (.pointer (some ⟨br,0,none⟩))),(3,.x (.bool false)),(6,.x (.agg XbB.toArray)),(7,.x (.int .i64 k))]) (fun _=>[.box br [.x (.string (bs [])),.x (.int .i64 0),.x (.string (bs []))],.box be e.cells])
  (fun k=>k≤14∧∀i,i < k→(Xhj i).2.1≠e.kind) (fun k=>14 - k) 0
 case h0=>exact (XaH.mk' [] _ (Xvv _) (XaB.refl _ _) (by (repeat' (first|exact VwL.nil|(refine VwL.cons ?_ ?_)|exact Vw.refl _|fail))))
 case hi=>exact ⟨Nat.zero_le _,fun i hi=>by omega⟩
 rintro k ⟨k1,hw⟩
 have hw':=Lib.hid hw
 clear hw
 simp only [frm,XvC,XvD,Xvw,Xvx,XvJ,XvK]
 by_cases hk:k < 14
 ·obtain ⟨⟨wd,kd,fs⟩,hfk⟩:∃f,Xhj k=f:=⟨_,rfl⟩
  have he:=Xn6 be e wd fs kd
  have hfk':=Lib.hid hfk
  clear hfk
  (repeat' (first|with_reducible (first|refine Xag ?_|refine Xac ?_|refine Xao ?_|refine Xar ?_|refine Xau ?_|refine Xae ?_|refine Xaa ?_|refine Xax ?_|refine Xaj ?_|refine Xav ?_)|(refine Xak _ rfl (fun h=>?_) (fun h=>?_)<;>((try (simp only [whn] at h));first|(exfalso;omega;done)|skip))|((apply Xad rfl);(case h=>((try (intro (hp:(_:Bool)=true);((try simp only [Bool.and_eq_true,Bool.not_eq_true',Bool.not_eq_true] at hp);(try simp only [hp,wte]);(try simp only [whn] at hp))));(first|(apply Xab 0 rfl;(first|exact Xap _ rfl|exact Xan _ rfl))|(apply Xab 6 rfl;(exact Xaz _ _ _ _ _ _ _ _ rfl rfl XaS.out XaN.out (by first|exact Xvu rfl|fail) (by first|exact Xvu rfl|fail)))|(apply Xab 8 rfl;(exact Xdf rfl rfl rfl hfk'.out rfl hk))|(apply XaC;(case hs=>(intro _ _ h;cases h));(case hx=>rfl);(case hrun=>(intro w;simp [wtb,AV.val,go_sem];(try go_bits);rfl))))));(case hT=>((try simp only [wtn,Xvz,Xvw,Xvx,XvA,XvE,Nat.reduceAdd,Nat.reduceMul,Nat.reduceSub,↓reduceIte,Nat.reduceEqDiff]);rfl)))|(refine Xai rfl ?_;((first|(refine Xas 11 rfl ?_;(refine Xam 32 Tryz.f32 [_] _ _ _ rfl rfl Tryz.func32 (by decide) rfl (XvI (l₁:=[_,_])) (VwL.refl _ _) (he) ?_;rintro _ _ ⟨rfl,rfl⟩))|(refine Xas 14 rfl ?_;(refine XaK _ _ rfl Xbk.out rfl (fun b=>?_)))|(refine Xas 16 rfl ?_;(refine Xaw _ _ _ _ _ _ _ rfl rfl XaS.out XaR.out (by first|rfl|fail) (by first|exact Xvu rfl|fail) ?_)));apply Xah;(case hT=>((try simp only [wtn,Xvz,Xvw,Xvx,XvA,XvE,Nat.reduceAdd,Nat.reduceMul,Nat.reduceSub,↓reduceIte,Nat.reduceEqDiff]);rfl));(case hH=>((try simp only [wtn,Xvz,Xvw,Xvx,XvA,XvE,Nat.reduceAdd,Nat.reduceMul,Nat.reduceSub,↓reduceIte,Nat.reduceEqDiff]);rfl))))|fail))
  ·refine Xaf _ _ (XcB rfl (RV.cell 2 rfl rfl XaN.out (by simp) (by simp)) (RV.tmp _) (XaH.mk' [.box b _,.box br _] [.box be _] (by (repeat' (first|exact Xvv _|refine (XvI (l₁:=[_])).trans (XvL _ ?_)|fail))) (XaB.refl _ _) (VwL.refl _ _))) ?_
   exact ⟨rfl,.inl ⟨k,wd,kd,fs,hk,hfk'.out,h,rfl⟩⟩
  ·have hne:¬kd=e.kind:=h
   refine ⟨k+1,by omega,⟨by omega,fun i hi=>?_⟩,XaH.mk' [.box b _] [.box br _,.box be _] (by (repeat' (first|exact Xvv _|refine (XvI (l₁:=[_])).trans (XvL _ ?_)|fail))) (XaB.refl _ _) (by (repeat' (first|exact VwL.nil|(refine VwL.cons ?_ ?_)|exact Vw.refl _|exact Vw.top _|fail)))⟩
   rcases Nat.lt_or_ge i k with h5|h5
   ·exact hw'.out i h5
   ·obtain rfl:i=k:=by omega
    rw [hfk'.out];exact hne
 ·obtain rfl:k=14:=by omega
  (repeat' (first|with_reducible (first|refine Xag ?_|refine Xac ?_|refine Xar ?_|refine XaW ?_|refine Xae ?_|refine Xaa ?_|refine XaL ?_|refine XaJ ?_)|(refine Xak _ rfl (fun h=>?_) (fun h=>?_)<;>first|(exact absurd h (by decide))|((try (simp only [whn] at h));skip))|((apply Xad rfl);(case h=>((try (intro (hp:(_:Bool)=true);((try simp only [Bool.and_eq_true,Bool.not_eq_true',Bool.not_eq_true] at hp);(try simp only [hp,wte]);(try simp only [whn] at hp))));(first|(apply Xab 0 rfl;(exact Xan _ rfl))|(apply Xab 10 rfl;(exact Xa1 _ _ _ _ _ rfl HPl.out (by first|rfl|fail) rfl))|(apply XaC;(case hs=>(intro _ _ h;cases h));(case hx=>rfl);(case hrun=>(intro w;simp [wtb,AV.val,go_sem];(try go_bits);rfl))))));(case hT=>((try simp only [wtn,Xvz,Xvw,Xvx,XvA,XvE,Nat.reduceAdd,Nat.reduceMul,Nat.reduceSub,↓reduceIte,Nat.reduceEqDiff]);rfl)))|(refine Xai rfl ?_;((refine Xas 16 rfl ?_;(refine Xaw _ _ _ _ _ _ _ rfl rfl XaS.out XaR.out (by first|rfl|fail) (by first|exact Xvu rfl|fail) ?_));apply Xah;(case hT=>((try simp only [wtn,Xvz,Xvw,Xvx,XvA,XvE,Nat.reduceAdd,Nat.reduceMul,Nat.reduceSub,↓reduceIte,Nat.reduceEqDiff]);rfl));(case hH=>((try simp only [wtn,Xvz,Xvw,Xvx,XvA,XvE,Nat.reduceAdd,Nat.reduceMul,Nat.reduceSub,↓reduceIte,Nat.reduceEqDiff]);rfl))))|fail))
  refine Xaf _ _ (XcB rfl (RV.cell 0 rfl rfl XaN.out (by simp) (by simp)) (RV.tmp _) (XaH.mk' [_] [_] (Xvv _) (XaB.refl _ _) (VwL.refl _ _))) ?_
  exact ⟨rfl,.inr ⟨hw'.out,rfl⟩⟩
theorem Xsq (i:Nat) (h:i < 14):∃k,k < 14∧(Xhj k).2.1=((i+1:Nat):Int):=by
 match i,h with
 | 0,_=>exact ⟨0,by decide⟩
 | 1,_=>exact ⟨1,by decide⟩
 | 2,_=>exact ⟨2,by decide⟩
 | 3,_=>exact ⟨3,by decide⟩
 | 4,_=>exact ⟨4,by decide⟩
 | 5,_=>exact ⟨5,by decide⟩
 | 6,_=>exact ⟨6,by decide⟩
 | 7,_=>exact ⟨7,by decide⟩
 | 8,_=>exact ⟨8,by decide⟩
 | 9,_=>exact ⟨9,by decide⟩
 | 10,_=>exact ⟨10,by decide⟩
 | 11,_=>exact ⟨12,by decide⟩
 | 12,_=>exact ⟨11,by decide⟩
 | 13,_=>exact ⟨13,by decide⟩
theorem Xp7 {k:Nat} {wd fs:List UInt8} {kd:Int} {e:EF} (hk:k < 14) (hf:Xhj k=(wd,kd,fs)) (he:kd=e.kind):XgY e.kind=wd∧XfK e.kind=fs.map (fun c=>XbE c.toNat)∧∀c∈fs,c.toNat < 128∧((c.toNat:Int)=106∨(c.toNat:Int)=119∨(c.toNat:Int)=100∨(c.toNat:Int)=97∨(c.toNat:Int)=99∨(c.toNat:Int)=108∨(c.toNat:Int)=110):=by
 obtain ⟨i,hi,h1,h2,h3,h4⟩:=XtU k hk
 rw [hf] at h1 h2 h3 h4
 simp only at h1 h2 h3 h4
 rw [←he,h1]
 unfold XgY XfK
 rw [if_pos (by omega),if_pos (by omega),show ((i+1:Nat):Int).toNat - 1=i from by omega]
 exact ⟨h2,h3,h4⟩
theorem Xn5 {e:EF} (h:∀k,k < 14→(Xhj k).2.1≠e.kind):XgY e.kind=[]∧XfK e.kind=[]:=by
 have hn:¬(1≤e.kind∧e.kind≤14):=fun ⟨a,b⟩=>by
  obtain ⟨k,hk,hq⟩:=Xsq (e.kind.toNat - 1) (by omega)
  exact h k hk (by rw [hq];omega)
 unfold XgY XfK
 rw [if_neg hn,if_neg hn]
 exact ⟨rfl,rfl⟩
open Go.Shelf Go.RowKit
theorem XuK (B b:Nat) (bs:List Value) (s:ByteArray) (w:World) (h:Lib.IsBuilder 74 5 B b bs w) (hlen:bs.length+s.size≤140737488355328) (hBw:B≤w.heap.size) :
  Calls Tryz.prog 33 #[.pointer (some ⟨b,0,none⟩),.string s] w fun e w'=>e=.returned (.tuple #[.int .i64 s.size,.nilIface])∧(Lib.BuilderAt 74 5 B b (.pointer (some ⟨b,0,none⟩)) (bs++Lib.strCells s) w'∧Below B w w'):=by
 obtain ⟨i0,hi,hz0,hz1,hz2⟩:=info_parts Xa7.infoByte
 go_enter Tryz.func33,Tryz.ntmps33
 go_wp2_with (go_at_call 64;refine (Xrl B b bs _ h).mono ?_)
 rintro e w1 ⟨rfl,h1,hb1⟩
 obtain ⟨hB,v,hbk,hown,hne⟩:=h1
 have c0:w1.cell? ⟨b,0,none⟩=some (.pointer (some ⟨b,0,none⟩)):=by rw [Lib.cell_of_heap hbk];rfl
 have c1:w1.cell? ⟨b,1,none⟩=some v:=by rw [Lib.cell_of_heap hbk];rfl
 go_wp2_with (at_builtin;refine Lib.wpList_append_own_string _ rfl _ _ 39 9 rfl B 5 i0 Tryz.underlying39 Tryz.underlying9 hi hz0 hz1 hz2 _ _ _ rfl hown s rfl ?c3 ?c4 ?c5 ?_)
 case c3=>unfold maxLen;omega
 case c4=>omega
 case c5=>have:=hb1.size;omega
 intro v' w2 hown' hgrow _
 have hlt:b < w1.heap.size:=by
  rcases Nat.lt_or_ge b w1.heap.size with h'|h'
  ·exact h'
  ·simp [Array.getElem?_eq_none h'] at hbk
 have hb2:w2.heap[b]?=some (.cells #[.pointer (some ⟨b,0,none⟩),v] 74 (0,0)):=by
  rw [hgrow.block b hlt (fun e=>hne e.symm)]
  exact hbk
 have d0:w2.cell? ⟨b,0,none⟩=some (.pointer (some ⟨b,0,none⟩)):=by rw [Lib.cell_of_heap hb2];rfl
 have d1:w2.cell? ⟨b,1,none⟩=some v:=by rw [Lib.cell_of_heap hb2];rfl
 have f1:w2.frozen? ⟨b,1,none⟩=false:=Lib.frozen_of_heap hb2 1
 obtain ⟨ao,n',cap,rfl⟩:∃ao n' cap,v'=.slice ao n' cap:=by
  rcases hown'.2 with ⟨hv,_⟩|⟨g,cap,cur,hv,_⟩
  ·exact ⟨_,_,_,hv⟩
  ·exact ⟨_,_,_,hv⟩
 go_wp2
 go_ret2
 refine ⟨rfl,?_,?_⟩
 ·exact Lib.BuilderAt.put (T:=74) (e:=5) hB hb2 (bs':=bs++Lib.strCells s) (by simpa [Lib.strCells_length] using hown') Xa7.neB5
 ·exact (hb1.grown hgrow (by have:=hb1.size;omega) (fun k hk=>(hown.lt k hk).1)).setCell (p:=⟨b,1,none⟩) hB _
theorem Xec (a b:List UInt8):Lib.byteCells (a++b)=Lib.byteCells a++Lib.byteCells b:=by simp [Lib.byteCells]
theorem Xla:∀(i:Nat) (h:i < (ByteArray.mk #[48,49,50,51,52,53,54,55,56,57,97,98,99,100,101,102]).size),(ByteArray.mk #[48,49,50,51,52,53,54,55,56,57,97,98,99,100,101,102])[i]=Xhi.getD i 0
 | 0,_=>rfl
 | 1,_=>rfl
 | 2,_=>rfl
 | 3,_=>rfl
 | 4,_=>rfl
 | 5,_=>rfl
 | 6,_=>rfl
 | 7,_=>rfl
 | 8,_=>rfl
 | 9,_=>rfl
 | 10,_=>rfl
 | 11,_=>rfl
 | 12,_=>rfl
 | 13,_=>rfl
 | 14,_=>rfl
 | 15,_=>rfl
 | n+16,h=>absurd h (by simp [ByteArray.size])
theorem XsV (l:List UInt8) (w:World) (hl:l.length≤2000000):Calls Tryz.prog 66 #[.string (bs l)] w fun e w'=>e=.returned (.string (bs (XcE l)))∧Ext w w':=by
 go_enter Tryz.func66,Tryz.ntmps66
 go_wp2_with fail
 refine Calls.mono (Xd5 w.heap.size w.heap.size [] 34 _ (.inl ⟨Nat.le_refl _,.slice none 0 0,by unfold World.alloc;exact Array.getElem?_push_size,⟨rfl,.inl ⟨rfl,rfl⟩⟩,by intro h;cases h⟩) (by simp) (by simp)) ?_
 rintro e w0 ⟨rfl,hB0,hb0⟩
 have hE0:Ext w w0:=Below.trans (Ext.al _ _) hb0
 go_wp2_with fail
 go_loopw [4] (fun i wr=>∃(k:Nat),k≤l.length∧i=.int .i64 k∧Lib.IsBuilder 74 5 w.heap.size w.heap.size (Lib.byteCells (XfY (l.take k))) wr∧Ext w wr) (fun i _=>l.length - (intOf i).toNat)
 case atStart=>exact ⟨0,Nat.zero_le _,rfl,.inr hB0,hE0⟩
 case round=>
  obtain ⟨k,h1,rfl,hB,hE⟩:=hrel
  have hz:w.heap.size≤wr.heap.size:=hE.size
  have hel:=XhX (l.take k)
  rw [List.length_take,Nat.min_eq_left h1] at hel
  have hbl:(Lib.byteCells (XfY (l.take k))).length=(XfY (l.take k)).length:=by simp [Lib.byteCells]
  obtain ⟨out,hout'⟩:∃out,XfY (l.take k)=out:=⟨_,rfl⟩
  rw [hout'] at hB hel hbl
  have hout':=Lib.hid hout'
  by_cases hlt:k < l.length
  ·have hsu:=Lib.hid (XiZ l k hlt)
   rw [hout'.out] at hsu
   by_cases c34:l[k].toNat=34
   ·have hq:Hid (Xes l[k]=[92,l[k]]):=Lib.hid (by unfold Xes;rw [if_pos (by omega)])
    have b1:((l[k].toNat:Int) == 34)=true:=by rw [beq_iff_eq];omega
    clear c34
    go_wp2_with fail
    refine Calls.mono (Xd5 w.heap.size w.heap.size (Lib.byteCells out) 92 _ hB (by omega) hz) ?_
    rintro e w1 ⟨rfl,hB2,hb2⟩
    rw [show (Value.int IntKind.u8 92)=.int .u8 ((92:UInt8).toNat:Nat) from rfl,Xbq] at hB2
    have hz1:w.heap.size≤w1.heap.size:=Nat.le_trans hz hb2.size
    have hbl1:(Lib.byteCells (out++[92])).length=out.length+1:=by simp [Lib.byteCells]
    go_wp2_with fail
    refine Calls.mono (Xd5 w.heap.size w.heap.size (Lib.byteCells (out++[92])) l[k].toNat _ (.inr hB2) (by omega) hz1) ?_
    rintro e w2 ⟨rfl,hB3,hb3⟩
    rw [Xbq] at hB3
    go_wp2_with fail
    go_roundw
    case rel=>exact ⟨k+1,by omega,by go_num,.inr (by rw [hsu.out,hq.out,show out++[92,l[k]]=out++[92]++[l[k]] by simp];exact hB3),Below.trans (Below.trans hE hb2) hb3⟩
    case measure=>simp [intOf];omega
   have b1:((l[k].toNat:Int) == 34)=false:=by rw [XvM];omega
   by_cases c92:l[k].toNat=92
   ·have hq:Hid (Xes l[k]=[92,l[k]]):=Lib.hid (by unfold Xes;rw [if_pos (by omega)])
    have b2:((l[k].toNat:Int) == 92)=true:=by rw [beq_iff_eq];omega
    clear c92 c34
    go_wp2_with fail
    refine Calls.mono (Xd5 w.heap.size w.heap.size (Lib.byteCells out) 92 _ hB (by omega) hz) ?_
    rintro e w1 ⟨rfl,hB2,hb2⟩
    rw [show (Value.int IntKind.u8 92)=.int .u8 ((92:UInt8).toNat:Nat) from rfl,Xbq] at hB2
    have hz1:w.heap.size≤w1.heap.size:=Nat.le_trans hz hb2.size
    have hbl1:(Lib.byteCells (out++[92])).length=out.length+1:=by simp [Lib.byteCells]
    go_wp2_with fail
    refine Calls.mono (Xd5 w.heap.size w.heap.size (Lib.byteCells (out++[92])) l[k].toNat _ (.inr hB2) (by omega) hz1) ?_
    rintro e w2 ⟨rfl,hB3,hb3⟩
    rw [Xbq] at hB3
    go_wp2_with fail
    go_roundw
    case rel=>exact ⟨k+1,by omega,by go_num,.inr (by rw [hsu.out,hq.out,show out++[92,l[k]]=out++[92]++[l[k]] by simp];exact hB3),Below.trans (Below.trans hE hb2) hb3⟩
    case measure=>simp [intOf];omega
   have b2:((l[k].toNat:Int) == 92)=false:=by rw [XvM];omega
   by_cases c10:l[k].toNat=10
   ·have hq:Hid (Xes l[k]=[92,110]):=Lib.hid (by unfold Xes;rw [if_neg (by omega),if_pos c10])
    have b3:((l[k].toNat:Int) == 10)=true:=by rw [beq_iff_eq];omega
    clear c10
    go_wp2_with fail
    refine Calls.mono (XuK w.heap.size w.heap.size (Lib.byteCells out) (bs [92,110]) _ hB (by rw [XdW];simp only [Xvy,XvB];omega) hz) ?_
    rintro e w1 ⟨rfl,hB2,hb2⟩
    rw [show Lib.byteCells out++Lib.strCells (bs [92,110])=Lib.byteCells (out++[92,110]) by rw [Xec];rfl] at hB2
    go_wp2_with fail
    go_roundw
    case rel=>exact ⟨k+1,by omega,by go_num,.inr (by rw [hsu.out,hq.out];exact hB2),Below.trans hE hb2⟩
    case measure=>simp [intOf];omega
   have b3:((l[k].toNat:Int) == 10)=false:=by rw [XvM];omega
   by_cases c9:l[k].toNat=9
   ·have hq:Hid (Xes l[k]=[92,116]):=Lib.hid (by unfold Xes;rw [if_neg (by omega),if_neg c10,if_pos c9])
    have b3:((l[k].toNat:Int) == 9)=true:=by rw [beq_iff_eq];omega
    clear c9
    go_wp2_with fail
    refine Calls.mono (XuK w.heap.size w.heap.size (Lib.byteCells out) (bs [92,116]) _ hB (by rw [XdW];simp only [Xvy,XvB];omega) hz) ?_
    rintro e w1 ⟨rfl,hB2,hb2⟩
    rw [show Lib.byteCells out++Lib.strCells (bs [92,116])=Lib.byteCells (out++[92,116]) by rw [Xec];rfl] at hB2
    go_wp2_with fail
    go_roundw
    case rel=>exact ⟨k+1,by omega,by go_num,.inr (by rw [hsu.out,hq.out];exact hB2),Below.trans hE hb2⟩
    case measure=>simp [intOf];omega
   have b4:((l[k].toNat:Int) == 9)=false:=by rw [XvM];omega
   by_cases c32:l[k].toNat < 32
   ·have hq:Hid (Xes l[k]=[92,120,Xhi.getD (l[k].toNat / 16) 0,Xhi.getD (l[k].toNat % 16) 0]):=Lib.hid (by unfold Xes;rw [if_neg (by omega),if_neg c10,if_neg c9,if_pos (.inl c32)])
    clear c34 c92 c10 c9
    go_wp2_with fail
    refine Calls.mono (XuK w.heap.size w.heap.size (Lib.byteCells out) (bs [92,120]) _ hB (by rw [XdW];simp only [Xvy,XvB];omega) hz) ?_
    rintro e w1 ⟨rfl,hB2,hb2⟩
    rw [show Lib.byteCells out++Lib.strCells (bs [92,120])=Lib.byteCells (out++[92,120]) by rw [Xec];rfl] at hB2
    have hz1:w.heap.size≤w1.heap.size:=Nat.le_trans hz hb2.size
    have hbl1:(Lib.byteCells (out++[92,120])).length=out.length+2:=by simp [Lib.byteCells]
    go_wp2_with fail
    refine Calls.mono (Xd5 w.heap.size w.heap.size (Lib.byteCells (out++[92,120])) _ _ (.inr hB2) (by omega) hz1) ?_
    rintro e w2 ⟨rfl,hB3,hb3⟩
    rw [Xla,Xbq] at hB3
    have hz2:w.heap.size≤w2.heap.size:=Nat.le_trans hz1 hb3.size
    have hbl2:(Lib.byteCells (out++[92,120]++[Xhi.getD (l[k].toNat / 16) 0])).length=out.length+3:=by simp [Lib.byteCells]
    go_wp2_with fail
    refine Calls.mono (Xd5 w.heap.size w.heap.size (Lib.byteCells (out++[92,120]++[Xhi.getD (l[k].toNat / 16) 0])) _ _ (.inr hB3) (by omega) hz2) ?_
    rintro e w3 ⟨rfl,hB4,hb4⟩
    rw [Xla,Xbq] at hB4
    go_wp2_with fail
    go_roundw
    case rel=>exact ⟨k+1,by omega,by go_num,.inr (by rw [hsu.out,hq.out];simpa only [List.append_assoc,XvG,XvF] using hB4),Below.trans (Below.trans (Below.trans hE hb2) hb3) hb4⟩
    case measure=>simp [intOf];omega
   by_cases c127:l[k].toNat=127
   ·have hq:Hid (Xes l[k]=[92,120,Xhi.getD (l[k].toNat / 16) 0,Xhi.getD (l[k].toNat % 16) 0]):=Lib.hid (by unfold Xes;rw [if_neg (by omega),if_neg c10,if_neg c9,if_pos (.inr c127)])
    have b5:((l[k].toNat:Int) == 127)=true:=by rw [beq_iff_eq];omega
    have g1:(l[k].toNat:Int) / 16 < 16:=by omega
    have g2:l[k].toNat / 16 < 16:=by omega
    clear c127
    clear c34 c92 c10 c9
    go_wp2_with fail
    refine Calls.mono (XuK w.heap.size w.heap.size (Lib.byteCells out) (bs [92,120]) _ hB (by rw [XdW];simp only [Xvy,XvB];omega) hz) ?_
    rintro e w1 ⟨rfl,hB2,hb2⟩
    rw [show Lib.byteCells out++Lib.strCells (bs [92,120])=Lib.byteCells (out++[92,120]) by rw [Xec];rfl] at hB2
    have hz1:w.heap.size≤w1.heap.size:=Nat.le_trans hz hb2.size
    have hbl1:(Lib.byteCells (out++[92,120])).length=out.length+2:=by simp [Lib.byteCells]
    go_wp2_with fail
    refine Calls.mono (Xd5 w.heap.size w.heap.size (Lib.byteCells (out++[92,120])) _ _ (.inr hB2) (by omega) hz1) ?_
    rintro e w2 ⟨rfl,hB3,hb3⟩
    rw [Xla,Xbq] at hB3
    have hz2:w.heap.size≤w2.heap.size:=Nat.le_trans hz1 hb3.size
    have hbl2:(Lib.byteCells (out++[92,120]++[Xhi.getD (l[k].toNat / 16) 0])).length=out.length+3:=by simp [Lib.byteCells]
    go_wp2_with fail
    refine Calls.mono (Xd5 w.heap.size w.heap.size (Lib.byteCells (out++[92,120]++[Xhi.getD (l[k].toNat / 16) 0])) _ _ (.inr hB3) (by omega) hz2) ?_
    rintro e w3 ⟨rfl,hB4,hb4⟩
    rw [Xla,Xbq] at hB4
    go_wp2_with fail
    go_roundw
    case rel=>exact ⟨k+1,by omega,by go_num,.inr (by rw [hsu.out,hq.out];simpa only [List.append_assoc,XvG,XvF] using hB4),Below.trans (Below.trans (Below.trans hE hb2) hb3) hb4⟩
    case measure=>simp [intOf];omega
   have b5:((l[k].toNat:Int) == 127)=false:=by rw [XvM];omega
   have hq:Hid (Xes l[k]=[l[k]]):=Lib.hid (by unfold Xes;rw [if_neg (by omega),if_neg c10,if_neg c9,if_neg (by omega)])
   clear c34 c92 c10 c9 c127
   go_wp2_with fail
   refine Calls.mono (Xd5 w.heap.size w.heap.size (Lib.byteCells out) l[k].toNat _ hB (by omega) hz) ?_
   rintro e w1 ⟨rfl,hB2,hb2⟩
   rw [Xbq] at hB2
   go_wp2_with fail
   go_roundw
   case rel=>exact ⟨k+1,by omega,by go_num,.inr (by rw [hsu.out,hq.out];exact hB2),Below.trans hE hb2⟩
   case measure=>simp [intOf];omega
  ·obtain rfl:k=l.length:=by omega
   go_wp2_with fail
   refine Calls.mono (Xd5 w.heap.size w.heap.size (Lib.byteCells out) 34 _ hB (by omega) hz) ?_
   rintro e w1 ⟨rfl,hB2,hb2⟩
   rw [show (Value.int IntKind.u8 34)=.int .u8 ((34:UInt8).toNat:Nat) from rfl,Xbq] at hB2
   go_wp2_with (go_at_call 37;refine (Builder_String_any w.heap.size w.heap.size (out++[34]) _ (.inr hB2) (Nat.le_trans hz hb2.size)).mono ?_;rintro e w2 ⟨rfl,hb3⟩)
   go_ret
   exact ⟨by rw [←hout'.out,List.take_length];simp [bs,XcE],Below.trans (Below.trans hE hb2) hb3⟩
theorem Xqr (l:List UInt8) (hl:l.length≤2000000):Xa3 Tryz.prog 66 [] [.x (.string (bs l))] (fun r H'=>r=.x (.string (bs (XcE l)))∧H'=[]):=
 Xb9 (args:=[.string (bs l)]) (fun w=>XsV l w hl) []
end Go.Proofs.YtdpobjakdplljaaGreatDoor

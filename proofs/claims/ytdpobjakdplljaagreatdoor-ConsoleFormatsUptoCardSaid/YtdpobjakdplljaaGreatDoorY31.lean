import Derived.Test.YtdpobjakdplljaaGreatDoorY30
import Derived.Test.YtdpobjakdplljaaGreatDoorY6
import Derived.Test.YtdpobjakdplljaaGreatDoorY18
/- The reference of scripts: the line of an event, which events are equal: exactly. -/
set_option linter.unusedSimpArgs false
set_option linter.unusedVariables false
set_option maxRecDepth 100000
set_option maxHeartbeats 8000000
namespace Go.Proofs.YtdpobjakdplljaaGreatDoor
open Go.RowKit
structure EOk (e:EF):Prop where
 job:e.job.length≤1100000
 data:e.data.length≤1100000
 code : -9223372036854775808≤e.code∧e.code≤9223372036854775807
 time:0≤e.time∧e.time≤18446744073709551615
 client : -9223372036854775808≤e.client∧e.client≤9223372036854775807
 num : -9223372036854775808≤e.num∧e.num≤9223372036854775807
def XgY (k:Int):List UInt8:=if 1≤k∧k≤14 then XbA.getD (k.toNat - 1) [] else []
def XfK (k:Int):List UInt8:=if 1≤k∧k≤14 then Xa2.getD (k.toNat - 1) [] else []
theorem XfV (e:EF):XdO e=XgY e.kind++XbQ e (XfK e.kind):=by
 unfold XdO XgY XfK
 split
 ·rfl
 ·simp [XbQ]
theorem Xsk (k:Int) (h:¬(1≤k∧k≤14)):Xa3 Tryz.prog 57 [] [.x (.int .i64 k)] (fun r H'=>r=.tup [.x (.string (bs [])),.x (.string (bs []))]∧H'=[]):=by
 refine XaD Tryz.func57 rfl ?_
 simp only [Tryz.ntmps57,Xvy,XvB,XvC,XvD,XvG,XvF,Nat.reduceAdd,Nat.reduceSub]
 (repeat' (first|with_reducible (first|refine Xag ?_|refine Xac ?_|refine Xar ?_|refine Xae ?_|refine Xaa ?_|refine Xax ?_)|(refine Xak _ rfl (fun h=>?_) (fun h=>?_)<;>((try (simp only [whn] at h));first|(exfalso;omega;done)|skip))|((first|apply Xad rfl|apply Xa8 _ _ rfl rfl rfl);(case h=>((try (intro (hp:(_:Bool)=true);((try simp only [Bool.and_eq_true,Bool.not_eq_true',Bool.not_eq_true] at hp);(try simp only [hp,wte]);(try simp only [whn] at hp))));(first|(apply Xab 0 rfl;(first|exact Xap _ rfl|exact Xan _ rfl))|(apply Xab 1 rfl;(exact XdJ _ _ _ _ _ rfl rfl rfl rfl))|(apply Xab 3 rfl;(exact XaX _ _ _ _ _ _ HEl.out rfl rfl))|(apply Xab 17 rfl;(exact XbI _ _ _ _ _ _ rfl XaY.out rfl (by first|rfl|fail) rfl rfl (by decide)))|(apply XaC;(case hs=>(intro _ _ h;cases h));(case hx=>rfl);(case hrun=>(intro w;simp [wtb,AV.val,go_sem];(try go_bits);rfl))))));(case hT=>((try simp only [wtn,Xvz,Xvw,Xvx,XvA,XvE,Nat.reduceAdd,Nat.reduceMul,Nat.reduceSub,↓reduceIte,Nat.reduceEqDiff]);rfl)))|fail))
 refine Xaf _ _ (XcB rfl (RV.tmp _) (RV.tmp _) (XaH.mk' [] _ (Xvv _) (XaB.refl _ _) (VwL.refl _ _))) ?_
 exact ⟨rfl,rfl⟩
theorem Xp1 (k:Int):Xa3 Tryz.prog 57 [] [.x (.int .i64 k)] (fun r H'=>r=.tup [.x (.string (bs (XgY k))),.x (.string (bs (XfK k)))]∧H'=[]):=by
 unfold XgY XfK
 by_cases h:1≤k∧k≤14
 ·rw [if_pos h,if_pos h]
  have:=Xrt k.toNat (by omega) (by omega)
  rwa [Int.toNat_of_nonneg (by omega)] at this
 ·rw [if_neg h,if_neg h];exact Xsk k h
theorem XhO (k:Int):(XfK k).length≤2:=by
 unfold XfK
 split
 ·exact Xk6 (by omega)
 ·simp
theorem XhP (k:Int):(XgY k).length≤8:=by
 unfold XgY
 split
 ·exact XrV (by omega)
 ·simp
theorem Xfi (v:Int) (h0 : -9223372036854775808≤v) (h1:v≤9223372036854775807):(dcI v).length≤21:=by
 unfold dcI
 split
 ·have:=XbM (-v).toNat (by omega);simp;omega
 ·have:=XbM v.toNat (by omega);omega
theorem Xt2 (e:EF) (he:EOk e) (wd fs:List UInt8) (hw:wd.length≤8) (hfl:fs.length≤2) (hf:Xa3 Tryz.prog 57 [] [.x (.int .i64 e.kind)] (fun r H'=>r=.tup [.x (.string (bs wd)),.x (.string (bs fs))]∧H'=[])):Xa3 Tryz.prog 39 [] [.agg e.cells] (fun r H'=>r=.x (.string (bs (wd++XbQ e fs++[10])))∧H'=[]):=by
 obtain ⟨e1,e2,e3,e4,e5,e6⟩:=he
 have q1:=XcI e.data
 have q2:=XbM e.time.toNat (by omega)
 have q3:=Xfi e.code e3.1 e3.2
 have q4:=Xfi e.client e5.1 e5.2
 have q5:=Xfi e.num e6.1 e6.2
 have hF:=Lib.hid hf
 clear hf
 unfold EF.cells
 refine XaD Tryz.func39 rfl ?_
 simp only [Tryz.ntmps39,Xvy,XvB,XvC,XvD,XvG,XvF,Nat.reduceAdd,Nat.reduceSub]
 (repeat' (first|with_reducible (first|refine Xag ?_|refine Xac ?_|refine Xao ?_|refine Xae ?_|refine Xaa ?_)|((apply Xad rfl);(case h=>((try (intro (hp:(_:Bool)=true);((try simp only [Bool.and_eq_true,Bool.not_eq_true',Bool.not_eq_true] at hp);(try simp only [hp,wte]);(try simp only [whn] at hp))));(first|(apply Xab 0 rfl;(first|exact Xap _ rfl|exact Xan _ rfl))|(apply Xab 2 rfl;(exact XaM _ _ _ _ rfl rfl rfl))|(apply Xab 5 rfl;(exact Xal _ _ _ _ _ _ rfl rfl Xa5.out))|(apply Xab 6 rfl;(exact Xaz _ _ _ _ _ _ _ _ rfl rfl XaS.out XaN.out (by first|exact Xvu rfl|fail) (by first|exact Xvu rfl|fail)))|(apply Xab 11 rfl;(exact Xay 57 Tryz.f57 _ _ rfl rfl Tryz.func57 (by decide) rfl (VwL.refl _ _) (hF.out))))));(case hT=>((try simp only [wtn,Xvz,Xvw,Xvx,XvA,XvE,Nat.reduceAdd,Nat.reduceMul,Nat.reduceSub,↓reduceIte,Nat.reduceEqDiff]);rfl)))|(refine Xai rfl ?_;((refine Xas 15 rfl ?_;(refine Xbo _ _ rfl (by first|rfl|fail) (fun b=>?_)));apply Xah;(case hT=>((try simp only [wtn,Xvz,Xvw,Xvx,XvA,XvE,Nat.reduceAdd,Nat.reduceMul,Nat.reduceSub,↓reduceIte,Nat.reduceEqDiff]);rfl));(case hH=>((try simp only [wtn,Xvz,Xvw,Xvx,XvA,XvE,Nat.reduceAdd,Nat.reduceMul,Nat.reduceSub,↓reduceIte,Nat.reduceEqDiff]);rfl))))|fail))
 apply XaQ (S:=Nat × List UInt8) (fun q=>frm 73 [(1,.x (.pointer (some ⟨b,0,none⟩))),(3,.x (.string (bs q.2))),(4,.x (.string (bs fs))),(5,.x (.int .i64 q.1))]) (fun _=>[.box b [.x (.int .i64 e.kind),.x (.string (bs e.job)),.x (.bool e.ok),.x (.int .i64 e.code),.sq e.data.length (u8a e.data),.x (.int .u64 e.time),.x (.int .i64 e.client),.x (.int .i64 e.num)]]) (fun q=>q.1≤fs.length∧q.2.length≤8+q.1*4500000∧q.2=wd++XbQ e (fs.take q.1)) (fun q=>fs.length - q.1) (0,wd)
 case h0=>exact (XaH.mk' [] _ (Xvv _) (XaB.refl _ _) (by (repeat' (first|exact VwL.nil|(refine VwL.cons ?_ ?_)|exact Vw.refl _|exact Vw.top _|fail))))
 case hi=>exact ⟨Nat.zero_le _,by simp only;omega,by simp [XbQ]⟩
 rintro ⟨i,s⟩ ⟨hi,hs,hq⟩
 simp only at hi hs hq
 have hq':=Lib.hid hq
 clear hq
 simp only [frm,XvC,XvD,Xvw,Xvx,XvJ,XvK]
 by_cases hlt:i < fs.length
 ·have hfi:fs[i]=fs[i]?.getD 0:=by rw [List.getElem?_eq_getElem hlt];rfl
  have hfi':=Lib.hid hfi
  clear hfi
  have hfin:∀X:List UInt8,Xcr e fs[i]=X→X.length≤4400010→(s++[32]++X).length≤8+(i+1)*4500000∧s++[32]++X=wd++XbQ e (fs.take (i+1)):=fun X hX hXl=>by
   refine ⟨by simp only [XvH,Xvy,XvB];omega,?_⟩
   rw [hq'.out,Xa0 fs i hlt,←hX]
   simp only [XbQ,List.flatMap_append,List.flatMap_cons,List.flatMap_nil,List.append_nil,List.append_assoc,XvG,XvF]
  have hfin':=Lib.hid hfin
  clear hfin
  (repeat' (first|with_reducible (first|refine Xag ?_|refine Xac ?_|refine Xao ?_|refine Xau ?_|refine Xae ?_|refine Xaa ?_|refine Xaj ?_)|(refine Xak _ rfl (fun h=>?_) (fun h=>?_)<;>((try (simp only [whn] at h));first|(exfalso;omega;done)|skip))|((apply Xad rfl);(case h=>((try (intro (hp:(_:Bool)=true);((try simp only [Bool.and_eq_true,Bool.not_eq_true',Bool.not_eq_true] at hp);(try simp only [hp,wte]);(try simp only [whn] at hp))));(first|(apply Xab 0 rfl;(first|exact Xap _ rfl|exact Xan _ rfl))|(apply Xab 5 rfl;(exact Xal _ _ _ _ _ _ rfl rfl Xa5.out))|(apply Xab 6 rfl;(exact Xaz _ _ _ _ _ _ _ _ rfl rfl XaS.out XaN.out (by first|exact Xvu rfl|fail) (by first|exact Xvu rfl|fail)))|(apply Xab 8 rfl;(exact Xbb _ _ _ _ _ _ _ rfl rfl rfl (by kernel_rfl) rfl (by omega)))|(apply Xab 11 rfl;(first|exact Xay 69 Tryz.f69 _ _ rfl rfl Tryz.func69 (by decide) rfl (VwL.refl _ _) (XkH e.data (by omega))|exact Xay 70 Tryz.f70 _ _ rfl rfl Tryz.func70 (by decide) rfl (VwL.refl _ _) (XrY e.time e4.1 e4.2)|exact Xay 71 Tryz.f71 _ _ rfl rfl Tryz.func71 (by decide) rfl (VwL.refl _ _) (Xj9 e.code e3.1 e3.2)|exact Xay 71 Tryz.f71 _ _ rfl rfl Tryz.func71 (by decide) rfl (VwL.refl _ _) (Xj9 e.client e5.1 e5.2)|exact Xay 71 Tryz.f71 _ _ rfl rfl Tryz.func71 (by decide) rfl (VwL.refl _ _) (Xj9 e.num e6.1 e6.2)))|(apply Xab 12 rfl;(first|exact Xbz _ _ 5 _ e.data rfl (by kernel_rfl) (by kernel_rfl) (by kernel_rfl) (Src.sq rfl)|exact Xbv _ _ _ _ rfl rfl rfl (by simp;omega)))|(apply XaC;(case hs=>(intro _ _ h;cases h));(case hx=>rfl);(case hrun=>(intro w;simp [wtb,AV.val,go_sem];(try go_bits);rfl))))));(case hT=>((try simp only [wtn,Xvz,Xvw,Xvx,XvA,XvE,Nat.reduceAdd,Nat.reduceMul,Nat.reduceSub,↓reduceIte,Nat.reduceEqDiff]);rfl)))|fail))
  ·obtain ⟨z1,z2⟩:=hfin'.out e.job (by rw [hfi'.out,Xcr,if_pos (by omega)]) (by omega)
   exact ⟨(i+1,s++[32]++e.job),by simp only;omega,⟨by simp only;omega,z1,z2⟩,(XaH.mk' [] _ (Xvv _) (XaB.refl _ _) (by (repeat' (first|exact VwL.nil|(refine VwL.cons ?_ ?_)|exact Vw.refl _|exact Vw.top _|fail))))⟩
  ·obtain ⟨z1,z2⟩:=hfin'.out [111,107] (by rw [hfi'.out,Xcr,if_neg (by omega),if_pos (by omega),if_pos (by assumption)];rfl) (by simp)
   exact ⟨(i+1,s++[32]++[111,107]),by simp only;omega,⟨by simp only;omega,z1,z2⟩,(XaH.mk' [] _ (Xvv _) (XaB.refl _ _) (by (repeat' (first|exact VwL.nil|(refine VwL.cons ?_ ?_)|exact Vw.refl _|exact Vw.top _|fail))))⟩
  ·obtain ⟨z1,z2⟩:=hfin'.out [102,97,105,108,101,100] (by rw [hfi'.out,Xcr,if_neg (by omega),if_pos (by omega),if_neg (by simp_all)];rfl) (by simp)
   exact ⟨(i+1,s++[32]++[102,97,105,108,101,100]),by simp only;omega,⟨by simp only;omega,z1,z2⟩,(XaH.mk' [] _ (Xvv _) (XaB.refl _ _) (by (repeat' (first|exact VwL.nil|(refine VwL.cons ?_ ?_)|exact Vw.refl _|exact Vw.top _|fail))))⟩
  ·obtain ⟨z1,z2⟩:=hfin'.out (XcE e.data) (by rw [hfi'.out,Xcr,if_neg (by omega),if_neg (by omega),if_pos (by omega)]) (by omega)
   exact ⟨(i+1,s++[32]++(XcE e.data)),by simp only;omega,⟨by simp only;omega,z1,z2⟩,(XaH.mk' [] _ (Xvv _) (XaB.refl _ _) (by (repeat' (first|exact VwL.nil|(refine VwL.cons ?_ ?_)|exact Vw.refl _|exact Vw.top _|fail))))⟩
  ·obtain ⟨z1,z2⟩:=hfin'.out (XbJ e.time.toNat) (by rw [hfi'.out,Xcr,if_neg (by omega),if_neg (by omega),if_neg (by omega),if_pos (by omega)]) (by omega)
   exact ⟨(i+1,s++[32]++(XbJ e.time.toNat)),by simp only;omega,⟨by simp only;omega,z1,z2⟩,(XaH.mk' [] _ (Xvv _) (XaB.refl _ _) (by (repeat' (first|exact VwL.nil|(refine VwL.cons ?_ ?_)|exact Vw.refl _|exact Vw.top _|fail))))⟩
  ·obtain ⟨z1,z2⟩:=hfin'.out (dcI e.code) (by rw [hfi'.out,Xcr,if_neg (by omega),if_neg (by omega),if_neg (by omega),if_neg (by omega),if_pos (by omega)]) (by omega)
   exact ⟨(i+1,s++[32]++(dcI e.code)),by simp only;omega,⟨by simp only;omega,z1,z2⟩,(XaH.mk' [] _ (Xvv _) (XaB.refl _ _) (by (repeat' (first|exact VwL.nil|(refine VwL.cons ?_ ?_)|exact Vw.refl _|exact Vw.top _|fail))))⟩
  ·obtain ⟨z1,z2⟩:=hfin'.out (dcI e.client) (by rw [hfi'.out,Xcr,if_neg (by omega),if_neg (by omega),if_neg (by omega),if_neg (by omega),if_neg (by omega),if_pos (by omega)]) (by omega)
   exact ⟨(i+1,s++[32]++(dcI e.client)),by simp only;omega,⟨by simp only;omega,z1,z2⟩,(XaH.mk' [] _ (Xvv _) (XaB.refl _ _) (by (repeat' (first|exact VwL.nil|(refine VwL.cons ?_ ?_)|exact Vw.refl _|exact Vw.top _|fail))))⟩
  ·obtain ⟨z1,z2⟩:=hfin'.out (dcI e.num) (by rw [hfi'.out,Xcr,if_neg (by omega),if_neg (by omega),if_neg (by omega),if_neg (by omega),if_neg (by omega),if_neg (by omega)]) (by omega)
   exact ⟨(i+1,s++[32]++(dcI e.num)),by simp only;omega,⟨by simp only;omega,z1,z2⟩,(XaH.mk' [] _ (Xvv _) (XaB.refl _ _) (by (repeat' (first|exact VwL.nil|(refine VwL.cons ?_ ?_)|exact Vw.refl _|exact Vw.top _|fail))))⟩
 ·(repeat' (first|with_reducible (first|refine Xag ?_|refine Xac ?_|refine Xar ?_|refine XaW ?_|refine Xae ?_|refine Xaa ?_|refine XaL ?_|refine XaJ ?_)|(refine Xak _ rfl (fun h=>?_) (fun h=>?_)<;>((try (simp only [whn] at h));first|(exfalso;omega;done)|skip))|((apply Xad rfl);(case h=>((try (intro (hp:(_:Bool)=true);((try simp only [Bool.and_eq_true,Bool.not_eq_true',Bool.not_eq_true] at hp);(try simp only [hp,wte]);(try simp only [whn] at hp))));(first|(apply Xab 0 rfl;(first|exact Xap _ rfl|exact Xan _ rfl))|(apply Xab 12 rfl;(exact Xbv _ _ _ _ rfl rfl rfl (by simp;omega)))|(apply XaC;(case hs=>(intro _ _ h;cases h));(case hx=>rfl);(case hrun=>(intro w;simp [wtb,AV.val,go_sem];(try go_bits);rfl))))));(case hT=>((try simp only [wtn,Xvz,Xvw,Xvx,XvA,XvE,Nat.reduceAdd,Nat.reduceMul,Nat.reduceSub,↓reduceIte,Nat.reduceEqDiff]);rfl)))|fail))
  refine Xaf _ _ (Xbh rfl (RV.tmp _) (XaH.mk' [_] [] (Xvv _) (XaB.refl _ _) (by first|exact VwL.refl _ _|fail))) ?_
  have h:=hq'.out
  rw [List.take_of_length_le (by omega)] at h
  exact ⟨by rw [←h];rfl,rfl⟩
theorem Xt3 (e:EF) (he:EOk e):Xa3 Tryz.prog 39 [] [.agg e.cells] (fun r H'=>r=.x (.string (bs (XdO e++[10])))∧H'=[]):=by
 rw [XfV]
 exact Xt2 e he _ _ (XhP _) (XhO _) (Xp1 e.kind)
theorem XsX (a d:EF):Xa3 Tryz.prog 29 [] [.agg a.cells,.agg d.cells] (fun r H'=>r=.x (.bool (Xfs a d))∧H'=[]):=by
 unfold EF.cells
 refine XaD Tryz.func29 rfl ?_
 simp only [Tryz.ntmps29,Xvy,XvB,XvC,XvD,XvG,XvF,Nat.reduceAdd,Nat.reduceSub]
 (repeat' (first|with_reducible (first|refine Xag ?_|refine Xac ?_|refine Xar ?_|refine Xae ?_|refine Xaa ?_)|((first|apply Xad rfl|apply Xa8 _ _ rfl rfl rfl);(case h=>((try (intro (hp:(_:Bool)=true);((try simp only [Bool.and_eq_true,Bool.not_eq_true',Bool.not_eq_true] at hp);(try simp only [hp,wte]);(try simp only [whn] at hp))));(first|(apply Xab 0 rfl;(first|exact Xap _ rfl|exact Xan _ rfl))|(apply Xab 1 rfl;(exact XbC _ _ _ _ _ rfl rfl rfl rfl))|(apply Xab 5 rfl;(exact Xal _ _ _ _ _ _ rfl rfl Xa5.out))|(apply Xab 6 rfl;(exact Xaz _ _ _ _ _ _ _ _ rfl rfl XaS.out XaN.out (by first|exact Xvu rfl|fail) (by first|exact Xvu rfl|fail)))|(apply Xab 12 rfl;(first|exact Xbz _ _ 5 _ a.data rfl (by kernel_rfl) (by kernel_rfl) (by kernel_rfl) (Src.sq rfl)|exact Xbz _ _ 5 _ d.data rfl (by kernel_rfl) (by kernel_rfl) (by kernel_rfl) (Src.sq rfl)))|(apply XaC;(case hs=>(intro _ _ h;cases h));(case hx=>rfl);(case hrun=>(intro w;simp [wtb,AV.val,go_sem];(try go_bits);rfl))))));(case hT=>((try simp only [wtn,Xvz,Xvw,Xvx,XvA,XvE,Nat.reduceAdd,Nat.reduceMul,Nat.reduceSub,↓reduceIte,Nat.reduceEqDiff]);rfl)))|(refine Xai rfl ?_;((refine Xas 15 rfl ?_;(refine Xbo _ _ rfl (by first|rfl|fail) (fun b=>?_)));apply Xah;(case hT=>((try simp only [wtn,Xvz,Xvw,Xvx,XvA,XvE,Nat.reduceAdd,Nat.reduceMul,Nat.reduceSub,↓reduceIte,Nat.reduceEqDiff]);rfl));(case hH=>((try simp only [wtn,Xvz,Xvw,Xvx,XvA,XvE,Nat.reduceAdd,Nat.reduceMul,Nat.reduceSub,↓reduceIte,Nat.reduceEqDiff]);rfl))))|fail))
 refine Xaf _ _ (Xbh rfl (RV.tmp _) (XaH.mk' [_,_] [] (Xvv _) XaB.nil (VwL.refl _ _))) ?_
 exact ⟨rfl,rfl⟩
theorem XsZ (a b:List EF) (ha:a.length≤1000000):Xa3 Tryz.prog 12 [] [.sq a.length (va a),.sq b.length (va b)] (fun r H'=>r=.x (.bool (Xft a b))∧H'=[]):=by
 refine XaD Tryz.func12 rfl ?_
 simp only [Tryz.ntmps12,Xvy,XvB,XvC,XvD,XvG,XvF,Nat.reduceAdd,Nat.reduceSub]
 (repeat' (first|with_reducible (first|refine Xag ?_|refine Xac ?_|refine Xao ?_|refine Xar ?_|refine Xau ?_|refine Xae ?_|refine Xaa ?_|refine Xax ?_)|(refine Xak _ rfl (fun h=>?_) (fun h=>?_)<;>((try (simp only [whn] at h));skip))|((apply Xad rfl);(case h=>((try (intro (hp:(_:Bool)=true);((try simp only [Bool.and_eq_true,Bool.not_eq_true',Bool.not_eq_true] at hp);(try simp only [hp,wte]);(try simp only [whn] at hp))));(first|(apply Xab 0 rfl;(first|exact Xap _ rfl|exact Xan _ rfl))|(apply Xab 3 rfl;(exact XaX _ _ _ _ _ _ HEl.out rfl rfl))|(apply XaC;(case hs=>(intro _ _ h;cases h));(case hx=>rfl);(case hrun=>(intro w;simp [wtb,AV.val,go_sem];(try go_bits);rfl))))));(case hT=>((try simp only [wtn,Xvz,Xvw,Xvx,XvA,XvE,Nat.reduceAdd,Nat.reduceMul,Nat.reduceSub,↓reduceIte,Nat.reduceEqDiff]);rfl)))|fail))
 ·refine Xaf _ _ (Xbh rfl (RV.tmp _) (XaH.mk' [] [] (Xvv _) (XaB.refl _ _) (by first|exact VwL.refl _ _|fail))) ?_
  exact ⟨by rw [show Xft a b=false by unfold Xft;rw [decide_eq_false (by omega)];rfl];rfl,rfl⟩
 have hlen:a.length=b.length:=by omega
 apply XaQ (S:=Nat) (fun q=>frm 27 [(0,.sq a.length (va a)),(1,.sq b.length (va b)),(5,.x (.int .i64 q))]) (fun _=>[]) (fun q=>q≤a.length∧(((a.take q).zip (b.take q)).all fun p=>Xfs p.1 p.2)=true) (fun q=>a.length - q) 0
 case h0=>exact (XaH.mk' [] _ (Xvv _) (XaB.refl _ _) (by (repeat' (first|exact VwL.nil|(refine VwL.cons ?_ ?_)|exact Vw.refl _|exact Vw.top _|fail))))
 case hi=>exact ⟨Nat.zero_le _,by simp⟩
 rintro i ⟨hi,ht⟩
 have ht':=Lib.hid ht
 clear ht
 simp only [frm,XvC,XvD,Xvw,Xvx,XvJ,XvK]
 by_cases hlt:i < a.length
 ·have hlt2:i < b.length:=by omega
  have hE:=XsX a[i] b[i]
  have hd1:=XdH a i hlt
  have hd2:=XdH b i hlt2
  unfold EF.cells at hE
  (repeat' (first|with_reducible (first|refine Xag ?_|refine Xac ?_|refine Xao ?_|refine Xar ?_|refine Xau ?_|refine Xae ?_|refine Xch ?_|refine Xaa ?_|refine Xax ?_|refine Xaj ?_|refine Xav ?_)|(with_reducible refine Xbe mixed ?_ ?_;(decide +kernel))|(refine Xak _ rfl (fun h=>?_) (fun h=>?_)<;>((try (simp only [whn] at h));first|(exfalso;omega;done)|skip))|((first|apply Xad rfl|apply XbO rfl);(case h=>((try (intro (hp:(_:Bool)=true);((try simp only [Bool.and_eq_true,Bool.not_eq_true',Bool.not_eq_true] at hp);(try simp only [hp,wte]);(try simp only [whn] at hp))));(first|(apply Xab 0 rfl;(first|exact Xap _ rfl|exact Xan _ rfl))|(apply Xab 3 rfl;(exact XaX _ _ _ _ _ _ HEl.out rfl rfl))|(apply Xab 6 rfl;(exact XaF _ _ _ _ _ rfl rfl XaN.out (by first|exact Xvu rfl|fail) (by first|exact Xvu rfl|fail)))|(apply Xab 7 rfl;(exact XaG _ _ _ _ _ _ _ _ _ _ rfl rfl rfl HEl.out rfl (by first|omega|fail) (by simp;first|omega|fail)))|(apply Xab 11 rfl;(exact Xay 29 Tryz.f29 _ _ rfl rfl Tryz.func29 (by decide) rfl (VwL.refl _ _) (hE)))|(apply XaC;(case hs=>(intro _ _ h;cases h));(case hx=>rfl);(case hrun=>(intro w;simp [wtb,AV.val,go_sem];(try go_bits);rfl))))));(case hT=>((try simp (disch:=omega) only [wtn,hd1,hd2,Xvz,Xvw,Xvx,XvA,XvE,Nat.reduceAdd,Nat.reduceMul,Nat.reduceSub,↓reduceIte,Nat.reduceEqDiff]);rfl)))|fail))
  ·refine Xaf _ _ (Xbh rfl (RV.tmp _) (XaH.mk' [] [] (Xvv _) (XaB.refl _ _) (by first|exact VwL.refl _ _|fail))) ?_
   exact ⟨by rw [XlB hlt hlt2 (by assumption)];rfl,rfl⟩
  ·exact ⟨i+1,by omega,⟨by omega,Xhz hlt hlt2 ht'.out (by assumption)⟩,(XaH.mk' [] _ (Xvv _) (XaB.refl _ _) (by (repeat' (first|exact VwL.nil|(refine VwL.cons ?_ ?_)|exact Vw.refl _|exact Vw.top _|fail))))⟩
 ·(repeat' (first|with_reducible (first|refine Xag ?_|refine Xac ?_|refine Xar ?_|refine XaW ?_|refine Xae ?_|refine Xaa ?_|refine XaL ?_|refine XaJ ?_)|(refine Xak _ rfl (fun h=>?_) (fun h=>?_)<;>((try (simp only [whn] at h));first|(exfalso;omega;done)|skip))|((apply Xad rfl);(case h=>((try (intro (hp:(_:Bool)=true);((try simp only [Bool.and_eq_true,Bool.not_eq_true',Bool.not_eq_true] at hp);(try simp only [hp,wte]);(try simp only [whn] at hp))));(first|(apply Xab 0 rfl;(first|exact Xap _ rfl|exact Xan _ rfl))|(apply Xab 3 rfl;(exact XaX _ _ _ _ _ _ HEl.out rfl rfl))|(apply XaC;(case hs=>(intro _ _ h;cases h));(case hx=>rfl);(case hrun=>(intro w;simp [wtb,AV.val,go_sem];(try go_bits);rfl))))));(case hT=>((try simp only [wtn,Xvz,Xvw,Xvx,XvA,XvE,Nat.reduceAdd,Nat.reduceMul,Nat.reduceSub,↓reduceIte,Nat.reduceEqDiff]);rfl)))|fail))
  refine Xaf _ _ (Xbh rfl (RV.tmp _) (XaH.mk' [] [] (Xvv _) (XaB.refl _ _) (by first|exact VwL.refl _ _|fail))) ?_
  have ht:=ht'.out
  rw [List.take_of_length_le (by omega),List.take_of_length_le (by omega)] at ht
  exact ⟨by rw [show Xft a b=true by unfold Xft;rw [decide_eq_true hlen,ht];rfl];rfl,rfl⟩
end Go.Proofs.YtdpobjakdplljaaGreatDoor

import Derived.Test.YtdpobjakdplljaaGreatDoorU14
import Derived.Test.YtdpobjakdplljaaGreatDoorU24
import Derived.Test.YtdpobjakdplljaaGreatDoorU9
import Derived.Test.YtdpobjakdplljaaGreatDoorU17
/- The reference of scripts: numbers written, the line of an event. -/
set_option linter.unusedSimpArgs false
set_option linter.unusedVariables false
set_option maxRecDepth 100000
set_option maxHeartbeats 8000000
namespace Go.Proofs.YtdpobjakdplljaaGreatDoor
open Go.RowKit
theorem XhJ (n:Nat) (h10:n < 10):Xbb Tryz.prog 70 [] [.x (.int .u64 n)] (fun r H'=>r=.x (.string (bs (Xcn n)))∧H'=[]):=by
 refine XaI Tryz.func70 rfl ?_
 simp only [Tryz.ntmps70,Xqy,XqB,XqC,XqD,XqG,XqF,Nat.reduceAdd,Nat.reduceSub]
 (repeat' (first|with_reducible (first|refine Xal ?_|refine Xac ?_|refine Xaq ?_|refine Xae ?_|refine Xaa ?_|refine Xam ?_)|(refine Xai _ rfl (fun h=>?_) (fun h=>?_)<;>((try (simp only [whn] at h));first|(exfalso;omega;done)|skip))|((apply Xad rfl);(case h=>(first|(apply Xab 0 rfl;(first|exact Xas _ rfl|exact Xao _ rfl))|(apply Xab 12 rfl;(exact XbN _ _ 5 _ [_] rfl (by kernel_rfl) (by kernel_rfl) (by kernel_rfl) (Src.chr 0 _ (by omega) (by omega) rfl rfl)))|(apply XaB;(case hs=>(intro _ _ h;cases h));(case hx=>rfl);(case hrun=>(intro w;simp [wtb,AV.val,go_sem];(try go_bits);rfl)))));(case hT=>((try simp only [wtn]);rfl)))|(refine Xah rfl ?_;((refine Xav 17 rfl ?_;(refine XaA _ _ _ _ _ _ _ _ rfl Xa5.out (by first|rfl|fail) rfl (by decide) rfl (fun b=>?_)));apply Xag;(case hT=>((try simp only [wtn]);rfl));(case hH=>((try simp only [wtn]);rfl))))|fail))
 refine Xaf _ _ (XcL rfl (RV.tmp _) (XaH.mk' [_] [] (Xqv _) (XaF.refl _ _) (by first|exact VwL.refl _ _|fail))) ?_
 refine ⟨?_,rfl⟩
 rw [Xcn,dif_pos h10]
 simp only [ev,List.getD_cons_succ,List.getD_cons_zero]
 congr 3
theorem Xkr (n:Nat) (hn:n≤18446744073709551615) (h10:¬n < 10) (h1:Xbb Tryz.prog 70 [] [.x (.int .u64 (n / 10:Nat))] (fun r H'=>r=.x (.string (bs (Xcn (n / 10))))∧H'=[]))
  (h2:Xbb Tryz.prog 70 [] [.x (.int .u64 (n % 10:Nat))] (fun r H'=>r=.x (.string (bs (Xcn (n % 10))))∧H'=[])):Xbb Tryz.prog 70 [] [.x (.int .u64 n)] (fun r H'=>r=.x (.string (bs (Xcn n)))∧H'=[]):=by
 have hL1:=XbU (n / 10) (by omega)
 have hL2:=XbU (n % 10) (by omega)
 refine XaI Tryz.func70 rfl ?_
 simp only [Tryz.ntmps70,Xqy,XqB,XqC,XqD,XqG,XqF,Nat.reduceAdd,Nat.reduceSub]
 (repeat' (first|with_reducible (first|refine Xal ?_|refine Xac ?_|refine Xaq ?_|refine Xaw ?_|refine Xae ?_|refine Xaa ?_)|(refine Xai _ rfl (fun h=>?_) (fun h=>?_)<;>((try (simp only [whn] at h));first|(exfalso;omega;done)|skip))|((apply Xad rfl);(case h=>(first|(apply Xab 0 rfl;(first|exact Xas _ rfl|exact Xao _ rfl))|(apply Xab 11 rfl;(first|exact Xan 70 Tryz.f70 _ _ rfl rfl Tryz.func70 (by decide) rfl (VwL.refl _ _) (h1)|exact Xan 70 Tryz.f70 _ _ rfl rfl Tryz.func70 (by decide) rfl (VwL.refl _ _) (h2)))|(apply Xab 12 rfl;(exact Xb9 _ _ _ _ rfl rfl rfl (by omega)))|(apply XaB;(case hs=>(intro _ _ h;cases h));(case hx=>rfl);(case hrun=>(intro w;simp [wtb,AV.val,go_sem];(try go_bits);rfl)))));(case hT=>((try simp (disch:=omega) only [wtn,Xlo,Xlp,Xqz,Xqw,Xqx,XqA,XqE,Nat.reduceAdd,Nat.reduceMul,Nat.reduceSub,↓reduceIte,Nat.reduceEqDiff]);rfl)))|fail))
 refine Xaf _ _ (XcL rfl (RV.tmp _) (XaH.mk' [] _ (Xqv _) (XaF.refl _ _) (VwL.refl _ _))) ?_
 refine ⟨?_,rfl⟩
 conv=>rhs;rw [Xcn,dif_neg h10]
 rfl
theorem Xnx (n:Nat) (hn:n≤18446744073709551615):Xbb Tryz.prog 70 [] [.x (.int .u64 n)] (fun r H'=>r=.x (.string (bs (Xcn n)))∧H'=[]):=by
 induction n using Nat.strongRecOn with
 | _ n ih=>
   by_cases h10:n < 10
   ·exact XhJ n h10
   ·exact Xkr n hn h10 (ih (n / 10) (by omega) (by omega)) (ih (n % 10) (by omega) (by omega))
theorem Xnw (v:Int) (h0:0≤v) (h1:v≤18446744073709551615):Xbb Tryz.prog 70 [] [.x (.int .u64 v)] (fun r H'=>r=.x (.string (bs (Xcn v.toNat)))∧H'=[]):=by
 have:=Xnx v.toNat (by omega)
 rwa [Int.toNat_of_nonneg h0] at this
theorem XhI (n:Nat) (h10:n < 10):Xbb Tryz.prog 71 [] [.x (.int .i64 n)] (fun r H'=>r=.x (.string (bs (Xcn n)))∧H'=[]):=by
 refine XaI Tryz.func71 rfl ?_
 simp only [Tryz.ntmps71,Xqy,XqB,XqC,XqD,XqG,XqF,Nat.reduceAdd,Nat.reduceSub]
 (repeat' (first|with_reducible (first|refine Xal ?_|refine Xac ?_|refine Xat ?_|refine Xaq ?_|refine Xae ?_|refine Xaa ?_|refine Xam ?_|refine Xak ?_)|(refine Xai _ rfl (fun h=>?_) (fun h=>?_)<;>first|(exact absurd h (by decide))|((try (simp only [whn] at h));first|(exfalso;omega;done)|skip))|((apply Xcg rfl rfl rfl);(case hT=>((try simp only [wtn]);rfl)))|((apply Xad rfl);(case h=>(first|(apply Xab 0 rfl;(first|exact Xas _ rfl|exact Xao _ rfl))|(apply Xab 1 rfl;(exact Xbq _ _ _ rfl rfl))|(apply Xab 12 rfl;(exact XbN _ _ 5 _ [_] rfl (by kernel_rfl) (by kernel_rfl) (by kernel_rfl) (Src.chr 0 _ (by omega) (by omega) rfl rfl)))|(apply XaB;(case hs=>(intro _ _ h;cases h));(case hx=>rfl);(case hrun=>(intro w;simp [wtb,AV.val,go_sem];(try go_bits);rfl)))));(case hT=>((try simp only [wtn]);rfl)))|(refine Xah rfl ?_;((refine Xav 17 rfl ?_;(refine XaA _ _ _ _ _ _ _ _ rfl Xa5.out (by first|rfl|fail) rfl (by decide) rfl (fun b=>?_)));apply Xag;(case hT=>((try simp only [wtn]);rfl));(case hH=>((try simp only [wtn]);rfl))))|fail))
 refine Xaf _ _ (XcL rfl (RV.tmp _) (XaH.mk' [_] [] (Xqv _) (XaF.refl _ _) (by first|exact VwL.refl _ _|fail))) ?_
 refine ⟨?_,rfl⟩
 rw [Xcn,dif_pos h10]
 simp only [ev,List.getD_cons_succ,List.getD_cons_zero]
 congr 3
theorem Xkp (n:Nat) (hn:n≤9223372036854775807) (h10:¬n < 10) (h1:Xbb Tryz.prog 71 [] [.x (.int .i64 (n / 10:Nat))] (fun r H'=>r=.x (.string (bs (Xcn (n / 10))))∧H'=[]))
  (h2:Xbb Tryz.prog 71 [] [.x (.int .i64 (n % 10:Nat))] (fun r H'=>r=.x (.string (bs (Xcn (n % 10))))∧H'=[])):Xbb Tryz.prog 71 [] [.x (.int .i64 n)] (fun r H'=>r=.x (.string (bs (Xcn n)))∧H'=[]):=by
 have hL1:=XbU (n / 10) (by omega)
 have hL2:=XbU (n % 10) (by omega)
 refine XaI Tryz.func71 rfl ?_
 simp only [Tryz.ntmps71,Xqy,XqB,XqC,XqD,XqG,XqF,Nat.reduceAdd,Nat.reduceSub]
 (repeat' (first|with_reducible (first|refine Xal ?_|refine Xac ?_|refine Xat ?_|refine Xaq ?_|refine Xaw ?_|refine Xae ?_|refine Xaa ?_|refine Xaj ?_)|(refine Xai _ rfl (fun h=>?_) (fun h=>?_)<;>first|(exact absurd h (by decide))|((try (simp only [whn] at h));first|(exfalso;omega;done)|skip))|((apply Xcg rfl rfl rfl);(case hT=>((try simp (disch:=omega) only [wtn,Xlo,Xlp,Xqz,Xqw,Xqx,XqA,XqE,Nat.reduceAdd,Nat.reduceMul,Nat.reduceSub,↓reduceIte,Nat.reduceEqDiff]);rfl)))|((apply Xad rfl);(case h=>(first|(apply Xab 0 rfl;(first|exact Xas _ rfl|exact Xao _ rfl))|(apply Xab 1 rfl;(exact Xbq _ _ _ rfl rfl))|(apply Xab 11 rfl;(first|exact Xan 71 Tryz.f71 _ _ rfl rfl Tryz.func71 (by decide) rfl (VwL.refl _ _) (h1)|exact Xan 71 Tryz.f71 _ _ rfl rfl Tryz.func71 (by decide) rfl (VwL.refl _ _) (h2)))|(apply Xab 12 rfl;(exact Xb9 _ _ _ _ rfl rfl rfl (by omega)))|(apply XaB;(case hs=>(intro _ _ h;cases h));(case hx=>rfl);(case hrun=>(intro w;simp [wtb,AV.val,go_sem];(try go_bits);rfl)))));(case hT=>((try simp (disch:=omega) only [wtn,Xlo,Xlp,Xqz,Xqw,Xqx,XqA,XqE,Nat.reduceAdd,Nat.reduceMul,Nat.reduceSub,↓reduceIte,Nat.reduceEqDiff]);rfl)))|fail))
 refine Xaf _ _ (XcL rfl (RV.tmp _) (XaH.mk' [] _ (Xqv _) (XaF.refl _ _) (VwL.refl _ _))) ?_
 refine ⟨?_,rfl⟩
 conv=>rhs;rw [Xcn,dif_neg h10]
 rfl
theorem XeW (n:Nat) (hn:n≤9223372036854775807):Xbb Tryz.prog 71 [] [.x (.int .i64 n)] (fun r H'=>r=.x (.string (bs (Xcn n)))∧H'=[]):=by
 induction n using Nat.strongRecOn with
 | _ n ih=>
   by_cases h10:n < 10
   ·exact XhI n h10
   ·exact Xkp n hn h10 (ih (n / 10) (by omega) (by omega)) (ih (n % 10) (by omega) (by omega))
theorem Xow (n:Nat):Int.tdiv (-(n:Int)) 10 = -((n / 10:Nat):Int):=by rw [Int.neg_tdiv];rfl
theorem Xoy (n:Nat):Int.tmod (-(n:Int)) 10 = -((n % 10:Nat):Int):=by rw [Int.neg_tmod];rfl
theorem Xje (n:Nat) (h1:1≤n) (h9:n≤9):Xbb Tryz.prog 71 [] [.x (.int .i64 (-(n:Int)))] (fun r H'=>r=.x (.string (bs (45 :: Xcn n)))∧H'=[]):=by
 have hL1:=XbU n (by omega)
 have hn:=XeW n (by omega)
 refine XaI Tryz.func71 rfl ?_
 simp only [Tryz.ntmps71,Xqy,XqB,XqC,XqD,XqG,XqF,Nat.reduceAdd,Nat.reduceSub]
 (repeat' (first|with_reducible (first|refine Xal ?_|refine Xac ?_|refine Xat ?_|refine Xaq ?_|refine Xae ?_|refine Xaa ?_|refine Xam ?_|refine Xak ?_)|(refine Xai _ rfl (fun h=>?_) (fun h=>?_)<;>((try (simp only [whn] at h));first|(exfalso;omega;done)|skip))|((first|apply Xad rfl|apply XaV _ _ rfl rfl rfl);(case h=>((try (intro (hp:(_:Bool)=true);((try simp only [hp]);(try simp only [whn] at hp))));(first|(apply Xab 0 rfl;(first|exact Xas _ rfl|exact Xao _ rfl))|(apply Xab 1 rfl;(exact Xbo _ _ _ _ _ rfl rfl rfl rfl))|(apply Xab 11 rfl;(exact Xan 71 Tryz.f71 _ _ rfl rfl Tryz.func71 (by decide) rfl (VwL.refl _ _) (hn)))|(apply Xab 12 rfl;(exact Xb9 _ _ _ _ rfl rfl rfl (by simp;omega)))|(apply XaB;(case hs=>(intro _ _ h;cases h));(case hx=>rfl);(case hrun=>(intro w;simp [wtb,AV.val,go_sem];(try go_bits);rfl))))));(case hT=>((try simp (disch:=omega) only [wtn,Int.neg_neg,Xqz,Xqw,Xqx,XqA,XqE,Nat.reduceAdd,Nat.reduceMul,Nat.reduceSub,↓reduceIte,Nat.reduceEqDiff]);rfl)))|fail))
 refine Xaf _ _ (XcL rfl (RV.tmp _) (XaH.mk' [] _ (Xqv _) (XaF.refl _ _) (VwL.refl _ _))) ?_
 exact ⟨rfl,rfl⟩
theorem Xjf (n:Nat) (h10:10≤n) (hn:n≤9223372036854775808) (h1:Xbb Tryz.prog 71 [] [.x (.int .i64 (-((n / 10:Nat):Int)))] (fun r H'=>r=.x (.string (bs (45 :: Xcn (n / 10))))∧H'=[])):Xbb Tryz.prog 71 [] [.x (.int .i64 (-(n:Int)))] (fun r H'=>r=.x (.string (bs (45 :: Xcn n)))∧H'=[]):=by
 have hL1:=XbU (n / 10) (by omega)
 have hL2:=XbU (n % 10) (by omega)
 have h2:=XeW (n % 10) (by omega)
 refine XaI Tryz.func71 rfl ?_
 simp only [Tryz.ntmps71,Xqy,XqB,XqC,XqD,XqG,XqF,Nat.reduceAdd,Nat.reduceSub]
 (repeat' (first|with_reducible (first|refine Xal ?_|refine Xac ?_|refine Xat ?_|refine Xaq ?_|refine Xae ?_|refine Xaa ?_|refine Xam ?_|refine Xak ?_)|(refine Xai _ rfl (fun h=>?_) (fun h=>?_)<;>((try (simp only [whn] at h));first|(exfalso;omega;done)|skip))|((first|apply Xad rfl|apply XaV _ _ rfl rfl rfl);(case h=>((try (intro (hp:(_:Bool)=true);((try simp only [hp]);(try simp only [whn] at hp))));(first|(apply Xab 0 rfl;(first|exact Xas _ rfl|exact Xao _ rfl))|(apply Xab 1 rfl;(exact Xbo _ _ _ _ _ rfl rfl rfl rfl))|(apply Xab 11 rfl;(first|exact Xan 71 Tryz.f71 _ _ rfl rfl Tryz.func71 (by decide) rfl (VwL.refl _ _) (h1)|exact Xan 71 Tryz.f71 _ _ rfl rfl Tryz.func71 (by decide) rfl (VwL.refl _ _) (h2)))|(apply Xab 12 rfl;(exact Xb9 _ _ _ _ rfl rfl rfl (by simp;omega)))|(apply XaB;(case hs=>(intro _ _ h;cases h));(case hx=>rfl);(case hrun=>(intro w;simp [wtb,AV.val,go_sem];(try go_bits);rfl))))));(case hT=>((try simp (disch:=omega) only [wtn,Xow,Xoy,Int.neg_neg,Xqz,Xqw,Xqx,XqA,XqE,Nat.reduceAdd,Nat.reduceMul,Nat.reduceSub,↓reduceIte,Nat.reduceEqDiff]);rfl)))|fail))
 refine Xaf _ _ (XcL rfl (RV.tmp _) (XaH.mk' [] _ (Xqv _) (XaF.refl _ _) (VwL.refl _ _))) ?_
 refine ⟨?_,rfl⟩
 conv=>rhs;rw [Xcn,dif_neg (show ¬n < 10 by omega)]
 rfl
theorem Xkq (n:Nat) (h1:1≤n) (hn:n≤9223372036854775808):Xbb Tryz.prog 71 [] [.x (.int .i64 (-(n:Int)))] (fun r H'=>r=.x (.string (bs (45 :: Xcn n)))∧H'=[]):=by
 induction n using Nat.strongRecOn with
 | _ n ih=>
   by_cases h9:n≤9
   ·exact Xje n h1 h9
   ·exact Xjf n (by omega) hn (ih (n / 10) (by omega) (by omega) (by omega))
theorem XhH (v:Int) (h0 : -9223372036854775808≤v) (h1:v≤9223372036854775807):Xbb Tryz.prog 71 [] [.x (.int .i64 v)] (fun r H'=>r=.x (.string (bs (dcI v)))∧H'=[]):=by
 unfold dcI
 by_cases hv:v < 0
 ·rw [if_pos hv]
  have:=Xkq (-v).toNat (by omega) (by omega)
  rwa [Int.toNat_of_nonneg (by omega),Int.neg_neg] at this
 ·rw [if_neg hv]
  have:=XeW v.toNat (by omega)
  rwa [Int.toNat_of_nonneg (by omega)] at this
structure EOk (e:EF):Prop where
 job:e.job.length≤1100000
 data:e.data.length≤1100000
 code : -9223372036854775808≤e.code∧e.code≤9223372036854775807
 time:0≤e.time∧e.time≤18446744073709551615
 client : -9223372036854775808≤e.client∧e.client≤9223372036854775807
 num : -9223372036854775808≤e.num∧e.num≤9223372036854775807
def Xfr (k:Int):List UInt8:=if 1≤k∧k≤14 then Xbl.getD (k.toNat - 1) [] else []
def Xfp (k:Int):List UInt8:=if 1≤k∧k≤14 then Xbj.getD (k.toNat - 1) [] else []
theorem XfY (e:EF):XcW e=Xfr e.kind++Xc3 e (Xfp e.kind):=by
 unfold XcW Xfr Xfp
 split
 ·rfl
 ·simp [Xc3]
theorem XnV (k:Int) (h:¬(1≤k∧k≤14)):Xbb Tryz.prog 57 [] [.x (.int .i64 k)] (fun r H'=>r=.tup [.x (.string (bs [])),.x (.string (bs []))]∧H'=[]):=by
 refine XaI Tryz.func57 rfl ?_
 simp only [Tryz.ntmps57,Xqy,XqB,XqC,XqD,XqG,XqF,Nat.reduceAdd,Nat.reduceSub]
 (repeat' (first|with_reducible (first|refine Xal ?_|refine Xac ?_|refine Xaq ?_|refine Xae ?_|refine Xaa ?_|refine Xam ?_)|(refine Xai _ rfl (fun h=>?_) (fun h=>?_)<;>((try (simp only [whn] at h));first|(exfalso;omega;done)|skip))|((first|apply Xad rfl|apply XaV _ _ rfl rfl rfl);(case h=>((try (intro (hp:(_:Bool)=true);((try simp only [Bool.and_eq_true,Bool.not_eq_true',Bool.not_eq_true] at hp);(try simp only [hp,wte]);(try simp only [whn] at hp))));(first|(apply Xab 0 rfl;(first|exact Xas _ rfl|exact Xao _ rfl))|(apply Xab 1 rfl;(exact Xcv _ _ _ _ _ rfl rfl rfl rfl))|(apply Xab 3 rfl;(exact Xa2 _ _ _ _ _ _ HEl.out rfl rfl))|(apply Xab 17 rfl;(exact Xfz _ _ _ _ _ _ rfl Xa5.out rfl (by first|rfl|fail) rfl rfl (by decide)))|(apply XaB;(case hs=>(intro _ _ h;cases h));(case hx=>rfl);(case hrun=>(intro w;simp [wtb,AV.val,go_sem];(try go_bits);rfl))))));(case hT=>((try simp only [wtn,Xqz,Xqw,Xqx,XqA,XqE,Nat.reduceAdd,Nat.reduceMul,Nat.reduceSub,↓reduceIte,Nat.reduceEqDiff]);rfl)))|fail))
 refine Xaf _ _ (XcA rfl (RV.tmp _) (RV.tmp _) (XaH.mk' [] _ (Xqv _) (XaF.refl _ _) (VwL.refl _ _))) ?_
 exact ⟨rfl,rfl⟩
theorem Xl0 (k:Int):Xbb Tryz.prog 57 [] [.x (.int .i64 k)] (fun r H'=>r=.tup [.x (.string (bs (Xfr k))),.x (.string (bs (Xfp k)))]∧H'=[]):=by
 unfold Xfr Xfp
 by_cases h:1≤k∧k≤14
 ·rw [if_pos h,if_pos h]
  have:=Xm1 k.toNat (by omega) (by omega)
  rwa [Int.toNat_of_nonneg (by omega)] at this
 ·rw [if_neg h,if_neg h];exact XnV k h
theorem Xij (k:Int):(Xfp k).length≤2:=by
 unfold Xfp
 split
 ·exact Xki (by omega)
 ·simp
theorem Xin (k:Int):(Xfr k).length≤8:=by
 unfold Xfr
 split
 ·exact XpJ (by omega)
 ·simp
theorem Xee (v:Int) (h0 : -9223372036854775808≤v) (h1:v≤9223372036854775807):(dcI v).length≤21:=by
 unfold dcI
 split
 ·have:=XbU (-v).toNat (by omega);simp;omega
 ·have:=XbU v.toNat (by omega);omega
theorem Xo8 (e:EF) (he:EOk e) (wd fs:List UInt8) (hw:wd.length≤8) (hfl:fs.length≤2) (hf:Xbb Tryz.prog 57 [] [.x (.int .i64 e.kind)] (fun r H'=>r=.tup [.x (.string (bs wd)),.x (.string (bs fs))]∧H'=[])):Xbb Tryz.prog 39 [] [.agg e.cells] (fun r H'=>r=.x (.string (bs (wd++Xc3 e fs++[10])))∧H'=[]):=by
 obtain ⟨e1,e2,e3,e4,e5,e6⟩:=he
 have q1:=XfP e.data
 have q2:=XbU e.time.toNat (by omega)
 have q3:=Xee e.code e3.1 e3.2
 have q4:=Xee e.client e5.1 e5.2
 have q5:=Xee e.num e6.1 e6.2
 have hF:=Lib.hid hf
 clear hf
 unfold EF.cells
 refine XaI Tryz.func39 rfl ?_
 simp only [Tryz.ntmps39,Xqy,XqB,XqC,XqD,XqG,XqF,Nat.reduceAdd,Nat.reduceSub]
 (repeat' (first|with_reducible (first|refine Xal ?_|refine Xac ?_|refine Xat ?_|refine Xae ?_|refine Xaa ?_)|((apply Xad rfl);(case h=>((try (intro (hp:(_:Bool)=true);((try simp only [Bool.and_eq_true,Bool.not_eq_true',Bool.not_eq_true] at hp);(try simp only [hp,wte]);(try simp only [whn] at hp))));(first|(apply Xab 0 rfl;(first|exact Xas _ rfl|exact Xao _ rfl))|(apply Xab 2 rfl;(exact Xay _ _ _ _ rfl rfl rfl))|(apply Xab 5 rfl;(exact Xau _ _ _ _ _ _ rfl rfl Xbv.out))|(apply Xab 6 rfl;(exact Xaz _ _ _ _ _ _ _ _ rfl rfl Xa3.out XaZ.out (by first|exact Xqu rfl|fail) (by first|exact Xqu rfl|fail)))|(apply Xab 11 rfl;(exact Xan 57 Tryz.f57 _ _ rfl rfl Tryz.func57 (by decide) rfl (VwL.refl _ _) (hF.out))))));(case hT=>((try simp only [wtn,Xqz,Xqw,Xqx,XqA,XqE,Nat.reduceAdd,Nat.reduceMul,Nat.reduceSub,↓reduceIte,Nat.reduceEqDiff]);rfl)))|(refine Xah rfl ?_;((refine Xav 15 rfl ?_;(refine Xbn _ _ rfl (by first|rfl|fail) (fun b=>?_)));apply Xag;(case hT=>((try simp only [wtn,Xqz,Xqw,Xqx,XqA,XqE,Nat.reduceAdd,Nat.reduceMul,Nat.reduceSub,↓reduceIte,Nat.reduceEqDiff]);rfl));(case hH=>((try simp only [wtn,Xqz,Xqw,Xqx,XqA,XqE,Nat.reduceAdd,Nat.reduceMul,Nat.reduceSub,↓reduceIte,Nat.reduceEqDiff]);rfl))))|fail))
 apply Xba (S:=Nat × List UInt8) (fun q=>frm 73 [(1,.x (.pointer (some ⟨b,0,none⟩))),(3,.x (.string (bs q.2))),(4,.x (.string (bs fs))),(5,.x (.int .i64 q.1))]) (fun _=>[.box b [.x (.int .i64 e.kind),.x (.string (bs e.job)),.x (.bool e.ok),.x (.int .i64 e.code),.sq e.data.length (u8a e.data),.x (.int .u64 e.time),.x (.int .i64 e.client),.x (.int .i64 e.num)]]) (fun q=>q.1≤fs.length∧q.2.length≤8+q.1*4500000∧q.2=wd++Xc3 e (fs.take q.1)) (fun q=>fs.length - q.1) (0,wd)
 case h0=>exact (XaH.mk' [] _ (Xqv _) (XaF.refl _ _) (by (repeat' (first|exact VwL.nil|(refine VwL.cons ?_ ?_)|exact Vw.refl _|exact Vw.top _|fail))))
 case hi=>exact ⟨Nat.zero_le _,by simp only;omega,by simp [Xc3]⟩
 rintro ⟨i,s⟩ ⟨hi,hs,hq⟩
 simp only at hi hs hq
 have hq':=Lib.hid hq
 clear hq
 simp only [frm,XqC,XqD,Xqw,Xqx,XqJ,XqK]
 by_cases hlt:i < fs.length
 ·have hfi:fs[i]=fs[i]?.getD 0:=by rw [List.getElem?_eq_getElem hlt];rfl
  have hfi':=Lib.hid hfi
  clear hfi
  have hfin:∀X:List UInt8,Xfq e fs[i]=X→X.length≤4400010→(s++[32]++X).length≤8+(i+1)*4500000∧s++[32]++X=wd++Xc3 e (fs.take (i+1)):=fun X hX hXl=>by
   refine ⟨by simp only [XqH,Xqy,XqB];omega,?_⟩
   rw [hq'.out,Xce fs i hlt,←hX]
   simp only [Xc3,List.flatMap_append,List.flatMap_cons,List.flatMap_nil,List.append_nil,List.append_assoc,XqG,XqF]
  have hfin':=Lib.hid hfin
  clear hfin
  (repeat' (first|with_reducible (first|refine Xal ?_|refine Xac ?_|refine Xat ?_|refine Xaw ?_|refine Xae ?_|refine Xaa ?_|refine Xaj ?_)|(refine Xai _ rfl (fun h=>?_) (fun h=>?_)<;>((try (simp only [whn] at h));first|(exfalso;omega;done)|skip))|((apply Xad rfl);(case h=>((try (intro (hp:(_:Bool)=true);((try simp only [Bool.and_eq_true,Bool.not_eq_true',Bool.not_eq_true] at hp);(try simp only [hp,wte]);(try simp only [whn] at hp))));(first|(apply Xab 0 rfl;(first|exact Xas _ rfl|exact Xao _ rfl))|(apply Xab 5 rfl;(exact Xau _ _ _ _ _ _ rfl rfl Xbv.out))|(apply Xab 6 rfl;(exact Xaz _ _ _ _ _ _ _ _ rfl rfl Xa3.out XaZ.out (by first|exact Xqu rfl|fail) (by first|exact Xqu rfl|fail)))|(apply Xab 8 rfl;(exact XaJ _ _ _ _ _ _ _ rfl rfl rfl (by kernel_rfl) rfl (by omega)))|(apply Xab 11 rfl;(first|exact Xan 69 Tryz.f69 _ _ rfl rfl Tryz.func69 (by decide) rfl (VwL.refl _ _) (Xol e.data (by omega))|exact Xan 70 Tryz.f70 _ _ rfl rfl Tryz.func70 (by decide) rfl (VwL.refl _ _) (Xnw e.time e4.1 e4.2)|exact Xan 71 Tryz.f71 _ _ rfl rfl Tryz.func71 (by decide) rfl (VwL.refl _ _) (XhH e.code e3.1 e3.2)|exact Xan 71 Tryz.f71 _ _ rfl rfl Tryz.func71 (by decide) rfl (VwL.refl _ _) (XhH e.client e5.1 e5.2)|exact Xan 71 Tryz.f71 _ _ rfl rfl Tryz.func71 (by decide) rfl (VwL.refl _ _) (XhH e.num e6.1 e6.2)))|(apply Xab 12 rfl;(first|exact XbN _ _ 5 _ e.data rfl (by kernel_rfl) (by kernel_rfl) (by kernel_rfl) (Src.sq rfl)|exact Xb9 _ _ _ _ rfl rfl rfl (by simp;omega)))|(apply XaB;(case hs=>(intro _ _ h;cases h));(case hx=>rfl);(case hrun=>(intro w;simp [wtb,AV.val,go_sem];(try go_bits);rfl))))));(case hT=>((try simp only [wtn,Xqz,Xqw,Xqx,XqA,XqE,Nat.reduceAdd,Nat.reduceMul,Nat.reduceSub,↓reduceIte,Nat.reduceEqDiff]);rfl)))|fail))
  ·obtain ⟨z1,z2⟩:=hfin'.out e.job (by rw [hfi'.out,Xfq,if_pos (by omega)]) (by omega)
   exact ⟨(i+1,s++[32]++e.job),by simp only;omega,⟨by simp only;omega,z1,z2⟩,(XaH.mk' [] _ (Xqv _) (XaF.refl _ _) (by (repeat' (first|exact VwL.nil|(refine VwL.cons ?_ ?_)|exact Vw.refl _|exact Vw.top _|fail))))⟩
  ·obtain ⟨z1,z2⟩:=hfin'.out [111,107] (by rw [hfi'.out,Xfq,if_neg (by omega),if_pos (by omega),if_pos (by assumption)];rfl) (by simp)
   exact ⟨(i+1,s++[32]++[111,107]),by simp only;omega,⟨by simp only;omega,z1,z2⟩,(XaH.mk' [] _ (Xqv _) (XaF.refl _ _) (by (repeat' (first|exact VwL.nil|(refine VwL.cons ?_ ?_)|exact Vw.refl _|exact Vw.top _|fail))))⟩
  ·obtain ⟨z1,z2⟩:=hfin'.out [102,97,105,108,101,100] (by rw [hfi'.out,Xfq,if_neg (by omega),if_pos (by omega),if_neg (by simp_all)];rfl) (by simp)
   exact ⟨(i+1,s++[32]++[102,97,105,108,101,100]),by simp only;omega,⟨by simp only;omega,z1,z2⟩,(XaH.mk' [] _ (Xqv _) (XaF.refl _ _) (by (repeat' (first|exact VwL.nil|(refine VwL.cons ?_ ?_)|exact Vw.refl _|exact Vw.top _|fail))))⟩
  ·obtain ⟨z1,z2⟩:=hfin'.out (Xc1 e.data) (by rw [hfi'.out,Xfq,if_neg (by omega),if_neg (by omega),if_pos (by omega)]) (by omega)
   exact ⟨(i+1,s++[32]++(Xc1 e.data)),by simp only;omega,⟨by simp only;omega,z1,z2⟩,(XaH.mk' [] _ (Xqv _) (XaF.refl _ _) (by (repeat' (first|exact VwL.nil|(refine VwL.cons ?_ ?_)|exact Vw.refl _|exact Vw.top _|fail))))⟩
  ·obtain ⟨z1,z2⟩:=hfin'.out (Xcn e.time.toNat) (by rw [hfi'.out,Xfq,if_neg (by omega),if_neg (by omega),if_neg (by omega),if_pos (by omega)]) (by omega)
   exact ⟨(i+1,s++[32]++(Xcn e.time.toNat)),by simp only;omega,⟨by simp only;omega,z1,z2⟩,(XaH.mk' [] _ (Xqv _) (XaF.refl _ _) (by (repeat' (first|exact VwL.nil|(refine VwL.cons ?_ ?_)|exact Vw.refl _|exact Vw.top _|fail))))⟩
  ·obtain ⟨z1,z2⟩:=hfin'.out (dcI e.code) (by rw [hfi'.out,Xfq,if_neg (by omega),if_neg (by omega),if_neg (by omega),if_neg (by omega),if_pos (by omega)]) (by omega)
   exact ⟨(i+1,s++[32]++(dcI e.code)),by simp only;omega,⟨by simp only;omega,z1,z2⟩,(XaH.mk' [] _ (Xqv _) (XaF.refl _ _) (by (repeat' (first|exact VwL.nil|(refine VwL.cons ?_ ?_)|exact Vw.refl _|exact Vw.top _|fail))))⟩
  ·obtain ⟨z1,z2⟩:=hfin'.out (dcI e.client) (by rw [hfi'.out,Xfq,if_neg (by omega),if_neg (by omega),if_neg (by omega),if_neg (by omega),if_neg (by omega),if_pos (by omega)]) (by omega)
   exact ⟨(i+1,s++[32]++(dcI e.client)),by simp only;omega,⟨by simp only;omega,z1,z2⟩,(XaH.mk' [] _ (Xqv _) (XaF.refl _ _) (by (repeat' (first|exact VwL.nil|(refine VwL.cons ?_ ?_)|exact Vw.refl _|exact Vw.top _|fail))))⟩
  ·obtain ⟨z1,z2⟩:=hfin'.out (dcI e.num) (by rw [hfi'.out,Xfq,if_neg (by omega),if_neg (by omega),if_neg (by omega),if_neg (by omega),if_neg (by omega),if_neg (by omega)]) (by omega)
   exact ⟨(i+1,s++[32]++(dcI e.num)),by simp only;omega,⟨by simp only;omega,z1,z2⟩,(XaH.mk' [] _ (Xqv _) (XaF.refl _ _) (by (repeat' (first|exact VwL.nil|(refine VwL.cons ?_ ?_)|exact Vw.refl _|exact Vw.top _|fail))))⟩
 ·(repeat' (first|with_reducible (first|refine Xal ?_|refine Xac ?_|refine Xaq ?_|refine XaY ?_|refine Xae ?_|refine Xaa ?_|refine XaG ?_|refine XaC ?_)|(refine Xai _ rfl (fun h=>?_) (fun h=>?_)<;>((try (simp only [whn] at h));first|(exfalso;omega;done)|skip))|((apply Xad rfl);(case h=>((try (intro (hp:(_:Bool)=true);((try simp only [Bool.and_eq_true,Bool.not_eq_true',Bool.not_eq_true] at hp);(try simp only [hp,wte]);(try simp only [whn] at hp))));(first|(apply Xab 0 rfl;(first|exact Xas _ rfl|exact Xao _ rfl))|(apply Xab 12 rfl;(exact Xb9 _ _ _ _ rfl rfl rfl (by simp;omega)))|(apply XaB;(case hs=>(intro _ _ h;cases h));(case hx=>rfl);(case hrun=>(intro w;simp [wtb,AV.val,go_sem];(try go_bits);rfl))))));(case hT=>((try simp only [wtn,Xqz,Xqw,Xqx,XqA,XqE,Nat.reduceAdd,Nat.reduceMul,Nat.reduceSub,↓reduceIte,Nat.reduceEqDiff]);rfl)))|fail))
  refine Xaf _ _ (XcL rfl (RV.tmp _) (XaH.mk' [_] [] (Xqv _) (XaF.refl _ _) (by first|exact VwL.refl _ _|fail))) ?_
  have h:=hq'.out
  rw [List.take_of_length_le (by omega)] at h
  exact ⟨by rw [←h];rfl,rfl⟩
theorem Xo9 (e:EF) (he:EOk e):Xbb Tryz.prog 39 [] [.agg e.cells] (fun r H'=>r=.x (.string (bs (XcW e++[10])))∧H'=[]):=by
 rw [XfY]
 exact Xo8 e he _ _ (Xin _) (Xij _) (Xl0 e.kind)
theorem Xon (a d:EF):Xbb Tryz.prog 29 [] [.agg a.cells,.agg d.cells] (fun r H'=>r=.x (.bool (Xdw a d))∧H'=[]):=by
 unfold EF.cells
 refine XaI Tryz.func29 rfl ?_
 simp only [Tryz.ntmps29,Xqy,XqB,XqC,XqD,XqG,XqF,Nat.reduceAdd,Nat.reduceSub]
 (repeat' (first|with_reducible (first|refine Xal ?_|refine Xac ?_|refine Xaq ?_|refine Xae ?_|refine Xaa ?_)|((first|apply Xad rfl|apply XaV _ _ rfl rfl rfl);(case h=>((try (intro (hp:(_:Bool)=true);((try simp only [Bool.and_eq_true,Bool.not_eq_true',Bool.not_eq_true] at hp);(try simp only [hp,wte]);(try simp only [whn] at hp))));(first|(apply Xab 0 rfl;(first|exact Xas _ rfl|exact Xao _ rfl))|(apply Xab 1 rfl;(exact Xbo _ _ _ _ _ rfl rfl rfl rfl))|(apply Xab 5 rfl;(exact Xau _ _ _ _ _ _ rfl rfl Xbv.out))|(apply Xab 6 rfl;(exact Xaz _ _ _ _ _ _ _ _ rfl rfl Xa3.out XaZ.out (by first|exact Xqu rfl|fail) (by first|exact Xqu rfl|fail)))|(apply Xab 12 rfl;(first|exact XbN _ _ 5 _ a.data rfl (by kernel_rfl) (by kernel_rfl) (by kernel_rfl) (Src.sq rfl)|exact XbN _ _ 5 _ d.data rfl (by kernel_rfl) (by kernel_rfl) (by kernel_rfl) (Src.sq rfl)))|(apply XaB;(case hs=>(intro _ _ h;cases h));(case hx=>rfl);(case hrun=>(intro w;simp [wtb,AV.val,go_sem];(try go_bits);rfl))))));(case hT=>((try simp only [wtn,Xqz,Xqw,Xqx,XqA,XqE,Nat.reduceAdd,Nat.reduceMul,Nat.reduceSub,↓reduceIte,Nat.reduceEqDiff]);rfl)))|(refine Xah rfl ?_;((refine Xav 15 rfl ?_;(refine Xbn _ _ rfl (by first|rfl|fail) (fun b=>?_)));apply Xag;(case hT=>((try simp only [wtn,Xqz,Xqw,Xqx,XqA,XqE,Nat.reduceAdd,Nat.reduceMul,Nat.reduceSub,↓reduceIte,Nat.reduceEqDiff]);rfl));(case hH=>((try simp only [wtn,Xqz,Xqw,Xqx,XqA,XqE,Nat.reduceAdd,Nat.reduceMul,Nat.reduceSub,↓reduceIte,Nat.reduceEqDiff]);rfl))))|fail))
 refine Xaf _ _ (XcL rfl (RV.tmp _) (XaH.mk' [_,_] [] (Xqv _) XaF.nil (VwL.refl _ _))) ?_
 exact ⟨rfl,rfl⟩
theorem Xll (a b:List EF) (ha:a.length≤1000000):Xbb Tryz.prog 12 [] [.sq a.length (va a),.sq b.length (va b)] (fun r H'=>r=.x (.bool (XdF a b))∧H'=[]):=by
 refine XaI Tryz.func12 rfl ?_
 simp only [Tryz.ntmps12,Xqy,XqB,XqC,XqD,XqG,XqF,Nat.reduceAdd,Nat.reduceSub]
 (repeat' (first|with_reducible (first|refine Xal ?_|refine Xac ?_|refine Xat ?_|refine Xaq ?_|refine Xaw ?_|refine Xae ?_|refine Xaa ?_|refine Xam ?_)|(refine Xai _ rfl (fun h=>?_) (fun h=>?_)<;>((try (simp only [whn] at h));skip))|((apply Xad rfl);(case h=>((try (intro (hp:(_:Bool)=true);((try simp only [Bool.and_eq_true,Bool.not_eq_true',Bool.not_eq_true] at hp);(try simp only [hp,wte]);(try simp only [whn] at hp))));(first|(apply Xab 0 rfl;(first|exact Xas _ rfl|exact Xao _ rfl))|(apply Xab 3 rfl;(exact Xa2 _ _ _ _ _ _ HEl.out rfl rfl))|(apply XaB;(case hs=>(intro _ _ h;cases h));(case hx=>rfl);(case hrun=>(intro w;simp [wtb,AV.val,go_sem];(try go_bits);rfl))))));(case hT=>((try simp only [wtn,Xqz,Xqw,Xqx,XqA,XqE,Nat.reduceAdd,Nat.reduceMul,Nat.reduceSub,↓reduceIte,Nat.reduceEqDiff]);rfl)))|fail))
 ·refine Xaf _ _ (XcL rfl (RV.tmp _) (XaH.mk' [] [] (Xqv _) (XaF.refl _ _) (by first|exact VwL.refl _ _|fail))) ?_
  exact ⟨by rw [show XdF a b=false by unfold XdF;rw [decide_eq_false (by omega)];rfl];rfl,rfl⟩
 have hlen:a.length=b.length:=by omega
 apply Xba (S:=Nat) (fun q=>frm 27 [(0,.sq a.length (va a)),(1,.sq b.length (va b)),(5,.x (.int .i64 q))]) (fun _=>[]) (fun q=>q≤a.length∧(((a.take q).zip (b.take q)).all fun p=>Xdw p.1 p.2)=true) (fun q=>a.length - q) 0
 case h0=>exact (XaH.mk' [] _ (Xqv _) (XaF.refl _ _) (by (repeat' (first|exact VwL.nil|(refine VwL.cons ?_ ?_)|exact Vw.refl _|exact Vw.top _|fail))))
 case hi=>exact ⟨Nat.zero_le _,by simp⟩
 rintro i ⟨hi,ht⟩
 have ht':=Lib.hid ht
 clear ht
 simp only [frm,XqC,XqD,Xqw,Xqx,XqJ,XqK]
 by_cases hlt:i < a.length
 ·have hlt2:i < b.length:=by omega
  have hE:=Xon a[i] b[i]
  have hd1:=Xds a i hlt
  have hd2:=Xds b i hlt2
  unfold EF.cells at hE
  (repeat' (first|with_reducible (first|refine Xal ?_|refine Xac ?_|refine Xat ?_|refine Xaq ?_|refine Xaw ?_|refine Xae ?_|refine XcH ?_|refine Xaa ?_|refine Xam ?_|refine Xaj ?_|refine Xak ?_)|(with_reducible refine Xbi mixed ?_ ?_;(decide +kernel))|(refine Xai _ rfl (fun h=>?_) (fun h=>?_)<;>((try (simp only [whn] at h));first|(exfalso;omega;done)|skip))|((first|apply Xad rfl|apply Xb8 rfl);(case h=>((try (intro (hp:(_:Bool)=true);((try simp only [Bool.and_eq_true,Bool.not_eq_true',Bool.not_eq_true] at hp);(try simp only [hp,wte]);(try simp only [whn] at hp))));(first|(apply Xab 0 rfl;(first|exact Xas _ rfl|exact Xao _ rfl))|(apply Xab 3 rfl;(exact Xa2 _ _ _ _ _ _ HEl.out rfl rfl))|(apply Xab 6 rfl;(exact XaP _ _ _ _ _ rfl rfl XaZ.out (by first|exact Xqu rfl|fail) (by first|exact Xqu rfl|fail)))|(apply Xab 7 rfl;(exact XaL _ _ _ _ _ _ _ _ _ _ rfl rfl rfl HEl.out rfl (by first|omega|fail) (by simp;first|omega|fail)))|(apply Xab 11 rfl;(exact Xan 29 Tryz.f29 _ _ rfl rfl Tryz.func29 (by decide) rfl (VwL.refl _ _) (hE)))|(apply XaB;(case hs=>(intro _ _ h;cases h));(case hx=>rfl);(case hrun=>(intro w;simp [wtb,AV.val,go_sem];(try go_bits);rfl))))));(case hT=>((try simp (disch:=omega) only [wtn,hd1,hd2,Xqz,Xqw,Xqx,XqA,XqE,Nat.reduceAdd,Nat.reduceMul,Nat.reduceSub,↓reduceIte,Nat.reduceEqDiff]);rfl)))|fail))
  ·refine Xaf _ _ (XcL rfl (RV.tmp _) (XaH.mk' [] [] (Xqv _) (XaF.refl _ _) (by first|exact VwL.refl _ _|fail))) ?_
   exact ⟨by rw [XiM hlt hlt2 (by assumption)];rfl,rfl⟩
  ·exact ⟨i+1,by omega,⟨by omega,XfR hlt hlt2 ht'.out (by assumption)⟩,(XaH.mk' [] _ (Xqv _) (XaF.refl _ _) (by (repeat' (first|exact VwL.nil|(refine VwL.cons ?_ ?_)|exact Vw.refl _|exact Vw.top _|fail))))⟩
 ·(repeat' (first|with_reducible (first|refine Xal ?_|refine Xac ?_|refine Xaq ?_|refine XaY ?_|refine Xae ?_|refine Xaa ?_|refine XaG ?_|refine XaC ?_)|(refine Xai _ rfl (fun h=>?_) (fun h=>?_)<;>((try (simp only [whn] at h));first|(exfalso;omega;done)|skip))|((apply Xad rfl);(case h=>((try (intro (hp:(_:Bool)=true);((try simp only [Bool.and_eq_true,Bool.not_eq_true',Bool.not_eq_true] at hp);(try simp only [hp,wte]);(try simp only [whn] at hp))));(first|(apply Xab 0 rfl;(first|exact Xas _ rfl|exact Xao _ rfl))|(apply Xab 3 rfl;(exact Xa2 _ _ _ _ _ _ HEl.out rfl rfl))|(apply XaB;(case hs=>(intro _ _ h;cases h));(case hx=>rfl);(case hrun=>(intro w;simp [wtb,AV.val,go_sem];(try go_bits);rfl))))));(case hT=>((try simp only [wtn,Xqz,Xqw,Xqx,XqA,XqE,Nat.reduceAdd,Nat.reduceMul,Nat.reduceSub,↓reduceIte,Nat.reduceEqDiff]);rfl)))|fail))
  refine Xaf _ _ (XcL rfl (RV.tmp _) (XaH.mk' [] [] (Xqv _) (XaF.refl _ _) (by first|exact VwL.refl _ _|fail))) ?_
  have ht:=ht'.out
  rw [List.take_of_length_le (by omega),List.take_of_length_le (by omega)] at ht
  exact ⟨by rw [show XdF a b=true by unfold XdF;rw [decide_eq_true hlen,ht];rfl];rfl,rfl⟩
end Go.Proofs.YtdpobjakdplljaaGreatDoor

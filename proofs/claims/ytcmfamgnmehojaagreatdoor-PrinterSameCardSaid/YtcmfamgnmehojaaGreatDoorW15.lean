import Derived.Test.YtcmfamgnmehojaaGreatDoorW8
import Derived.Test.YtcmfamgnmehojaaGreatDoorW0
import Derived.Test.YtcmfamgnmehojaaGreatDoorW10
import Derived.Test.YtcmfamgnmehojaaGreatDoorW12
/- The mill: a deck of numbers (XGr1's part, for seats that have XBits). -/
set_option linter.unusedSimpArgs false
set_option linter.unusedVariables false
set_option maxRecDepth 100000
set_option maxHeartbeats 8000000
namespace Go.Proofs.YtcmfamgnmehojaaGreatDoor
open Go.RowKit
def ia (l:List Int):List AV:=l.map fun n=>.x (.int .i64 n)
@[simp] theorem Xo2 (l:List Int):(ia l).length=l.length:=by simp [ia]
theorem Xg2 (l:List Int) (k:Nat) (h:k < l.length):(ia l).drop k=.x (.int .i64 l[k]) :: ia (l.drop (k+1)):=by
 rw [ia,←List.map_drop,List.drop_eq_getElem_cons h];rfl
def deck (b:Nat) (l:List Int) (k:Nat):Hp:=.box b [.sq l.length (ia l),.x (.int .i64 k)]
theorem XjG (b:Nat) (l:List Int) (k:Nat) (hl:l.length≤140737488355328):Xbv Tryz.prog 26 [deck b l k] [.x (.pointer (some ⟨b,0,none⟩))] (fun r H'=>r=.x (.bool (decide (k < l.length)))∧H'=[deck b l k]):=by
 unfold deck
 refine XaP Tryz.func26 rfl ?_
 simp only [Tryz.ntmps26,Xpq,Xpt,Xpu,Xpv,Xpy,Xpx,Nat.reduceAdd,Nat.reduceSub]
 (repeat' (first|with_reducible (first|refine Xaj ?_|refine Xac ?_|refine Xaw ?_|refine Xaf ?_|refine XbP ?_|refine Xaa ?_)|(with_reducible refine Xbd mixed ?_ ?_;(decide +kernel))|((first|apply Xad rfl|apply Xbz rfl);(case h=>((try (intro (hp:(_:Bool)=true);((try simp only [Bool.and_eq_true,Bool.not_eq_true',Bool.not_eq_true] at hp);(try simp only [hp,wte]);(try simp only [whn] at hp))));(first|(apply Xab 0 rfl;(first|exact Xar _ rfl|exact Xav _ rfl))|(apply Xab 3 rfl;(exact Xbh _ _ _ _ _ _ HEl.out rfl rfl))|(apply Xab 4 rfl;(exact XaR _ rfl (by first|exact .inl ⟨_,rfl⟩|fail)))|(apply Xab 5 rfl;(exact Xag _ _ _ _ _ _ rfl rfl Xbb.out))|(apply Xab 6 rfl;(exact Xay _ _ _ _ _ _ _ _ rfl rfl Xa0.out XaT.out (by first|exact Xpm rfl|fail) (by first|exact Xpm rfl|fail)))|(apply XaJ;(case hs=>(intro _ _ h;cases h));(case hx=>rfl);(case hrun=>(intro w;simp [wtb,AV.val,go_sem];(try go_bits);rfl))))));(case hT=>((try simp only [wtn,Xpr,Xpo,Xpp,Xps,Xpw,Nat.reduceAdd,Nat.reduceMul,Nat.reduceSub,↓reduceIte,Nat.reduceEqDiff]);rfl)))|fail))
 refine Xan _ _ (Xb2 rfl (RV.tmp _) (XaK.mk' [] _ (Xpn _) (XaI.refl _ _) (VwL.refl _ _))) ?_
 exact ⟨rfl,rfl⟩
theorem XfJ (v n:Int) (hn:1≤n) (hn2:n≤9223372036854775807) (hv : -9223372036854775808≤v∧v≤9223372036854775807) (H:List Hp):Xbv Tryz.prog 7 H [.x (.int .i64 v),.x (.int .i64 n)] (fun r H'=>r=.x (.int .i64 (v % n))∧H'=H):=
 XcJ (args:=[.int .i64 v,.int .i64 n]) (fun w=>(XmI v n w hn hn2 hv.1 hv.2).mono fun e w' ⟨h1,h2⟩=>⟨h1,h2▸Below.refl _ _⟩) H
def XjO (l:List Int) (k:Nat) (n:Nat):Int:=if h:k < l.length then l[k] % n else 0
def I64 (l:List Int):Prop:=∀x∈l,-9223372036854775808≤x∧x≤9223372036854775807
theorem XjN (b:Nat) (l:List Int) (k n:Nat) (hl:l.length≤140737488355328) (hk:k≤l.length) (hn:1≤n) (hn2:n≤1000000) (hI:I64 l):Xbv Tryz.prog 13 [deck b l k] [.x (.pointer (some ⟨b,0,none⟩)),.x (.int .i64 n)] (fun r H'=>r=.x (.int .i64 (XjO l k n))∧H'=[deck b l (min (k+1) l.length)]):=by
 have hI:=Lib.hid hI
 have hd:deck b l k=.box b [.sq l.length (ia l),.x (.int .i64 k)]:=rfl
 rw [hd]
 refine XaP Tryz.func13 rfl ?_
 simp only [Tryz.ntmps13,Xpq,Xpt,Xpu,Xpv,Xpy,Xpx,Nat.reduceAdd,Nat.reduceSub]
 (repeat' (first|with_reducible (first|refine Xaj ?_|refine Xac ?_|refine Xaw ?_|refine Xaz ?_|refine Xaf ?_|refine XbP ?_|refine Xaa ?_|refine XaA ?_)|(with_reducible refine Xbd mixed ?_ ?_;(decide +kernel))|(refine Xal _ rfl (fun h=>?_) (fun h=>?_)<;>((try (simp only [whn] at h));skip))|((first|apply Xad rfl|apply Xbz rfl);(case h=>((try (intro (hp:(_:Bool)=true);((try simp only [Bool.and_eq_true,Bool.not_eq_true',Bool.not_eq_true] at hp);(try simp only [hp,wte]);(try simp only [whn] at hp))));(first|(apply Xab 0 rfl;(first|exact Xar _ rfl|exact Xav _ rfl))|(apply Xab 4 rfl;(exact XaR _ rfl (by first|exact .inl ⟨_,rfl⟩|fail)))|(apply Xab 5 rfl;(exact Xag _ _ _ _ _ _ rfl rfl Xbb.out))|(apply Xab 6 rfl;(first|exact XaC _ _ _ _ _ rfl rfl XaT.out (by first|exact Xpm rfl|fail) (by first|exact Xpm rfl|fail)|exact Xay _ _ _ _ _ _ _ _ rfl rfl Xa0.out XaT.out (by first|exact Xpm rfl|fail) (by first|exact Xpm rfl|fail)))|(apply Xab 7 rfl;(exact XaD _ _ _ _ _ _ _ _ _ _ rfl rfl rfl HEl.out rfl (by first|omega|fail) (by simp;first|omega|fail)))|(apply Xab 11 rfl;(exact XaE 7 Tryz.f7 _ _ rfl rfl Tryz.func7 (by decide) rfl (VwL.refl _ _) (XfJ _ _ (by omega) (by omega) (hI.out _ (List.getElem_mem _)) [])))|(apply XaJ;(case hs=>(intro _ _ h;cases h));(case hx=>rfl);(case hrun=>(intro w;simp [wtb,AV.val,go_sem];(try go_bits);rfl))))));(case hT=>((try simp (disch:=assumption) only [wtn,deck,Xg2,Xpr,Xpo,Xpp,Xps,Xpw,Nat.reduceAdd,Nat.reduceMul,Nat.reduceSub,↓reduceIte,Nat.reduceEqDiff]);rfl)))|(refine Xak rfl ?_;((first|(refine Xap 11 rfl ?_;(refine Xax 26 Tryz.f26 ([deck b l k]) _ _ _ rfl rfl Tryz.func26 (by decide) rfl (Xpn _) (VwL.refl _ _) (XjG b l k hl) ?_;rintro _ _ ⟨rfl,rfl⟩))|(refine Xap 16 rfl ?_;(refine Xat _ _ _ _ _ _ _ rfl rfl Xa0.out XaS.out (by first|rfl|fail) (by first|exact Xpm rfl|fail) ?_)));apply Xai;(case hT=>((try simp (disch:=omega) only [wtn,deck,Xg2,Xpr,Xpo,Xpp,Xps,Xpw,Nat.reduceAdd,Nat.reduceMul,Nat.reduceSub,↓reduceIte,Nat.reduceEqDiff]);rfl));(case hH=>((try simp (disch:=omega) only [wtn,deck,Xg2,Xpr,Xpo,Xpp,Xps,Xpw,Nat.reduceAdd,Nat.reduceMul,Nat.reduceSub,↓reduceIte,Nat.reduceEqDiff]);rfl))))|fail))
 ·refine Xan _ _ (Xb2 rfl (RV.tmp _) (XaK.mk' [] _ (Xpn _) (XaI.refl _ _) (VwL.refl _ _))) ?_
  exact ⟨by rw [XjO,dif_neg h];rfl,by rw [show min (k+1) l.length=k from by omega];rfl⟩
 ·refine Xan _ _ (Xb2 rfl (RV.tmp _) (XaK.mk' [] _ (Xpn _) (XaI.refl _ _) (VwL.refl _ _))) ?_
  exact ⟨by rw [XjO,dif_pos h];rfl,by rw [show min (k+1) l.length=k+1 from by omega];rfl⟩
structure DK (l:List Int):Prop where
 len:l.length≤140737488355328
 vals:I64 l
theorem Xk2 (l:List Int) (k n:Nat) (hn:1≤n):∃v:Nat,XjO l k n=v∧v < n:=by
 unfold XjO
 split
 ·refine ⟨(l[k] % n).toNat,?_,?_⟩
  ·have:=Int.emod_nonneg l[k] (show (n:Int)≠0 by omega);omega
  ·have h1:=Int.emod_nonneg l[k] (show (n:Int)≠0 by omega)
   have h2:=Int.emod_lt_of_pos l[k] (show (0:Int) < n by omega);omega
 ·exact ⟨0,rfl,by omega⟩
def dk (b:Nat) (l:List Int) (k:Nat):List AV:=[.sq l.length (ia l),.x (.int .i64 k)]
theorem XbQ (b:Nat) (l:List Int) (k n:Nat) (hd:DK l) (hk:k≤l.length) (hn:1≤n) (hn2:n≤1000000):Xbv Tryz.prog 13 [.box b [.sq l.length (ia l),.x (.int .i64 k)]] [.x (.pointer (some ⟨b,0,none⟩)),.x (.int .i64 n)] (fun r H'=>∃v k':Nat,r=.x (.int .i64 v)∧H'=[.box b [.sq l.length (ia l),.x (.int .i64 k')]]∧v < n∧k'≤l.length):=by
 refine (XjN b l k n hd.len hk hn hn2 hd.vals).mono ?_
 rintro r H' ⟨rfl,rfl⟩
 obtain ⟨v,e,hv⟩:=Xk2 l k n hn
 exact ⟨v,min (k+1) l.length,by rw [e],rfl,hv,by omega⟩
theorem Xdz (b:Nat) (l:List Int) (k lo hi:Nat) (hd:DK l) (hk:k≤l.length) (hn:lo≤hi) (hn2:hi≤1000):Xbv Tryz.prog 24 [.box b [.sq l.length (ia l),.x (.int .i64 k)]] [.x (.pointer (some ⟨b,0,none⟩)),.x (.int .i64 lo),.x (.int .i64 hi)] (fun r H'=>∃v k':Nat,r=.x (.int .i64 v)∧H'=[.box b [.sq l.length (ia l),.x (.int .i64 k')]]∧lo≤v∧v≤hi∧k'≤l.length):=by
 refine XaP Tryz.func24 rfl ?_
 simp only [Tryz.ntmps24,Xpq,Xpt,Xpu,Xpv,Xpy,Xpx,Nat.reduceAdd,Nat.reduceSub]
 have e:(hi:Int) - lo+1=((hi - lo+1:Nat):Int):=by omega
 (repeat' (first|with_reducible (first|refine Xaj ?_|refine Xac ?_|refine Xaw ?_|refine Xaf ?_|refine Xaa ?_)|((apply Xad rfl);(case h=>((try (intro (hp:(_:Bool)=true);((try simp only [Bool.and_eq_true,Bool.not_eq_true',Bool.not_eq_true] at hp);(try simp only [hp,wte]);(try simp only [whn] at hp))));(first|(apply Xab 0 rfl;(first|exact Xar _ rfl|exact Xav _ rfl))|(apply XaJ;(case hs=>(intro _ _ h;cases h));(case hx=>rfl);(case hrun=>(intro w;simp [wtb,AV.val,go_sem];(try go_bits);rfl))))));(case hT=>((try simp (disch:=omega) only [wtn,e,Xpr,Xpo,Xpp,Xps,Xpw,Nat.reduceAdd,Nat.reduceMul,Nat.reduceSub,↓reduceIte,Nat.reduceEqDiff]);rfl)))|(refine Xak rfl ?_;((refine Xap 11 rfl ?_;(refine Xax 13 Tryz.f13 ([_]) _ _ _ rfl rfl Tryz.func13 (by decide) rfl (Xpn _) (VwL.refl _ _) (XbQ b l k (hi - lo+1) hd hk (by omega) (by omega)) ?_;rintro _ _ ⟨v,k',rfl,rfl,hv,hk'⟩));apply Xai;(case hT=>((try simp (disch:=omega) only [wtn,e,Xpr,Xpo,Xpp,Xps,Xpw,Nat.reduceAdd,Nat.reduceMul,Nat.reduceSub,↓reduceIte,Nat.reduceEqDiff]);rfl));(case hH=>((try simp (disch:=omega) only [wtn,e,Xpr,Xpo,Xpp,Xps,Xpw,Nat.reduceAdd,Nat.reduceMul,Nat.reduceSub,↓reduceIte,Nat.reduceEqDiff]);rfl))))|fail))
 refine Xan _ _ (Xb2 rfl (RV.tmp _) (XaK.mk' [] _ (Xpn _) (XaI.refl _ _) (VwL.refl _ _))) ?_
 exact ⟨lo+v,k',by congr 2,rfl,by omega,by omega,hk'⟩
theorem Xph (l:List (List UInt8)) (k:Nat) (h:k < l.length):(sa l).drop k=.x (.string (bs (l.getD k []))) :: sa (l.drop (k+1)):=by
 rw [XdB l k h,List.getD_eq_getElem?_getD,List.getElem?_eq_getElem h];rfl
theorem XeZ (l:List (List UInt8)) (v:Nat) (h:v < l.length):((sa l).drop v).getD 0 .top=.x (.string (bs (l.getD v []))):=by
 rw [Xph l v h];rfl
theorem Xnm (l:List (List UInt8)) (p:List UInt8→Prop) (h:∀s∈l,p s) (v:Nat) (hv:v < l.length):p (l.getD v []):=by
 rw [List.getD_eq_getElem?_getD,List.getElem?_eq_getElem hv];exact h _ (List.getElem_mem hv)
def Xk0:List (List UInt8):=[[97],[98],[99],[100],[120]]
theorem XlQ (bd:Nat) (l:List Int) (k:Nat) (hd:DK l) (hk:k≤l.length):Xbv Tryz.prog 14 [.box bd [.sq l.length (ia l),.x (.int .i64 k)]] [.x (.pointer (some ⟨bd,0,none⟩))] (fun r H'=>∃(s:List UInt8) (k':Nat),r=.x (.string (bs s))∧H'=[.box bd [.sq l.length (ia l),.x (.int .i64 k')]]∧s.length=1∧k'≤l.length):=by
 refine XaP Tryz.func14 rfl ?_
 simp only [Tryz.ntmps14,Xpq,Xpt,Xpu,Xpv,Xpy,Xpx,Nat.reduceAdd,Nat.reduceSub]
 (repeat' (first|with_reducible (first|refine Xaj ?_|refine Xac ?_|refine Xaw ?_|refine Xaf ?_|refine Xaa ?_)|((apply Xad rfl);(case h=>((try (intro (hp:(_:Bool)=true);((try simp only [Bool.and_eq_true,Bool.not_eq_true',Bool.not_eq_true] at hp);(try simp only [hp,wte]);(try simp only [whn] at hp))));(first|(apply Xab 0 rfl;(first|exact Xar _ rfl|exact Xav _ rfl))|(apply Xab 6 rfl;(exact XaC _ _ _ _ _ rfl rfl XaT.out (by first|(simp [wlq];omega)|fail) (by first|(simp [wlq];omega)|fail)))|(apply Xab 7 rfl;(exact XaD _ _ _ _ _ _ _ _ _ _ rfl rfl rfl HEl.out rfl (by first|omega|fail) (by simp;first|done|fail)))|(apply Xab 17 rfl;(exact XbD _ _ _ _ _ _ rfl Xa6.out rfl (by first|rfl|fail) rfl rfl (by decide))))));(case hT=>((try simp only [wtn,Xpr,Xpo,Xpp,Xps,Xpw,Nat.reduceAdd,Nat.reduceMul,Nat.reduceSub,↓reduceIte,Nat.reduceEqDiff]);rfl)))|(refine Xak rfl ?_;((refine Xap 11 rfl ?_;(refine Xax 13 Tryz.f13 [_] _ _ _ rfl rfl Tryz.func13 (by decide) rfl (Xpn _) (VwL.refl _ _) (XbQ _ l k 5 hd hk (by omega) (by omega)) ?_;rintro _ _ ⟨v,k',rfl,rfl,hv,hk'⟩));apply Xai;(case hT=>((try simp only [wtn,Xpr,Xpo,Xpp,Xps,Xpw,Nat.reduceAdd,Nat.reduceMul,Nat.reduceSub,↓reduceIte,Nat.reduceEqDiff]);rfl));(case hH=>((try simp only [wtn,Xpr,Xpo,Xpp,Xps,Xpw,Nat.reduceAdd,Nat.reduceMul,Nat.reduceSub,↓reduceIte,Nat.reduceEqDiff]);rfl))))|fail))
 refine Xan _ _ (Xb2 rfl (RV.tmp _) (XaK.mk' [] [_] (Xpn _) (XaI.refl _ _) (VwL.refl _ _))) ⟨Xk0.getD v [],k',XeZ Xk0 v hv,rfl,?_,hk'⟩
 exact Xnm Xk0 (fun s=>s.length=1) (by decide) v hv
def Xld:List (List UInt8):=[[111,107],[],[114,46,42,121,36],[94,117,112,124,103,111,43],[91,48,45,57,93,43,120,63],[40,97,98,41,42,99],[94,36]]
theorem XiD:Xbv Tryz.prog 48 [] [] (fun r H'=>r=.sq 7 (sa Xld)∧H'=[]):=by
 refine XaP Tryz.func48 rfl ?_
 simp only [Tryz.ntmps48,Xpq,Xpt,Xpu,Xpv,Xpy,Xpx,Nat.reduceAdd,Nat.reduceSub]
 (repeat' (first|with_reducible (first|refine Xaj ?_|refine Xac ?_|refine Xaw ?_|refine Xaf ?_|refine Xaa ?_)|((apply Xad rfl);(case h=>((try (intro (hp:(_:Bool)=true);((try simp only [Bool.and_eq_true,Bool.not_eq_true',Bool.not_eq_true] at hp);(try simp only [hp,wte]);(try simp only [whn] at hp))));(first|(apply Xab 0 rfl;(exact Xav _ rfl))|(apply Xab 17 rfl;(exact XbD _ _ _ _ _ _ rfl Xa6.out rfl (by first|rfl|fail) rfl rfl (by decide))))));(case hT=>((try simp only [wtn,Xpr,Xpo,Xpp,Xps,Xpw,Nat.reduceAdd,Nat.reduceMul,Nat.reduceSub,↓reduceIte,Nat.reduceEqDiff]);rfl)))|fail))
 refine Xan _ _ (Xb2 rfl (RV.tmp _) (XaK.mk' [] _ (Xpn _) (XaI.refl _ _) (VwL.refl _ _))) ?_
 exact ⟨rfl,rfl⟩
end Go.Proofs.YtcmfamgnmehojaaGreatDoor

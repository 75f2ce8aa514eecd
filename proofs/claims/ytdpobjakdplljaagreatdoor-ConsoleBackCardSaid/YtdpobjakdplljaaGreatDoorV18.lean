import Derived.Test.YtdpobjakdplljaaGreatDoorV8
import Derived.Test.YtdpobjakdplljaaGreatDoorV9
import Derived.Test.YtdpobjakdplljaaGreatDoorV17
/- The mill: times, frames, events of an orchestra. -/
set_option linter.unusedSimpArgs false
set_option linter.unusedVariables false
set_option maxRecDepth 100000
set_option maxHeartbeats 8000000
namespace Go.Proofs.YtdpobjakdplljaaGreatDoor
open Go.RowKit
theorem Xqi (b:Nat) (l:List Int) (k n:Nat) (hd:DK l) (hk:k≤l.length) (hn:1≤n) (hn2:n≤2000000000000):Xa8 Tryz.prog 43 [.box b [.sq l.length (ia l),.x (.int .i64 k)]] [.x (.pointer (some ⟨b,0,none⟩)),.x (.int .i64 n)] (fun r H'=>∃v k':Nat,r=.x (.int .i64 v)∧H'=[.box b [.sq l.length (ia l),.x (.int .i64 k')]]∧v < n∧k'≤l.length):=by
 have hI:=Lib.hid hd.vals
 have hl:=hd.len
 refine XaE Tryz.func43 rfl ?_
 simp only [Tryz.ntmps43,Xu8,Xvb,Xvc,Xvd,Xvg,Xvf,Nat.reduceAdd,Nat.reduceSub]
 (repeat' (first|with_reducible (first|refine Xai ?_|refine Xac ?_|refine Xas ?_|refine Xaw ?_|refine Xae ?_|refine Xcd ?_|refine Xaa ?_|refine Xay ?_)|(with_reducible refine Xbc mixed ?_ ?_;(decide +kernel))|(refine Xal _ rfl (fun h=>?_) (fun h=>?_)<;>((try (simp only [whn] at h));skip))|((first|apply Xad rfl|apply XbG rfl);(case h=>(first|(apply Xab 0 rfl;(first|exact Xar _ rfl|exact Xap _ rfl))|(apply Xab 4 rfl;(exact Xbk _ rfl (by first|exact .inl ⟨_,rfl⟩|fail)))|(apply Xab 5 rfl;(exact Xam _ _ _ _ _ _ rfl rfl Xa3.out))|(apply Xab 6 rfl;(first|exact XaG _ _ _ _ _ rfl rfl XaM.out (by first|exact Xu4 rfl|fail) (by first|exact Xu4 rfl|fail)|exact Xaz _ _ _ _ _ _ _ _ rfl rfl XaU.out XaM.out (by first|exact Xu4 rfl|fail) (by first|exact Xu4 rfl|fail)))|(apply Xab 7 rfl;(exact XaI _ _ _ _ _ _ _ _ _ _ rfl rfl rfl HEl.out rfl (by first|omega|fail) (by simp;first|omega|fail)))|(apply Xab 11 rfl;(exact XaA 16 Tryz.f16 _ _ rfl rfl Tryz.func16 (by decide) rfl (VwL.refl _ _) (Xlk _ _ (by omega) (by omega) (hI.out _ (List.getElem_mem _)) [])))|(apply XaD;(case hs=>(intro _ _ h;cases h));(case hx=>rfl);(case hrun=>(intro w;simp [wtb,AV.val,go_sem];(try go_bits);rfl)))));(case hT=>((try simp (disch:=assumption) only [wtn,Xk4,Xfp,Xu9,Xu6,Xu7,Xva,Xve,Nat.reduceAdd,Nat.reduceMul,Nat.reduceSub,↓reduceIte,Nat.reduceEqDiff]);rfl)))|(refine Xah rfl ?_;((first|(refine Xaq 11 rfl ?_;(refine Xak 77 Tryz.f77 ([Xk4 b l k]) _ _ _ rfl rfl Tryz.func77 (by decide) rfl (Xu5 _) (VwL.refl _ _) (Xi8 b l k hl) ?_;rintro _ _ ⟨rfl,rfl⟩))|(refine Xaq 16 rfl ?_;(refine Xau _ _ _ _ _ _ _ rfl rfl XaU.out XaS.out (by first|rfl|fail) (by first|exact Xu4 rfl|fail) ?_)));apply Xag;(case hT=>((try simp (disch:=omega) only [wtn,Xk4,Xfp,Xu9,Xu6,Xu7,Xva,Xve,Nat.reduceAdd,Nat.reduceMul,Nat.reduceSub,↓reduceIte,Nat.reduceEqDiff]);rfl));(case hH=>((try simp (disch:=omega) only [wtn,Xk4,Xfp,Xu9,Xu6,Xu7,Xva,Xve,Nat.reduceAdd,Nat.reduceMul,Nat.reduceSub,↓reduceIte,Nat.reduceEqDiff]);rfl))))|fail))
 ·refine Xaf _ _ (Xbi rfl (RV.tmp _) (XaH.mk' [] _ (Xu5 _) (XaB.refl _ _) (VwL.refl _ _))) ?_
  exact ⟨0,k,rfl,rfl,by omega,hk⟩
 ·refine Xaf _ _ (Xbi rfl (RV.tmp _) (XaH.mk' [] _ (Xu5 _) (XaB.refl _ _) (VwL.refl _ _))) ?_
  have h1:=Int.emod_nonneg l[k] (show (n:Int)≠0 by omega)
  have h2:=Int.emod_lt_of_pos l[k] (show (0:Int) < n by omega)
  exact ⟨(l[k] % n).toNat,k+1,by rw [Int.toNat_of_nonneg h1];rfl,rfl,by omega,by omega⟩
theorem Xt7 (b:Nat) (l:List Int) (k:Nat) (hd:DK l) (hk:k≤l.length):Xa8 Tryz.prog 100 [.box b [.sq l.length (ia l),.x (.int .i64 k)]] [.x (.pointer (some ⟨b,0,none⟩))] (fun r H'=>∃(t:Int) (k':Nat),r=.x (.int .u64 t)∧H'=[.box b [.sq l.length (ia l),.x (.int .i64 k')]]∧0≤t∧t≤18446744073709551615∧k'≤l.length):=by
 refine XaE Tryz.func100 rfl ?_
 simp only [Tryz.ntmps100,Xu8,Xvb,Xvc,Xvd,Xvg,Xvf,Nat.reduceAdd,Nat.reduceSub]
 (repeat' (first|with_reducible (first|refine Xai ?_|refine Xac ?_|refine Xat ?_|refine Xas ?_|refine Xaw ?_|refine Xae ?_|refine Xaa ?_|refine Xay ?_|refine Xaj ?_|refine Xax ?_)|(refine Xal _ rfl (fun h=>?_) (fun h=>?_)<;>((try (simp only [whn] at h));skip))|((apply Xad rfl);(case h=>(first|(apply Xab 0 rfl;(first|exact Xar _ rfl|exact Xap _ rfl))|(apply XaD;(case hs=>(intro _ _ h;cases h));(case hx=>rfl);(case hrun=>(intro w;simp [wtb,AV.val,go_sem];(try go_bits);rfl)))));(case hT=>((try simp only [wtn]);rfl)))|(refine Xah rfl ?_;((refine Xaq 11 rfl ?_;(first|(refine Xak 43 Tryz.f43 [_] _ _ _ rfl rfl Tryz.func43 (by decide) rfl (Xu5 _) (VwL.refl _ _) (XbB _ l k 12 hd hk (by omega) (by omega)) ?_;rintro _ _ ⟨v,k1,rfl,rfl,hv,hk1⟩)|(refine Xak 43 Tryz.f43 [_] _ _ _ rfl rfl Tryz.func43 (by decide) rfl (Xu5 _) (VwL.refl _ _) (XbB _ l k1 4 hd hk1 (by omega) (by omega)) ?_;rintro _ _ ⟨v2,k2,rfl,rfl,hv2,hk2⟩)|(refine Xak 43 Tryz.f43 [_] _ _ _ rfl rfl Tryz.func43 (by decide) rfl (Xu5 _) (VwL.refl _ _) (XbB _ l k1 60 hd hk1 (by omega) (by omega)) ?_;rintro _ _ ⟨v2,k2,rfl,rfl,hv2,hk2⟩)|(refine Xak 43 Tryz.f43 [_] _ _ _ rfl rfl Tryz.func43 (by decide) rfl (Xu5 _) (VwL.refl _ _) (Xqi _ l k1 1099511627776 hd hk1 (by omega) (by omega)) ?_;rintro _ _ ⟨v2,k2,rfl,rfl,hv2,hk2⟩)));apply Xag;(case hT=>((try simp only [wtn]);rfl));(case hH=>((try simp only [wtn]);rfl))))|fail))
 all_goals
  refine Xaf _ _ (Xbi rfl (RV.tmp _) (XaH.mk' [] _ (Xu5 _) (XaB.refl _ _) (VwL.refl _ _))) ?_
  exact ⟨_,k2,rfl,rfl,by omega,by omega,hk2⟩
theorem Xri (bd:Nat) (l:List Int) (k:Nat) (hd:DK l) (hk:k≤l.length):Xa8 Tryz.prog 44 [.box bd [.sq l.length (ia l),.x (.int .i64 k)]] [.x (.pointer (some ⟨bd,0,none⟩))] (fun r H'=>∃(s:List UInt8) (k':Nat),r=.x (.string (bs s))∧H'=[.box bd [.sq l.length (ia l),.x (.int .i64 k')]]∧NmE s∧k'≤l.length):=by
 refine XaE Tryz.func44 rfl ?_
 simp only [Tryz.ntmps44,Xu8,Xvb,Xvc,Xvd,Xvg,Xvf,Nat.reduceAdd,Nat.reduceSub]
 (repeat' (first|with_reducible (first|refine Xai ?_|refine Xac ?_|refine Xas ?_|refine Xae ?_|refine Xaa ?_)|((apply Xad rfl);(case h=>(first|(apply Xab 0 rfl;(first|exact Xar _ rfl|exact Xap _ rfl))|(apply Xab 6 rfl;(exact XaG _ _ _ _ _ rfl rfl XaM.out (by first|(simp [wlq];omega)|fail) (by first|(simp [wlq];omega)|fail)))|(apply Xab 7 rfl;(exact XaI _ _ _ _ _ _ _ _ _ _ rfl rfl rfl HEl.out rfl (by first|omega|fail) (by simp;first|done|fail)))|(apply Xab 17 rfl;(exact XbU _ _ _ _ _ _ rfl XaZ.out rfl (by first|rfl|fail) rfl rfl (by decide)))));(case hT=>((try simp only [wtn]);rfl)))|(refine Xah rfl ?_;((refine Xaq 11 rfl ?_;(refine Xak 43 Tryz.f43 [_] _ _ _ rfl rfl Tryz.func43 (by decide) rfl (Xu5 _) (VwL.refl _ _) (XbB _ l k 5 hd hk (by omega) (by omega)) ?_;rintro _ _ ⟨v,k',rfl,rfl,hv,hk'⟩));apply Xag;(case hT=>((try simp only [wtn]);rfl));(case hH=>((try simp only [wtn]);rfl))))|fail))
 exact Xaf _ _ (Xbi rfl (RV.tmp _) (XaH.mk' [] [_] (Xu5 _) (XaB.refl _ _) (VwL.refl _ _))) ⟨Xkw.getD v [],k',Xfu Xkw v hv,rfl,Xsf hv,hk'⟩
/-! ### Frames -/
def XfI (l:List UInt8):List UInt8:=[0,0,Xl2 ((l.length:Int) / 256),Xl2 ((l.length:Int) % 256)]++l
theorem XrV (d:List UInt8) (hl:d.length≤4096):Xa8 Tryz.prog 98 [] [.sq d.length (u8a d)] (fun r H'=>r=.tup [.sq (XfI d).length (u8a (XfI d)),.x (.int .i64 0)]∧H'=[]):=by
 refine XaE Tryz.func98 rfl ?_
 simp only [Tryz.ntmps98,Xu8,Xvb,Xvc,Xvd,Xvg,Xvf,Nat.reduceAdd,Nat.reduceSub]
 (repeat' (first|with_reducible (first|refine Xai ?_|refine Xac ?_|refine Xas ?_|refine Xaw ?_|refine Xae ?_|refine Xaa ?_)|(refine Xal _ rfl (fun h=>?_) (fun h=>?_)<;>((try (simp only [whn] at h));first|(exfalso;omega;done)|skip))|((apply Xad rfl);(case h=>(first|(apply Xab 0 rfl;(first|exact Xar _ rfl|exact Xap _ rfl))|(apply Xab 3 rfl;(exact Xa2 _ _ _ _ _ _ HEl.out rfl rfl))|(apply XaD;(case hs=>(intro _ _ h;cases h));(case hx=>rfl);(case hrun=>(intro w;simp [wtb,AV.val,go_sem];(try go_bits);rfl)))));(case hT=>((try simp only [wtn]);rfl)))|(refine Xah rfl ?_;((first|(refine Xaq 13 rfl ?_;(refine XaP _ _ _ _ _ _ _ _ _ _ _ _ _ _ rfl rfl Xb9.out (Src.sq rfl) XaZ.out (by rw [XeF];omega) (Xei _ _ (by omega) (by decide)) (fun ad cap=>?_)))|(refine Xaq 17 rfl ?_;(refine XaF _ _ _ _ _ _ _ _ rfl XaZ.out (by first|rfl|fail) rfl (by decide) rfl (fun b=>?_))));apply Xag;(case hT=>((try simp only [wtn]);rfl));(case hH=>((try simp only [wtn]);rfl))))|fail))
 refine Xaf _ _ (Xc7 rfl (RV.tmp _) (RV.tmp _) (XaH.mk' [_] [] (Xu5 _) XaB.nil (VwL.cons (Vw.row (List.Mem.head _) (VwL.refl _ _)) (VwL.refl _ _)))) ?_
 refine ⟨?_,rfl⟩
 rw [show (XfI d).length=4+d.length from by simp [XfI];omega]
 simp only [XfI,Xch,Xcx,Xdm,Xea (n:=(d.length:Int) / 256) (by omega) (by omega),Xea (n:=(d.length:Int) % 256) (by omega) (by omega)]
 rfl
theorem Xsq {c:CF} (h:XqX c):(XmD c).length≤1107:=by
 have h3:c.name.length≤1:=by
  have:=h.name
  split at this
  ·omega
  ·rw [this];simp
 have h4:c.data.length≤1101:=by
  have:=h.data
  split at this
  ·exact this
  ·rw [this];simp
 have h5:(if c.kind=1 then [0,Xl2 c.rows,0,Xl2 c.cols] else ([]:List UInt8)).length≤4:=by split<;>simp
 unfold XmD
 simp only [Xu8,Xvh]
 omega
theorem Xmi (l:List UInt8):(XfI l).length=l.length+4:=by simp [XfI]
theorem Xlc (c:CF) (h:XqX c):Xa8 Tryz.prog 60 [] [.agg c.cells] (fun r H'=>∃f:List UInt8,r=.sq f.length (u8a f)∧H'=[]∧1≤f.length∧f.length≤1111):=by
 have he:=XiQ c (Xov h)
 have hp:=Xsq h
 have hf:=XrV (XmD c) (by omega)
 have hfl:=Xmi (XmD c)
 unfold CF.cells at he ⊢
 refine XaE Tryz.func60 rfl ?_
 simp only [Tryz.ntmps60,Xu8,Xvb,Xvc,Xvd,Xvg,Xvf,Nat.reduceAdd,Nat.reduceSub]
 (repeat' (first|with_reducible (first|refine Xai ?_|refine Xac ?_|refine Xas ?_|refine Xae ?_|refine Xaa ?_)|((apply Xad rfl);(case h=>(first|(apply Xab 0 rfl;(first|exact Xar _ rfl|exact Xap _ rfl))|(apply Xab 2 rfl;(exact XaO _ _ _ _ rfl rfl rfl))|(apply Xab 6 rfl;(exact Xaz _ _ _ _ _ _ _ _ rfl rfl XaU.out XaM.out (by first|exact Xu4 rfl|fail) (by first|exact Xu4 rfl|fail)))|(apply Xab 11 rfl;(first|exact XaA 97 Tryz.f97 _ _ rfl rfl Tryz.func97 (by decide) rfl (VwL.refl _ _) (he)|exact XaA 98 Tryz.f98 _ _ rfl rfl Tryz.func98 (by decide) rfl (VwL.refl _ _) (hf)))));(case hT=>((try simp only [wtn,↓reduceIte]);rfl)))|(refine Xah rfl ?_;((refine Xaq 15 rfl ?_;(refine Xbx _ _ rfl (by first|rfl|fail) (fun b=>?_)));apply Xag;(case hT=>((try simp only [wtn]);rfl));(case hH=>((try simp only [wtn]);rfl))))|fail))
 refine Xaf _ _ (Xbi rfl (RV.tmp _) (XaH.mk' [_] [] (Xu5 _) (XaB.refl _ _) (by first|exact VwL.refl _ _|fail))) ?_
 exact ⟨XfI (XmD c),rfl,rfl,by omega,by omega⟩
end Go.Proofs.YtdpobjakdplljaaGreatDoor

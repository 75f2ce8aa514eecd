import Derived.Test.YtcmfamgnmehojaaGreatDoorW18
import Derived.Test.YtcmfamgnmehojaaGreatDoorW20
import Derived.Test.YtcmfamgnmehojaaGreatDoorW15
import Derived.Test.YtcmfamgnmehojaaGreatDoorW12
import Derived.Test.YtcmfamgnmehojaaGreatDoorW10
/- PrinterSame: the walk. (Under way: the sanity check is a premise.) -/
set_option linter.unusedSimpArgs false
set_option linter.unusedVariables false
set_option maxRecDepth 100000
set_option maxHeartbeats 8000000
namespace Go.Proofs.YtcmfamgnmehojaaGreatDoor
open Go.RowKit
theorem Xkd (a:JF):XcT a a=true:=by simp [XcT]
theorem Xh7:∀l:List JF,((l.zip l).all fun p=>XcT p.1 p.2)=true
 | []=>rfl
 | a :: l=>by rw [List.zip_cons_cons,List.all_cons,Xkd,Xh7 l];rfl
theorem Xby (l:List JF):Xcf l l=true:=by unfold Xcf;rw [Xh7 l];simp
theorem XnJ {l:List JF} (h4:l.length≤4) (h:∀j∈l,LS 0 j):JBs l:=⟨by omega,fun j hj=>by obtain ⟨h1,h2,h3,-⟩:=h j hj;exact ⟨by omega,by omega,by omega⟩⟩
theorem XhV (a b:List JF) (n:Nat) (hn:b.length=n) (ha:JBs a):Xbv Tryz.prog 8 [] [.sq a.length (jfa a),.sq n (jfa b)] (fun r H'=>r=.x (.bool (Xcf a b))∧H'=[]):=hn▸XfL a b ha
theorem Xgq (a b:List JF) (n:Nat) (hn:b.length=n) (ha:JBs a):Xbv Tryz.prog 9 [] [.sq a.length (jfa a),.sq n (jfa b)] (fun r H'=>r=.x (.bool (Xcf a b))∧H'=[]):=hn▸XiF a b ha
def XiR:Prop:=Xbv Tryz.prog 4 [] [] (fun r H'=>r=.x (.bool true)∧H'=[])
theorem Xj4 (hsn:XiR) (l m:List Int) (raw:List JF) (a:Int) (hd:DK l) (hdm:DK m) (hr:JBs raw) (ha : -9223372036854775808≤a∧a≤9223372036854775807):Xbv Tryz.prog 3 [] [.sq l.length (ia l),.sq m.length (ia m),.sq raw.length (jfa raw),.x (.int .i64 a)] (fun r H'=>r=.x (.bool true)∧H'=[]):=by
 have hsn':=Lib.hid hsn
 clear hsn
 refine XaP Tryz.func3 rfl ?_
 simp only [Tryz.ntmps3,Xpq,Xpt,Xpu,Xpv,Xpy,Xpx,Nat.reduceAdd,Nat.reduceSub]
 (repeat' (first|with_reducible (first|refine Xaj ?_|refine Xac ?_|refine Xas ?_|refine Xaw ?_|refine Xaz ?_|refine Xa4 ?_|refine Xaf ?_|refine XbP ?_|refine Xaa ?_|refine XaO ?_|refine XaA ?_|refine XaH ?_|refine Xah ?_|refine Xau ?_|refine Xbx ?_|refine XbU ?_|refine Xb6 ?_|refine XbV ?_|refine Xck ?_|refine XbW ?_|refine Xbs ?_)|(with_reducible refine XbJ ?_ ?_;(decide))|(refine Xal _ rfl (fun h=>?_) (fun h=>?_)<;>first|(exact absurd h (by decide))|((try (simp only [whn] at h));first|(exfalso;omega;done)|skip))|((first|apply Xcq rfl rfl rfl|apply Xfd rfl rfl rfl);(case hT=>((try simp only [wtn,Xpr,Xpo,Xpp,Xps,Xpw,Nat.reduceAdd,Nat.reduceMul,Nat.reduceSub,↓reduceIte,Nat.reduceEqDiff]);rfl)))|((first|apply Xad rfl|apply Xbz rfl|apply Xbr _ _ rfl rfl rfl|apply Xfc _ _ rfl rfl rfl);(case h=>((try (intro (hp:(_:Bool)=true);((try simp only [Bool.and_eq_true,Bool.not_eq_true',Bool.not_eq_true] at hp);(try simp only [hp,wte]);(try simp only [whn] at hp))));(first|(apply Xab 0 rfl;(first|exact Xar _ rfl|exact Xav _ rfl))|(apply Xab 1 rfl;(first|exact XbE _ _ _ rfl rfl|exact XbF _ _ _ rfl rfl|exact XbL _ _ _ _ _ rfl rfl rfl rfl|exact Xcn _ _ _ _ _ rfl rfl rfl rfl|exact XbY _ _ _ _ _ rfl rfl rfl rfl|exact Xct _ _ _ _ _ rfl rfl rfl rfl))|(apply Xab 2 rfl;(exact Xa9 _ _ _ _ rfl rfl rfl))|(apply Xab 3 rfl;(exact Xbh _ _ _ _ _ _ HEl.out rfl rfl))|(apply Xab 4 rfl;(exact XaR _ rfl (by first|exact .inl ⟨_,rfl⟩|exact .inr ⟨_,rfl⟩)))|(apply Xab 5 rfl;(first|exact Xag _ _ _ _ _ _ rfl rfl Xbb.out|exact Xbt _ _ _ _ _ rfl rfl Xbb.out))|(apply Xab 6 rfl;(first|exact XaC _ _ _ _ _ rfl rfl XaT.out (by first|exact Xpm rfl|(simp [wlq];first|done|omega)) (by first|exact Xpm rfl|(simp [wlq];first|done|omega))|exact Xay _ _ _ _ _ _ _ _ rfl rfl Xa0.out XaT.out (by first|exact Xpm rfl|(simp [wlq];first|done|omega)) (by first|exact Xpm rfl|(simp [wlq];first|done|omega))|exact Xbe _ _ _ _ _ _ _ _ _ _ _ _ rfl rfl XbA.out XaT.out (by first|exact Xpm rfl|(simp [wlq];first|done|omega)) (by first|exact Xpm rfl|(simp [wlq];first|done|omega))))|(apply Xab 7 rfl;(first|exact XaD _ _ _ _ _ _ _ _ _ _ rfl rfl rfl HEl.out rfl (by first|omega|assumption) (by simp;first|done|omega)|exact Xbi _ _ _ _ _ _ _ _ _ _ _ _ rfl rfl rfl HEl.out rfl (by first|omega|assumption)))|(apply Xab 8 rfl;(exact XaW _ _ _ _ _ _ _ rfl rfl rfl (by kernel_rfl) rfl (by omega)))|(apply Xab 9 rfl;(first|exact Xa2 _ _ _ _ _ _ _ rfl rfl (by kernel_rfl) (by first|exact .inl ⟨rfl,rfl⟩|exact .inr ⟨_,_,rfl,rfl⟩) (by first|exact .inl ⟨rfl,rfl⟩|exact .inr ⟨_,_,rfl,rfl⟩) (by omega) (by omega)|exact Xbk _ _ _ _ _ _ _ _ _ _ rfl rfl HEl.out (by first|exact .inl ⟨rfl,rfl⟩|exact .inr ⟨_,_,rfl,rfl⟩) (by first|exact .inl ⟨rfl,rfl⟩|exact .inr ⟨_,_,rfl,rfl⟩) (by omega) (by omega)|exact Xbo _ _ _ _ _ _ _ _ _ _ _ _ rfl rfl HEl.out (by first|exact .inl ⟨rfl,rfl⟩|exact .inr ⟨_,_,rfl,rfl⟩) (by first|exact .inl ⟨rfl,rfl⟩|exact .inr ⟨_,_,rfl,rfl⟩) (by omega) (by omega)))|(apply Xab 10 rfl;(exact XaZ _ _ _ _ _ rfl HPl.out (by first|rfl|(simp;done)) rfl))|(apply Xab 11 rfl;(exact XaE 4 Tryz.f4 _ _ rfl rfl Tryz.func4 (by decide) rfl (VwL.refl _ _) (hsn'.out)))|(apply XaJ;(case hs=>(intro _ _ h;cases h));(case hx=>rfl);(case hrun=>(intro w;simp [wtb,AV.val,go_sem];(try go_bits);rfl))))));(case hT=>((try simp only [wtn,Xpr,Xpo,Xpp,Xps,Xpw,Nat.reduceAdd,Nat.reduceMul,Nat.reduceSub,↓reduceIte,Nat.reduceEqDiff]);rfl)))|(refine Xak rfl ?_;((first|(refine Xap 11 rfl ?_;(first|(refine Xax 6 Tryz.f6 ([]) _ _ _ rfl rfl Tryz.func6 (by decide) rfl (Xpn _) (VwL.refl _ _) (XnT l []) ?_;rintro _ _ ⟨bl,rfl,rfl⟩)|(refine Xax 6 Tryz.f6 ([]) _ _ _ rfl rfl Tryz.func6 (by decide) rfl (Xpn _) (VwL.refl _ _) (XnT m []) ?_;rintro _ _ ⟨bm,rfl,rfl⟩)|(refine Xax 5 Tryz.f5 [_] _ _ _ rfl rfl Tryz.func5 (by decide) rfl (Xpn _) (VwL.refl _ _) (Xd5 _ l 0 hd (Nat.zero_le _)) ?_;rintro _ _ ⟨x,kx,gx,cx,rfl,rfl,hkx,hx1,hx4,hxs⟩)|(refine Xax 5 Tryz.f5 [_] _ _ _ rfl rfl Tryz.func5 (by decide) rfl (XpA (l₁:=[_])) (VwL.refl _ _) (Xd5 _ l 0 hd (Nat.zero_le _)) ?_;rintro _ _ ⟨x,kx,gx,cx,rfl,rfl,hkx,hx1,hx4,hxs⟩)|(refine Xax 5 Tryz.f5 [_] _ _ _ rfl rfl Tryz.func5 (by decide) rfl (XpA (l₁:=[_,_])) (VwL.refl _ _) (Xd5 _ l 0 hd (Nat.zero_le _)) ?_;rintro _ _ ⟨x,kx,gx,cx,rfl,rfl,hkx,hx1,hx4,hxs⟩)|(refine Xax 5 Tryz.f5 [_] _ _ _ rfl rfl Tryz.func5 (by decide) rfl (Xpn _) (VwL.refl _ _) (Xd5 _ m 0 hdm (Nat.zero_le _)) ?_;rintro _ _ ⟨y,ky,gy,cy,rfl,rfl,hky,hy1,hy4,hys⟩)|(refine Xax 5 Tryz.f5 [_] _ _ _ rfl rfl Tryz.func5 (by decide) rfl (XpA (l₁:=[_])) (VwL.refl _ _) (Xd5 _ m 0 hdm (Nat.zero_le _)) ?_;rintro _ _ ⟨y,ky,gy,cy,rfl,rfl,hky,hy1,hy4,hys⟩)|(refine Xax 5 Tryz.f5 [_] _ _ _ rfl rfl Tryz.func5 (by decide) rfl (XpA (l₁:=[_,_])) (VwL.refl _ _) (Xd5 _ m 0 hdm (Nat.zero_le _)) ?_;rintro _ _ ⟨y,ky,gy,cy,rfl,rfl,hky,hy1,hy4,hys⟩)))|(refine Xap 13 rfl ?_;(first|(refine XaL _ _ _ _ _ _ _ _ _ _ _ _ _ _ rfl rfl XbA.out (Src.row _ rfl XbA.out) Xa6.out (by first|rfl|(simp;first|done|omega)) (Xdj _ _ (by omega) (by decide)) (fun ad cap=>?_))|(refine XaL _ _ _ _ _ _ _ _ _ _ _ _ _ _ rfl rfl XbA.out (Src.sq rfl) Xa6.out (by first|rfl|(simp;first|done|omega)) (Xdj _ _ (by omega) (by decide)) (fun ad cap=>?_))))|(refine Xap 14 rfl ?_;(refine XaQ _ _ rfl XbK.out rfl (fun b=>?_)))|(refine Xap 15 rfl ?_;(refine XbB _ _ rfl (by first|rfl|((try simp only [wtn,Xpr,Xpo,Xpp,Xps,Xpw,Nat.reduceAdd,Nat.reduceMul,Nat.reduceSub,↓reduceIte,Nat.reduceEqDiff]);simp [won,Value.oneCell'];done)) (fun b=>?_)))|(refine Xap 16 rfl ?_;(first|(refine Xat _ _ _ _ _ _ _ rfl rfl Xa0.out XaS.out (by first|rfl|((try simp only [wtn,Xpr,Xpo,Xpp,Xps,Xpw,Nat.reduceAdd,Nat.reduceMul,Nat.reduceSub,↓reduceIte,Nat.reduceEqDiff]);simp [won,Value.oneCell'];done)) (by first|exact Xpm rfl|(simp [wlq];first|done|omega)) ?_)|(refine XaX _ _ _ _ _ _ _ _ _ _ _ rfl rfl XbA.out XaS.out (by first|rfl|((try simp only [wtn,Xpr,Xpo,Xpp,Xps,Xpw,Nat.reduceAdd,Nat.reduceMul,Nat.reduceSub,↓reduceIte,Nat.reduceEqDiff]);simp [won,Value.oneCell'];done)) (by first|exact Xpm rfl|(simp [wlq];first|done|omega)) ?_)))|(refine Xap 17 rfl ?_;(refine XaF _ _ _ _ _ _ _ _ rfl Xa6.out (by first|rfl|((try simp only [wtn,Xpr,Xpo,Xpp,Xps,Xpw,Nat.reduceAdd,Nat.reduceMul,Nat.reduceSub,↓reduceIte,Nat.reduceEqDiff]);simp [won,Value.oneCell'];done)) rfl (by decide) rfl (fun b=>?_))));apply Xai;(case hT=>((try simp only [wtn,Xpr,Xpo,Xpp,Xps,Xpw,Nat.reduceAdd,Nat.reduceMul,Nat.reduceSub,↓reduceIte,Nat.reduceEqDiff]);rfl));(case hH=>((try simp only [wtn,Xpr,Xpo,Xpp,Xps,Xpw,Nat.reduceAdd,Nat.reduceMul,Nat.reduceSub,↓reduceIte,Nat.reduceEqDiff]);rfl))))))
 ·refine Xan _ _ (Xb2 rfl (RV.tmp _) (XaK.mk' [] _ (Xpn _) (XaI.refl _ _) (VwL.refl _ _))) ?_
  exact ⟨rfl,rfl⟩
 revert cap
 intro cz
 refine XkD 0 rfl fun hr1 hr2 hr3=>?_
 rcases hr3 with ⟨-,h0,-⟩|⟨g,rfl⟩
 ·omega
 clear hr1 hr2
 have jx:=XnJ hx4 hxs
 obtain ⟨v,hv,hvl⟩:∃v:Nat,a % (x.length:Int)=v∧v < x.length:=by
  have e1:=Int.emod_nonneg a (b:=(x.length:Int)) (by omega)
  have e2:=Int.emod_lt_of_pos a (b:=(x.length:Int)) (by omega)
  exact ⟨(a % (x.length:Int)).toNat,by omega,by omega⟩
 obtain ⟨w,hw,hw7⟩:∃w:Nat,a % 7=w∧w < 7:=⟨(a % 7).toNat,by omega,by omega⟩
 have hm1:=XfJ a x.length (by omega) (by omega) ha []
 have hm2:=XfJ a 7 (by omega) (by omega) ha []
 rw [hv] at hm1
 rw [hw] at hm2
 clear hv hw hys
 have hjv:=hxs _ (List.getElem_mem hvl)
 obtain ⟨l1,l2,l3,l4⟩:=hjv
 clear hxs
 refine XcK (H':=[.row (some ⟨g,0,none⟩) x.length cz 34 15 (jfa x)]) (T':=frm 134 [(2,.sq raw.length (jfa raw)),(3,.x (.int .i64 a)),(9,.sq x.length (jfa x)),(10,.sq y.length (jfa y)),(11,.x (.slice (some ⟨g,0,none⟩) x.length cz)),(27,.x (.slice (some ⟨g,0,none⟩) x.length cz)),(28,.x (.int .i64 a)),(30,.x (.int .i64 x.length))]) (XaK.mk' [_,_,_,_] [_] (List.perm_append_comm (l₁:=[_]) (l₂:=[_,_,_,_])) (XaI.refl _ _) (by (repeat' (first|exact VwL.nil|(refine VwL.cons ?_ ?_)|exact Vw.refl _|exact Vw.top _|exact Vw.row (List.Mem.head _) (VwL.refl _ _)|exact Vw.row (List.Mem.tail _ (List.Mem.tail _ (List.Mem.head _))) (VwL.refl _ _))))) ?_
 simp only [frm,Xpu,Xpv,Xpo,Xpp,XpB,XpC]
 have hsv:x.set v x[v]=x:=List.set_getElem_self hvl
 have f5:=fun s=>sj5 (l:=x) (i:=v) (j:=x[v]) s hvl
 have f9:=fun z=>sj9 (l:=x) (i:=v) (j:=x[v]) z hvl
 have f13:=fun z=>Xo7 (l:=x) (i:=v) (j:=x[v]) z hvl
 have d0:=Xcv x v hvl
 have d2:=congrArg (List.drop 2) d0
 have d3:=congrArg (List.drop 3) d0
 have d5:=congrArg (List.drop 5) d0
 have d9:=congrArg (List.drop 9) d0
 have d12:=congrArg (List.drop 12) d0
 have d13:=congrArg (List.drop 13) d0
 rw [List.drop_drop] at d2 d3 d5 d9 d12 d13
 simp only [List.drop_succ_cons,List.drop_zero] at d2 d3 d5 d9 d12 d13
 rw [hsv] at f5 f9 f13
 have hsv':=Lib.hid hsv
 clear hsv d0
 (repeat' (first|with_reducible (first|refine Xaj ?_|refine Xac ?_|refine Xas ?_|refine Xaw ?_|refine Xaz ?_|refine Xa4 ?_|refine Xaf ?_|refine XbP ?_|refine Xaa ?_|refine XaO ?_|refine XaA ?_|refine XaH ?_|refine Xah ?_|refine Xau ?_|refine Xbx ?_|refine XbU ?_|refine Xb6 ?_|refine XbV ?_|refine Xck ?_|refine XbW ?_|refine Xbs ?_)|(with_reducible refine Xbd mixed ?_ ?_;(decide +kernel))|(with_reducible refine XbJ ?_ ?_;(decide))|(refine Xal _ rfl (fun h=>?_) (fun h=>?_)<;>first|(exact absurd h (by decide))|((try (simp only [whn] at h));first|(exfalso;omega;done)|skip))|((first|apply Xcq rfl rfl rfl|apply Xfd rfl rfl rfl);(case hT=>((try simp (disch:=first|assumption|omega) only [wtn,d2,d3,d5,d9,d12,d13,f5,f9,f13,Xpr,Xpo,Xpp,Xps,Xpw,Nat.reduceAdd,Nat.reduceMul,Nat.reduceSub,↓reduceIte,Nat.reduceEqDiff]);rfl)))|((first|apply Xad rfl|apply Xbz rfl|apply Xbr _ _ rfl rfl rfl|apply Xfc _ _ rfl rfl rfl);(case h=>((try (intro (hp:(_:Bool)=true);((try simp only [Bool.and_eq_true,Bool.not_eq_true',Bool.not_eq_true] at hp);(try simp only [hp,wte]);(try simp only [whn] at hp))));(first|(apply Xab 0 rfl;(first|exact Xar _ rfl|exact Xav _ rfl))|(apply Xab 1 rfl;(first|exact XbE _ _ _ rfl rfl|exact XbF _ _ _ rfl rfl|exact XbL _ _ _ _ _ rfl rfl rfl rfl|exact Xcn _ _ _ _ _ rfl rfl rfl rfl|exact XbY _ _ _ _ _ rfl rfl rfl rfl|exact Xct _ _ _ _ _ rfl rfl rfl rfl))|(apply Xab 2 rfl;(exact Xa9 _ _ _ _ rfl rfl rfl))|(apply Xab 3 rfl;(exact Xbh _ _ _ _ _ _ HEl.out rfl rfl))|(apply Xab 4 rfl;(exact XaR _ rfl (by first|exact .inl ⟨_,rfl⟩|exact .inr ⟨_,rfl⟩)))|(apply Xab 5 rfl;(first|exact Xag _ _ _ _ _ _ rfl rfl Xbb.out|exact Xbt _ _ _ _ _ rfl rfl Xbb.out))|(apply Xab 6 rfl;(first|exact XaC _ _ _ _ _ rfl rfl XaT.out (by first|exact Xpm rfl|(simp [wlq];first|done|omega)) (by first|exact Xpm rfl|(simp [wlq];first|done|omega))|exact Xay _ _ _ _ _ _ _ _ rfl rfl Xa0.out XaT.out (by first|exact Xpm rfl|(simp [wlq];first|done|omega)) (by first|exact Xpm rfl|(simp [wlq];first|done|omega))|exact Xbe _ _ _ _ _ _ _ _ _ _ _ _ rfl rfl XbA.out XaT.out (by first|exact Xpm rfl|(simp [wlq];first|done|omega)) (by first|exact Xpm rfl|(simp [wlq];first|done|omega))))|(apply Xab 7 rfl;(first|exact XaD _ _ _ _ _ _ _ _ _ _ rfl rfl rfl HEl.out rfl (by first|omega|assumption) (by simp;first|done|omega)|exact Xbi _ _ _ _ _ _ _ _ _ _ _ _ rfl rfl rfl HEl.out rfl (by first|omega|assumption)))|(apply Xab 8 rfl;(exact XaW _ _ _ _ _ _ _ rfl rfl rfl (by kernel_rfl) rfl (by omega)))|(apply Xab 9 rfl;(first|exact Xa2 _ _ _ _ _ _ _ rfl rfl (by kernel_rfl) (by first|exact .inl ⟨rfl,rfl⟩|exact .inr ⟨_,_,rfl,rfl⟩) (by first|exact .inl ⟨rfl,rfl⟩|exact .inr ⟨_,_,rfl,rfl⟩) (by omega) (by omega)|exact Xbk _ _ _ _ _ _ _ _ _ _ rfl rfl HEl.out (by first|exact .inl ⟨rfl,rfl⟩|exact .inr ⟨_,_,rfl,rfl⟩) (by first|exact .inl ⟨rfl,rfl⟩|exact .inr ⟨_,_,rfl,rfl⟩) (by omega) (by omega)|exact Xbo _ _ _ _ _ _ _ _ _ _ _ _ rfl rfl HEl.out (by first|exact .inl ⟨rfl,rfl⟩|exact .inr ⟨_,_,rfl,rfl⟩) (by first|exact .inl ⟨rfl,rfl⟩|exact .inr ⟨_,_,rfl,rfl⟩) (by omega) (by omega)))|(apply Xab 10 rfl;(exact XaZ _ _ _ _ _ rfl HPl.out (by first|rfl|(simp;done)) rfl))|(apply Xab 11 rfl;(first|exact XaE 7 Tryz.f7 _ _ rfl rfl Tryz.func7 (by decide) rfl (VwL.refl _ _) (hm1)|exact XaE 7 Tryz.f7 _ _ rfl rfl Tryz.func7 (by decide) rfl (VwL.refl _ _) (hm2)))|(apply Xab 12 rfl;(exact Xh8 _ _ x[v].ready [120] rfl rfl rfl (by simp;omega)))|(apply XaJ;(case hs=>(intro _ _ h;cases h));(case hx=>rfl);(case hrun=>(intro w;simp [wtb,AV.val,go_sem];(try go_bits);rfl))))));(case hT=>((try simp (disch:=first|assumption|omega) only [wtn,d2,d3,d5,d9,d12,d13,f5,f9,f13,Xpr,Xpo,Xpp,Xps,Xpw,Nat.reduceAdd,Nat.reduceMul,Nat.reduceSub,↓reduceIte,Nat.reduceEqDiff]);rfl)))|(refine Xak rfl ?_;((first|(refine Xap 13 rfl ?_;(first|(refine XaL _ _ _ _ _ _ _ _ _ _ _ _ _ _ rfl rfl XbA.out (Src.row _ rfl XbA.out) Xa6.out (by first|rfl|(simp;first|done|omega)) (Xdj _ _ (by omega) (by decide)) (fun ad cap=>?_))|(refine XaL _ _ _ _ _ _ _ _ _ _ _ _ _ _ rfl rfl XbA.out (Src.sq rfl) Xa6.out (by first|rfl|(simp;first|done|omega)) (Xdj _ _ (by omega) (by decide)) (fun ad cap=>?_))))|(refine Xap 14 rfl ?_;(refine XaQ _ _ rfl XbK.out rfl (fun b=>?_)))|(refine Xap 15 rfl ?_;(refine XbB _ _ rfl (by first|rfl|((try simp (disch:=first|assumption|omega) only [wtn,d2,d3,d5,d9,d12,d13,f5,f9,f13,Xpr,Xpo,Xpp,Xps,Xpw,Nat.reduceAdd,Nat.reduceMul,Nat.reduceSub,↓reduceIte,Nat.reduceEqDiff]);simp [won,Value.oneCell',d2,d3,d5,d9,d12,d13,f5,f9,f13];done)) (fun b=>?_)))|(refine Xap 16 rfl ?_;(first|(refine Xat _ _ _ _ _ _ _ rfl rfl Xa0.out XaS.out (by first|rfl|((try simp (disch:=first|assumption|omega) only [wtn,d2,d3,d5,d9,d12,d13,f5,f9,f13,Xpr,Xpo,Xpp,Xps,Xpw,Nat.reduceAdd,Nat.reduceMul,Nat.reduceSub,↓reduceIte,Nat.reduceEqDiff]);simp [won,Value.oneCell',d2,d3,d5,d9,d12,d13,f5,f9,f13];done)) (by first|exact Xpm rfl|(simp [wlq];first|done|omega)) ?_)|(refine XaX _ _ _ _ _ _ _ _ _ _ _ rfl rfl XbA.out XaS.out (by first|rfl|((try simp (disch:=first|assumption|omega) only [wtn,d2,d3,d5,d9,d12,d13,f5,f9,f13,Xpr,Xpo,Xpp,Xps,Xpw,Nat.reduceAdd,Nat.reduceMul,Nat.reduceSub,↓reduceIte,Nat.reduceEqDiff]);simp [won,Value.oneCell',d2,d3,d5,d9,d12,d13,f5,f9,f13];done)) (by first|exact Xpm rfl|(simp [wlq];first|done|omega)) ?_)))|(refine Xap 17 rfl ?_;(refine XaF _ _ _ _ _ _ _ _ rfl Xa6.out (by first|rfl|((try simp (disch:=first|assumption|omega) only [wtn,d2,d3,d5,d9,d12,d13,f5,f9,f13,Xpr,Xpo,Xpp,Xps,Xpw,Nat.reduceAdd,Nat.reduceMul,Nat.reduceSub,↓reduceIte,Nat.reduceEqDiff]);simp [won,Value.oneCell',d2,d3,d5,d9,d12,d13,f5,f9,f13];done)) rfl (by decide) rfl (fun b=>?_))));apply Xai;(case hT=>((try simp (disch:=first|assumption|omega) only [wtn,d2,d3,d5,d9,d12,d13,f5,f9,f13,Xpr,Xpo,Xpp,Xps,Xpw,Nat.reduceAdd,Nat.reduceMul,Nat.reduceSub,↓reduceIte,Nat.reduceEqDiff]);rfl));(case hH=>((try simp (disch:=first|assumption|omega) only [wtn,d2,d3,d5,d9,d12,d13,f5,f9,f13,Xpr,Xpo,Xpp,Xps,Xpw,Nat.reduceAdd,Nat.reduceMul,Nat.reduceSub,↓reduceIte,Nat.reduceEqDiff]);rfl))))))
 all_goals try
  (have f3:=Xo6 (l:=x) (i:=v) (j:=x[v]) (x[v].ladder++[((1:Int),(0:Int))]) hvl
   rw [hsv'.out] at f3
   have e3:AV.sq (x[v].ladder.length+1) (ra x[v].ladder++[.x (.int .i64 1),.x (.int .u64 0)])=.sq (x[v].ladder++[((1:Int),(0:Int))]).length (ra (x[v].ladder++[((1:Int),(0:Int))])):=by simp [ra]<;>first|rfl|(constructor<;>rfl)
   refine XcK (H':=[.row (some ⟨g,0,none⟩) x.length cz 34 15 (spl (jfa x) (v*15+12) [.sq (x[v].ladder.length+1) (ra x[v].ladder++[.x (.int .i64 1),.x (.int .u64 0)])])]) (XaK.mk' [.row (some ⟨b,0,none⟩) _ _ _ _ _,.row ad _ cap _ _ _] [.row (some ⟨g,0,none⟩) _ cz _ _ _] (Xpn _) (XaI.cons (VwH.row _ _ _ _ _ (VwL.spl1 _ _ (Vw.row (List.Mem.tail _ (List.Mem.head _)) (VwL.refl _ _)))) XaI.nil) (VwL.refl _ _)) ?_
   rw [e3,f3])
 all_goals try
  (have f3:=sj3 (l:=x) (i:=v) (j:=x[v]) (x[v].needs++[([113]:List UInt8)]) hvl
   rw [hsv'.out] at f3
   have e3:AV.sq (x[v].needs.length+1) (sa x[v].needs++[.x (.string ⟨#[113]⟩)])=.sq (x[v].needs++[([113]:List UInt8)]).length (sa (x[v].needs++[([113]:List UInt8)])):=by simp [sa]<;>first|rfl|(constructor<;>rfl)
   refine XcK (H':=[.row (some ⟨g,0,none⟩) x.length cz 34 15 (spl (jfa x) (v*15+3) [.sq (x[v].needs.length+1) (sa x[v].needs++[.x (.string ⟨#[113]⟩)])])]) (XaK.mk' [.row (some ⟨b,0,none⟩) _ _ _ _ _,.row ad _ cap _ _ _] [.row (some ⟨g,0,none⟩) _ cz _ _ _] (Xpn _) (XaI.cons (VwH.row _ _ _ _ _ (VwL.spl1 _ _ (Vw.row (List.Mem.tail _ (List.Mem.head _)) (VwL.refl _ _)))) XaI.nil) (VwL.refl _ _)) ?_
   rw [e3,f3])
 all_goals try
  (have f3:=sj2 (l:=x) (i:=v) (j:=x[v]) (x[v].env++[(([86]:List UInt8),([]:List UInt8))]) hvl
   rw [hsv'.out] at f3
   have e3:AV.sq (x[v].env.length+1) (ea x[v].env++[.x (.string ⟨#[86]⟩),.x (.string ⟨#[]⟩)])=.sq (x[v].env++[(([86]:List UInt8),([]:List UInt8))]).length (ea (x[v].env++[(([86]:List UInt8),([]:List UInt8))])):=by simp [ea]<;>first|rfl|(constructor<;>rfl)
   refine XcK (H':=[.row (some ⟨g,0,none⟩) x.length cz 34 15 (spl (jfa x) (v*15+2) [.sq (x[v].env.length+1) (ea x[v].env++[.x (.string ⟨#[86]⟩),.x (.string ⟨#[]⟩)])])]) (XaK.mk' [.row (some ⟨b,0,none⟩) _ _ _ _ _,.row ad _ cap _ _ _] [.row (some ⟨g,0,none⟩) _ cz _ _ _] (Xpn _) (XaI.cons (VwH.row _ _ _ _ _ (VwL.spl1 _ _ (Vw.row (List.Mem.tail _ (List.Mem.head _)) (VwL.refl _ _)))) XaI.nil) (VwL.refl _ _)) ?_
   rw [e3,f3])
 all_goals
  apply XcK;(case h=>(apply XaK.mk' [_] [] (List.Perm.of_eq (List.append_nil _).symm) (XaI.refl _ _);(repeat' (first|exact VwL.nil|apply VwL.cons|exact Vw.row (List.Mem.head _) (VwL.refl _ _)|exact Vw.row (List.Mem.tail _ (List.Mem.head _)) (VwL.refl _ _)|exact Vw.refl _))))
  (repeat' (first|with_reducible (first|refine Xaj ?_|refine Xac ?_|refine Xas ?_|refine Xaw ?_|refine Xaz ?_|refine Xa4 ?_|refine Xaf ?_|refine XbP ?_|refine Xaa ?_|refine XaO ?_|refine XaA ?_|refine XaH ?_|refine Xah ?_|refine Xau ?_|refine Xbx ?_|refine XbU ?_|refine Xb6 ?_|refine XbV ?_|refine Xck ?_|refine XbW ?_|refine Xbs ?_)|(with_reducible refine Xbd mixed ?_ ?_;(decide +kernel))|(with_reducible refine XbJ ?_ ?_;(decide))|(refine Xal _ rfl (fun h=>?_) (fun h=>?_)<;>first|(exact absurd h (by decide))|((try (simp only [whn] at h));first|(exfalso;omega;done)|skip))|((first|apply Xcq rfl rfl rfl|apply Xfd rfl rfl rfl);(case hT=>((try simp (disch:=first|assumption|omega) only [wtn,Xby,Xpr,Xpo,Xpp,Xps,Xpw,Nat.reduceAdd,Nat.reduceMul,Nat.reduceSub,↓reduceIte,Nat.reduceEqDiff]);rfl)))|((first|apply Xad rfl|apply Xbz rfl|apply Xbr _ _ rfl rfl rfl|apply Xfc _ _ rfl rfl rfl);(case h=>((try (intro (hp:(_:Bool)=true);((try simp only [Bool.and_eq_true,Bool.not_eq_true',Bool.not_eq_true] at hp);(try simp only [hp,wte]);(try simp only [whn] at hp))));(first|(apply Xab 0 rfl;(first|exact Xar _ rfl|exact Xav _ rfl))|(apply Xab 1 rfl;(first|exact XbE _ _ _ rfl rfl|exact XbF _ _ _ rfl rfl|exact XbL _ _ _ _ _ rfl rfl rfl rfl|exact Xcn _ _ _ _ _ rfl rfl rfl rfl|exact XbY _ _ _ _ _ rfl rfl rfl rfl|exact Xct _ _ _ _ _ rfl rfl rfl rfl))|(apply Xab 2 rfl;(exact Xa9 _ _ _ _ rfl rfl rfl))|(apply Xab 3 rfl;(exact Xbh _ _ _ _ _ _ HEl.out rfl rfl))|(apply Xab 4 rfl;(exact XaR _ rfl (by first|exact .inl ⟨_,rfl⟩|exact .inr ⟨_,rfl⟩)))|(apply Xab 5 rfl;(first|exact Xag _ _ _ _ _ _ rfl rfl Xbb.out|exact Xbt _ _ _ _ _ rfl rfl Xbb.out))|(apply Xab 6 rfl;(first|exact XaC _ _ _ _ _ rfl rfl XaT.out (by first|exact Xpm rfl|(simp [wlq];first|done|omega)) (by first|exact Xpm rfl|(simp [wlq];first|done|omega))|exact Xay _ _ _ _ _ _ _ _ rfl rfl Xa0.out XaT.out (by first|exact Xpm rfl|(simp [wlq];first|done|omega)) (by first|exact Xpm rfl|(simp [wlq];first|done|omega))|exact Xbe _ _ _ _ _ _ _ _ _ _ _ _ rfl rfl XbA.out XaT.out (by first|exact Xpm rfl|(simp [wlq];first|done|omega)) (by first|exact Xpm rfl|(simp [wlq];first|done|omega))))|(apply Xab 7 rfl;(first|exact XaD _ _ _ _ _ _ _ _ _ _ rfl rfl rfl HEl.out rfl (by first|omega|assumption) (by simp;first|done|omega)|exact Xbi _ _ _ _ _ _ _ _ _ _ _ _ rfl rfl rfl HEl.out rfl (by first|omega|assumption)))|(apply Xab 8 rfl;(exact XaW _ _ _ _ _ _ _ rfl rfl rfl (by kernel_rfl) rfl (by omega)))|(apply Xab 9 rfl;(first|exact Xa2 _ _ _ _ _ _ _ rfl rfl (by kernel_rfl) (by first|exact .inl ⟨rfl,rfl⟩|exact .inr ⟨_,_,rfl,rfl⟩) (by first|exact .inl ⟨rfl,rfl⟩|exact .inr ⟨_,_,rfl,rfl⟩) (by omega) (by omega)|exact Xbk _ _ _ _ _ _ _ _ _ _ rfl rfl HEl.out (by first|exact .inl ⟨rfl,rfl⟩|exact .inr ⟨_,_,rfl,rfl⟩) (by first|exact .inl ⟨rfl,rfl⟩|exact .inr ⟨_,_,rfl,rfl⟩) (by omega) (by omega)|exact Xbo _ _ _ _ _ _ _ _ _ _ _ _ rfl rfl HEl.out (by first|exact .inl ⟨rfl,rfl⟩|exact .inr ⟨_,_,rfl,rfl⟩) (by first|exact .inl ⟨rfl,rfl⟩|exact .inr ⟨_,_,rfl,rfl⟩) (by omega) (by omega)))|(apply Xab 10 rfl;(exact XaZ _ _ _ _ _ rfl HPl.out (by first|rfl|(simp;done)) rfl))|(apply Xab 11 rfl;(first|exact XaE 8 Tryz.f8 _ _ rfl rfl Tryz.func8 (by decide) rfl (VwL.refl _ _) (XhV x _ _ (by simp) jx)|exact XaE 9 Tryz.f9 _ _ rfl rfl Tryz.func9 (by decide) rfl (VwL.refl _ _) (Xgq x _ _ (by simp) jx)|exact XaE 8 Tryz.f8 _ _ rfl rfl Tryz.func8 (by decide) rfl (VwL.refl _ _) (XhV raw _ _ (by simp) hr)|exact XaE 9 Tryz.f9 _ _ rfl rfl Tryz.func9 (by decide) rfl (VwL.refl _ _) (Xgq raw _ _ (by simp) hr)))|(apply XaJ;(case hs=>(intro _ _ h;cases h));(case hx=>rfl);(case hrun=>(intro w;simp [wtb,AV.val,go_sem];(try go_bits);rfl))))));(case hT=>((try simp (disch:=first|assumption|omega) only [wtn,Xby,Xpr,Xpo,Xpp,Xps,Xpw,Nat.reduceAdd,Nat.reduceMul,Nat.reduceSub,↓reduceIte,Nat.reduceEqDiff]);rfl)))|(refine Xak rfl ?_;((first|(refine Xap 13 rfl ?_;(first|(refine XaL _ _ _ _ _ _ _ _ _ _ _ _ _ _ rfl rfl XbA.out (Src.row _ rfl XbA.out) Xa6.out (by first|rfl|(simp;first|done|omega)) (Xdj _ _ (by omega) (by decide)) (fun ad cap=>?_))|(refine XaL _ _ _ _ _ _ _ _ _ _ _ _ _ _ rfl rfl XbA.out (Src.sq rfl) Xa6.out (by first|rfl|(simp;first|done|omega)) (Xdj _ _ (by omega) (by decide)) (fun ad cap=>?_))))|(refine Xap 14 rfl ?_;(refine XaQ _ _ rfl XbK.out rfl (fun b=>?_)))|(refine Xap 15 rfl ?_;(refine XbB _ _ rfl (by first|rfl|((try simp (disch:=first|assumption|omega) only [wtn,Xby,Xpr,Xpo,Xpp,Xps,Xpw,Nat.reduceAdd,Nat.reduceMul,Nat.reduceSub,↓reduceIte,Nat.reduceEqDiff]);simp [won,Value.oneCell',Xby];done)) (fun b=>?_)))|(refine Xap 16 rfl ?_;(first|(refine Xat _ _ _ _ _ _ _ rfl rfl Xa0.out XaS.out (by first|rfl|((try simp (disch:=first|assumption|omega) only [wtn,Xby,Xpr,Xpo,Xpp,Xps,Xpw,Nat.reduceAdd,Nat.reduceMul,Nat.reduceSub,↓reduceIte,Nat.reduceEqDiff]);simp [won,Value.oneCell',Xby];done)) (by first|exact Xpm rfl|(simp [wlq];first|done|omega)) ?_)|(refine XaX _ _ _ _ _ _ _ _ _ _ _ rfl rfl XbA.out XaS.out (by first|rfl|((try simp (disch:=first|assumption|omega) only [wtn,Xby,Xpr,Xpo,Xpp,Xps,Xpw,Nat.reduceAdd,Nat.reduceMul,Nat.reduceSub,↓reduceIte,Nat.reduceEqDiff]);simp [won,Value.oneCell',Xby];done)) (by first|exact Xpm rfl|(simp [wlq];first|done|omega)) ?_)))|(refine Xap 17 rfl ?_;(refine XaF _ _ _ _ _ _ _ _ rfl Xa6.out (by first|rfl|((try simp (disch:=first|assumption|omega) only [wtn,Xby,Xpr,Xpo,Xpp,Xps,Xpw,Nat.reduceAdd,Nat.reduceMul,Nat.reduceSub,↓reduceIte,Nat.reduceEqDiff]);simp [won,Value.oneCell',Xby];done)) rfl (by decide) rfl (fun b=>?_))));apply Xai;(case hT=>((try simp (disch:=first|assumption|omega) only [wtn,Xby,Xpr,Xpo,Xpp,Xps,Xpw,Nat.reduceAdd,Nat.reduceMul,Nat.reduceSub,↓reduceIte,Nat.reduceEqDiff]);rfl));(case hH=>((try simp (disch:=first|assumption|omega) only [wtn,Xby,Xpr,Xpo,Xpp,Xps,Xpw,Nat.reduceAdd,Nat.reduceMul,Nat.reduceSub,↓reduceIte,Nat.reduceEqDiff]);rfl))))))
  refine Xan _ _ (Xb2 rfl (RV.tmp _) (XaK.mk' [] _ (Xpn _) (XaI.refl _ _) (VwL.refl _ _))) ?_
  exact ⟨rfl,rfl⟩
section
variable {P:Program} {Δ:List Deferred} {V O:Nat→Prop} {w0 w w':World} {H H' D:List Hp} {T T':List AV} {a:Act} {o:Oper} {ρ:Operand→AV} {Q:Xb9}
end
section
variable {P:Program} {H:List Hp} {T:List AV} {o:Oper} {ops:Array Oper} {Q:Xb9}
end
open Go.RowKit
section
variable {P:Program} {Δ:List Deferred} {V O:Nat→Prop} {w0 w w':World} {H H' D:List Hp} {T T':List AV} {a:Act} {o:Oper} {ops:Array Oper} {Q:Xb9}
def Xku (pv:Value):List PanicEntry:=[{ v:=pv,recovered:=false }]
def Xcp (P:Program) (f:FuncId) (H:List Hp) (args:List AV) (Q:AV→List Hp→Prop) (QP:Value→List Hp→Prop):Prop:=
 ∀(V:Nat→Prop) (w:World) (vs:List Value),(∀k,V k→k < w.heap.size)→HOk V w H→DenL (FB V H) w args vs→GL (XbO H) w →
  Calls P f vs.toArray w fun e w'=>(∃r H' v,Q r H'∧e=.returned v∧Den (FB V H') w' r v∧HOk V w' H'∧Fr (XbO H) w w'∧∀h∈H',∀k,h.blk=some k→XbO H k∨w.heap.size≤k) ∨
   ∃pv H',QP pv H'∧e=.panicked (Xku pv)∧HOk V w' H'∧Fr (XbO H) w w'∧∀h∈H',∀k,h.blk=some k→XbO H k∨w.heap.size≤k
theorem Xcp.mono {f:FuncId} {args:List AV} {Q Q':AV→List Hp→Prop} {QP QP':Value→List Hp→Prop} (h:Xcp P f H args Q QP) (hq:∀r H',Q r H'→Q' r H') (hp:∀v H',QP v H'→QP' v H'):Xcp P f H args Q' QP':=fun V w vs h1 h2 h3 h4=>
 (h V w vs h1 h2 h3 h4).mono fun e w' he=>by
  rcases he with ⟨r,H',v,q,rest⟩|⟨pv,H',q,rest⟩
  ·exact .inl ⟨r,H',v,hq _ _ q,rest⟩
  ·exact .inr ⟨pv,H',hp _ _ q,rest⟩
theorem Xcp.no {f:FuncId} {args:List AV} {Q:AV→List Hp→Prop} (h:Xcp P f H args Q fun _ _=>False):Xbv P f H args Q:=fun V w vs h1 h2 h3 h4=>(h V w vs h1 h2 h3 h4).mono fun e w' he=>by
 rcases he with he|⟨pv,H',q,_⟩
 ·exact he
 ·exact q.elim
def Xoo (P:Program) (fn:Func) (Q:AV→List Hp→Prop) (QP:Value→List Hp→Prop):Xb9
 | .panic ch,T,H=>∃pv H',ch=Xku pv∧XaK H [] H' []∧QP pv H'
 | e,T,H=>XbI P fn Q e T H
theorem Xcy {fn:Func} {Q:AV→List Hp→Prop} {QP:Value→List Hp→Prop} (r:AV) (H':List Hp) (h:Res P fn T H r H') (q:Q r H'):Xoo P fn Q QP .ret T H:=⟨.inl rfl,r,H',h,q⟩
theorem Xbj {fn:Func} {Q:AV→List Hp→Prop} {QP:Value→List Hp→Prop} (r:AV) (H':List Hp) (h:Res P fn T H r H') (q:Q r H'):Xoo P fn Q QP .normal T H:=⟨.inr rfl,r,H',h,q⟩
theorem XaB {fn:Func} {Q:AV→List Hp→Prop} {QP:Value→List Hp→Prop} (pv:Value) (H':List Hp) (h:XaK H [] H' []) (q:QP pv H'):Xoo P fn Q QP (.panic (Xku pv)) T H:=⟨pv,H',rfl,h,q⟩
theorem XbR {f:FuncId} {fn:Func} {c:Code} {args:List AV} {Q:AV→List Hp→Prop} {QP:Value→List Hp→Prop} (hf:P.funcs[f]?=some fn) (hb:fn.body=some c)
  (h:awp P c (Xoo P fn Q QP) (args++List.replicate (fn.ntmps - args.length) .top) H):Xcp P f H args Q QP:=by
 intro V w vs hV hH hd hgl
 have hlen:=hd.len
 refine calls_of_wp hf hb ?_
 have r:Rel [] V (XbO H) w H (args++List.replicate (fn.ntmps - args.length) .top) { tmps:=vs.toArray++Array.replicate (fn.ntmps - vs.toArray.size) undef,defers:=[] } w:=by
  refine ⟨?_,hH,Fr.refl _ _,fun x hx k hk=>.inl ⟨x,hx,hk⟩,rfl,hV,hgl⟩
  simp only [Array.toList_append,Array.toList_replicate,List.size_toArray,hlen]
  refine hd.app (DenL.of (by simp) fun j av u h1 h2=>?_)
  rw [List.getElem?_replicate] at h1
  split at h1
  ·cases h1;rw [Den];trivial
  ·cases h1
 refine wp_mono (h [] V (XbO H) w _ w r) ?_
 rintro e a' w' ⟨T',H1,r1,he⟩
 have hret:XbI P fn Q e T' H1→(e=.ret∨e=.normal)→bodyPost P fn (fun e w'=>(∃r H' v,Q r H'∧e=.returned v∧Den (FB V H') w' r v∧HOk V w' H'∧Fr (XbO H) w w'∧∀h∈H',∀k,h.blk=some k→XbO H k∨w.heap.size≤k) ∨
   ∃pv H',QP pv H'∧e=.panicked (Xku pv)∧HOk V w' H'∧Fr (XbO H) w w'∧∀h∈H',∀k,h.blk=some k→XbO H k∨w.heap.size≤k) e a' w':=by
  rintro ⟨_,res,H',hres,hq⟩ he
  obtain ⟨v,g1,g2,g3,g4⟩:=hres [] V (XbO H) w a' w' r1
  have:=(⟨res,H',v,hq,rfl,g2,g3,r1.fr,fun x hx k hk=>by obtain ⟨y,hy,e⟩:=g4 x hx k hk;exact r1.own y hy k e⟩:∃r H' v',Q r H'∧Ending.returned v=.returned v'∧Den (FB V H') w' r v'∧HOk V w' H'∧Fr (XbO H) w w'∧∀h∈H',∀k,h.blk=some k→XbO H k∨w.heap.size≤k)
  rcases he with rfl|rfl
  ·exact ⟨r1.defers,v,g1,.inl this⟩
  ·exact ⟨r1.defers,v,g1,.inl this⟩
 cases e with
 | panic ch=>
   obtain ⟨pv,H',rfl,hw,hq⟩:=he
   obtain ⟨k1,-,k3⟩:=Xd3 (vs:=[]) r1.hok (by rw [DenL]) hw
   exact ⟨r1.defers,.inr ⟨pv,H',hq,rfl,k1,r1.fr,fun x hx k hk=>by obtain ⟨y,hy,e⟩:=k3 x hx k hk;exact r1.own y hy k e⟩⟩
 | ret=>exact hret he (.inl rfl)
 | normal=>exact hret he (.inr rfl)
 | _=>rcases he.1 with h|h<;>cases h
theorem Xhu {Kc:Act→World→Prop} {Qc:Exit→Act→World→Prop} {c:Operand} {args:Array Operand} {tys:Array TypeId} {f:FuncId} {fn:Func} {fs cs vs:Array Value} (ho:o.op=.call { callee:=.value c,args:=args,argTypes:=tys }) (hc:a.eval c=.func (.func f) fs cs)
  (hf:P.funcs[f]?=some fn) (hn:fn.name≠ "runtime.NumGoroutine") (hb:fn.body.isSome=true) (hv:fs++args.map a.eval++cs=vs)
  (h:Calls P f vs w fun e w'=>(∃v,e=.returned v∧Kc (a.put o.dst v) w')∨∃ch,e=.panicked ch∧Qc (.panic ch) a w'):o.wp P a w Kc Qc:=by
 have hrun:(execOp a.eval o).run P w=.ok (.enter f vs) w:=by
  cases hbb:fn.body with
  | none=>rw [hbb] at hb;cases hb
  | some c=>simp [execOp,ho,resolve,hc,Deferred.ofValue,invoke,callFunc,hf,hn,hbb,←hv]
 unfold Oper.wp
 rw [hrun]
 simp only [Oper.upon]
 refine h.mono ?_
 rintro e w' (⟨v,rfl,hk⟩|⟨ch,rfl,hk⟩)
 ·exact hk
 ·exact hk
theorem Rel.called {H1 R:List Hp} (r1:Rel Δ V O w0 (H1++R) T a w) (hok':HOk (FB V R) w' H') (hfr:Fr (XbO H1) w w') (hown:∀h∈H',∀k,h.blk=some k→XbO H1 k∨w.heap.size≤k) :
  Rel Δ V O w0 (H'++R) T a w'∧∀res v,Den (FB (FB V R) H') w' res v→Den (FB V (H'++R)) w' res v:=by
 have hap:=List.pairwise_append.1 r1.hok.apart
 have hVF':∀H1 k,FB (FB V R) H1 k↔FB V (H1++R) k:=fun H1 k=>by
  simp only [FB,List.mem_append]
  constructor
  ·rintro ((h|⟨x,hx,e⟩)|⟨x,hx,e⟩)
   ·exact .inl h
   ·exact .inr ⟨x,.inr hx,e⟩
   ·exact .inr ⟨x,.inl hx,e⟩
  ·rintro (h|⟨x,hx|hx,e⟩)
   ·exact .inl (.inl h)
   ·exact .inr ⟨x,hx,e⟩
   ·exact .inl (.inr ⟨x,hx,e⟩)
 have hF:∀k,FB V (H'++R) k→FB V (H1++R) k∨w.heap.size≤k:=fun k hk=>by
  rcases (hVF' H' k).2 hk with hk|⟨x,hx,e⟩
  ·exact .inl ((hVF' H1 k).1 (.inl hk))
  ·rcases hown x hx k e with ⟨y,hy,e'⟩|h
   ·exact .inl ((hVF' H1 k).1 (.inr ⟨y,hy,e'⟩))
   ·exact .inr h
 have hw:∀k,k < w.heap.size→¬FB V (H1++R) k→w'.heap[k]?=w.heap[k]?:=fun k hk hn=>hfr.block k hk fun ⟨y,hy,e⟩=>hn (.inr ⟨y,by simp [hy],e⟩)
 refine ⟨⟨DenL.conv hF hw _ _ r1.tmps,⟨fun x hx=>?_,List.pairwise_append.2 ⟨hok'.apart,hap.2.1,fun x hx y hy k hk e=>?_⟩,fun x hx k hk=>?_⟩,?_,fun x hx k hk=>?_,r1.defers,r1.vlt,r1.gl⟩,fun res v hdv=>hdv.weak fun k hk=>(hVF' H' k).2 hk⟩
 ·rcases List.mem_append.1 hx with hx|hx
  ·exact (hok'.ok x hx).weak fun k hk=>(hVF' H' k).2 hk
  ·exact (r1.hok.ok x (by simp [hx])).conv hF hw hfr.size fun k hk=>hfr.block k (r1.hok.lt x (by simp [hx]) k hk).1 fun ⟨y,hy,e⟩=>hap.2.2 y hy x hx k e hk
 ·exact (hok'.lt x hx k hk).2 (.inr ⟨y,hy,e⟩)
 ·rcases List.mem_append.1 hx with hx|hx
  ·exact ⟨(hok'.lt x hx k hk).1,fun hv=>(hok'.lt x hx k hk).2 (.inl hv)⟩
  ·exact ⟨Nat.lt_of_lt_of_le (r1.hok.lt x (by simp [hx]) k hk).1 hfr.size,(r1.hok.lt x (by simp [hx]) k hk).2⟩
 ·refine r1.fr.trans hfr fun k hk hb=>?_
  obtain ⟨y,hy,e⟩:=hb
  rcases r1.own y (by simp [hy]) k e with h|h
  ·exact h
  ·omega
 ·rcases List.mem_append.1 hx with hx|hx
  ·rcases hown x hx k hk with ⟨y,hy,e⟩|h
   ·exact r1.own y (by simp [hy]) k e
   ·exact .inr (Nat.le_trans r1.fr.size h)
  ·exact r1.own x (by simp [hx]) k hk
theorem Xij {rest:List Oper} {x:Operand} {t:TypeId} {v:Value} (hg:o.guard=none) (ho:o.op=.panic x) (hx:ev T x=.x (.iface t v)) (h:Q (.panic (Xku (.iface t v))) T H):XeA P ops Q (o :: rest) T H:=fun Δ V O w0 a w r=>wpList_plain hg fun Kc hKc=>by
 have hrun:(execOp a.eval o).run P w=.halt (.panic (.iface t v)) w:=by
  simp [execOp,ho,r.evx hx,Instr.panic]
 unfold Oper.wp
 rw [hrun,Oper.upon_panic]
 exact ⟨T,H,r,h⟩
theorem Xam {Kc:List AV→List Hp→Prop} {ch:List PanicEntry} (h:Q (.panic ch) T H):Xa1 Kc Q (.panic ch) T H:=h
theorem Xa5 {id:Nat} {ch:List PanicEntry} (h:Q (.panic ch) T H):Xaq id Q (.panic ch) T H:=h
end
end Go.Proofs.YtcmfamgnmehojaaGreatDoor

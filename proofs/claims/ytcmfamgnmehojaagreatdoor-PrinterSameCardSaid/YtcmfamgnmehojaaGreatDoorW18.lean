import Derived.Test.YtcmfamgnmehojaaGreatDoorW17
import Derived.Test.YtcmfamgnmehojaaGreatDoorW10
import Derived.Test.YtcmfamgnmehojaaGreatDoorW9
/- mill.Loose: made jobs, some with faults; only how long their lists are. (Under way.) -/
set_option linter.unusedSimpArgs false
set_option linter.unusedVariables false
set_option maxRecDepth 100000
set_option maxHeartbeats 8000000
namespace Go.Proofs.YtcmfamgnmehojaaGreatDoor
open Go.RowKit
theorem Xm2:∀(l:List JF) (i k:Nat) (c:AV) (_:i < l.length) (_:k < 15) (j':JF),j'.cells=(l.getD i j').cells.set k c→spl (jfa l) (i*15+k) [c]=jfa (l.set i j'):=by
 intro l i k c h hk j' hj
 unfold spl
 have hs:=List.set_eq_take_append_cons_drop (l:=jfa l) (i:=i*15+k) (a:=c)
 rw [if_pos (by rw [Xmu];omega)] at hs
 rw [List.length_singleton,List.append_assoc,List.singleton_append,←hs]
 clear hs
 have hcl:∀j:JF,j.cells.length=15:=fun j=>rfl
 induction l generalizing i with
 | nil=>simp at h
 | cons j l ih=>
   have e0:jfa (j :: l)=j.cells++jfa l:=rfl
   cases i with
   | zero=>
     have e1:jfa ((j :: l).set 0 j')=j'.cells++jfa l:=rfl
     rw [e0,e1,hj,List.set_append_left _ _ (by rw [hcl];omega),Nat.zero_mul,Nat.zero_add]
     rfl
   | succ i=>
     have e1:jfa ((j :: l).set (i+1) j')=j.cells++jfa (l.set i j'):=rfl
     rw [e0,e1,List.set_append_right _ _ (by rw [hcl];omega),hcl,show (i+1)*15+k - 15=i*15+k by omega,ih i (by simpa using h) (by simpa using hj)]
section
variable {l:List JF} {i:Nat} {j:JF}
theorem XcU {k:Nat} {c:AV} (h:i < l.length) (hk:k < 15) (j':JF) (hj:j'.cells=j.cells.set k c):spl (jfa (l.set i j)) (i*15+k) [c]=jfa (l.set i j'):=by
 rw [Xm2 (l.set i j) i k c (by rw [List.length_set];exact h) hk j' (by rw [hj,List.getD_eq_getElem?_getD,List.getElem?_set_self h];rfl),List.set_set]
theorem sj0 (s:List UInt8) (h:i < l.length):spl (jfa (l.set i j)) (i*15) [.x (.string (bs s))]=jfa (l.set i { j with name:=s }):=XcU (k:=0) h (by decide) _ rfl
theorem sj4 (b:Bool) (h:i < l.length):spl (jfa (l.set i j)) (i*15+4) [.x (.bool b)]=jfa (l.set i { j with hasr:=b }):=XcU h (by decide) _ rfl
theorem sj5 (s:List UInt8) (h:i < l.length):spl (jfa (l.set i j)) (i*15+5) [.x (.string (bs s))]=jfa (l.set i { j with ready:=s }):=XcU h (by decide) _ rfl
theorem sj6 (v:Int) (h:i < l.length):spl (jfa (l.set i j)) (i*15+6) [.x (.int .i64 v)]=jfa (l.set i { j with restart:=v }):=XcU h (by decide) _ rfl
theorem sj8 (v:Int) (h:i < l.length):spl (jfa (l.set i j)) (i*15+8) [.x (.int .u64 v)]=jfa (l.set i { j with cap:=v }):=XcU h (by decide) _ rfl
theorem Xpi (v:Int) (h:i < l.length):spl (jfa (l.set i j)) (i*15+10) [.x (.int .i64 v)]=jfa (l.set i { j with burst:=v }):=XcU h (by decide) _ rfl
theorem Xpj (v:Int) (h:i < l.length):spl (jfa (l.set i j)) (i*15+11) [.x (.int .u64 v)]=jfa (l.set i { j with window:=v }):=XcU h (by decide) _ rfl
theorem Xo7 (v:Int) (h:i < l.length):spl (jfa (l.set i j)) (i*15+13) [.x (.int .i64 v)]=jfa (l.set i { j with line:=v }):=XcU h (by decide) _ rfl
theorem Xpk (v:Int) (h:i < l.length):spl (jfa (l.set i j)) (i*15+14) [.x (.int .i64 v)]=jfa (l.set i { j with col:=v }):=XcU h (by decide) _ rfl
theorem sj2 (s:List (List UInt8 × List UInt8)) (h:i < l.length):spl (jfa (l.set i j)) (i*15+2) [.sq s.length (ea s)]=jfa (l.set i { j with env:=s }):=XcU h (by decide) _ rfl
theorem sj9 (v:Int) (h:i < l.length):spl (jfa (l.set i j)) (i*15+9) [.x (.int .u64 v)]=jfa (l.set i { j with stable:=v }):=XcU h (by decide) _ rfl
theorem sj3 (s:List (List UInt8)) (h:i < l.length):spl (jfa (l.set i j)) (i*15+3) [.sq s.length (sa s)]=jfa (l.set i { j with needs:=s }):=XcU h (by decide) _ rfl
theorem Xo6 (s:List (Int × Int)) (h:i < l.length):spl (jfa (l.set i j)) (i*15+12) [.sq s.length (ra s)]=jfa (l.set i { j with ladder:=s }):=XcU h (by decide) _ rfl
end
def lzP:List (List UInt8):=[[40],[42],[91,97],[97,94,98],[91,94,120,45,120,93],[92,113],[36,97]]
theorem Xhh {v:Nat} (h:v < 7):(List.drop v [.x (.string ⟨#[40]⟩),.x (.string ⟨#[42]⟩),.x (.string ⟨#[91,97]⟩),.x (.string ⟨#[97,94,98]⟩),.x (.string ⟨#[91,94,120,45,120,93]⟩),.x (.string ⟨#[92,113]⟩),.x (.string ⟨#[36,97]⟩)]).getD 0 AV.top=.x (.string (bs (lzP.getD v []))):=XeZ lzP v h
def lzS:List Int:=[0,9,7]
theorem Xhg {v:Nat} (h:v < 3):(List.drop v [.x (.int .i64 0),.x (.int .i64 9),.x (.int .i64 7)]).getD 0 AV.top=.x (.int .i64 (lzS.getD v 0)):=by
 match v,h with
 | 0,_|1,_|2,_=>rfl
theorem ex3 {α β γ:Type} {P:α × β × γ→Prop} (a:α) (b:β) (d:γ) (h:P (a,b,d)):∃s,P s:=⟨_,h⟩
def LS (n:Nat) (j:JF):Prop:=j.env.length≤20∧j.needs.length+n≤20∧j.ladder.length+n≤20∧j.ready.length≤20
theorem XhO {ys:List JF} {v c:Nat} {j':JF} (h:∀j∈ys,LS c j) (hj:LS (c - 1) j'):∀j∈ys.set v j',LS (c - 1) j:=fun j hm=>by
 rcases List.mem_or_eq_of_mem_set hm with hm|rfl
 ·obtain ⟨h1,h2,h3,h4⟩:=h j hm
  exact ⟨h1,by omega,by omega,h4⟩
 ·exact hj
theorem XjJ {c:Nat} {j j':JF} (h:LS c j) (e1:j'.env=j.env) (e2:j'.needs=j.needs) (e3:j'.ladder=j.ladder) (e4:j'.ready=j.ready∨∃x,x < 7∧j'.ready=lzP.getD x []):LS (c - 1) j':=by
 obtain ⟨h1,h2,h3,h4⟩:=h
 have h5:j'.ready.length≤20:=by
  rcases e4 with e|⟨x,hx,e⟩
  ·rw [e];exact h4
  ·rw [e];exact Xnm lzP (fun s=>s.length≤20) (by decide) x hx
 unfold LS
 rw [e1,e2,e3]
 exact ⟨h1,by omega,by omega,h5⟩
theorem VwL.apl {D:List Hp}:∀{a a' b b':List AV},VwL D a a'→VwL D b b'→VwL D (a++b) (a'++b')
 | _,_,_,_,.nil,h=>h
 | _,_,_,_,.cons x y,h=>.cons x (VwL.apl y h)
theorem VwL.spl1 {D:List Hp} (a:List AV) (off:Nat) {c c':AV} (h:Vw D c c'):VwL D (spl a off [c]) (spl a off [c']):=
 VwL.apl (VwL.apl (VwL.refl _ _) (VwL.cons h VwL.nil)) (VwL.refl _ _)
theorem Xd5 (bd:Nat) (l:List Int) (k:Nat) (hd:DK l) (hk:k≤l.length):Xbv Tryz.prog 5 [.box bd [.sq l.length (ia l),.x (.int .i64 k)]] [.x (.pointer (some ⟨bd,0,none⟩))] (fun r H'=>∃(js:List JF) (k' g:Nat) (cap:Nat),r=.x (.slice (some ⟨g,0,none⟩) js.length cap)∧H'=[.row (some ⟨g,0,none⟩) js.length cap 34 15 (jfa js),.box bd [.sq l.length (ia l),.x (.int .i64 k')]]∧k'≤l.length∧1≤js.length∧js.length≤4∧∀j∈js,LS 0 j):=by
 refine XaP Tryz.func5 rfl ?_
 simp only [Tryz.ntmps5,Xpq,Xpt,Xpu,Xpv,Xpy,Xpx,Nat.reduceAdd,Nat.reduceSub]
 (repeat' (first|with_reducible (first|refine Xaj ?_|refine Xac ?_|refine Xas ?_|refine Xaf ?_|refine Xaa ?_)|((apply Xad rfl);(case h=>((try (intro (hp:(_:Bool)=true);((try simp only [Bool.and_eq_true,Bool.not_eq_true',Bool.not_eq_true] at hp);(try simp only [hp,wte]);(try simp only [whn] at hp))));(apply Xab 0 rfl;(first|exact Xar _ rfl|exact Xav _ rfl))));(case hT=>((try simp only [wtn,Xpr,Xpo,Xpp,Xps,Xpw,Nat.reduceAdd,Nat.reduceMul,Nat.reduceSub,↓reduceIte,Nat.reduceEqDiff]);rfl)))|(refine Xak rfl ?_;((refine Xap 11 rfl ?_;(first|(refine Xax 12 Tryz.f12 [_] _ _ _ rfl rfl Tryz.func12 (by decide) rfl (Xpn _) (VwL.refl _ _) (XnK _ l k hd hk) ?_;rintro _ _ ⟨js,k1,aj,cj,rfl,rfl,hk1,hj1,hj4,hjm⟩)|(refine Xax 13 Tryz.f13 [_] _ _ _ rfl rfl Tryz.func13 (by decide) rfl (XpA (l₁:=[_])) (VwL.refl _ _) (XbQ _ l k1 3 hd hk1 (by omega) (by omega)) ?_;rintro _ _ ⟨v1,k2,rfl,rfl,hv1,hk2⟩)));apply Xai;(case hT=>((try simp only [wtn,Xpr,Xpo,Xpp,Xps,Xpw,Nat.reduceAdd,Nat.reduceMul,Nat.reduceSub,↓reduceIte,Nat.reduceEqDiff]);rfl));(case hH=>((try simp only [wtn,Xpr,Xpo,Xpp,Xps,Xpw,Nat.reduceAdd,Nat.reduceMul,Nat.reduceSub,↓reduceIte,Nat.reduceEqDiff]);rfl))))|fail))
 refine Xl6 1 rfl fun hr1 hr2 hr3=>?_
 rcases hr3 with ⟨-,h0,-⟩|⟨g,rfl⟩
 ·omega
 clear hr1 hr2
 have hls:∀j∈js,LS v1 j:=fun j hj=>by
  obtain ⟨i,-,hm⟩:=hjm j hj
  have hs:=hm.small
  have e1:=hs.env
  have e2:=hs.needs
  have e3:=hs.ladder
  have e4:=hs.ready
  exact ⟨by omega,by omega,by omega,by omega⟩
 clear hjm
 apply Xbn (S:=Nat × Nat × List JF) (fun q=>frm 114 [(0,.x (.pointer (some ⟨bd,0,none⟩))),(3,.x (.slice (some ⟨g,0,none⟩) js.length cj)),(4,.x (.int .i64 q.1))]) (fun q=>[.row (some ⟨g,0,none⟩) js.length cj 34 15 (jfa q.2.2),.box bd [.sq l.length (ia l),.x (.int .i64 q.2.1)]]) (fun q=>q.1≤2∧q.2.1≤l.length∧q.2.2.length=js.length∧∀j∈q.2.2,LS q.1 j) (fun q=>q.1) (v1,k2,js)
 case h0=>exact XaK.mk' [] [.row _ _ _ _ _ _,.box _ _] (by (repeat' (first|exact Xpn _|refine (XpA (l₁:=[_])).trans (XpD _ ?_)|fail))) (XaI.refl _ _) (by (repeat' (first|exact VwL.nil|(refine VwL.cons ?_ ?_)|exact Vw.refl _|exact Vw.top _|fail)))
 case hi=>exact ⟨by simp only;omega,hk2,rfl,hls⟩
 rintro ⟨c,k3,ys⟩ ⟨g1,g2,g3,g4⟩
 simp only at g1 g2 g3 g4
 have g4':=Lib.hid g4
 clear g4 hls
 simp only [frm,Xpu,Xpv,Xpo,Xpp,XpB,XpC]
 by_cases hc:0 < c
 ·(repeat' (first|with_reducible (first|refine Xaj ?_|refine Xac ?_|refine Xas ?_|refine Xaz ?_|refine Xaf ?_|refine Xaa ?_)|(refine Xal _ rfl (fun h=>?_) (fun h=>?_)<;>((try (simp only [whn] at h));first|(exfalso;omega;done)|skip))|((apply Xad rfl);(case h=>((try (intro (hp:(_:Bool)=true);((try simp only [Bool.and_eq_true,Bool.not_eq_true',Bool.not_eq_true] at hp);(try simp only [hp,wte]);(try simp only [whn] at hp))));(first|(apply Xab 0 rfl;(first|exact Xar _ rfl|exact Xav _ rfl))|(apply Xab 7 rfl;(exact Xbi _ _ _ _ _ _ _ _ _ _ _ _ rfl rfl rfl HEl.out rfl (by first|omega|fail)))|(apply XaJ;(case hs=>(intro _ _ h;cases h));(case hx=>rfl);(case hrun=>(intro w;simp [wtb,AV.val,go_sem];(try go_bits);rfl))))));(case hT=>((try simp only [wtn,Xpr,Xpo,Xpp,Xps,Xpw,Nat.reduceAdd,Nat.reduceMul,Nat.reduceSub,↓reduceIte,Nat.reduceEqDiff]);rfl)))|(refine Xak rfl ?_;((refine Xap 11 rfl ?_;(refine Xax 13 Tryz.f13 [_] _ _ _ rfl rfl Tryz.func13 (by decide) rfl (XpA (l₁:=[_])) (VwL.refl _ _) (XbQ _ l k3 js.length hd g2 hj1 (by omega)) ?_;rintro _ _ ⟨v,k4,rfl,rfl,hv,hk4⟩));apply Xai;(case hT=>((try simp only [wtn,Xpr,Xpo,Xpp,Xps,Xpw,Nat.reduceAdd,Nat.reduceMul,Nat.reduceSub,↓reduceIte,Nat.reduceEqDiff]);rfl));(case hH=>((try simp only [wtn,Xpr,Xpo,Xpp,Xps,Xpw,Nat.reduceAdd,Nat.reduceMul,Nat.reduceSub,↓reduceIte,Nat.reduceEqDiff]);rfl))))|fail))
  have hvl:v < ys.length:=by omega
  have hsv:ys.set v ys[v]=ys:=List.set_getElem_self hvl
  have hjv:=g4'.out _ (List.getElem_mem hvl)
  have hnl:ys[v].needs.length≤20:=by have:=hjv.2.1;omega
  have hll:ys[v].ladder.length≤20:=by have:=hjv.2.2.1;omega
  have f0:=fun s=>sj0 (l:=ys) (i:=v) (j:=ys[v]) s hvl
  have f4:=fun b=>sj4 (l:=ys) (i:=v) (j:=ys[v]) b hvl
  have f6:=fun z=>sj6 (l:=ys) (i:=v) (j:=ys[v]) z hvl
  have f8:=fun z=>sj8 (l:=ys) (i:=v) (j:=ys[v]) z hvl
  have f10:=fun z=>Xpi (l:=ys) (i:=v) (j:=ys[v]) z hvl
  have f11:=fun z=>Xpj (l:=ys) (i:=v) (j:=ys[v]) z hvl
  have f5:=fun j s=>sj5 (l:=ys) (i:=v) (j:=j) s hvl
  have f13:=fun j z=>Xo7 (l:=ys) (i:=v) (j:=j) z hvl
  have f14:=fun j z=>Xpk (l:=ys) (i:=v) (j:=j) z hvl
  rw [hsv] at f0 f4 f6 f8 f10 f11
  have f0':=Lib.hid f0
  have hsv':=Lib.hid hsv
  clear hsv f0
  (repeat' (first|with_reducible (first|refine Xaj ?_|refine Xac ?_|refine Xas ?_|refine Xaf ?_|refine Xaa ?_|refine Xah ?_)|(refine Xal _ rfl (fun h=>?_) (fun h=>?_)<;>((try (simp only [whn] at h));first|(exfalso;omega;done)|skip))|((apply Xad rfl);(case h=>((try (intro (hp:(_:Bool)=true);((try simp only [Bool.and_eq_true,Bool.not_eq_true',Bool.not_eq_true] at hp);(try simp only [hp,wte]);(try simp only [whn] at hp))));(first|(apply Xab 0 rfl;(first|exact Xar _ rfl|exact Xav _ rfl))|(apply Xab 4 rfl;(exact XaR _ rfl (by first|exact .inl ⟨_,rfl⟩|fail)))|(apply Xab 5 rfl;(exact Xag _ _ _ _ _ _ rfl rfl Xbb.out))|(apply Xab 6 rfl;(exact XaC _ _ _ _ _ rfl rfl XaT.out (by first|(simp [wlq];omega)|fail) (by first|(simp [wlq];omega)|fail)))|(apply Xab 7 rfl;(exact XaD _ _ _ _ _ _ _ _ _ _ rfl rfl rfl HEl.out rfl (by first|omega|fail) (by simp;first|done|fail)))|(apply Xab 17 rfl;(exact XbD _ _ _ _ _ _ rfl Xa6.out rfl (by first|rfl|fail) rfl rfl (by decide)))|(apply XaJ;(case hs=>(intro _ _ h;cases h));(case hx=>rfl);(case hrun=>(intro w;simp [wtb,AV.val,go_sem];(try go_bits);rfl))))));(case hT=>((try simp (disch:=assumption) only [wtn,f0'.out,f4,f5,f6,f8,f10,f11,f13,f14,Xhh,Xpr,Xpo,Xpp,Xps,Xpw,Nat.reduceAdd,Nat.reduceMul,Nat.reduceSub,↓reduceIte,Nat.reduceEqDiff]);rfl)))|(refine Xak rfl ?_;((first|(refine Xap 11 rfl ?_;(first|(refine Xax 13 Tryz.f13 [_] _ _ _ rfl rfl Tryz.func13 (by decide) rfl (Xpn _) (VwL.refl _ _) (XbQ _ l _ 8 hd (by assumption) (by omega) (by omega)) ?_;rintro _ _ ⟨x,kx,rfl,rfl,hx,hkx⟩)|(refine Xax 13 Tryz.f13 [_] _ _ _ rfl rfl Tryz.func13 (by decide) rfl (Xpn _) (VwL.refl _ _) (XbQ _ l _ 7 hd (by assumption) (by omega) (by omega)) ?_;rintro _ _ ⟨x,kx,rfl,rfl,hx,hkx⟩)|(refine Xax 13 Tryz.f13 [_] _ _ _ rfl rfl Tryz.func13 (by decide) rfl (Xpn _) (VwL.refl _ _) (XbQ _ l _ 4 hd (by assumption) (by omega) (by omega)) ?_;rintro _ _ ⟨x,kx,rfl,rfl,hx,hkx⟩)|(refine Xax 13 Tryz.f13 [_] _ _ _ rfl rfl Tryz.func13 (by decide) rfl (Xpn _) (VwL.refl _ _) (XbQ _ l _ 30 hd (by assumption) (by omega) (by omega)) ?_;rintro _ _ ⟨x,kx,rfl,rfl,hx,hkx⟩)|(refine Xax 13 Tryz.f13 [_] _ _ _ rfl rfl Tryz.func13 (by decide) rfl (Xpn _) (VwL.refl _ _) (XbQ _ l _ 2 hd (by assumption) (by omega) (by omega)) ?_;rintro _ _ ⟨x,kx,rfl,rfl,hx,hkx⟩)|(refine Xax 13 Tryz.f13 [_] _ _ _ rfl rfl Tryz.func13 (by decide) rfl (Xpn _) (VwL.refl _ _) (XbQ _ l _ 5 hd (by assumption) (by omega) (by omega)) ?_;rintro _ _ ⟨x,kx,rfl,rfl,hx,hkx⟩)|(refine Xax 14 Tryz.f14 [_] _ _ _ rfl rfl Tryz.func14 (by decide) rfl (Xpn _) (VwL.refl _ _) (XlQ _ l _ hd (by assumption)) ?_;rintro _ _ ⟨s,kx,rfl,rfl,hx,hkx⟩)))|(refine Xap 16 rfl ?_;(refine XaX _ _ _ _ _ _ _ _ _ _ _ rfl rfl XbA.out XaS.out (by first|rfl|fail) (by first|(simp [wlq];omega)|fail) ?_)));apply Xai;(case hT=>((try simp (disch:=omega) only [wtn,f0'.out,f4,f5,f6,f8,f10,f11,f13,f14,Xhh,Xpr,Xpo,Xpp,Xps,Xpw,Nat.reduceAdd,Nat.reduceMul,Nat.reduceSub,↓reduceIte,Nat.reduceEqDiff]);rfl));(case hH=>((try simp (disch:=omega) only [wtn,f0'.out,f4,f5,f6,f8,f10,f11,f13,f14,Xhh,Xpr,Xpo,Xpp,Xps,Xpw,Nat.reduceAdd,Nat.reduceMul,Nat.reduceSub,↓reduceIte,Nat.reduceEqDiff]);rfl))))|fail))
  all_goals try
   apply ex3 (c - 1)
   refine ⟨?e1,⟨?e2,?e3,?e4,?e5⟩,?e6⟩
   case e6=>exact XaK.mk' [] [.row (some ⟨g,0,none⟩) _ cj _ _ _,.box bd _] (by (repeat' (first|exact Xpn _|refine (XpA (l₁:=[_])).trans (XpD _ ?_)|fail))) (XaI.refl _ _) (by (repeat' (first|exact VwL.nil|(refine VwL.cons ?_ ?_)|exact Vw.refl _|exact Vw.top _|(refine Vw.eq ?_;(congr 3;omega))|fail)))
   case e1=>simp only;omega
   case e2=>simp only;omega
   case e3=>simp only;assumption
   case e4=>simp only [List.length_set];exact g3
   case e5=>first|exact XhO g4'.out (XjJ hjv rfl rfl rfl (.inl rfl))|exact XhO g4'.out (XjJ hjv rfl rfl rfl (.inr ⟨_,by assumption,rfl⟩))|fail
  ·have d3:=congrArg (List.drop 3) (Xcv ys v hvl)
   rw [List.drop_drop] at d3
   simp only [List.drop_succ_cons,List.drop_zero] at d3
   refine Xc7 (B:=[.row (some ⟨g,0,none⟩) _ cj _ _ _]) (R:=[.box bd _]) mixed [0,1,4,5,6,7,2,3,8,9,10] [2,3,8] [11] none [] 1 (List.Perm.swap _ _ _) (by decide +kernel) rfl (fun i o h=>by cases h) (by decide) ?_
   (repeat' (first|(apply Xcx rfl rfl;(case h=>(intro H1;(try simp only [Xpy,Xpx]);(first|(apply Xab 0 rfl;(exact Xar _ rfl))|(apply Xab 4 rfl;(exact XaR _ rfl (by first|exact .inl ⟨_,rfl⟩|fail)))|(apply Xab 5 rfl;(exact Xag _ _ _ _ _ _ rfl rfl Xbb.out))|(apply Xab 6 rfl;(exact Xbe _ _ _ _ _ _ _ _ _ _ _ _ rfl rfl XbA.out XaT.out (by first|(simp [wlq];omega)|fail) (by first|(simp [wlq];omega)|fail))))));(case hT=>((try simp (disch:=omega) only [wtn,d3,Xpr,Xpo,Xpp,Xps,Xpw,Nat.reduceAdd,Nat.reduceMul,Nat.reduceSub,↓reduceIte,Nat.reduceEqDiff]);rfl)))|(apply Xc9 rfl rfl;(first|(refine Xap 11 rfl ?_;(refine Xax 14 Tryz.f14 [_] _ _ _ rfl rfl Tryz.func14 (by decide) rfl (Xpn _) (VwL.refl _ _) (XlQ _ l _ hd (by assumption)) ?_;rintro _ _ ⟨s,kx,rfl,rfl,hx,hkx⟩))|(refine Xap 13 rfl ?_;(refine XaL _ _ _ _ _ _ _ _ _ _ _ _ _ _ rfl rfl XbA.out (Src.sq rfl) Xa6.out (by first|(simp;done)|fail) (Xdj _ _ (by omega) (by decide)) (fun ad cap=>?_)))|(refine Xap 17 rfl ?_;(refine XaF _ _ _ _ _ _ _ _ rfl Xa6.out (by first|rfl|fail) rfl (by decide) rfl (fun b=>?_))));refine ⟨_,rfl,?_⟩;apply Xc8;(case hT=>((try simp (disch:=omega) only [wtn,d3,Xpr,Xpo,Xpp,Xps,Xpw,Nat.reduceAdd,Nat.reduceMul,Nat.reduceSub,↓reduceIte,Nat.reduceEqDiff]);rfl));(case hH=>((try simp (disch:=omega) only [wtn,d3,Xpr,Xpo,Xpp,Xps,Xpw,Nat.reduceAdd,Nat.reduceMul,Nat.reduceSub,↓reduceIte,Nat.reduceEqDiff]);rfl)))|fail))
   (first|refine Xci ?_|fail);(apply Xao;(case hT=>((try simp only [wtn,Xpr,Xpo,Xpp,Xps,Xpw,Nat.reduceAdd,Nat.reduceMul,Nat.reduceSub,↓reduceIte,Nat.reduceEqDiff]);rfl));(case hH=>(simp only [Xpy,Xpx];rfl)));(refine Xbw 11 (by decide +kernel) rfl rfl ?_;(first|((refine Xap 16 rfl ?_;(refine XaX _ _ _ _ _ _ _ _ _ _ _ rfl rfl XbA.out XaS.out (by first|rfl|fail) (by first|(simp [wlq];omega)|fail) ?_));apply Xao;(case hT=>((try simp only [wtn,Xpr,Xpo,Xpp,Xps,Xpw,Nat.reduceAdd,Nat.reduceMul,Nat.reduceSub,↓reduceIte,Nat.reduceEqDiff]);rfl));(case hH=>((try simp only [wtn,Xpr,Xpo,Xpp,Xps,Xpw,Nat.reduceAdd,Nat.reduceMul,Nat.reduceSub,↓reduceIte,Nat.reduceEqDiff]);rfl)))|fail));refine XaV (by decide +kernel) ?_
   (repeat (first|refine Xah ?_|refine Xaa ?_|fail))
   have f3:=sj3 (l:=ys) (i:=v) (j:=ys[v]) ([s]++ys[v].needs) hvl
   rw [hsv'.out] at f3
   have e3:1+ys[v].needs.length=([s]++ys[v].needs).length:=by simp [Nat.add_comm]
   refine Xhy (H':=[.row (some ⟨g,0,none⟩) js.length cj 34 15 (spl (jfa ys) (v*15+3) [.sq (1+ys[v].needs.length) (sa ([s]++ys[v].needs))]),.box bd [.sq l.length (ia l),.x (.int .i64 kx)]]) (XaK.mk' [.row ad _ _ _ _ _] [.row (some ⟨g,0,none⟩) _ cj _ _ _,.box bd _] (by (repeat' (first|exact Xpn _|refine (XpA (l₁:=[_])).trans (XpD _ ?_)|fail))) (XaI.cons (VwH.row _ _ _ _ _ (VwL.spl1 _ _ (Vw.row (List.Mem.head _) (VwL.refl _ _)))) (XaI.refl _ _)) (VwL.refl _ _)) ?_
   rw [e3,f3]
   (repeat' (first|with_reducible (first|refine Xac ?_|refine Xaf ?_|refine Xaa ?_|refine Xah ?_)|((apply Xad rfl);(case h=>((try (intro (hp:(_:Bool)=true);((try simp only [Bool.and_eq_true,Bool.not_eq_true',Bool.not_eq_true] at hp);(try simp only [hp,wte]);(try simp only [whn] at hp))));(first|(apply Xab 0 rfl;(first|exact Xar _ rfl|exact Xav _ rfl))|(apply Xab 4 rfl;(exact XaR _ rfl (by first|exact .inl ⟨_,rfl⟩|fail)))|(apply Xab 5 rfl;(exact Xag _ _ _ _ _ _ rfl rfl Xbb.out))|(apply XaJ;(case hs=>(intro _ _ h;cases h));(case hx=>rfl);(case hrun=>(intro w;simp [wtb,AV.val,go_sem];(try go_bits);rfl))))));(case hT=>((try simp (disch:=omega) only [wtn,f13,f14,Xpr,Xpo,Xpp,Xps,Xpw,Nat.reduceAdd,Nat.reduceMul,Nat.reduceSub,↓reduceIte,Nat.reduceEqDiff]);rfl)))|(refine Xak rfl ?_;((first|(refine Xap 11 rfl ?_;(first|(refine Xax 13 Tryz.f13 [_] _ _ _ rfl rfl Tryz.func13 (by decide) rfl (Xpn _) (VwL.refl _ _) (XbQ _ l _ 5 hd (by assumption) (by omega) (by omega)) ?_;rintro _ _ ⟨x,kx,rfl,rfl,hx,hkx⟩)|(refine Xax 13 Tryz.f13 [_] _ _ _ rfl rfl Tryz.func13 (by decide) rfl (XpA (l₁:=[_])) (VwL.refl _ _) (XbQ _ l _ 5 hd (by assumption) (by omega) (by omega)) ?_;rintro _ _ ⟨x,kx,rfl,rfl,hx,hkx⟩)))|(refine Xap 16 rfl ?_;(refine XaX _ _ _ _ _ _ _ _ _ _ _ rfl rfl XbA.out XaS.out (by first|rfl|fail) (by first|(simp [wlq];omega)|fail) ?_)));apply Xai;(case hT=>((try simp (disch:=omega) only [wtn,f13,f14,Xpr,Xpo,Xpp,Xps,Xpw,Nat.reduceAdd,Nat.reduceMul,Nat.reduceSub,↓reduceIte,Nat.reduceEqDiff]);rfl));(case hH=>((try simp (disch:=omega) only [wtn,f13,f14,Xpr,Xpo,Xpp,Xps,Xpw,Nat.reduceAdd,Nat.reduceMul,Nat.reduceSub,↓reduceIte,Nat.reduceEqDiff]);rfl))))|fail))
   apply ex3 (c - 1)
   refine ⟨?e1,⟨?e2,?e3,?e4,?e5⟩,?e6⟩
   case e6=>exact XaK.mk' [] [.row (some ⟨g,0,none⟩) _ cj _ _ _,.box bd _] (by (repeat' (first|exact Xpn _|refine (XpA (l₁:=[_])).trans (XpD _ ?_)|fail))) (XaI.refl _ _) (by (repeat' (first|exact VwL.nil|(refine VwL.cons ?_ ?_)|exact Vw.refl _|exact Vw.top _|(refine Vw.eq ?_;(congr 3;omega))|fail)))
   case e1=>simp only;omega
   case e2=>simp only;omega
   case e3=>simp only;assumption
   case e4=>simp only [List.length_set];exact g3
   case e5=>exact XhO g4'.out ⟨hjv.1,by have h5:=hjv.2.1;simp only [Xpz,Xpq,Xpt];omega,by have h5:=hjv.2.2.1;simp only;omega,hjv.2.2.2⟩
  ·have d3:=congrArg (List.drop 12) (Xcv ys v hvl)
   rw [List.drop_drop] at d3
   simp only [List.drop_succ_cons,List.drop_zero] at d3
   refine Xc7 (B:=[.row (some ⟨g,0,none⟩) _ cj _ _ _]) (R:=[.box bd _]) mixed [0,1,2,8,9,10,11,3,4,5,6,7,12,13,14] [3,7,12] [15] none [] 1 (List.Perm.swap _ _ _) (by decide +kernel) rfl (fun i o h=>by cases h) (by decide) ?_
   (repeat' (first|(apply Xcx rfl rfl;(case h=>(intro H1;(try simp only [Xpy,Xpx]);(first|(apply Xab 0 rfl;(exact Xar _ rfl))|(apply Xab 4 rfl;(exact XaR _ rfl (by first|exact .inl ⟨_,rfl⟩|fail)))|(apply Xab 5 rfl;(exact Xag _ _ _ _ _ _ rfl rfl Xbb.out))|(apply Xab 6 rfl;(first|exact XaC _ _ _ _ _ rfl rfl XaT.out (by first|(simp [wlq];omega)|fail) (by first|(simp [wlq];omega)|fail)|exact Xbe _ _ _ _ _ _ _ _ _ _ _ _ rfl rfl XbA.out XaT.out (by first|(simp [wlq];omega)|fail) (by first|(simp [wlq];omega)|fail)))|(apply Xab 7 rfl;(exact XaD _ _ _ _ _ _ _ _ _ _ rfl rfl rfl HEl.out rfl (by first|omega|fail) (by simp;first|done|fail)))|(apply Xab 10 rfl;(exact XaZ _ _ _ _ _ rfl HPl.out (by first|rfl|fail) rfl))|(apply Xab 17 rfl;(exact XbD _ _ _ _ _ _ rfl Xa6.out rfl (by first|rfl|fail) rfl rfl (by decide))))));(case hT=>((try simp (disch:=assumption) only [wtn,d3,Xhg,Xpr,Xpo,Xpp,Xps,Xpw,Nat.reduceAdd,Nat.reduceMul,Nat.reduceSub,↓reduceIte,Nat.reduceEqDiff]);rfl)))|(apply Xc9 rfl rfl;(first|(refine Xap 11 rfl ?_;(refine Xax 13 Tryz.f13 [_] _ _ _ rfl rfl Tryz.func13 (by decide) rfl (Xpn _) (VwL.refl _ _) (XbQ _ l _ 3 hd (by assumption) (by omega) (by omega)) ?_;rintro _ _ ⟨x,kx,rfl,rfl,hx,hkx⟩))|(refine Xap 13 rfl ?_;(refine XaL _ _ _ _ _ _ _ _ _ _ _ _ _ _ rfl rfl XbA.out (Src.sq rfl) Xa6.out (by first|(simp;done)|fail) (Xdj _ _ (by omega) (by decide)) (fun ad cap=>?_)))|(refine Xap 17 rfl ?_;(refine XaF _ _ _ _ _ _ _ _ rfl Xa6.out (by first|rfl|fail) rfl (by decide) rfl (fun b=>?_))));refine ⟨_,rfl,?_⟩;apply Xc8;(case hT=>((try simp (disch:=omega) only [wtn,d3,Xhg,Xpr,Xpo,Xpp,Xps,Xpw,Nat.reduceAdd,Nat.reduceMul,Nat.reduceSub,↓reduceIte,Nat.reduceEqDiff]);rfl));(case hH=>((try simp (disch:=omega) only [wtn,d3,Xhg,Xpr,Xpo,Xpp,Xps,Xpw,Nat.reduceAdd,Nat.reduceMul,Nat.reduceSub,↓reduceIte,Nat.reduceEqDiff]);rfl)))|fail))
   (first|refine Xci ?_|fail);(apply Xao;(case hT=>((try simp only [wtn,Xpr,Xpo,Xpp,Xps,Xpw,Nat.reduceAdd,Nat.reduceMul,Nat.reduceSub,↓reduceIte,Nat.reduceEqDiff]);rfl));(case hH=>(simp only [Xpy,Xpx];rfl)));(refine Xbw 15 (by decide +kernel) rfl rfl ?_;(first|((refine Xap 16 rfl ?_;(refine XaX _ _ _ _ _ _ _ _ _ _ _ rfl rfl XbA.out XaS.out (by first|rfl|fail) (by first|(simp [wlq];omega)|fail) ?_));apply Xao;(case hT=>((try simp only [wtn,Xpr,Xpo,Xpp,Xps,Xpw,Nat.reduceAdd,Nat.reduceMul,Nat.reduceSub,↓reduceIte,Nat.reduceEqDiff]);rfl));(case hH=>((try simp only [wtn,Xpr,Xpo,Xpp,Xps,Xpw,Nat.reduceAdd,Nat.reduceMul,Nat.reduceSub,↓reduceIte,Nat.reduceEqDiff]);rfl)))|fail));refine XaV (by decide +kernel) ?_
   (repeat (first|refine Xah ?_|refine Xaa ?_|fail))
   have f3:=Xo6 (l:=ys) (i:=v) (j:=ys[v]) ([(lzS.getD x 0,0)]++ys[v].ladder) hvl
   rw [hsv'.out] at f3
   have e3:1+ys[v].ladder.length=([(lzS.getD x 0,0)]++ys[v].ladder).length:=by simp [Nat.add_comm]
   refine Xhy (H':=[.row (some ⟨g,0,none⟩) js.length cj 34 15 (spl (jfa ys) (v*15+12) [.sq (1+ys[v].ladder.length) (ra ([(lzS.getD x 0,0)]++ys[v].ladder))]),.box bd [.sq l.length (ia l),.x (.int .i64 kx)]]) (XaK.mk' [.row ad _ _ _ _ _] [.row (some ⟨g,0,none⟩) _ cj _ _ _,.box bd _] (by (repeat' (first|exact Xpn _|refine (XpA (l₁:=[_])).trans (XpD _ ?_)|fail))) (XaI.cons (VwH.row _ _ _ _ _ (VwL.spl1 _ _ (Vw.row (List.Mem.head _) (VwL.refl _ _)))) (XaI.refl _ _)) (VwL.refl _ _)) ?_
   rw [e3,f3]
   (repeat' (first|with_reducible (first|refine Xac ?_|refine Xaf ?_|refine Xaa ?_|refine Xah ?_)|((apply Xad rfl);(case h=>((try (intro (hp:(_:Bool)=true);((try simp only [Bool.and_eq_true,Bool.not_eq_true',Bool.not_eq_true] at hp);(try simp only [hp,wte]);(try simp only [whn] at hp))));(first|(apply Xab 0 rfl;(first|exact Xar _ rfl|exact Xav _ rfl))|(apply Xab 4 rfl;(exact XaR _ rfl (by first|exact .inl ⟨_,rfl⟩|fail)))|(apply Xab 5 rfl;(exact Xag _ _ _ _ _ _ rfl rfl Xbb.out))|(apply XaJ;(case hs=>(intro _ _ h;cases h));(case hx=>rfl);(case hrun=>(intro w;simp [wtb,AV.val,go_sem];(try go_bits);rfl))))));(case hT=>((try simp (disch:=omega) only [wtn,f13,f14,Xpr,Xpo,Xpp,Xps,Xpw,Nat.reduceAdd,Nat.reduceMul,Nat.reduceSub,↓reduceIte,Nat.reduceEqDiff]);rfl)))|(refine Xak rfl ?_;((first|(refine Xap 11 rfl ?_;(first|(refine Xax 13 Tryz.f13 [_] _ _ _ rfl rfl Tryz.func13 (by decide) rfl (Xpn _) (VwL.refl _ _) (XbQ _ l _ 5 hd (by assumption) (by omega) (by omega)) ?_;rintro _ _ ⟨x,kx,rfl,rfl,hx,hkx⟩)|(refine Xax 13 Tryz.f13 [_] _ _ _ rfl rfl Tryz.func13 (by decide) rfl (XpA (l₁:=[_])) (VwL.refl _ _) (XbQ _ l _ 5 hd (by assumption) (by omega) (by omega)) ?_;rintro _ _ ⟨x,kx,rfl,rfl,hx,hkx⟩)))|(refine Xap 16 rfl ?_;(refine XaX _ _ _ _ _ _ _ _ _ _ _ rfl rfl XbA.out XaS.out (by first|rfl|fail) (by first|(simp [wlq];omega)|fail) ?_)));apply Xai;(case hT=>((try simp (disch:=omega) only [wtn,f13,f14,Xpr,Xpo,Xpp,Xps,Xpw,Nat.reduceAdd,Nat.reduceMul,Nat.reduceSub,↓reduceIte,Nat.reduceEqDiff]);rfl));(case hH=>((try simp (disch:=omega) only [wtn,f13,f14,Xpr,Xpo,Xpp,Xps,Xpw,Nat.reduceAdd,Nat.reduceMul,Nat.reduceSub,↓reduceIte,Nat.reduceEqDiff]);rfl))))|fail))
   apply ex3 (c - 1)
   refine ⟨?e1,⟨?e2,?e3,?e4,?e5⟩,?e6⟩
   case e6=>exact XaK.mk' [] [.row (some ⟨g,0,none⟩) _ cj _ _ _,.box bd _] (by (repeat' (first|exact Xpn _|refine (XpA (l₁:=[_])).trans (XpD _ ?_)|fail))) (XaI.refl _ _) (by (repeat' (first|exact VwL.nil|(refine VwL.cons ?_ ?_)|exact Vw.refl _|exact Vw.top _|(refine Vw.eq ?_;(congr 3;omega))|fail)))
   case e1=>simp only;omega
   case e2=>simp only;omega
   case e3=>simp only;assumption
   case e4=>simp only [List.length_set];exact g3
   case e5=>exact XhO g4'.out ⟨hjv.1,by have h5:=hjv.2.1;simp only;omega,by have h5:=hjv.2.2.1;simp only [Xpz,Xpq,Xpt];omega,hjv.2.2.2⟩
 ·(repeat' (first|with_reducible (first|refine Xaj ?_|refine Xac ?_|refine Xaw ?_|refine Xa4 ?_|refine Xaf ?_|refine Xaa ?_|refine XaO ?_|refine XaH ?_)|(refine Xal _ rfl (fun h=>?_) (fun h=>?_)<;>((try (simp only [whn] at h));first|(exfalso;omega;done)|skip))|((apply Xad rfl);(case h=>((try (intro (hp:(_:Bool)=true);((try simp only [Bool.and_eq_true,Bool.not_eq_true',Bool.not_eq_true] at hp);(try simp only [hp,wte]);(try simp only [whn] at hp))));(first|(apply Xab 0 rfl;(first|exact Xar _ rfl|exact Xav _ rfl))|(apply XaJ;(case hs=>(intro _ _ h;cases h));(case hx=>rfl);(case hrun=>(intro w;simp [wtb,AV.val,go_sem];(try go_bits);rfl))))));(case hT=>((try simp only [wtn,Xpr,Xpo,Xpp,Xps,Xpw,Nat.reduceAdd,Nat.reduceMul,Nat.reduceSub,↓reduceIte,Nat.reduceEqDiff]);rfl)))|fail))
  obtain rfl:c=0:=by omega
  refine Xan _ _ (Xb2 rfl (RV.tmp _) (XaK.mk' [] [.row (some ⟨g,0,none⟩) _ cj _ _ _,.box bd _] (by (repeat' (first|exact Xpn _|fail))) (XaI.refl _ _) (VwL.refl _ _))) ⟨ys,k3,g,cj,by rw [g3];rfl,by rw [g3],g2,by omega,by omega,g4'.out⟩
open Go.RowKit
end Go.Proofs.YtcmfamgnmehojaaGreatDoor

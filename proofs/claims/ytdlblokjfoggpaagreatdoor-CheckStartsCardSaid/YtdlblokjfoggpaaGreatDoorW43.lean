import Derived.Test.YtdlblokjfoggpaaGreatDoorW42
import Derived.Test.YtdlblokjfoggpaaGreatDoorW7
import Derived.Test.YtdlblokjfoggpaaGreatDoorW41
/- mill.Loose: made jobs, some with faults; only how long their lists are. (Under way.) -/
set_option linter.unusedSimpArgs false
set_option linter.unusedVariables false
--%old
set_option maxRecDepth 100000
set_option maxHeartbeats 8000000
namespace Go.Proofs.YtdlblokjfoggpaaGreatDoor
open Go.RowKit
theorem Xr5:∀(l:List JF) (i k:Nat) (c:AV) (_:i < l.length) (_:k < 15) (j':JF),j'.cells=(l.getD i j').cells.set k c→spl (jfa l) (i*15+k) [c]=jfa (l.set i j'):=by
 intro l i k c h hk j' hj
 unfold spl
 have hs:=List.set_eq_take_append_cons_drop (l:=jfa l) (i:=i*15+k) (a:=c)
 rw [if_pos (by rw [Xrb];omega)] at hs
 rw [List.length_singleton,List.append_assoc,List.singleton_append,←hs]
 clear hs
 have hcl:∀j:JF,j.cells.length=15:=fun j=>rfl
 induction l generalizing i with
 | nil=>simp at h
 | cons j l ih=>
   have e0:jfa (j :: l)=j.cells++jfa l:=rfl
   cases i with
   | zero=>
     have e1:jfa ((j :: l).set 0 j')=j'.cells++jfa l:=rfl
     rw [e0,e1,hj,List.set_append_left _ _ (by rw [hcl];omega),Nat.zero_mul,Nat.zero_add]
     rfl
   | succ i=>
     have e1:jfa ((j :: l).set (i+1) j')=j.cells++jfa (l.set i j'):=rfl
     rw [e0,e1,List.set_append_right _ _ (by rw [hcl];omega),hcl,show (i+1)*15+k - 15=i*15+k by omega,ih i (by simpa using h) (by simpa using hj)]
section
variable {l:List JF} {i:Nat} {j:JF}
theorem XdN {k:Nat} {c:AV} (h:i < l.length) (hk:k < 15) (j':JF) (hj:j'.cells=j.cells.set k c):spl (jfa (l.set i j)) (i*15+k) [c]=jfa (l.set i j'):=by
 rw [Xr5 (l.set i j) i k c (by rw [List.length_set];exact h) hk j' (by rw [hj,List.getD_eq_getElem?_getD,List.getElem?_set_self h];rfl),List.set_set]
theorem sj0 (s:List UInt8) (h:i < l.length):spl (jfa (l.set i j)) (i*15) [.x (.string (bs s))]=jfa (l.set i { j with name:=s }):=XdN (k:=0) h (by decide) _ rfl
theorem sj4 (b:Bool) (h:i < l.length):spl (jfa (l.set i j)) (i*15+4) [.x (.bool b)]=jfa (l.set i { j with hasr:=b }):=XdN h (by decide) _ rfl
theorem sj5 (s:List UInt8) (h:i < l.length):spl (jfa (l.set i j)) (i*15+5) [.x (.string (bs s))]=jfa (l.set i { j with ready:=s }):=XdN h (by decide) _ rfl
theorem sj6 (v:Int) (h:i < l.length):spl (jfa (l.set i j)) (i*15+6) [.x (.int .i64 v)]=jfa (l.set i { j with restart:=v }):=XdN h (by decide) _ rfl
theorem sj8 (v:Int) (h:i < l.length):spl (jfa (l.set i j)) (i*15+8) [.x (.int .u64 v)]=jfa (l.set i { j with cap:=v }):=XdN h (by decide) _ rfl
theorem Xvl (v:Int) (h:i < l.length):spl (jfa (l.set i j)) (i*15+10) [.x (.int .i64 v)]=jfa (l.set i { j with burst:=v }):=XdN h (by decide) _ rfl
theorem Xvm (v:Int) (h:i < l.length):spl (jfa (l.set i j)) (i*15+11) [.x (.int .u64 v)]=jfa (l.set i { j with window:=v }):=XdN h (by decide) _ rfl
theorem Xvo (v:Int) (h:i < l.length):spl (jfa (l.set i j)) (i*15+13) [.x (.int .i64 v)]=jfa (l.set i { j with line:=v }):=XdN h (by decide) _ rfl
theorem Xvp (v:Int) (h:i < l.length):spl (jfa (l.set i j)) (i*15+14) [.x (.int .i64 v)]=jfa (l.set i { j with col:=v }):=XdN h (by decide) _ rfl
theorem sj3 (s:List (List UInt8)) (h:i < l.length):spl (jfa (l.set i j)) (i*15+3) [.sq s.length (sa s)]=jfa (l.set i { j with needs:=s }):=XdN h (by decide) _ rfl
theorem Xvn (s:List (Int × Int)) (h:i < l.length):spl (jfa (l.set i j)) (i*15+12) [.sq s.length (ra s)]=jfa (l.set i { j with ladder:=s }):=XdN h (by decide) _ rfl
end
def lzP:List (List UInt8):=[[40],[42],[91,97],[97,94,98],[91,94,120,45,120,93],[92,113],[36,97]]
theorem Xjg {v:Nat} (h:v < 7):(List.drop v [.x (.string ⟨#[40]⟩),.x (.string ⟨#[42]⟩),.x (.string ⟨#[91,97]⟩),.x (.string ⟨#[97,94,98]⟩),.x (.string ⟨#[91,94,120,45,120,93]⟩),.x (.string ⟨#[92,113]⟩),.x (.string ⟨#[36,97]⟩)]).getD 0 AV.top=.x (.string (bs (lzP.getD v []))):=Xgf lzP v h
def lzS:List Int:=[0,9,7]
theorem Xjf {v:Nat} (h:v < 3):(List.drop v [.x (.int .i64 0),.x (.int .i64 9),.x (.int .i64 7)]).getD 0 AV.top=.x (.int .i64 (lzS.getD v 0)):=by
 match v,h with
 | 0,_|1,_|2,_=>rfl
theorem ex3 {α β γ:Type} {P:α × β × γ→Prop} (a:α) (b:β) (d:γ) (h:P (a,b,d)):∃s,P s:=⟨_,h⟩
def LS (n:Nat) (j:JF):Prop:=j.env.length≤20∧j.needs.length+n≤20∧j.ladder.length+n≤20∧j.ready.length≤20
theorem Xj6 {ys:List JF} {v c:Nat} {j':JF} (h:∀j∈ys,LS c j) (hj:LS (c - 1) j'):∀j∈ys.set v j',LS (c - 1) j:=fun j hm=>by
 rcases List.mem_or_eq_of_mem_set hm with hm|rfl
 ·obtain ⟨h1,h2,h3,h4⟩:=h j hm
  exact ⟨h1,by omega,by omega,h4⟩
 ·exact hj
theorem Xm0 {c:Nat} {j j':JF} (h:LS c j) (e1:j'.env=j.env) (e2:j'.needs=j.needs) (e3:j'.ladder=j.ladder) (e4:j'.ready=j.ready∨∃x,x < 7∧j'.ready=lzP.getD x []):LS (c - 1) j':=by
 obtain ⟨h1,h2,h3,h4⟩:=h
 have h5:j'.ready.length≤20:=by
  rcases e4 with e|⟨x,hx,e⟩
  ·rw [e];exact h4
  ·rw [e];exact Xsx lzP (fun s=>s.length≤20) (by decide) x hx
 unfold LS
 rw [e1,e2,e3]
 exact ⟨h1,by omega,by omega,h5⟩
theorem VwL.apl {D:List Hp}:∀{a a' b b':List AV},VwL D a a'→VwL D b b'→VwL D (a++b) (a'++b')
 | _,_,_,_,.nil,h=>h
 | _,_,_,_,.cons x y,h=>.cons x (VwL.apl y h)
theorem VwL.spl1 {D:List Hp} (a:List AV) (off:Nat) {c c':AV} (h:Vw D c c'):VwL D (spl a off [c]) (spl a off [c']):=
 VwL.apl (VwL.apl (VwL.refl _ _) (VwL.cons h VwL.nil)) (VwL.refl _ _)
theorem Xi6 (bd:Nat) (l:List Int) (k:Nat) (hd:DK l) (hk:k≤l.length):XaM Tryz.prog 11 [.box bd [.sq l.length (ia l),.x (.int .i64 k)]] [.x (.pointer (some ⟨bd,0,none⟩))] (fun r H'=>∃(js:List JF) (k' g:Nat) (cap:Nat),r=.x (.slice (some ⟨g,0,none⟩) js.length cap)∧H'=[.row (some ⟨g,0,none⟩) js.length cap 29 15 (jfa js),.box bd [.sq l.length (ia l),.x (.int .i64 k')]]∧k'≤l.length∧1≤js.length∧js.length≤4∧∀j∈js,LS 0 j):=by
 refine Xco Tryz.func11 rfl ?_
 simp only [Tryz.ntmps11,Xvw,Xvz,XvA,XvB,XvE,XvD,Nat.reduceAdd,Nat.reduceSub]
 (repeat' (first|with_reducible (first|refine XaK ?_|refine Xah ?_|refine Xbg ?_|refine Xay ?_|refine Xac ?_)|((apply Xao rfl);(case h=>((try (intro (hp:(_:Bool)=true);((try simp only [Bool.and_eq_true,Bool.not_eq_true',Bool.not_eq_true] at hp);(try simp only [hp,wte]);(try simp only [whn] at hp))));(apply Xad 0 rfl;(first|exact XaS _ rfl|exact Xa8 _ rfl))));(case hT=>((try simp only [wtn,Xvx,Xvu,Xvv,Xvy,XvC,Nat.reduceAdd,Nat.reduceMul,Nat.reduceSub,↓reduceIte,Nat.reduceEqDiff]);rfl)))|(refine Xaa rfl ?_;((refine XaQ 11 rfl ?_;(first|(refine Xaj 33 Tryz.f33 [_] _ _ _ rfl rfl Tryz.func33 (by decide) rfl (Xvt _) (VwL.refl _ _) (Xtg _ l k hd hk) ?_;rintro _ _ ⟨js,k1,aj,cj,rfl,rfl,hk1,hj1,hj4,hjm⟩)|(refine Xaj 34 Tryz.f34 [_] _ _ _ rfl rfl Tryz.func34 (by decide) rfl (XvG (l₁:=[_])) (VwL.refl _ _) (Xbh _ l k1 3 hd hk1 (by omega) (by omega)) ?_;rintro _ _ ⟨v1,k2,rfl,rfl,hv1,hk2⟩)));apply Xam;(case hT=>((try simp only [wtn,Xvx,Xvu,Xvv,Xvy,XvC,Nat.reduceAdd,Nat.reduceMul,Nat.reduceSub,↓reduceIte,Nat.reduceEqDiff]);rfl));(case hH=>((try simp only [wtn,Xvx,Xvu,Xvv,Xvy,XvC,Nat.reduceAdd,Nat.reduceMul,Nat.reduceSub,↓reduceIte,Nat.reduceEqDiff]);rfl))))|fail))
 refine XdG 1 rfl fun hr1 hr2 hr3=>?_
 rcases hr3 with ⟨-,h0,-⟩|⟨g,rfl⟩
 ·omega
 clear hr1 hr2
 have hls:∀j∈js,LS v1 j:=fun j hj=>by
  obtain ⟨i,-,hm⟩:=hjm j hj
  have hs:=hm.small
  have e1:=hs.env
  have e2:=hs.needs
  have e3:=hs.ladder
  have e4:=hs.ready
  exact ⟨by omega,by omega,by omega,by omega⟩
 clear hjm
 apply XaA (S:=Nat × Nat × List JF) (fun q=>frm 114 [(0,.x (.pointer (some ⟨bd,0,none⟩))),(3,.x (.slice (some ⟨g,0,none⟩) js.length cj)),(4,.x (.int .i64 q.1))]) (fun q=>[.row (some ⟨g,0,none⟩) js.length cj 29 15 (jfa q.2.2),.box bd [.sq l.length (ia l),.x (.int .i64 q.2.1)]]) (fun q=>q.1≤2∧q.2.1≤l.length∧q.2.2.length=js.length∧∀j∈q.2.2,LS q.1 j) (fun q=>q.1) (v1,k2,js)
 case h0=>exact Xaq.mk' [] [.row _ _ _ _ _ _,.box _ _] (by (repeat' (first|exact Xvt _|refine (XvG (l₁:=[_])).trans (XvJ _ ?_)|fail))) (Xap.refl _ _) (by (repeat' (first|exact VwL.nil|(refine VwL.cons ?_ ?_)|exact Vw.refl _|exact Vw.top _|fail)))
 case hi=>exact ⟨by simp only;omega,hk2,rfl,hls⟩
 rintro ⟨c,k3,ys⟩ ⟨g1,g2,g3,g4⟩
 simp only at g1 g2 g3 g4
 have g4':=Lib.hid g4
 clear g4 hls
 simp only [frm,XvA,XvB,Xvu,Xvv,XvH,XvI]
 by_cases hc:0 < c
 ·(repeat' (first|with_reducible (first|refine XaK ?_|refine Xah ?_|refine Xbg ?_|refine Xa9 ?_|refine Xay ?_|refine Xac ?_)|(refine XaX _ rfl (fun h=>?_) (fun h=>?_)<;>((try (simp only [whn] at h));first|(exfalso;omega;done)|skip))|((apply Xao rfl);(case h=>((try (intro (hp:(_:Bool)=true);((try simp only [Bool.and_eq_true,Bool.not_eq_true',Bool.not_eq_true] at hp);(try simp only [hp,wte]);(try simp only [whn] at hp))));(first|(apply Xad 0 rfl;(first|exact XaS _ rfl|exact Xa8 _ rfl))|(apply Xad 7 rfl;(exact Xbo _ _ _ _ _ _ _ _ _ _ _ _ rfl rfl rfl HEl.out rfl (by first|omega|fail)))|(apply XbB;(case hs=>(intro _ _ h;cases h));(case hx=>rfl);(case hrun=>(intro w;simp [wtb,AV.val,go_sem];(try go_bits);rfl))))));(case hT=>((try simp only [wtn,Xvx,Xvu,Xvv,Xvy,XvC,Nat.reduceAdd,Nat.reduceMul,Nat.reduceSub,↓reduceIte,Nat.reduceEqDiff]);rfl)))|(refine Xaa rfl ?_;((refine XaQ 11 rfl ?_;(refine Xaj 34 Tryz.f34 [_] _ _ _ rfl rfl Tryz.func34 (by decide) rfl (XvG (l₁:=[_])) (VwL.refl _ _) (Xbh _ l k3 js.length hd g2 hj1 (by omega)) ?_;rintro _ _ ⟨v,k4,rfl,rfl,hv,hk4⟩));apply Xam;(case hT=>((try simp only [wtn,Xvx,Xvu,Xvv,Xvy,XvC,Nat.reduceAdd,Nat.reduceMul,Nat.reduceSub,↓reduceIte,Nat.reduceEqDiff]);rfl));(case hH=>((try simp only [wtn,Xvx,Xvu,Xvv,Xvy,XvC,Nat.reduceAdd,Nat.reduceMul,Nat.reduceSub,↓reduceIte,Nat.reduceEqDiff]);rfl))))|fail))
  have hvl:v < ys.length:=by omega
  have hsv:ys.set v ys[v]=ys:=List.set_getElem_self hvl
  have hjv:=g4'.out _ (List.getElem_mem hvl)
  have hnl:ys[v].needs.length≤20:=by have:=hjv.2.1;omega
  have hll:ys[v].ladder.length≤20:=by have:=hjv.2.2.1;omega
  have f0:=fun s=>sj0 (l:=ys) (i:=v) (j:=ys[v]) s hvl
  have f4:=fun b=>sj4 (l:=ys) (i:=v) (j:=ys[v]) b hvl
  have f6:=fun z=>sj6 (l:=ys) (i:=v) (j:=ys[v]) z hvl
  have f8:=fun z=>sj8 (l:=ys) (i:=v) (j:=ys[v]) z hvl
  have f10:=fun z=>Xvl (l:=ys) (i:=v) (j:=ys[v]) z hvl
  have f11:=fun z=>Xvm (l:=ys) (i:=v) (j:=ys[v]) z hvl
  have f5:=fun j s=>sj5 (l:=ys) (i:=v) (j:=j) s hvl
  have f13:=fun j z=>Xvo (l:=ys) (i:=v) (j:=j) z hvl
  have f14:=fun j z=>Xvp (l:=ys) (i:=v) (j:=j) z hvl
  rw [hsv] at f0 f4 f6 f8 f10 f11
  have f0':=Lib.hid f0
  have hsv':=Lib.hid hsv
  clear hsv f0
  (repeat' (first|with_reducible (first|refine XaK ?_|refine Xah ?_|refine Xbg ?_|refine Xay ?_|refine Xac ?_|refine Xaz ?_)|(refine XaX _ rfl (fun h=>?_) (fun h=>?_)<;>((try (simp only [whn] at h));first|(exfalso;omega;done)|skip))|((apply Xao rfl);(case h=>((try (intro (hp:(_:Bool)=true);((try simp only [Bool.and_eq_true,Bool.not_eq_true',Bool.not_eq_true] at hp);(try simp only [hp,wte]);(try simp only [whn] at hp))));(first|(apply Xad 0 rfl;(first|exact XaS _ rfl|exact Xa8 _ rfl))|(apply Xad 4 rfl;(exact Xa3 _ rfl (by first|exact .inl ⟨_,rfl⟩|fail)))|(apply Xad 5 rfl;(exact Xal _ _ _ _ _ _ rfl rfl Xa1.out))|(apply Xad 6 rfl;(exact XaW _ _ _ _ _ rfl rfl XaR.out (by first|(simp [wlq];omega)|fail) (by first|(simp [wlq];omega)|fail)))|(apply Xad 7 rfl;(exact Xa2 _ _ _ _ _ _ _ _ _ _ rfl rfl rfl HEl.out rfl (by first|omega|fail) (by simp;first|done|fail)))|(apply Xad 17 rfl;(exact XcT _ _ _ _ _ _ rfl XbJ.out rfl (by first|rfl|fail) rfl rfl (by decide)))|(apply XbB;(case hs=>(intro _ _ h;cases h));(case hx=>rfl);(case hrun=>(intro w;simp [wtb,AV.val,go_sem];(try go_bits);rfl))))));(case hT=>((try simp (disch:=assumption) only [wtn,f0'.out,f4,f5,f6,f8,f10,f11,f13,f14,Xjg,Xvx,Xvu,Xvv,Xvy,XvC,Nat.reduceAdd,Nat.reduceMul,Nat.reduceSub,↓reduceIte,Nat.reduceEqDiff]);rfl)))|(refine Xaa rfl ?_;((first|(refine XaQ 11 rfl ?_;(first|(refine Xaj 34 Tryz.f34 [_] _ _ _ rfl rfl Tryz.func34 (by decide) rfl (Xvt _) (VwL.refl _ _) (Xbh _ l _ 8 hd (by assumption) (by omega) (by omega)) ?_;rintro _ _ ⟨x,kx,rfl,rfl,hx,hkx⟩)|(refine Xaj 34 Tryz.f34 [_] _ _ _ rfl rfl Tryz.func34 (by decide) rfl (Xvt _) (VwL.refl _ _) (Xbh _ l _ 7 hd (by assumption) (by omega) (by omega)) ?_;rintro _ _ ⟨x,kx,rfl,rfl,hx,hkx⟩)|(refine Xaj 34 Tryz.f34 [_] _ _ _ rfl rfl Tryz.func34 (by decide) rfl (Xvt _) (VwL.refl _ _) (Xbh _ l _ 4 hd (by assumption) (by omega) (by omega)) ?_;rintro _ _ ⟨x,kx,rfl,rfl,hx,hkx⟩)|(refine Xaj 34 Tryz.f34 [_] _ _ _ rfl rfl Tryz.func34 (by decide) rfl (Xvt _) (VwL.refl _ _) (Xbh _ l _ 30 hd (by assumption) (by omega) (by omega)) ?_;rintro _ _ ⟨x,kx,rfl,rfl,hx,hkx⟩)|(refine Xaj 34 Tryz.f34 [_] _ _ _ rfl rfl Tryz.func34 (by decide) rfl (Xvt _) (VwL.refl _ _) (Xbh _ l _ 2 hd (by assumption) (by omega) (by omega)) ?_;rintro _ _ ⟨x,kx,rfl,rfl,hx,hkx⟩)|(refine Xaj 34 Tryz.f34 [_] _ _ _ rfl rfl Tryz.func34 (by decide) rfl (Xvt _) (VwL.refl _ _) (Xbh _ l _ 5 hd (by assumption) (by omega) (by omega)) ?_;rintro _ _ ⟨x,kx,rfl,rfl,hx,hkx⟩)|(refine Xaj 35 Tryz.f35 [_] _ _ _ rfl rfl Tryz.func35 (by decide) rfl (Xvt _) (VwL.refl _ _) (Xp8 _ l _ hd (by assumption)) ?_;rintro _ _ ⟨s,kx,rfl,rfl,hx,hkx⟩)))|(refine XaQ 16 rfl ?_;(refine Xb6 _ _ _ _ _ _ _ _ _ _ _ rfl rfl Xdp.out Xa6.out (by first|rfl|fail) (by first|(simp [wlq];omega)|fail) ?_)));apply Xam;(case hT=>((try simp (disch:=omega) only [wtn,f0'.out,f4,f5,f6,f8,f10,f11,f13,f14,Xjg,Xvx,Xvu,Xvv,Xvy,XvC,Nat.reduceAdd,Nat.reduceMul,Nat.reduceSub,↓reduceIte,Nat.reduceEqDiff]);rfl));(case hH=>((try simp (disch:=omega) only [wtn,f0'.out,f4,f5,f6,f8,f10,f11,f13,f14,Xjg,Xvx,Xvu,Xvv,Xvy,XvC,Nat.reduceAdd,Nat.reduceMul,Nat.reduceSub,↓reduceIte,Nat.reduceEqDiff]);rfl))))|fail))
  all_goals try
   apply ex3 (c - 1)
   refine ⟨?e1,⟨?e2,?e3,?e4,?e5⟩,?e6⟩
   case e6=>exact Xaq.mk' [] [.row (some ⟨g,0,none⟩) _ cj _ _ _,.box bd _] (by (repeat' (first|exact Xvt _|refine (XvG (l₁:=[_])).trans (XvJ _ ?_)|fail))) (Xap.refl _ _) (by (repeat' (first|exact VwL.nil|(refine VwL.cons ?_ ?_)|exact Vw.refl _|exact Vw.top _|(refine Vw.eq ?_;(congr 3;omega))|fail)))
   case e1=>simp only;omega
   case e2=>simp only;omega
   case e3=>simp only;assumption
   case e4=>simp only [List.length_set];exact g3
   case e5=>first|exact Xj6 g4'.out (Xm0 hjv rfl rfl rfl (.inl rfl))|exact Xj6 g4'.out (Xm0 hjv rfl rfl rfl (.inr ⟨_,by assumption,rfl⟩))|fail
  ·have d3:=congrArg (List.drop 3) (XhZ ys v hvl)
   rw [List.drop_drop] at d3
   simp only [List.drop_succ_cons,List.drop_zero] at d3
   refine Xcx (B:=[.row (some ⟨g,0,none⟩) _ cj _ _ _]) (R:=[.box bd _]) mixed [0,1,4,5,6,7,2,3,8,9,10] [2,3,8] [11] none [] 1 (List.Perm.swap _ _ _) (by decide +kernel) rfl (fun i o h=>by cases h) (by decide) ?_
   (repeat' (first|(apply XdU rfl rfl;(case h=>(intro H1;(try simp only [XvE,XvD]);(first|(apply Xad 0 rfl;(exact XaS _ rfl))|(apply Xad 4 rfl;(exact Xa3 _ rfl (by first|exact .inl ⟨_,rfl⟩|fail)))|(apply Xad 5 rfl;(exact Xal _ _ _ _ _ _ rfl rfl Xa1.out))|(apply Xad 6 rfl;(exact Xbp _ _ _ _ _ _ _ _ _ _ _ _ rfl rfl Xdp.out XaR.out (by first|(simp [wlq];omega)|fail) (by first|(simp [wlq];omega)|fail))))));(case hT=>((try simp (disch:=omega) only [wtn,d3,Xvx,Xvu,Xvv,Xvy,XvC,Nat.reduceAdd,Nat.reduceMul,Nat.reduceSub,↓reduceIte,Nat.reduceEqDiff]);rfl)))|(apply XfU rfl rfl;(first|(refine XaQ 11 rfl ?_;(refine Xaj 35 Tryz.f35 [_] _ _ _ rfl rfl Tryz.func35 (by decide) rfl (Xvt _) (VwL.refl _ _) (Xp8 _ l _ hd (by assumption)) ?_;rintro _ _ ⟨s,kx,rfl,rfl,hx,hkx⟩))|(refine XaQ 13 rfl ?_;(refine XbN _ _ _ _ _ _ _ _ _ _ _ _ _ _ rfl rfl Xdp.out (Src.sq rfl) XbJ.out (by first|(simp;done)|fail) (Xmv _ _ (by omega) (by decide)) (fun ad cap=>?_)))|(refine XaQ 17 rfl ?_;(refine Xbe _ _ _ _ _ _ _ _ rfl XbJ.out (by first|rfl|fail) rfl (by decide) rfl (fun b=>?_))));refine ⟨_,rfl,?_⟩;apply XiO;(case hT=>((try simp (disch:=omega) only [wtn,d3,Xvx,Xvu,Xvv,Xvy,XvC,Nat.reduceAdd,Nat.reduceMul,Nat.reduceSub,↓reduceIte,Nat.reduceEqDiff]);rfl));(case hH=>((try simp (disch:=omega) only [wtn,d3,Xvx,Xvu,Xvv,Xvy,XvC,Nat.reduceAdd,Nat.reduceMul,Nat.reduceSub,↓reduceIte,Nat.reduceEqDiff]);rfl)))|fail))
   (first|refine Xea ?_|fail);(apply Xag;(case hT=>((try simp only [wtn,Xvx,Xvu,Xvv,Xvy,XvC,Nat.reduceAdd,Nat.reduceMul,Nat.reduceSub,↓reduceIte,Nat.reduceEqDiff]);rfl));(case hH=>(simp only [XvE,XvD];rfl)));(refine XbR 11 (by decide +kernel) rfl rfl ?_;(first|((refine XaQ 16 rfl ?_;(refine Xb6 _ _ _ _ _ _ _ _ _ _ _ rfl rfl Xdp.out Xa6.out (by first|rfl|fail) (by first|(simp [wlq];omega)|fail) ?_));apply Xag;(case hT=>((try simp only [wtn,Xvx,Xvu,Xvv,Xvy,XvC,Nat.reduceAdd,Nat.reduceMul,Nat.reduceSub,↓reduceIte,Nat.reduceEqDiff]);rfl));(case hH=>((try simp only [wtn,Xvx,Xvu,Xvv,Xvy,XvC,Nat.reduceAdd,Nat.reduceMul,Nat.reduceSub,↓reduceIte,Nat.reduceEqDiff]);rfl)))|fail));refine Xar (by decide +kernel) ?_
   (repeat (first|refine Xaz ?_|refine Xac ?_|fail))
   have f3:=sj3 (l:=ys) (i:=v) (j:=ys[v]) ([s]++ys[v].needs) hvl
   rw [hsv'.out] at f3
   have e3:1+ys[v].needs.length=([s]++ys[v].needs).length:=by simp [Nat.add_comm]
   refine XgV (H':=[.row (some ⟨g,0,none⟩) js.length cj 29 15 (spl (jfa ys) (v*15+3) [.sq (1+ys[v].needs.length) (sa ([s]++ys[v].needs))]),.box bd [.sq l.length (ia l),.x (.int .i64 kx)]]) (Xaq.mk' [.row ad _ _ _ _ _] [.row (some ⟨g,0,none⟩) _ cj _ _ _,.box bd _] (by (repeat' (first|exact Xvt _|refine (XvG (l₁:=[_])).trans (XvJ _ ?_)|fail))) (Xap.cons (VwH.row _ _ _ _ _ (VwL.spl1 _ _ (Vw.row (List.Mem.head _) (VwL.refl _ _)))) (Xap.refl _ _)) (VwL.refl _ _)) ?_
   rw [e3,f3]
   (repeat' (first|with_reducible (first|refine Xah ?_|refine Xay ?_|refine Xac ?_|refine Xaz ?_)|((apply Xao rfl);(case h=>((try (intro (hp:(_:Bool)=true);((try simp only [Bool.and_eq_true,Bool.not_eq_true',Bool.not_eq_true] at hp);(try simp only [hp,wte]);(try simp only [whn] at hp))));(first|(apply Xad 0 rfl;(first|exact XaS _ rfl|exact Xa8 _ rfl))|(apply Xad 4 rfl;(exact Xa3 _ rfl (by first|exact .inl ⟨_,rfl⟩|fail)))|(apply Xad 5 rfl;(exact Xal _ _ _ _ _ _ rfl rfl Xa1.out))|(apply XbB;(case hs=>(intro _ _ h;cases h));(case hx=>rfl);(case hrun=>(intro w;simp [wtb,AV.val,go_sem];(try go_bits);rfl))))));(case hT=>((try simp (disch:=omega) only [wtn,f13,f14,Xvx,Xvu,Xvv,Xvy,XvC,Nat.reduceAdd,Nat.reduceMul,Nat.reduceSub,↓reduceIte,Nat.reduceEqDiff]);rfl)))|(refine Xaa rfl ?_;((first|(refine XaQ 11 rfl ?_;(first|(refine Xaj 34 Tryz.f34 [_] _ _ _ rfl rfl Tryz.func34 (by decide) rfl (Xvt _) (VwL.refl _ _) (Xbh _ l _ 5 hd (by assumption) (by omega) (by omega)) ?_;rintro _ _ ⟨x,kx,rfl,rfl,hx,hkx⟩)|(refine Xaj 34 Tryz.f34 [_] _ _ _ rfl rfl Tryz.func34 (by decide) rfl (XvG (l₁:=[_])) (VwL.refl _ _) (Xbh _ l _ 5 hd (by assumption) (by omega) (by omega)) ?_;rintro _ _ ⟨x,kx,rfl,rfl,hx,hkx⟩)))|(refine XaQ 16 rfl ?_;(refine Xb6 _ _ _ _ _ _ _ _ _ _ _ rfl rfl Xdp.out Xa6.out (by first|rfl|fail) (by first|(simp [wlq];omega)|fail) ?_)));apply Xam;(case hT=>((try simp (disch:=omega) only [wtn,f13,f14,Xvx,Xvu,Xvv,Xvy,XvC,Nat.reduceAdd,Nat.reduceMul,Nat.reduceSub,↓reduceIte,Nat.reduceEqDiff]);rfl));(case hH=>((try simp (disch:=omega) only [wtn,f13,f14,Xvx,Xvu,Xvv,Xvy,XvC,Nat.reduceAdd,Nat.reduceMul,Nat.reduceSub,↓reduceIte,Nat.reduceEqDiff]);rfl))))|fail))
   apply ex3 (c - 1)
   refine ⟨?e1,⟨?e2,?e3,?e4,?e5⟩,?e6⟩
   case e6=>exact Xaq.mk' [] [.row (some ⟨g,0,none⟩) _ cj _ _ _,.box bd _] (by (repeat' (first|exact Xvt _|refine (XvG (l₁:=[_])).trans (XvJ _ ?_)|fail))) (Xap.refl _ _) (by (repeat' (first|exact VwL.nil|(refine VwL.cons ?_ ?_)|exact Vw.refl _|exact Vw.top _|(refine Vw.eq ?_;(congr 3;omega))|fail)))
   case e1=>simp only;omega
   case e2=>simp only;omega
   case e3=>simp only;assumption
   case e4=>simp only [List.length_set];exact g3
   case e5=>exact Xj6 g4'.out ⟨hjv.1,by have h5:=hjv.2.1;simp only [XvF,Xvw,Xvz];omega,by have h5:=hjv.2.2.1;simp only;omega,hjv.2.2.2⟩
  ·have d3:=congrArg (List.drop 12) (XhZ ys v hvl)
   rw [List.drop_drop] at d3
   simp only [List.drop_succ_cons,List.drop_zero] at d3
   refine Xcx (B:=[.row (some ⟨g,0,none⟩) _ cj _ _ _]) (R:=[.box bd _]) mixed [0,1,2,8,9,10,11,3,4,5,6,7,12,13,14] [3,7,12] [15] none [] 1 (List.Perm.swap _ _ _) (by decide +kernel) rfl (fun i o h=>by cases h) (by decide) ?_
   (repeat' (first|(apply XdU rfl rfl;(case h=>(intro H1;(try simp only [XvE,XvD]);(first|(apply Xad 0 rfl;(exact XaS _ rfl))|(apply Xad 4 rfl;(exact Xa3 _ rfl (by first|exact .inl ⟨_,rfl⟩|fail)))|(apply Xad 5 rfl;(exact Xal _ _ _ _ _ _ rfl rfl Xa1.out))|(apply Xad 6 rfl;(first|exact XaW _ _ _ _ _ rfl rfl XaR.out (by first|(simp [wlq];omega)|fail) (by first|(simp [wlq];omega)|fail)|exact Xbp _ _ _ _ _ _ _ _ _ _ _ _ rfl rfl Xdp.out XaR.out (by first|(simp [wlq];omega)|fail) (by first|(simp [wlq];omega)|fail)))|(apply Xad 7 rfl;(exact Xa2 _ _ _ _ _ _ _ _ _ _ rfl rfl rfl HEl.out rfl (by first|omega|fail) (by simp;first|done|fail)))|(apply Xad 10 rfl;(exact XbD _ _ _ _ _ rfl HPl.out (by first|rfl|fail) rfl))|(apply Xad 17 rfl;(exact XcT _ _ _ _ _ _ rfl XbJ.out rfl (by first|rfl|fail) rfl rfl (by decide))))));(case hT=>((try simp (disch:=assumption) only [wtn,d3,Xjf,Xvx,Xvu,Xvv,Xvy,XvC,Nat.reduceAdd,Nat.reduceMul,Nat.reduceSub,↓reduceIte,Nat.reduceEqDiff]);rfl)))|(apply XfU rfl rfl;(first|(refine XaQ 11 rfl ?_;(refine Xaj 34 Tryz.f34 [_] _ _ _ rfl rfl Tryz.func34 (by decide) rfl (Xvt _) (VwL.refl _ _) (Xbh _ l _ 3 hd (by assumption) (by omega) (by omega)) ?_;rintro _ _ ⟨x,kx,rfl,rfl,hx,hkx⟩))|(refine XaQ 13 rfl ?_;(refine XbN _ _ _ _ _ _ _ _ _ _ _ _ _ _ rfl rfl Xdp.out (Src.sq rfl) XbJ.out (by first|(simp;done)|fail) (Xmv _ _ (by omega) (by decide)) (fun ad cap=>?_)))|(refine XaQ 17 rfl ?_;(refine Xbe _ _ _ _ _ _ _ _ rfl XbJ.out (by first|rfl|fail) rfl (by decide) rfl (fun b=>?_))));refine ⟨_,rfl,?_⟩;apply XiO;(case hT=>((try simp (disch:=omega) only [wtn,d3,Xjf,Xvx,Xvu,Xvv,Xvy,XvC,Nat.reduceAdd,Nat.reduceMul,Nat.reduceSub,↓reduceIte,Nat.reduceEqDiff]);rfl));(case hH=>((try simp (disch:=omega) only [wtn,d3,Xjf,Xvx,Xvu,Xvv,Xvy,XvC,Nat.reduceAdd,Nat.reduceMul,Nat.reduceSub,↓reduceIte,Nat.reduceEqDiff]);rfl)))|fail))
   (first|refine Xea ?_|fail);(apply Xag;(case hT=>((try simp only [wtn,Xvx,Xvu,Xvv,Xvy,XvC,Nat.reduceAdd,Nat.reduceMul,Nat.reduceSub,↓reduceIte,Nat.reduceEqDiff]);rfl));(case hH=>(simp only [XvE,XvD];rfl)));(refine XbR 15 (by decide +kernel) rfl rfl ?_;(first|((refine XaQ 16 rfl ?_;(refine Xb6 _ _ _ _ _ _ _ _ _ _ _ rfl rfl Xdp.out Xa6.out (by first|rfl|fail) (by first|(simp [wlq];omega)|fail) ?_));apply Xag;(case hT=>((try simp only [wtn,Xvx,Xvu,Xvv,Xvy,XvC,Nat.reduceAdd,Nat.reduceMul,Nat.reduceSub,↓reduceIte,Nat.reduceEqDiff]);rfl));(case hH=>((try simp only [wtn,Xvx,Xvu,Xvv,Xvy,XvC,Nat.reduceAdd,Nat.reduceMul,Nat.reduceSub,↓reduceIte,Nat.reduceEqDiff]);rfl)))|fail));refine Xar (by decide +kernel) ?_
   (repeat (first|refine Xaz ?_|refine Xac ?_|fail))
   have f3:=Xvn (l:=ys) (i:=v) (j:=ys[v]) ([(lzS.getD x 0,0)]++ys[v].ladder) hvl
   rw [hsv'.out] at f3
   have e3:1+ys[v].ladder.length=([(lzS.getD x 0,0)]++ys[v].ladder).length:=by simp [Nat.add_comm]
   refine XgV (H':=[.row (some ⟨g,0,none⟩) js.length cj 29 15 (spl (jfa ys) (v*15+12) [.sq (1+ys[v].ladder.length) (ra ([(lzS.getD x 0,0)]++ys[v].ladder))]),.box bd [.sq l.length (ia l),.x (.int .i64 kx)]]) (Xaq.mk' [.row ad _ _ _ _ _] [.row (some ⟨g,0,none⟩) _ cj _ _ _,.box bd _] (by (repeat' (first|exact Xvt _|refine (XvG (l₁:=[_])).trans (XvJ _ ?_)|fail))) (Xap.cons (VwH.row _ _ _ _ _ (VwL.spl1 _ _ (Vw.row (List.Mem.head _) (VwL.refl _ _)))) (Xap.refl _ _)) (VwL.refl _ _)) ?_
   rw [e3,f3]
   (repeat' (first|with_reducible (first|refine Xah ?_|refine Xay ?_|refine Xac ?_|refine Xaz ?_)|((apply Xao rfl);(case h=>((try (intro (hp:(_:Bool)=true);((try simp only [Bool.and_eq_true,Bool.not_eq_true',Bool.not_eq_true] at hp);(try simp only [hp,wte]);(try simp only [whn] at hp))));(first|(apply Xad 0 rfl;(first|exact XaS _ rfl|exact Xa8 _ rfl))|(apply Xad 4 rfl;(exact Xa3 _ rfl (by first|exact .inl ⟨_,rfl⟩|fail)))|(apply Xad 5 rfl;(exact Xal _ _ _ _ _ _ rfl rfl Xa1.out))|(apply XbB;(case hs=>(intro _ _ h;cases h));(case hx=>rfl);(case hrun=>(intro w;simp [wtb,AV.val,go_sem];(try go_bits);rfl))))));(case hT=>((try simp (disch:=omega) only [wtn,f13,f14,Xvx,Xvu,Xvv,Xvy,XvC,Nat.reduceAdd,Nat.reduceMul,Nat.reduceSub,↓reduceIte,Nat.reduceEqDiff]);rfl)))|(refine Xaa rfl ?_;((first|(refine XaQ 11 rfl ?_;(first|(refine Xaj 34 Tryz.f34 [_] _ _ _ rfl rfl Tryz.func34 (by decide) rfl (Xvt _) (VwL.refl _ _) (Xbh _ l _ 5 hd (by assumption) (by omega) (by omega)) ?_;rintro _ _ ⟨x,kx,rfl,rfl,hx,hkx⟩)|(refine Xaj 34 Tryz.f34 [_] _ _ _ rfl rfl Tryz.func34 (by decide) rfl (XvG (l₁:=[_])) (VwL.refl _ _) (Xbh _ l _ 5 hd (by assumption) (by omega) (by omega)) ?_;rintro _ _ ⟨x,kx,rfl,rfl,hx,hkx⟩)))|(refine XaQ 16 rfl ?_;(refine Xb6 _ _ _ _ _ _ _ _ _ _ _ rfl rfl Xdp.out Xa6.out (by first|rfl|fail) (by first|(simp [wlq];omega)|fail) ?_)));apply Xam;(case hT=>((try simp (disch:=omega) only [wtn,f13,f14,Xvx,Xvu,Xvv,Xvy,XvC,Nat.reduceAdd,Nat.reduceMul,Nat.reduceSub,↓reduceIte,Nat.reduceEqDiff]);rfl));(case hH=>((try simp (disch:=omega) only [wtn,f13,f14,Xvx,Xvu,Xvv,Xvy,XvC,Nat.reduceAdd,Nat.reduceMul,Nat.reduceSub,↓reduceIte,Nat.reduceEqDiff]);rfl))))|fail))
   apply ex3 (c - 1)
   refine ⟨?e1,⟨?e2,?e3,?e4,?e5⟩,?e6⟩
   case e6=>exact Xaq.mk' [] [.row (some ⟨g,0,none⟩) _ cj _ _ _,.box bd _] (by (repeat' (first|exact Xvt _|refine (XvG (l₁:=[_])).trans (XvJ _ ?_)|fail))) (Xap.refl _ _) (by (repeat' (first|exact VwL.nil|(refine VwL.cons ?_ ?_)|exact Vw.refl _|exact Vw.top _|(refine Vw.eq ?_;(congr 3;omega))|fail)))
   case e1=>simp only;omega
   case e2=>simp only;omega
   case e3=>simp only;assumption
   case e4=>simp only [List.length_set];exact g3
   case e5=>exact Xj6 g4'.out ⟨hjv.1,by have h5:=hjv.2.1;simp only;omega,by have h5:=hjv.2.2.1;simp only [XvF,Xvw,Xvz];omega,hjv.2.2.2⟩
 ·(repeat' (first|with_reducible (first|refine XaK ?_|refine Xah ?_|refine Xbn ?_|refine Xdq ?_|refine Xay ?_|refine Xac ?_|refine XcA ?_|refine Xcg ?_)|(refine XaX _ rfl (fun h=>?_) (fun h=>?_)<;>((try (simp only [whn] at h));first|(exfalso;omega;done)|skip))|((apply Xao rfl);(case h=>((try (intro (hp:(_:Bool)=true);((try simp only [Bool.and_eq_true,Bool.not_eq_true',Bool.not_eq_true] at hp);(try simp only [hp,wte]);(try simp only [whn] at hp))));(first|(apply Xad 0 rfl;(first|exact XaS _ rfl|exact Xa8 _ rfl))|(apply XbB;(case hs=>(intro _ _ h;cases h));(case hx=>rfl);(case hrun=>(intro w;simp [wtb,AV.val,go_sem];(try go_bits);rfl))))));(case hT=>((try simp only [wtn,Xvx,Xvu,Xvv,Xvy,XvC,Nat.reduceAdd,Nat.reduceMul,Nat.reduceSub,↓reduceIte,Nat.reduceEqDiff]);rfl)))|fail))
  obtain rfl:c=0:=by omega
  refine Xab _ _ (Xa0 rfl (RV.tmp _) (Xaq.mk' [] [.row (some ⟨g,0,none⟩) _ cj _ _ _,.box bd _] (by (repeat' (first|exact Xvt _|fail))) (Xap.refl _ _) (VwL.refl _ _))) ⟨ys,k3,g,cj,by rw [g3];rfl,by rw [g3],g2,by omega,by omega,g4'.out⟩
open Go.RowKit
theorem XuI (l:List Int) (H:List Hp):XaM Tryz.prog 12 H [.sq l.length (ia l)] (fun r H'=>∃b,r=.x (.pointer (some ⟨b,0,none⟩))∧H'=.box b [.sq l.length (ia l),.x (.int .i64 0)] :: H):=by
 refine Xbs Tryz.func12 Tryz.ntmps12 ?_
 (repeat' (first|refine Wkx.go ?_|refine XaJ ?_|refine XaG ?_|(refine XaE (fun h=>?_) (fun h=>?_)<;>first|(exact absurd h (by decide))|(exfalso;omega;done)|skip)|refine XaF ?_|refine Xai ?_|(refine Xaa rfl ?_;(first|refine Xax ?_|refine Xaw ?_|refine Xav (fun ad cap=>?_)|refine Xat (fun b=>?_)|refine Xas (fun b=>?_)|refine Xau (fun b=>?_)|fail))|fail))
 refine Xab _ _ (Xa0 rfl (RV.tmp _) (XcJ (D:=[]))) ?_
 exact ⟨_,rfl,rfl⟩
end Go.Proofs.YtdlblokjfoggpaaGreatDoor

import Derived.Test.YtdpobjakdplljaaGreatDoorY25
import Derived.Test.YtdpobjakdplljaaGreatDoorY8
/- The reference's parser, exact: an item. -/
set_option linter.unusedSimpArgs false
set_option linter.unusedVariables false
set_option maxRecDepth 100000
set_option maxHeartbeats 8000000
namespace Go.Proofs.YtdpobjakdplljaaGreatDoor
open Go.RowKit
structure JB (j:JF) (k:Nat):Prop where
 env:j.env.length≤k
 needs:j.needs.length≤k
 ladder:j.ladder.length≤k
theorem JB.mono {j:JF} {k k':Nat} (h:JB j k) (hk:k≤k'):JB j k':=⟨Nat.le_trans h.1 hk,Nat.le_trans h.2 hk,Nat.le_trans h.3 hk⟩
theorem XsH (b:Nat) (ts:List Tok) (k:Nat) (e l c:Int) (sv:AV) (hsv:sv.one=true) (hk:k < ts.length) (hl:ts.length≤1000000) (hv:VT ts) :
  Xa3 Tryz.prog 210 [.box b (pc ts k e l c sv)] [.x (.pointer (some ⟨b,0,none⟩))] (fun r H'=>∃k1 e1 l1 c1,∃ns:List (List UInt8),r=.sq ns.length (sa ns)∧H'=[.box b (pc ts k1 e1 l1 c1 sv)]∧k1 < ts.length∧Got ts ⟨k,e,l,c⟩ (XbR (Xc9 ts) 1 ts k []) ⟨k1,e1,l1,c1⟩ ns∧ns.length≤k1):=
 (XsG b ts ⟨k,e,l,c⟩ sv hsv hk hl hv).mono fun r H' ⟨⟨k1,e1,l1,c1⟩,ns,h1,h2,h3,h4⟩=>⟨k1,e1,l1,c1,ns,h1,h2,h3.1,h3,h4⟩
theorem Xo2 (b:Nat) (ts:List Tok) (k:Nat) (e l c:Int) (sv:AV) (hsv:sv.one=true) (hk:k < ts.length) (hl:ts.length≤1000000) (hv:VT ts) :
  Xa3 Tryz.prog 211 [.box b (pc ts k e l c sv)] [.x (.pointer (some ⟨b,0,none⟩))] (fun r H'=>∃k1 e1 l1 c1 n,r=.x (.int .i64 n)∧H'=[.box b (pc ts k1 e1 l1 c1 sv)]∧k1 < ts.length∧Got ts ⟨k,e,l,c⟩ ((Xix ts k).map fun n=>(n,k+1)) ⟨k1,e1,l1,c1⟩ n):=
 (Xo1 b ts ⟨k,e,l,c⟩ sv hsv hk hl hv).mono fun r H' ⟨⟨k1,e1,l1,c1⟩,n,h1,h2,h3⟩=>⟨k1,e1,l1,c1,n,h1,h2,h3.1,h3⟩
section
variable (ts:List Tok) (k:Nat) (j:JF)
theorem Xoa:XbU ts k XlP j=((Xbf ts k 3 512).map fun t=>(t,k+1)).map fun p=>({ j with run:=p.1.text },p.2):=by
 unfold XbU
 rw [if_pos rfl]
 cases Xbf ts k 3 512<;>rfl
theorem Xn9:XbU ts k Xis j=(Xiy ts k j.env).map fun v=>({ j with env:=j.env++[v] },k+3):=by
 unfold XbU
 rw [if_neg (by decide),if_pos rfl]
theorem Xkj:XbU ts k XgP j=(XbR (Xc9 ts) 1 ts k []).map fun p=>({ j with needs:=p.1 },p.2):=by
 unfold XbU
 rw [if_neg (by decide),if_neg (by decide),if_pos rfl]
theorem Xkk:XbU ts k Xe7 j=((Xbf ts k 4 128).map fun t=>(t,k+1)).map fun p=>({ j with hasr:=true,ready:=p.1.text },p.2):=by
 unfold XbU
 rw [if_neg (by decide),if_neg (by decide),if_neg (by decide),if_pos rfl]
 cases Xbf ts k 4 128<;>rfl
theorem Xh1:XbU ts k XcO j=((Xix ts k).map fun n=>(n,k+1)).map fun p=>({ j with restart:=p.1 },p.2):=by
 unfold XbU
 rw [if_neg (by decide),if_neg (by decide),if_neg (by decide),if_neg (by decide),if_pos rfl]
 cases Xix ts k<;>rfl
theorem Xh0:XbU ts k XcA j=((Xc1 ts k).map fun n=>(n,k+1)) >>= fun p=>((Xc1 ts p.2).map fun n=>(n,p.2+1)) >>= fun q=>((Xc1 ts q.2).map fun n=>(n,q.2+1)).map fun r=>({ j with base:=p.1,cap:=q.1,stable:=r.1 },r.2):=by
 unfold XbU
 rw [if_neg (by decide),if_neg (by decide),if_neg (by decide),if_neg (by decide),if_neg (by decide),if_pos rfl]
 cases h1:Xc1 ts k with
 | error f=>rfl
 | ok a=>
   simp only [Except.map,bind,Except.bind]
   cases h2:Xc1 ts (k+1) with
   | error f=>rfl
   | ok b=>
     simp only []
     cases h3:Xc1 ts (k+2)<;>simp [h3]
theorem Xki:XbU ts k Xeq j=Xi1 ts k j:=by
 unfold XbU
 rw [if_neg (by decide),if_neg (by decide),if_neg (by decide),if_neg (by decide),if_neg (by decide),if_neg (by decide),if_pos rfl]
 rfl
theorem Xmo:XbU ts k XgQ j=(XbR (Xdd ts) 2 ts k []).map fun p=>({ j with ladder:=p.1 },p.2):=by
 unfold XbU
 rw [if_neg (by decide),if_neg (by decide),if_neg (by decide),if_neg (by decide),if_neg (by decide),if_neg (by decide),if_neg (by decide)]
end
theorem Xj2 {ts:List Tok} {s s1 s2 s3:PS} {j:JF} {a b c:Int} (g1:Got ts s ((Xc1 ts s.k).map fun n=>(n,s.k+1)) s1 a) (g2:Got ts s1 ((Xc1 ts s1.k).map fun n=>(n,s1.k+1)) s2 b) (g3:Got ts s2 ((Xc1 ts s2.k).map fun n=>(n,s2.k+1)) s3 c):Got ts s (XbU ts s.k XcA j) s3 { j with base:=a,cap:=b,stable:=c }:=by
 refine (Got.bind (y:=fun a q=>((Xc1 ts q).map fun n=>(n,q+1)) >>= fun q=>((Xc1 ts q.2).map fun n=>(n,q.2+1)).map fun r=>({ j with base:=a,cap:=q.1,stable:=r.1 },r.2)) g1 ?_).of (Xh0 ts s.k j)
 exact Got.bind (y:=fun b q=>((Xc1 ts q).map fun n=>(n,q+1)).map fun r=>({ j with base:=a,cap:=b,stable:=r.1 },r.2)) g2 (g3.val fun c=>{ j with base:=a,cap:=b,stable:=c })
theorem XtY (bp:Nat) (ts:List Tok) (k:Nat) (e l c:Int) (sv:AV) (hsv:sv.one=true) (j:JF) (word:List UInt8) (hk:k < ts.length) (hl:ts.length≤1000000) (hv:VT ts) (hN:XeI ts) (hj:JB j k) (hw:word∈items) :
  Xa3 Tryz.prog 207 [.box bp (pc ts k e l c sv)] [.x (.pointer (some ⟨bp,0,none⟩)),.agg j.cells,.x (.string (bs word))] (fun r H'=>∃k1 e1 l1 c1 j',r=.agg (JF.cells j')∧H'=[.box bp (pc ts k1 e1 l1 c1 sv)]∧k1 < ts.length∧Got ts ⟨k,e,l,c⟩ (XbU ts k word j) ⟨k1,e1,l1,c1⟩ j'∧JB j' k1):=by
 have hN':=Lib.hid hN
 clear hN
 have hw':=Lib.hid hw
 clear hw
 obtain ⟨j1,j2,j3⟩:=hj
 unfold JF.cells
 refine XaD Tryz.func207 rfl ?_
 simp only [Tryz.ntmps207,Xvy,XvB,XvC,XvD,XvG,XvF,Nat.reduceAdd,Nat.reduceSub]
 (repeat' (first|with_reducible (first|refine Xag ?_|refine Xac ?_|refine Xao ?_|refine Xar ?_|refine Xau ?_|refine Xae ?_|refine Xaa ?_|refine Xax ?_|refine Xaj ?_|refine Xav ?_)|(refine Xak _ rfl (fun h=>?_) (fun h=>?_)<;>((try (simp only [whn] at h));skip))|((apply Xad rfl);(case h=>(first|(apply Xab 0 rfl;(first|exact Xap _ rfl|exact Xan _ rfl))|(apply Xab 5 rfl;(exact Xal _ _ _ _ _ _ rfl rfl Xa5.out))|(apply Xab 6 rfl;(exact Xaz _ _ _ _ _ _ _ _ rfl rfl XaS.out XaN.out (by first|exact Xvu rfl|fail) (by first|exact Xvu rfl|fail)))|(apply Xab 12 rfl;(exact Xm1 _ _ _ _ _ _ _ rfl rfl HFv.out (by first|(simp;done)|fail) (by first|(simp;done)|fail)))|(apply XaC;(case hs=>(intro _ _ h;cases h));(case hx=>rfl);(case hrun=>(intro w;simp [wtb,AV.val,go_sem];skip;rfl)))));(case hT=>((try simp (disch:=omega) only [wtn,pc,Tok.av,JF.cells,Xvz,Xvw,Xvx,XvA,XvE,Nat.reduceAdd,Nat.reduceMul,Nat.reduceSub,↓reduceIte,Nat.reduceEqDiff]);rfl)))|(refine Xai rfl ?_;((first|(refine Xas 11 rfl ?_;(first|(refine Xam 203 Tryz.f203 [_] _ _ _ rfl rfl Tryz.func203 (by decide) rfl (XvI (l₁:=[_,_])) (VwL.refl _ _) (XhE _ ts k e _ _ sv hsv 3 512 hk hl hv (by decide)) ?_;rintro _ _ ⟨k1,e1,l1,c1,rfl,rfl,q1,g1⟩)|(refine Xam 203 Tryz.f203 [_] _ _ _ rfl rfl Tryz.func203 (by decide) rfl (XvI (l₁:=[_,_])) (VwL.refl _ _) (XhE _ ts k e _ _ sv hsv 4 128 hk hl hv (by decide)) ?_;rintro _ _ ⟨k1,e1,l1,c1,rfl,rfl,q1,g1⟩)|(refine Xam 209 Tryz.f209 [_] _ _ _ rfl rfl Tryz.func209 (by decide) rfl (XvI (l₁:=[_,_])) (VwL.refl _ _) (XmU _ ts k e _ _ sv hsv j hk hl hv j1) ?_;rintro _ _ ⟨k1,e1,l1,c1,en,rfl,rfl,q1,g1,s1⟩)|(refine Xam 210 Tryz.f210 [_] _ _ _ rfl rfl Tryz.func210 (by decide) rfl (XvI (l₁:=[_,_])) (VwL.refl _ _) (XsH _ ts k e _ _ sv hsv hk hl hv) ?_;rintro _ _ ⟨k1,e1,l1,c1,ns,rfl,rfl,q1,g1,s1⟩)|(refine Xam 211 Tryz.f211 [_] _ _ _ rfl rfl Tryz.func211 (by decide) rfl (XvI (l₁:=[_,_])) (VwL.refl _ _) (Xo2 _ ts k e _ _ sv hsv hk hl hv) ?_;rintro _ _ ⟨k1,e1,l1,c1,rs,rfl,rfl,q1,g1⟩)|(refine Xam 212 Tryz.f212 [_] _ _ _ rfl rfl Tryz.func212 (by decide) rfl (XvI (l₁:=[_,_])) (VwL.refl _ _) (XdC _ ts k e _ _ sv hsv hk hl hv hN'.out) ?_;rintro _ _ ⟨k1,e1,l1,c1,n1,rfl,rfl,q1,g1⟩)|(refine Xam 212 Tryz.f212 [_] _ _ _ rfl rfl Tryz.func212 (by decide) rfl (Xvv _) (VwL.refl _ _) (XdC _ ts k1 _ _ _ sv hsv q1 hl hv hN'.out) ?_;rintro _ _ ⟨k2,e2,l2,c2,n2,rfl,rfl,q2,g2⟩)|(refine Xam 212 Tryz.f212 [_] _ _ _ rfl rfl Tryz.func212 (by decide) rfl (Xvv _) (VwL.refl _ _) (XdC _ ts k2 _ _ _ sv hsv q2 hl hv hN'.out) ?_;rintro _ _ ⟨k3,e3,l3,c3,n3,rfl,rfl,q3,g3⟩)|(refine Xam 213 Tryz.f213 [_] _ _ _ rfl rfl Tryz.func213 (by decide) rfl (XvI (l₁:=[_,_])) (VwL.refl _ _) (XrP _ ts k e _ _ sv hsv j hk hl hv hN'.out) ?_;rintro _ _ ⟨k1,e1,l1,c1,n1,n2,rfl,rfl,q1,g1⟩)|(refine Xam 214 Tryz.f214 [_] _ _ _ rfl rfl Tryz.func214 (by decide) rfl (XvI (l₁:=[_,_])) (VwL.refl _ _) (Xqj _ ts k e _ _ sv hsv hk hl hv hN'.out) ?_;rintro _ _ ⟨k1,e1,l1,c1,rs,rfl,rfl,q1,g1,s1⟩)))|(refine Xas 14 rfl ?_;(refine XaK _ _ rfl Xbk.out rfl (fun b=>?_)))|(refine Xas 15 rfl ?_;(refine Xbo _ _ rfl (by first|rfl|fail) (fun b=>?_)))|(refine Xas 16 rfl ?_;(refine Xaw _ _ _ _ _ _ _ rfl rfl XaS.out XaR.out (by first|rfl|fail) (by first|exact Xvu rfl|fail) ?_)));apply Xah;(case hT=>((try simp (disch:=omega) only [wtn,pc,Tok.av,JF.cells,Xvz,Xvw,Xvx,XvA,XvE,Nat.reduceAdd,Nat.reduceMul,Nat.reduceSub,↓reduceIte,Nat.reduceEqDiff]);rfl));(case hH=>((try simp (disch:=omega) only [wtn,pc,Tok.av,JF.cells,Xvz,Xvw,Xvx,XvA,XvE,Nat.reduceAdd,Nat.reduceMul,Nat.reduceSub,↓reduceIte,Nat.reduceEqDiff]);rfl))))|fail))
 all_goals first
  | (subst h;have hq:=g1.2.1;simp only at hq;refine Xaf _ _ (Xbh rfl (RV.cell 1 rfl rfl XaN.out (by simp;done) (by simp;done)) (XaH.mk' [_,_] [.box _ (pc ts k1 e1 l1 c1 sv)] (XvI (l₁:=[_,_]) (l₂:=[])).symm (XaB.refl _ _) (VwL.refl _ _))) ⟨k1,e1,l1,c1,{ j with run:=ts[k].text },rfl,rfl,q1,(g1.val fun t=>{ j with run:=t.text }).of (Xoa ts k j),⟨by (try simp only);omega,by (try simp only);omega,by (try simp only);omega⟩⟩;done)
  | (subst h;have hq:=g1.2.1;simp only at hq;refine Xaf _ _ (Xbh rfl (RV.cell 1 rfl rfl XaN.out (by simp;done) (by simp;done)) (XaH.mk' [_,_] [.box _ (pc ts k1 e1 l1 c1 sv)] (XvI (l₁:=[_,_]) (l₂:=[])).symm (XaB.refl _ _) (VwL.refl _ _))) ⟨k1,e1,l1,c1,{ j with env:=en },rfl,rfl,q1,g1.of (Xn9 ts k j),⟨by (try simp only);omega,by (try simp only);omega,by (try simp only);omega⟩⟩;done)
  | (subst h;have hq:=g1.2.1;simp only at hq;refine Xaf _ _ (Xbh rfl (RV.cell 1 rfl rfl XaN.out (by simp;done) (by simp;done)) (XaH.mk' [_,_] [.box _ (pc ts k1 e1 l1 c1 sv)] (XvI (l₁:=[_,_]) (l₂:=[])).symm (XaB.refl _ _) (VwL.refl _ _))) ⟨k1,e1,l1,c1,{ j with needs:=ns },rfl,rfl,q1,(g1.val fun t=>{ j with needs:=t }).of (Xkj ts k j),⟨by (try simp only);omega,by (try simp only);omega,by (try simp only);omega⟩⟩;done)
  | (subst h;have hq:=g1.2.1;simp only at hq;refine Xaf _ _ (Xbh rfl (RV.cell 1 rfl rfl XaN.out (by simp;done) (by simp;done)) (XaH.mk' [_,_] [.box _ (pc ts k1 e1 l1 c1 sv)] (XvI (l₁:=[_,_]) (l₂:=[])).symm (XaB.refl _ _) (VwL.refl _ _))) ⟨k1,e1,l1,c1,{ j with hasr:=true,ready:=ts[k].text },rfl,rfl,q1,(g1.val fun t=>{ j with hasr:=true,ready:=t.text }).of (Xkk ts k j),⟨by (try simp only);omega,by (try simp only);omega,by (try simp only);omega⟩⟩;done)
  | (subst h;have hq:=g1.2.1;simp only at hq;refine Xaf _ _ (Xbh rfl (RV.cell 1 rfl rfl XaN.out (by simp;done) (by simp;done)) (XaH.mk' [_,_] [.box _ (pc ts k1 e1 l1 c1 sv)] (XvI (l₁:=[_,_]) (l₂:=[])).symm (XaB.refl _ _) (VwL.refl _ _))) ⟨k1,e1,l1,c1,{ j with restart:=rs },rfl,rfl,q1,(g1.val fun t=>{ j with restart:=t }).of (Xh1 ts k j),⟨by (try simp only);omega,by (try simp only);omega,by (try simp only);omega⟩⟩;done)
  | (subst h;have hq:=g1.2.1;have hq2:=g2.2.1;have hq3:=g3.2.1;simp only at hq hq2 hq3;refine Xaf _ _ (Xbh rfl (RV.cell 1 rfl rfl XaN.out (by simp;done) (by simp;done)) (XaH.mk' [_,_] [.box _ (pc ts k3 e3 l3 c3 sv)] (XvI (l₁:=[_,_]) (l₂:=[])).symm (XaB.refl _ _) (VwL.refl _ _))) ⟨k3,e3,l3,c3,{ j with base:=n1,cap:=n2,stable:=n3 },rfl,rfl,q3,Xj2 g1 g2 g3,⟨by (try simp only);omega,by (try simp only);omega,by (try simp only);omega⟩⟩;done)
  | (subst h;have hq:=g1.2.1;simp only at hq;refine Xaf _ _ (Xbh rfl (RV.cell 1 rfl rfl XaN.out (by simp;done) (by simp;done)) (XaH.mk' [_,_] [.box _ (pc ts k1 e1 l1 c1 sv)] (XvI (l₁:=[_,_]) (l₂:=[])).symm (XaB.refl _ _) (VwL.refl _ _))) ⟨k1,e1,l1,c1,{ j with burst:=n1,window:=n2 },rfl,rfl,q1,g1.of (Xki ts k j),⟨by (try simp only);omega,by (try simp only);omega,by (try simp only);omega⟩⟩;done)
  | (subst h;have hq:=g1.2.1;simp only at hq;refine Xaf _ _ (Xbh rfl (RV.cell 1 rfl rfl XaN.out (by simp;done) (by simp;done)) (XaH.mk' [_,_] [.box _ (pc ts k1 e1 l1 c1 sv)] (XvI (l₁:=[_,_]) (l₂:=[])).symm (XaB.refl _ _) (VwL.refl _ _))) ⟨k1,e1,l1,c1,{ j with ladder:=rs },rfl,rfl,q1,(g1.val fun t=>{ j with ladder:=t }).of (Xmo ts k j),⟨by (try simp only);omega,by (try simp only);omega,by (try simp only);omega⟩⟩;done)
  | (exfalso;have hw:=hw'.out;simp [items,XlP,Xis,XgP,Xe7,XcO,XcA,Xeq,XgQ, *] at hw;done)
  | trace_state
end Go.Proofs.YtdpobjakdplljaaGreatDoor

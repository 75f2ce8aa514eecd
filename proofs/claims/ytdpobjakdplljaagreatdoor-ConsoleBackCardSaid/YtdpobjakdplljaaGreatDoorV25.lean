import Derived.Test.YtdpobjakdplljaaGreatDoorV24
import Derived.Test.YtdpobjakdplljaaGreatDoorV8
/- The reference's parser, exact: an item. -/
set_option linter.unusedSimpArgs false
set_option linter.unusedVariables false
set_option maxRecDepth 100000
set_option maxHeartbeats 8000000
namespace Go.Proofs.YtdpobjakdplljaaGreatDoor
open Go.RowKit
structure JB (j:JF) (k:Nat):Prop where
 env:j.env.length≤k
 needs:j.needs.length≤k
 ladder:j.ladder.length≤k
theorem JB.mono {j:JF} {k k':Nat} (h:JB j k) (hk:k≤k'):JB j k':=⟨Nat.le_trans h.1 hk,Nat.le_trans h.2 hk,Nat.le_trans h.3 hk⟩
theorem Xsh (b:Nat) (ts:List Tok) (k:Nat) (e l c:Int) (sv:AV) (hsv:sv.one=true) (hk:k < ts.length) (hl:ts.length≤1000000) (hv:VT ts) :
  Xa8 Tryz.prog 210 [.box b (pc ts k e l c sv)] [.x (.pointer (some ⟨b,0,none⟩))] (fun r H'=>∃k1 e1 l1 c1,∃ns:List (List UInt8),r=.sq ns.length (sa ns)∧H'=[.box b (pc ts k1 e1 l1 c1 sv)]∧k1 < ts.length∧Got ts ⟨k,e,l,c⟩ (XbJ (Xc5 ts) 1 ts k []) ⟨k1,e1,l1,c1⟩ ns∧ns.length≤k1):=
 (Xsg b ts ⟨k,e,l,c⟩ sv hsv hk hl hv).mono fun r H' ⟨⟨k1,e1,l1,c1⟩,ns,h1,h2,h3,h4⟩=>⟨k1,e1,l1,c1,ns,h1,h2,h3.1,h3,h4⟩
theorem Xo1 (b:Nat) (ts:List Tok) (k:Nat) (e l c:Int) (sv:AV) (hsv:sv.one=true) (hk:k < ts.length) (hl:ts.length≤1000000) (hv:VT ts) :
  Xa8 Tryz.prog 211 [.box b (pc ts k e l c sv)] [.x (.pointer (some ⟨b,0,none⟩))] (fun r H'=>∃k1 e1 l1 c1 n,r=.x (.int .i64 n)∧H'=[.box b (pc ts k1 e1 l1 c1 sv)]∧k1 < ts.length∧Got ts ⟨k,e,l,c⟩ ((Xiq ts k).map fun n=>(n,k+1)) ⟨k1,e1,l1,c1⟩ n):=
 (Xo0 b ts ⟨k,e,l,c⟩ sv hsv hk hl hv).mono fun r H' ⟨⟨k1,e1,l1,c1⟩,n,h1,h2,h3⟩=>⟨k1,e1,l1,c1,n,h1,h2,h3.1,h3⟩
section
variable (ts:List Tok) (k:Nat) (j:JF)
theorem Xn6:XbM ts k XlK j=((Xbd ts k 3 512).map fun t=>(t,k+1)).map fun p=>({ j with run:=p.1.text },p.2):=by
 unfold XbM
 rw [if_pos rfl]
 cases Xbd ts k 3 512<;>rfl
theorem Xn5:XbM ts k Xil j=(Xir ts k j.env).map fun v=>({ j with env:=j.env++[v] },k+3):=by
 unfold XbM
 rw [if_neg (by decide),if_pos rfl]
theorem Xkj:XbM ts k XgP j=(XbJ (Xc5 ts) 1 ts k []).map fun p=>({ j with needs:=p.1 },p.2):=by
 unfold XbM
 rw [if_neg (by decide),if_neg (by decide),if_pos rfl]
theorem Xkk:XbM ts k Xfb j=((Xbd ts k 4 128).map fun t=>(t,k+1)).map fun p=>({ j with hasr:=true,ready:=p.1.text },p.2):=by
 unfold XbM
 rw [if_neg (by decide),if_neg (by decide),if_neg (by decide),if_pos rfl]
 cases Xbd ts k 4 128<;>rfl
theorem XhU:XbM ts k XcN j=((Xiq ts k).map fun n=>(n,k+1)).map fun p=>({ j with restart:=p.1 },p.2):=by
 unfold XbM
 rw [if_neg (by decide),if_neg (by decide),if_neg (by decide),if_neg (by decide),if_pos rfl]
 cases Xiq ts k<;>rfl
theorem XhT:XbM ts k Xcy j=((XcZ ts k).map fun n=>(n,k+1)) >>= fun p=>((XcZ ts p.2).map fun n=>(n,p.2+1)) >>= fun q=>((XcZ ts q.2).map fun n=>(n,q.2+1)).map fun r=>({ j with base:=p.1,cap:=q.1,stable:=r.1 },r.2):=by
 unfold XbM
 rw [if_neg (by decide),if_neg (by decide),if_neg (by decide),if_neg (by decide),if_neg (by decide),if_pos rfl]
 cases h1:XcZ ts k with
 | error f=>rfl
 | ok a=>
   simp only [Except.map,bind,Except.bind]
   cases h2:XcZ ts (k+1) with
   | error f=>rfl
   | ok b=>
     simp only []
     cases h3:XcZ ts (k+2)<;>simp [h3]
theorem Xki:XbM ts k Xeq j=XiX ts k j:=by
 unfold XbM
 rw [if_neg (by decide),if_neg (by decide),if_neg (by decide),if_neg (by decide),if_neg (by decide),if_neg (by decide),if_pos rfl]
 rfl
theorem Xmk:XbM ts k XgQ j=(XbJ (Xc9 ts) 2 ts k []).map fun p=>({ j with ladder:=p.1 },p.2):=by
 unfold XbM
 rw [if_neg (by decide),if_neg (by decide),if_neg (by decide),if_neg (by decide),if_neg (by decide),if_neg (by decide),if_neg (by decide)]
end
theorem XjZ {ts:List Tok} {s s1 s2 s3:PS} {j:JF} {a b c:Int} (g1:Got ts s ((XcZ ts s.k).map fun n=>(n,s.k+1)) s1 a) (g2:Got ts s1 ((XcZ ts s1.k).map fun n=>(n,s1.k+1)) s2 b) (g3:Got ts s2 ((XcZ ts s2.k).map fun n=>(n,s2.k+1)) s3 c):Got ts s (XbM ts s.k Xcy j) s3 { j with base:=a,cap:=b,stable:=c }:=by
 refine (Got.bind (y:=fun a q=>((XcZ ts q).map fun n=>(n,q+1)) >>= fun q=>((XcZ ts q.2).map fun n=>(n,q.2+1)).map fun r=>({ j with base:=a,cap:=q.1,stable:=r.1 },r.2)) g1 ?_).of (XhT ts s.k j)
 exact Got.bind (y:=fun b q=>((XcZ ts q).map fun n=>(n,q+1)).map fun r=>({ j with base:=a,cap:=b,stable:=r.1 },r.2)) g2 (g3.val fun c=>{ j with base:=a,cap:=b,stable:=c })
theorem Xtz (bp:Nat) (ts:List Tok) (k:Nat) (e l c:Int) (sv:AV) (hsv:sv.one=true) (j:JF) (word:List UInt8) (hk:k < ts.length) (hl:ts.length≤1000000) (hv:VT ts) (hN:XeL ts) (hj:JB j k) (hw:word∈items) :
  Xa8 Tryz.prog 207 [.box bp (pc ts k e l c sv)] [.x (.pointer (some ⟨bp,0,none⟩)),.agg j.cells,.x (.string (bs word))] (fun r H'=>∃k1 e1 l1 c1 j',r=.agg (JF.cells j')∧H'=[.box bp (pc ts k1 e1 l1 c1 sv)]∧k1 < ts.length∧Got ts ⟨k,e,l,c⟩ (XbM ts k word j) ⟨k1,e1,l1,c1⟩ j'∧JB j' k1):=by
 have hN':=Lib.hid hN
 clear hN
 have hw':=Lib.hid hw
 clear hw
 obtain ⟨j1,j2,j3⟩:=hj
 unfold JF.cells
 refine XaE Tryz.func207 rfl ?_
 simp only [Tryz.ntmps207,Xu8,Xvb,Xvc,Xvd,Xvg,Xvf,Nat.reduceAdd,Nat.reduceSub]
 (repeat' (first|with_reducible (first|refine Xai ?_|refine Xac ?_|refine Xat ?_|refine Xas ?_|refine Xaw ?_|refine Xae ?_|refine Xaa ?_|refine Xay ?_|refine Xaj ?_|refine Xax ?_)|(refine Xal _ rfl (fun h=>?_) (fun h=>?_)<;>((try (simp only [whn] at h));skip))|((apply Xad rfl);(case h=>(first|(apply Xab 0 rfl;(first|exact Xar _ rfl|exact Xap _ rfl))|(apply Xab 5 rfl;(exact Xam _ _ _ _ _ _ rfl rfl Xa3.out))|(apply Xab 6 rfl;(exact Xaz _ _ _ _ _ _ _ _ rfl rfl XaU.out XaM.out (by first|exact Xu4 rfl|fail) (by first|exact Xu4 rfl|fail)))|(apply Xab 12 rfl;(exact XmX _ _ _ _ _ _ _ rfl rfl HFv.out (by first|(simp;done)|fail) (by first|(simp;done)|fail)))|(apply XaD;(case hs=>(intro _ _ h;cases h));(case hx=>rfl);(case hrun=>(intro w;simp [wtb,AV.val,go_sem];skip;rfl)))));(case hT=>((try simp (disch:=omega) only [wtn,pc,Tok.av,JF.cells,Xu9,Xu6,Xu7,Xva,Xve,Nat.reduceAdd,Nat.reduceMul,Nat.reduceSub,↓reduceIte,Nat.reduceEqDiff]);rfl)))|(refine Xah rfl ?_;((first|(refine Xaq 11 rfl ?_;(first|(refine Xak 203 Tryz.f203 [_] _ _ _ rfl rfl Tryz.func203 (by decide) rfl (Xvi (l₁:=[_,_])) (VwL.refl _ _) (Xhz _ ts k e _ _ sv hsv 3 512 hk hl hv (by decide)) ?_;rintro _ _ ⟨k1,e1,l1,c1,rfl,rfl,q1,g1⟩)|(refine Xak 203 Tryz.f203 [_] _ _ _ rfl rfl Tryz.func203 (by decide) rfl (Xvi (l₁:=[_,_])) (VwL.refl _ _) (Xhz _ ts k e _ _ sv hsv 4 128 hk hl hv (by decide)) ?_;rintro _ _ ⟨k1,e1,l1,c1,rfl,rfl,q1,g1⟩)|(refine Xak 209 Tryz.f209 [_] _ _ _ rfl rfl Tryz.func209 (by decide) rfl (Xvi (l₁:=[_,_])) (VwL.refl _ _) (XmQ _ ts k e _ _ sv hsv j hk hl hv j1) ?_;rintro _ _ ⟨k1,e1,l1,c1,en,rfl,rfl,q1,g1,s1⟩)|(refine Xak 210 Tryz.f210 [_] _ _ _ rfl rfl Tryz.func210 (by decide) rfl (Xvi (l₁:=[_,_])) (VwL.refl _ _) (Xsh _ ts k e _ _ sv hsv hk hl hv) ?_;rintro _ _ ⟨k1,e1,l1,c1,ns,rfl,rfl,q1,g1,s1⟩)|(refine Xak 211 Tryz.f211 [_] _ _ _ rfl rfl Tryz.func211 (by decide) rfl (Xvi (l₁:=[_,_])) (VwL.refl _ _) (Xo1 _ ts k e _ _ sv hsv hk hl hv) ?_;rintro _ _ ⟨k1,e1,l1,c1,rs,rfl,rfl,q1,g1⟩)|(refine Xak 212 Tryz.f212 [_] _ _ _ rfl rfl Tryz.func212 (by decide) rfl (Xvi (l₁:=[_,_])) (VwL.refl _ _) (XdC _ ts k e _ _ sv hsv hk hl hv hN'.out) ?_;rintro _ _ ⟨k1,e1,l1,c1,n1,rfl,rfl,q1,g1⟩)|(refine Xak 212 Tryz.f212 [_] _ _ _ rfl rfl Tryz.func212 (by decide) rfl (Xu5 _) (VwL.refl _ _) (XdC _ ts k1 _ _ _ sv hsv q1 hl hv hN'.out) ?_;rintro _ _ ⟨k2,e2,l2,c2,n2,rfl,rfl,q2,g2⟩)|(refine Xak 212 Tryz.f212 [_] _ _ _ rfl rfl Tryz.func212 (by decide) rfl (Xu5 _) (VwL.refl _ _) (XdC _ ts k2 _ _ _ sv hsv q2 hl hv hN'.out) ?_;rintro _ _ ⟨k3,e3,l3,c3,n3,rfl,rfl,q3,g3⟩)|(refine Xak 213 Tryz.f213 [_] _ _ _ rfl rfl Tryz.func213 (by decide) rfl (Xvi (l₁:=[_,_])) (VwL.refl _ _) (XrC _ ts k e _ _ sv hsv j hk hl hv hN'.out) ?_;rintro _ _ ⟨k1,e1,l1,c1,n1,n2,rfl,rfl,q1,g1⟩)|(refine Xak 214 Tryz.f214 [_] _ _ _ rfl rfl Tryz.func214 (by decide) rfl (Xvi (l₁:=[_,_])) (VwL.refl _ _) (Xp6 _ ts k e _ _ sv hsv hk hl hv hN'.out) ?_;rintro _ _ ⟨k1,e1,l1,c1,rs,rfl,rfl,q1,g1,s1⟩)))|(refine Xaq 14 rfl ?_;(refine XaJ _ _ rfl Xbl.out rfl (fun b=>?_)))|(refine Xaq 15 rfl ?_;(refine Xbx _ _ rfl (by first|rfl|fail) (fun b=>?_)))|(refine Xaq 16 rfl ?_;(refine Xau _ _ _ _ _ _ _ rfl rfl XaU.out XaS.out (by first|rfl|fail) (by first|exact Xu4 rfl|fail) ?_)));apply Xag;(case hT=>((try simp (disch:=omega) only [wtn,pc,Tok.av,JF.cells,Xu9,Xu6,Xu7,Xva,Xve,Nat.reduceAdd,Nat.reduceMul,Nat.reduceSub,↓reduceIte,Nat.reduceEqDiff]);rfl));(case hH=>((try simp (disch:=omega) only [wtn,pc,Tok.av,JF.cells,Xu9,Xu6,Xu7,Xva,Xve,Nat.reduceAdd,Nat.reduceMul,Nat.reduceSub,↓reduceIte,Nat.reduceEqDiff]);rfl))))|fail))
 all_goals first
  | (subst h;have hq:=g1.2.1;simp only at hq;refine Xaf _ _ (Xbi rfl (RV.cell 1 rfl rfl XaM.out (by simp;done) (by simp;done)) (XaH.mk' [_,_] [.box _ (pc ts k1 e1 l1 c1 sv)] (Xvi (l₁:=[_,_]) (l₂:=[])).symm (XaB.refl _ _) (VwL.refl _ _))) ⟨k1,e1,l1,c1,{ j with run:=ts[k].text },rfl,rfl,q1,(g1.val fun t=>{ j with run:=t.text }).of (Xn6 ts k j),⟨by (try simp only);omega,by (try simp only);omega,by (try simp only);omega⟩⟩;done)
  | (subst h;have hq:=g1.2.1;simp only at hq;refine Xaf _ _ (Xbi rfl (RV.cell 1 rfl rfl XaM.out (by simp;done) (by simp;done)) (XaH.mk' [_,_] [.box _ (pc ts k1 e1 l1 c1 sv)] (Xvi (l₁:=[_,_]) (l₂:=[])).symm (XaB.refl _ _) (VwL.refl _ _))) ⟨k1,e1,l1,c1,{ j with env:=en },rfl,rfl,q1,g1.of (Xn5 ts k j),⟨by (try simp only);omega,by (try simp only);omega,by (try simp only);omega⟩⟩;done)
  | (subst h;have hq:=g1.2.1;simp only at hq;refine Xaf _ _ (Xbi rfl (RV.cell 1 rfl rfl XaM.out (by simp;done) (by simp;done)) (XaH.mk' [_,_] [.box _ (pc ts k1 e1 l1 c1 sv)] (Xvi (l₁:=[_,_]) (l₂:=[])).symm (XaB.refl _ _) (VwL.refl _ _))) ⟨k1,e1,l1,c1,{ j with needs:=ns },rfl,rfl,q1,(g1.val fun t=>{ j with needs:=t }).of (Xkj ts k j),⟨by (try simp only);omega,by (try simp only);omega,by (try simp only);omega⟩⟩;done)
  | (subst h;have hq:=g1.2.1;simp only at hq;refine Xaf _ _ (Xbi rfl (RV.cell 1 rfl rfl XaM.out (by simp;done) (by simp;done)) (XaH.mk' [_,_] [.box _ (pc ts k1 e1 l1 c1 sv)] (Xvi (l₁:=[_,_]) (l₂:=[])).symm (XaB.refl _ _) (VwL.refl _ _))) ⟨k1,e1,l1,c1,{ j with hasr:=true,ready:=ts[k].text },rfl,rfl,q1,(g1.val fun t=>{ j with hasr:=true,ready:=t.text }).of (Xkk ts k j),⟨by (try simp only);omega,by (try simp only);omega,by (try simp only);omega⟩⟩;done)
  | (subst h;have hq:=g1.2.1;simp only at hq;refine Xaf _ _ (Xbi rfl (RV.cell 1 rfl rfl XaM.out (by simp;done) (by simp;done)) (XaH.mk' [_,_] [.box _ (pc ts k1 e1 l1 c1 sv)] (Xvi (l₁:=[_,_]) (l₂:=[])).symm (XaB.refl _ _) (VwL.refl _ _))) ⟨k1,e1,l1,c1,{ j with restart:=rs },rfl,rfl,q1,(g1.val fun t=>{ j with restart:=t }).of (XhU ts k j),⟨by (try simp only);omega,by (try simp only);omega,by (try simp only);omega⟩⟩;done)
  | (subst h;have hq:=g1.2.1;have hq2:=g2.2.1;have hq3:=g3.2.1;simp only at hq hq2 hq3;refine Xaf _ _ (Xbi rfl (RV.cell 1 rfl rfl XaM.out (by simp;done) (by simp;done)) (XaH.mk' [_,_] [.box _ (pc ts k3 e3 l3 c3 sv)] (Xvi (l₁:=[_,_]) (l₂:=[])).symm (XaB.refl _ _) (VwL.refl _ _))) ⟨k3,e3,l3,c3,{ j with base:=n1,cap:=n2,stable:=n3 },rfl,rfl,q3,XjZ g1 g2 g3,⟨by (try simp only);omega,by (try simp only);omega,by (try simp only);omega⟩⟩;done)
  | (subst h;have hq:=g1.2.1;simp only at hq;refine Xaf _ _ (Xbi rfl (RV.cell 1 rfl rfl XaM.out (by simp;done) (by simp;done)) (XaH.mk' [_,_] [.box _ (pc ts k1 e1 l1 c1 sv)] (Xvi (l₁:=[_,_]) (l₂:=[])).symm (XaB.refl _ _) (VwL.refl _ _))) ⟨k1,e1,l1,c1,{ j with burst:=n1,window:=n2 },rfl,rfl,q1,g1.of (Xki ts k j),⟨by (try simp only);omega,by (try simp only);omega,by (try simp only);omega⟩⟩;done)
  | (subst h;have hq:=g1.2.1;simp only at hq;refine Xaf _ _ (Xbi rfl (RV.cell 1 rfl rfl XaM.out (by simp;done) (by simp;done)) (XaH.mk' [_,_] [.box _ (pc ts k1 e1 l1 c1 sv)] (Xvi (l₁:=[_,_]) (l₂:=[])).symm (XaB.refl _ _) (VwL.refl _ _))) ⟨k1,e1,l1,c1,{ j with ladder:=rs },rfl,rfl,q1,(g1.val fun t=>{ j with ladder:=t }).of (Xmk ts k j),⟨by (try simp only);omega,by (try simp only);omega,by (try simp only);omega⟩⟩;done)
  | (exfalso;have hw:=hw'.out;simp [items,XlK,Xil,XgP,Xfb,XcN,Xcy,Xeq,XgQ, *] at hw;done)
  | trace_state
end Go.Proofs.YtdpobjakdplljaaGreatDoor

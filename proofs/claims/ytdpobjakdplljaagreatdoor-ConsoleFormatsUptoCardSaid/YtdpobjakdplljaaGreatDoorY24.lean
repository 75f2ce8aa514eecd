import Derived.Test.YtdpobjakdplljaaGreatDoorY23
import Derived.Test.YtdpobjakdplljaaGreatDoorY14
import Derived.Test.YtdpobjakdplljaaGreatDoorY9
import Derived.Test.YtdpobjakdplljaaGreatDoorY18
/- The reference's parser, exact: lists of names and of rungs. -/
set_option linter.unusedSimpArgs false
set_option linter.unusedVariables false
set_option maxRecDepth 100000
set_option maxHeartbeats 8000000
namespace Go.Proofs.YtdpobjakdplljaaGreatDoor
open Go.RowKit
theorem Xn2 (b:Nat) (ts:List Tok) (k:Nat) (e l c:Int) (sv:AV) (hsv:sv.one=true) (e2:Int) (t:Tok) (he:e=0):Xa3 Tryz.prog 202 [.box b (pc ts k e l c sv)] [.x (.pointer (some ⟨b,0,none⟩)),.x (.int .i64 e2),t.av] (fun r H'=>r=.x (.tuple #[])∧H'=[.box b (pc ts k e2 t.line t.col sv)]):=by
 have h:=Xgr b ts ⟨k,e,l,c⟩ sv hsv e2 t
 simp only [PS.fail,if_pos he,PS.cells] at h
 exact h
theorem Xn3 (b:Nat) (ts:List Tok) (k:Nat) (e l c:Int) (sv:AV) (hsv:sv.one=true) (e2:Int) (t:Tok) (he:e≠0):Xa3 Tryz.prog 202 [.box b (pc ts k e l c sv)] [.x (.pointer (some ⟨b,0,none⟩)),.x (.int .i64 e2),t.av] (fun r H'=>r=.x (.tuple #[])∧H'=[.box b (pc ts k e l c sv)]):=by
 have h:=Xgr b ts ⟨k,e,l,c⟩ sv hsv e2 t
 simp only [PS.fail,if_neg he,PS.cells] at h
 exact h
theorem XuV (ts:List Tok) (k:Nat) (e l c:Int) (sv:AV) (s:List UInt8) (hk:k < ts.length) (hl:ts.length≤1000000):Xa3 Tryz.prog 201 [] [.at_ (pc ts k e l c sv),.x (.int .i64 5),.x (.string (bs s))] (fun r H'=>r=.x (.bool (e == 0 && gIs ts k s))∧H'=[]):=by
 have h:=XuW ts k e l c sv 5 s hk hl
 rw [Xoi hk] at h
 exact h
theorem Got.err {α:Type} {ts:List Tok} {s:PS} (hk:s.k < ts.length) (he:s.e=0) (e2:Int) (h2:e2≠0) (t:Tok) (v:α):Got ts s (.error (flt e2 t)) ⟨s.k,e2,t.line,t.col⟩ v:=
 ⟨hk,Nat.le_refl _,fun h=>absurd he h,fun _=>⟨h2,rfl,rfl,rfl⟩⟩
theorem Got.step {α:Type} {ts:List Tok} {k k2:Nat} {e l c:Int} {s':PS} {x:Except Flt (α × Nat)} {v:α} (h:Got ts ⟨k2,e,l,c⟩ x s' v) (he:e=0) (hq:k≤k2):Got ts ⟨k,e,l,c⟩ x s' v:=
 ⟨h.1,Nat.le_trans hq h.2.1,fun hn=>absurd he hn,h.2.2.2⟩
theorem Got.last {α β:Type} {ts:List Tok} {s s2:PS} {x:Except Flt (α × Nat)} {y:α→Nat→Except Flt (β × Nat)} {a:α} {b:β} (h1:Got ts s x s2 a) (h2:Got ts s2 (y a s2.k) s2 b):Got ts s (x >>= fun p=>y p.1 p.2) s2 b:=Got.bind h1 h2
theorem Got.next {α:Type} {x:Except Flt α} {k k2:Nat} {v:α} (h:(x.map fun a=>(a,k))=.ok (v,k2)):k2=k:=by
 cases x with
 | ok a=>cases h;rfl
 | error f=>cases h
theorem Xk7 {ts:List Tok} (hv:VT ts) {s:List UInt8} (k:Nat) (hk:k < ts.length) (h:gIs ts k s=true):k+1 < ts.length:=by
 simp only [gIs,Bool.and_eq_true,beq_iff_eq,Xbm hk] at h
 exact hv k hk (by omega)
theorem XeW {α:Type} (el:Nat→List α→Except Flt α) (st:Nat) (ts:List Tok) (k:Nat) (out:List α):XbR el st ts k out=((el k out).map fun x=>(x,k+st)) >>= fun p=>if p.2 < ts.length∧gIs ts p.2 [44]=true then XbR el st ts (p.2+1) (out++[p.1]) else .ok (out++[p.1],p.2):=by
 rw [XbR]
 cases el k out with
 | error f=>rfl
 | ok x=>
   simp only [Except.map,bind,Except.bind]
   split<;>rfl
def Xfo (out:List (List UInt8)) (t:Tok):Except Flt (List UInt8):=if 16≤out.length then .error (flt 1 t) else if out.contains t.text then .error (flt 5 t) else .ok t.text
theorem XfZ (ts:List Tok) (k:Nat) (out:List (List UInt8)):(Xc9 ts k out).map (fun x=>(x,k+1))=((Xbf ts k 1 32).map fun t=>(t,k+1)) >>= fun p=>(Xfo out p.1).map fun x=>(x,p.2):=by
 unfold Xc9 Xek Xfo
 cases Xbf ts k 1 32 with
 | error f=>rfl
 | ok t=>
   simp only [Except.map,bind,Except.bind,decide_eq_true_eq]
   by_cases h:16≤out.length
   ·rw [if_pos h,if_pos h]
   ·rw [if_neg h,if_neg h]
theorem XsG (b:Nat) (ts:List Tok) (s:PS) (sv:AV) (hsv:sv.one=true) (hk:s.k < ts.length) (hl:ts.length≤1000000) (hv:VT ts) :
  Xa3 Tryz.prog 210 [.box b (s.cells ts sv)] [.x (.pointer (some ⟨b,0,none⟩))] (fun r H'=>∃s' ns,r=.sq ns.length (sa ns)∧H'=[.box b (PS.cells s' ts sv)]∧Got ts s (XbR (Xc9 ts) 1 ts s.k []) s' ns∧ns.length≤s'.k):=by
 obtain ⟨k,e,l,c⟩:=s
 simp only at hk
 refine XaD Tryz.func210 rfl ?_
 simp only [Tryz.ntmps210,Xvy,XvB,XvC,XvD,XvG,XvF,Nat.reduceAdd,Nat.reduceSub]
 (repeat' (first|with_reducible (first|refine Xag ?_|refine Xac ?_|refine Xao ?_|refine Xae ?_|refine Xaa ?_)|((apply Xad rfl);(case h=>(apply Xab 0 rfl;(exact Xan _ rfl)));(case hT=>((try simp only [wtn]);rfl)))|fail))
 refine Xbt 9 1 ?_
 refine XaQ (S:=Nat × Int × Int × Int × List (List UInt8) × Option Addr × Nat) (fun s=>frm 38 [(0,.x (.pointer (some ⟨b,0,none⟩))),(3,.x (.slice s.2.2.2.2.2.1 s.2.2.2.2.1.length s.2.2.2.2.2.2))])
  (fun s=>[.box b (pc ts s.1 s.2.1 s.2.2.1 s.2.2.2.1 sv),.row s.2.2.2.2.2.1 s.2.2.2.2.1.length s.2.2.2.2.2.2 9 1 (sa s.2.2.2.2.1)]) (fun s=>s.1 < ts.length∧s.2.2.2.2.1.length≤s.1∧∀s' v,Got ts ⟨s.1,s.2.1,s.2.2.1,s.2.2.2.1⟩ (XbR (Xc9 ts) 1 ts s.1 s.2.2.2.2.1) s' v→Got ts ⟨k,e,l,c⟩ (XbR (Xc9 ts) 1 ts k []) s' v) (fun s=>ts.length - s.1) (k,e,l,c,[],none,0) ?a ⟨hk,Nat.zero_le _,fun _ _ h=>h⟩ fun s hs=>?_
 case a=>exact XaH.mk' [] [_,_] (List.Perm.swap _ _ _) (XaB.refl _ _) (by (repeat' (first|exact VwL.nil|(refine VwL.cons ?_ ?_)|exact Vw.refl _|exact Vw.top _|fail)))
 obtain ⟨kk,ee,ll,cc,ns,ad,cap⟩:=s
 obtain ⟨g2,g4,g5⟩:=hs
 simp only at g2 g4 g5
 have g6:=Lib.hid g5
 clear g5
 have hv':=fun k=>Xk7 hv (s:=[44]) k
 have hT:=Xpl b ts ⟨kk,ee,ll,cc⟩ sv hsv 1 32 g2 hl hv (by decide)
 simp only [Xbm g2] at hT
 replace hT:=hT.mono (Q':=fun r H'=>∃k1 e1 l1 c1,r=ts[kk].av∧H'=[.box b (pc ts k1 e1 l1 c1 sv)]∧k1 < ts.length∧Got ts ⟨kk,ee,ll,cc⟩ ((Xbf ts kk 1 32).map fun t=>(t,kk+1)) ⟨k1,e1,l1,c1⟩ ts[kk]) (by rintro r H' ⟨⟨k1,e1,l1,c1⟩,h1,h2,h3⟩;exact ⟨k1,e1,l1,c1,h1,h2,h3.1,h3⟩)
 simp only [frm,XvC,XvD,Xvw,Xvx,XvJ,XvK]
 (repeat' (first|with_reducible (first|refine Xag ?_|refine Xac ?_|refine Xao ?_|refine Xar ?_|refine Xau ?_|refine Xae ?_|refine Xaa ?_|refine Xax ?_|refine Xaj ?_|refine Xav ?_)|(refine Xak _ rfl (fun h=>?_) (fun h=>?_)<;>first|(exact absurd h (by decide))|((try (simp only [whn] at h));skip))|((apply Xad rfl);(case h=>(first|(apply Xab 0 rfl;(first|exact Xap _ rfl|exact Xan _ rfl))|(apply Xab 4 rfl;(exact Xbl _ rfl (by first|exact .inl ⟨_,rfl⟩|fail)))|(apply Xab 5 rfl;(exact Xal _ _ _ _ _ _ rfl rfl Xa5.out))|(apply Xab 6 rfl;(exact Xaz _ _ _ _ _ _ _ _ rfl rfl XaS.out XaN.out (by first|exact Xvu rfl|fail) (by first|exact Xvu rfl|fail)))|(apply Xab 11 rfl;(first|exact Xa9 189 Tryz.f189 _ _ rfl rfl Tryz.func189 (by decide) rfl (by (repeat' (first|exact VwL.nil|(refine VwL.cons ?_ ?_)|exact Vw.box (List.Mem.tail _ (List.Mem.head _)) (VwL.refl _ _)|fail));done) (Xca ts _ _ _ _ sv)|exact Xa9 206 Tryz.f206 _ _ rfl rfl Tryz.func206 (by decide) rfl (by (repeat' (first|exact VwL.nil|(refine VwL.cons ?_ ?_)|exact Vw.refl _|exact Vw.row (List.Mem.tail _ (List.Mem.tail _ (List.Mem.head _))) (VwL.refl _ _)|fail));done) (XlA ns _ (by omega))|exact Xa9 201 Tryz.f201 _ _ rfl rfl Tryz.func201 (by decide) rfl (by (repeat' (first|exact VwL.nil|(refine VwL.cons ?_ ?_)|exact Vw.refl _|exact Vw.box (List.Mem.tail _ (List.Mem.head _)) (VwL.refl _ _)|exact Vw.box (List.Mem.tail _ (List.Mem.tail _ (List.Mem.head _))) (VwL.refl _ _)|fail));done) (XuV ts k1 _ _ _ sv [44] g0 hl)))|(apply XaC;(case hs=>(intro _ _ h;cases h));(case hx=>rfl);(case hrun=>(intro w;simp [wtb,AV.val,go_sem];(try go_bits);rfl)))));(case hT=>((try simp (disch:=omega) only [wtn,pc,PS.cells,Tok.av,Xvz,Xvw,Xvx,XvA,XvE,Nat.reduceAdd,Nat.reduceMul,Nat.reduceSub,↓reduceIte,Nat.reduceEqDiff]);rfl)))|(refine Xai rfl ?_;((first|(refine Xas 11 rfl ?_;(first|(refine Xam 203 Tryz.f203 [_] _ _ _ rfl rfl Tryz.func203 (by decide) rfl (Xvv _) (VwL.refl _ _) (hT) ?_;rintro _ _ ⟨k1,e1,l1,c1,rfl,rfl,g0,g1⟩)|(refine Xam 202 Tryz.f202 [_] _ _ _ rfl rfl Tryz.func202 (by decide) rfl (XvI (l₁:=[_])) (VwL.refl _ _) (Xn2 _ ts k1 _ _ _ sv hsv _ ts[kk] (by omega)) ?_;rintro _ _ ⟨rfl,rfl⟩)|(refine Xam 202 Tryz.f202 [_] _ _ _ rfl rfl Tryz.func202 (by decide) rfl (Xvv _) (VwL.refl _ _) (Xn3 _ ts k1 _ _ _ sv hsv _ ts[kk] (by omega)) ?_;rintro _ _ ⟨rfl,rfl⟩)))|(refine Xas 13 rfl ?_;(refine XaP _ _ _ _ _ _ _ _ _ _ _ _ _ _ rfl rfl Xb3.out (Src.row _ rfl Xb3.out) XaY.out (by first|rfl|fail) (XdQ _ _ (by omega) (by decide)) (fun ad cap=>?_)))|(refine Xas 14 rfl ?_;(refine XaK _ _ rfl Xbk.out rfl (fun b=>?_)))|(refine Xas 16 rfl ?_;(refine Xaw _ _ _ _ _ _ _ rfl rfl XaS.out XaR.out (by first|rfl|fail) (by first|exact Xvu rfl|fail) ?_))|(refine Xas 17 rfl ?_;(refine XaE _ _ _ _ _ _ _ _ rfl XaY.out (by first|rfl|fail) rfl (by decide) rfl (fun b=>?_))));apply Xah;(case hT=>((try simp (disch:=omega) only [wtn,pc,PS.cells,Tok.av,Xvz,Xvw,Xvx,XvA,XvE,Nat.reduceAdd,Nat.reduceMul,Nat.reduceSub,↓reduceIte,Nat.reduceEqDiff]);rfl));(case hH=>((try simp (disch:=omega) only [wtn,pc,PS.cells,Tok.av,Xvz,Xvw,Xvx,XvA,XvE,Nat.reduceAdd,Nat.reduceMul,Nat.reduceSub,↓reduceIte,Nat.reduceEqDiff]);rfl))))|fail))
 all_goals first
  | (refine Xaf _ _ (Xbh rfl (RV.tmp _) (XaH.mk' [_,_] [_] (.cons _ (List.Perm.swap _ _ _)) (XaB.refl _ _) (VwL.cons Vw.nil VwL.nil))) ?_
     exact ⟨⟨k1,e1,l1,c1⟩,[],rfl,rfl,g6.out _ _ ((Got.bind (y:=fun x q=>if q < ts.length∧gIs ts q [44]=true then XbR (Xc9 ts) 1 ts (q+1) (ns++[x]) else .ok (ns++[x],q)) ((Got.bind (y:=fun t q=>(Xfo ns t).map fun x=>(x,q)) g1 (Got.bad g1.1 (by assumption) _ ts[kk].text)).of (XfZ ts kk ns)) (Got.bad g1.1 (by assumption) _ _)).of (XeW _ _ _ _ _)),Nat.zero_le _⟩)
  | (have hk1:=hv' k1 g0 h.2
     refine ⟨(k1+1,e1,l1,c1,ns++[ts[kk].text],ad,cap),?_,⟨?_,?_,?_⟩,?_⟩
     rotate_left 4
     ·simp only [Xjz,XvH,Xvy,XvB]
      exact XaH.mk' [_,_] [_,_] (Xvv _) (XaB.refl _ _) (by (repeat' (first|exact VwL.nil|(refine VwL.cons ?_ ?_)|exact Vw.refl _|exact Vw.top _|fail)))
     ·have q:=(g1.ok (by assumption)).2.1;have q2:=Got.next q;simp only at q2 ⊢;omega
     ·simp only;omega
     ·have q:=(g1.ok (by assumption)).2.1;have q2:=Got.next q;simp only at q2;simp only [XvH,Xvy,XvB];omega
     ·intro s' v hg
      simp only at hg
      exact g6.out _ _ ((Got.bind (y:=fun x q=>if q < ts.length∧gIs ts q [44]=true then XbR (Xc9 ts) 1 ts (q+1) (ns++[x]) else .ok (ns++[x],q)) ((Got.bind (y:=fun t q=>(Xfo ns t).map fun x=>(x,q)) g1 ((Got.pure g1.1 ts[kk].text).of (by rw [Xfo,if_neg (by omega),if_neg (by simpa using ‹¬ts[kk].text∈ns›)];rfl))).of (XfZ ts kk ns)) ((hg.step (by assumption) (Nat.le_succ _)).of (if_pos ⟨g0,h.2⟩))).of (XeW _ _ _ _ _)))
  | (refine Xaf _ _ (Xbh rfl (RV.tmp _) (XaH.mk' [_,_,_] [_] (.cons _ (.cons _ (List.Perm.swap _ _ _))) (XaB.refl _ _) (VwL.cons (Vw.row (List.Mem.tail _ (List.Mem.tail _ (List.Mem.head _))) (VwL.refl _ _)) VwL.nil))) ?_
     refine ⟨⟨k1,_,_,_⟩,ns++[ts[kk].text],?_,rfl,g6.out _ _ ((Got.last (y:=fun x q=>if q < ts.length∧gIs ts q [44]=true then XbR (Xc9 ts) 1 ts (q+1) (ns++[x]) else .ok (ns++[x],q)) ((Got.bind (y:=fun t q=>(Xfo ns t).map fun x=>(x,q)) (b:=ts[kk].text) g1 ?_).of (XfZ ts kk ns)) ?_).of (XeW _ _ _ _ _)),?_⟩
     ·simp only [Xjz,XvH,Xvy,XvB];rfl
     ·first
       | exact (Got.err g1.1 (by assumption) 1 (by decide) ts[kk] _).of (by rw [Xfo,if_pos (by omega)];rfl)
       | exact (Got.err g1.1 (by assumption) 5 (by decide) ts[kk] _).of (by rw [Xfo,if_neg (by omega),if_pos (by simpa using ‹ts[kk].text∈ns›)];rfl)
       | exact (Got.pure g1.1 ts[kk].text).of (by rw [Xfo,if_neg (by omega),if_neg (by simpa using ‹¬ts[kk].text∈ns›)];rfl)
     ·first
       | (refine Got.bad ?_ ?_ _ _;(exact g1.1);(simp only;decide))
       | exact (Got.pure g1.1 _).of (by rw [if_neg (by simp_all)])
     ·simp only [XvH,Xvy,XvB]
      have q:=Got.next (g1.ok (by assumption)).2.1
      simp only at q
      omega)
  | (refine Xaf _ _ (Xbh rfl (RV.tmp _) (XaH.mk' [_,_,_] [_] (.cons _ (XvI (l₁:=[_,_]) (l₂:=[])).symm) (XaB.refl _ _) (VwL.cons (Vw.row (List.Mem.tail _ (List.Mem.tail _ (List.Mem.head _))) (VwL.refl _ _)) VwL.nil))) ?_
     refine ⟨⟨k1,_,_,_⟩,ns++[ts[kk].text],?_,rfl,g6.out _ _ ((Got.last (y:=fun x q=>if q < ts.length∧gIs ts q [44]=true then XbR (Xc9 ts) 1 ts (q+1) (ns++[x]) else .ok (ns++[x],q)) ((Got.bind (y:=fun t q=>(Xfo ns t).map fun x=>(x,q)) (b:=ts[kk].text) g1 ?_).of (XfZ ts kk ns)) ?_).of (XeW _ _ _ _ _)),?_⟩
     ·simp only [Xjz,XvH,Xvy,XvB];rfl
     ·first
       | exact (Got.err g1.1 (by assumption) 1 (by decide) ts[kk] _).of (by rw [Xfo,if_pos (by omega)];rfl)
       | exact (Got.err g1.1 (by assumption) 5 (by decide) ts[kk] _).of (by rw [Xfo,if_neg (by omega),if_pos (by simpa using ‹ts[kk].text∈ns›)];rfl)
       | exact (Got.pure g1.1 ts[kk].text).of (by rw [Xfo,if_neg (by omega),if_neg (by simpa using ‹¬ts[kk].text∈ns›)];rfl)
     ·first
       | (refine Got.bad ?_ ?_ _ _;(exact g1.1);(simp only;decide))
       | exact (Got.pure g1.1 _).of (by rw [if_neg (by simp_all)])
     ·simp only [XvH,Xvy,XvB]
      have q:=Got.next (g1.ok (by assumption)).2.1
      simp only at q
      omega)
theorem Xq0 (s:List UInt8):Xa3 Tryz.prog 208 [] [.x (.string (bs s))] (fun r H'=>r=.x (.int .i64 (XmZ s))∧H'=[]):=XlF s
theorem XhE (b:Nat) (ts:List Tok) (k:Nat) (e l c:Int) (sv:AV) (hsv:sv.one=true) (kind:Int) (most:Nat) (hk:k < ts.length) (hl:ts.length≤1000000) (hv:VT ts) (hkd:kind≠6) :
  Xa3 Tryz.prog 203 [.box b (pc ts k e l c sv)] [.x (.pointer (some ⟨b,0,none⟩)),.x (.int .i64 kind),.x (.int .i64 most)] (fun r H'=>∃k1 e1 l1 c1,r=(ts[k]'hk).av∧H'=[.box b (pc ts k1 e1 l1 c1 sv)]∧k1 < ts.length∧Got ts ⟨k,e,l,c⟩ ((Xbf ts k kind most).map fun t=>(t,k+1)) ⟨k1,e1,l1,c1⟩ ts[k]):=by
 have h:=Xpl b ts ⟨k,e,l,c⟩ sv hsv kind most hk hl hv hkd
 simp only [Xbm hk] at h
 exact h.mono fun r H' ⟨⟨k1,e1,l1,c1⟩,h1,h2,h3⟩=>⟨k1,e1,l1,c1,h1,h2,h3.1,h3⟩
theorem XlE (b:Nat) (ts:List Tok) (k:Nat) (e l c:Int) (sv:AV) (hsv:sv.one=true) (t:List UInt8) (hk:k < ts.length) (hl:ts.length≤1000000) (hv:VT ts) :
  Xa3 Tryz.prog 204 [.box b (pc ts k e l c sv)] [.x (.pointer (some ⟨b,0,none⟩)),.x (.string (bs t))] (fun r H'=>∃k1 e1 l1 c1,r=.x (.tuple #[])∧H'=[.box b (pc ts k1 e1 l1 c1 sv)]∧k1 < ts.length∧Got ts ⟨k,e,l,c⟩ ((Xb5 ts k t).map fun u=>(u,k+1)) ⟨k1,e1,l1,c1⟩ ()):=
 (Xul b ts ⟨k,e,l,c⟩ sv hsv t hk hl hv).mono fun r H' ⟨⟨k1,e1,l1,c1⟩,h1,h2,h3⟩=>⟨k1,e1,l1,c1,h1,h2,h3.1,h3⟩
theorem XdC (b:Nat) (ts:List Tok) (k:Nat) (e l c:Int) (sv:AV) (hsv:sv.one=true) (hk:k < ts.length) (hl:ts.length≤1000000) (hv:VT ts) (hN:XeI ts) :
  Xa3 Tryz.prog 212 [.box b (pc ts k e l c sv)] [.x (.pointer (some ⟨b,0,none⟩))] (fun r H'=>∃k1 e1 l1 c1 n,r=.x (.int .u64 n)∧H'=[.box b (pc ts k1 e1 l1 c1 sv)]∧k1 < ts.length∧Got ts ⟨k,e,l,c⟩ ((Xc1 ts k).map fun n=>(n,k+1)) ⟨k1,e1,l1,c1⟩ n):=
 (Xqy b ts ⟨k,e,l,c⟩ sv hsv hk hl hv hN).mono fun r H' ⟨⟨k1,e1,l1,c1⟩,n,h1,h2,h3⟩=>⟨k1,e1,l1,c1,n,h1,h2,h3.1,h3⟩
theorem Got.nx {α:Type} {ts:List Tok} {s:PS} {k2 k1:Nat} {e1 l1 c1:Int} {x:Except Flt α} {v:α} (h:Got ts s (x.map fun a=>(a,k2)) ⟨k1,e1,l1,c1⟩ v) (he:e1=0):k1=k2∧s.e=0:=⟨Got.next (h.ok he).2.1,(h.ok he).1⟩
def Xg4 (out:List (Int × Int)) (t:Tok):Except Flt Int:=if 5≤out.length then .error (flt 1 t) else if XmZ t.text=0 then .error (flt 4 t) else .ok (XmZ t.text)
theorem Xqa (ts:List Tok) (k:Nat) (out:List (Int × Int)):(Xdd ts k out).map (fun x=>(x,k+2))=((Xbf ts k 1 8192).map fun t=>(t,k+1)) >>= fun p=>((Xg4 out p.1).map fun x=>(x,p.2)) >>= fun q=>((Xc1 ts q.2).map fun n=>(n,q.2+1)).map fun n=>((q.1,n.1),n.2):=by
 unfold Xdd Xg4
 cases Xbf ts k 1 8192 with
 | error f=>rfl
 | ok t=>
   simp only [Except.map,bind,Except.bind]
   by_cases h:5≤out.length
   ·rw [if_pos h,if_pos h]
   ·rw [if_neg h,if_neg h]
    by_cases h2:XmZ t.text=0
    ·rw [if_pos h2,if_pos h2]
    ·rw [if_neg h2,if_neg h2]
     cases h3:Xc1 ts (k+1)<;>simp [h3]
theorem XgI {ts:List Tok} {s s1 s2 s3 s4:PS} {rs:List (Int × Int)} {t:Tok} {sg n:Int} {v:List (Int × Int)}
  (g1:Got ts s ((Xbf ts s.k 1 8192).map fun t=>(t,s.k+1)) s1 t) (g2:Got ts s1 ((Xg4 rs t).map fun x=>(x,s1.k)) s2 sg) (g3:Got ts s2 ((Xc1 ts s2.k).map fun n=>(n,s2.k+1)) s3 n)
  (g4:Got ts s3 (if s3.k < ts.length∧gIs ts s3.k [44]=true then XbR (Xdd ts) 2 ts (s3.k+1) (rs++[(sg,n)]) else .ok (rs++[(sg,n)],s3.k)) s4 v):Got ts s (XbR (Xdd ts) 2 ts s.k rs) s4 v:=by
 refine (Got.bind (y:=fun x q=>if q < ts.length∧gIs ts q [44]=true then XbR (Xdd ts) 2 ts (q+1) (rs++[x]) else .ok (rs++[x],q)) (a:=(sg,n)) ?_ g4).of (XeW _ _ _ _ _)
 refine (Got.bind (y:=fun t q=>((Xg4 rs t).map fun x=>(x,q)) >>= fun q=>((Xc1 ts q.2).map fun n=>(n,q.2+1)).map fun n=>((q.1,n.1),n.2)) g1 ?_).of (Xqa ts s.k rs)
 exact Got.bind (y:=fun x q=>((Xc1 ts q).map fun n=>(n,q+1)).map fun n=>((x,n.1),n.2)) g2 (g3.val fun n=>(sg,n))
theorem Xqj (b:Nat) (ts:List Tok) (k:Nat) (e l c:Int) (sv:AV) (hsv:sv.one=true) (hk:k < ts.length) (hl:ts.length≤1000000) (hv:VT ts) (hN:XeI ts) :
  Xa3 Tryz.prog 214 [.box b (pc ts k e l c sv)] [.x (.pointer (some ⟨b,0,none⟩))] (fun r H'=>∃k1 e1 l1 c1,∃rs:List (Int × Int),r=.sq rs.length (ra rs)∧H'=[.box b (pc ts k1 e1 l1 c1 sv)]∧k1 < ts.length∧Got ts ⟨k,e,l,c⟩ (XbR (Xdd ts) 2 ts k []) ⟨k1,e1,l1,c1⟩ rs∧rs.length≤k1):=by
 have hN':=Lib.hid hN
 clear hN
 refine XaD Tryz.func214 rfl ?_
 simp only [Tryz.ntmps214,Xvy,XvB,XvC,XvD,XvG,XvF,Nat.reduceAdd,Nat.reduceSub]
 (repeat' (first|with_reducible (first|refine Xag ?_|refine Xac ?_|refine Xao ?_|refine Xae ?_|refine Xaa ?_)|((apply Xad rfl);(case h=>(apply Xab 0 rfl;(exact Xan _ rfl)));(case hT=>((try simp only [wtn]);rfl)))|fail))
 refine Xbt 53 2 ?_
 refine XaQ (S:=Nat × Int × Int × Int × List (Int × Int) × Option Addr × Nat) (fun s=>frm 42 [(0,.x (.pointer (some ⟨b,0,none⟩))),(3,.x (.slice s.2.2.2.2.2.1 s.2.2.2.2.1.length s.2.2.2.2.2.2))])
  (fun s=>[.box b (pc ts s.1 s.2.1 s.2.2.1 s.2.2.2.1 sv),.row s.2.2.2.2.2.1 s.2.2.2.2.1.length s.2.2.2.2.2.2 53 2 (ra s.2.2.2.2.1)]) (fun s=>s.1 < ts.length∧s.2.2.2.2.1.length≤s.1∧∀s' v,Got ts ⟨s.1,s.2.1,s.2.2.1,s.2.2.2.1⟩ (XbR (Xdd ts) 2 ts s.1 s.2.2.2.2.1) s' v→Got ts ⟨k,e,l,c⟩ (XbR (Xdd ts) 2 ts k []) s' v) (fun s=>ts.length - s.1) (k,e,l,c,[],none,0) ?a ⟨hk,Nat.zero_le _,fun _ _ h=>h⟩ fun s hs=>?_
 case a=>exact XaH.mk' [] [_,_] (List.Perm.swap _ _ _) (XaB.refl _ _) (by (repeat' (first|exact VwL.nil|(refine VwL.cons ?_ ?_)|exact Vw.refl _|exact Vw.top _|fail)))
 obtain ⟨kk,ee,ll,cc,rs,ad,cap⟩:=s
 obtain ⟨g2,g4,g5⟩:=hs
 simp only at g2 g4 g5
 have g6:=Lib.hid g5
 clear g5
 have hv':=fun k=>Xk7 hv (s:=[44]) k
 simp only [frm,XvC,XvD,Xvw,Xvx,XvJ,XvK]
 (repeat' (first|with_reducible (first|refine Xag ?_|refine Xac ?_|refine Xao ?_|refine Xar ?_|refine Xau ?_|refine Xae ?_|refine Xaa ?_|refine Xax ?_|refine Xaj ?_|refine Xav ?_)|(refine Xak _ rfl (fun h=>?_) (fun h=>?_)<;>((try (simp only [whn] at h));skip))|((apply Xad rfl);(case h=>(first|(apply Xab 0 rfl;(first|exact Xap _ rfl|exact Xan _ rfl))|(apply Xab 4 rfl;(exact Xbl _ rfl (by first|exact .inl ⟨_,rfl⟩|fail)))|(apply Xab 5 rfl;(exact Xal _ _ _ _ _ _ rfl rfl Xa5.out))|(apply Xab 6 rfl;(exact Xaz _ _ _ _ _ _ _ _ rfl rfl XaS.out XaN.out (by first|exact Xvu rfl|fail) (by first|exact Xvu rfl|fail)))|(apply Xab 10 rfl;(exact Xa1 _ _ _ _ _ rfl HPl.out (by first|rfl|fail) rfl))|(apply Xab 11 rfl;(first|exact Xa9 189 Tryz.f189 _ _ rfl rfl Tryz.func189 (by decide) rfl (by (repeat' (first|exact VwL.nil|(refine VwL.cons ?_ ?_)|exact Vw.box (List.Mem.tail _ (List.Mem.head _)) (VwL.refl _ _)|fail));done) (Xca ts _ _ _ _ sv)|exact Xay 208 Tryz.f208 _ _ rfl rfl Tryz.func208 (by decide) rfl (VwL.refl _ _) (Xq0 _)|exact Xa9 201 Tryz.f201 _ _ rfl rfl Tryz.func201 (by decide) rfl (by (repeat' (first|exact VwL.nil|(refine VwL.cons ?_ ?_)|exact Vw.refl _|exact Vw.box (List.Mem.tail _ (List.Mem.head _)) (VwL.refl _ _)|fail));done) (XuV ts k3 _ _ _ sv [44] q3 hl)))|(apply XaC;(case hs=>(intro _ _ h;cases h));(case hx=>rfl);(case hrun=>(intro w;simp [wtb,AV.val,go_sem];(try go_bits);rfl)))));(case hT=>((try simp (disch:=omega) only [wtn,pc,PS.cells,Tok.av,Xvz,Xvw,Xvx,XvA,XvE,Nat.reduceAdd,Nat.reduceMul,Nat.reduceSub,↓reduceIte,Nat.reduceEqDiff]);rfl)))|(refine Xai rfl ?_;((first|(refine Xas 11 rfl ?_;(first|(refine Xam 203 Tryz.f203 [_] _ _ _ rfl rfl Tryz.func203 (by decide) rfl (Xvv _) (VwL.refl _ _) (XhE _ ts kk _ _ _ sv hsv 1 8192 (by assumption) hl hv (by decide)) ?_;rintro _ _ ⟨k1,e1,l1,c1,rfl,rfl,q1,g1⟩)|(refine Xam 202 Tryz.f202 [_] _ _ _ rfl rfl Tryz.func202 (by decide) rfl (XvI (l₁:=[_])) (VwL.refl _ _) (Xn2 _ ts k1 _ _ _ sv hsv _ ts[kk] (by omega)) ?_;rintro _ _ ⟨rfl,rfl⟩)|(refine Xam 202 Tryz.f202 [_] _ _ _ rfl rfl Tryz.func202 (by decide) rfl (Xvv _) (VwL.refl _ _) (Xn3 _ ts k1 _ _ _ sv hsv _ ts[kk] (by omega)) ?_;rintro _ _ ⟨rfl,rfl⟩)|(refine Xam 212 Tryz.f212 [_] _ _ _ rfl rfl Tryz.func212 (by decide) rfl (Xvv _) (VwL.refl _ _) (XdC _ ts k1 _ _ _ sv hsv q1 hl hv hN'.out) ?_;rintro _ _ ⟨k3,e3,l3,c3,n3,rfl,rfl,q3,g3⟩)|(refine Xam 212 Tryz.f212 [_] _ _ _ rfl rfl Tryz.func212 (by decide) rfl (XvI (l₁:=[_])) (VwL.refl _ _) (XdC _ ts k1 _ _ _ sv hsv q1 hl hv hN'.out) ?_;rintro _ _ ⟨k3,e3,l3,c3,n3,rfl,rfl,q3,g3⟩)))|(refine Xas 13 rfl ?_;(refine XaP _ _ _ _ _ _ _ _ _ _ _ _ _ _ rfl rfl Xb3.out (Src.row _ rfl Xb3.out) XaY.out (by first|rfl|fail) (XdQ _ _ (by omega) (by decide)) (fun ad cap=>?_)))|(refine Xas 14 rfl ?_;(refine XaK _ _ rfl Xbk.out rfl (fun b=>?_)))|(refine Xas 16 rfl ?_;(refine Xaw _ _ _ _ _ _ _ rfl rfl XaS.out XaR.out (by first|rfl|fail) (by first|exact Xvu rfl|fail) ?_))|(refine Xas 17 rfl ?_;(refine XaE _ _ _ _ _ _ _ _ rfl XaY.out (by first|rfl|fail) rfl (by decide) rfl (fun b=>?_))));apply Xah;(case hT=>((try simp (disch:=omega) only [wtn,pc,PS.cells,Tok.av,Xvz,Xvw,Xvx,XvA,XvE,Nat.reduceAdd,Nat.reduceMul,Nat.reduceSub,↓reduceIte,Nat.reduceEqDiff]);rfl));(case hH=>((try simp (disch:=omega) only [wtn,pc,PS.cells,Tok.av,Xvz,Xvw,Xvx,XvA,XvE,Nat.reduceAdd,Nat.reduceMul,Nat.reduceSub,↓reduceIte,Nat.reduceEqDiff]);rfl))))|fail))
 all_goals first
  | (refine Xaf _ _ (Xbh rfl (RV.tmp _) (XaH.mk' [_,_] [_] (.cons _ (List.Perm.swap _ _ _)) (XaB.refl _ _) (VwL.cons Vw.nil VwL.nil))) ?_
     exact ⟨k1,e1,l1,c1,[],rfl,rfl,q1,g6.out _ _ (XgI (sg:=0) (n:=0) g1 (Got.bad q1 (by assumption) _ _) (Got.bad q1 (by assumption) _ _) (Got.bad q1 (by assumption) _ _)),Nat.zero_le _⟩)
  | (have hk1:=hv' k3 q3 h.2
     have hx:=g1.nx (by assumption)
     have hy:=g3.2.1
     simp only at hy
     refine ⟨(k3+1,e3,l3,c3,rs++[(XmZ ts[kk].text,n3)],ad,cap),?_,⟨?_,?_,?_⟩,?_⟩
     rotate_left 4
     ·simp only [XoW,XvH,Xvy,XvB]
      exact XaH.mk' [_,_] [_,_] (.cons _ (List.Perm.swap _ _ _)) (XaB.refl _ _) (by (repeat' (first|exact VwL.nil|(refine VwL.cons ?_ ?_)|exact Vw.refl _|exact Vw.top _|fail)))
     ·simp only;omega
     ·simp only;omega
     ·simp only [XvH,Xvy,XvB];omega
     ·intro s' v hg
      simp only at hg
      refine g6.out _ _ (XgI (sg:=XmZ ts[kk].text) g1 ?_ g3 ((hg.step h.1 (Nat.le_succ _)).of (if_pos ⟨q3,h.2⟩)))
      first
       | exact (Got.err q1 (by assumption) 1 (by decide) ts[kk] _).of (by rw [Xg4,if_pos (by omega)];rfl)
       | exact (Got.err q1 (by assumption) 4 (by decide) ts[kk] _).of (by rw [Xg4,if_neg (by omega),if_pos (by assumption)];rfl)
       | exact (Got.pure q1 _).of (by rw [Xg4,if_neg (by omega),if_neg (by assumption)];rfl))
  | (have hx:=g1.nx (by assumption)
     have hy:=g3.2.1
     simp only at hy
     first
      | refine Xaf _ _ (Xbh rfl (RV.tmp _) (XaH.mk' [_,_,_] [.box _ (pc ts k3 e3 l3 c3 sv)] (.cons _ (XvI (l₁:=[_,_]) (l₂:=[])).symm) (XaB.refl _ _) (VwL.cons (Vw.row (List.Mem.tail _ (List.Mem.tail _ (List.Mem.head _))) (VwL.refl _ _)) VwL.nil))) ?_
      | refine Xaf _ _ (Xbh rfl (RV.tmp _) (XaH.mk' [_,_,_] [.box _ (pc ts k3 e3 l3 c3 sv)] (.cons _ (.cons _ (List.Perm.swap _ _ _))) (XaB.refl _ _) (VwL.cons (Vw.row (List.Mem.tail _ (List.Mem.tail _ (List.Mem.head _))) (VwL.refl _ _)) VwL.nil))) ?_
     refine ⟨k3,e3,l3,c3,rs++[(XmZ ts[kk].text,n3)],?_,rfl,q3,g6.out _ _ (XgI (sg:=XmZ ts[kk].text) g1 ?_ g3 ?_),?_⟩
     ·simp only [XoW,XvH,Xvy,XvB];rfl
     ·first
       | exact (Got.err q1 (by assumption) 1 (by decide) ts[kk] _).of (by rw [Xg4,if_pos (by omega)];rfl)
       | exact (Got.err q1 (by assumption) 4 (by decide) ts[kk] _).of (by rw [Xg4,if_neg (by omega),if_pos (by assumption)];rfl)
       | exact (Got.pure q1 _).of (by rw [Xg4,if_neg (by omega),if_neg (by assumption)];rfl)
     ·by_cases he:e3=0
      ·exact (Got.pure q3 _).of (if_neg (fun hq=>by rcases h with h|h;exact h he;exact absurd (h▸hq.2) (by decide)))
      ·exact Got.bad q3 he _ _
     ·simp only [XvH,Xvy,XvB];omega)
def Xi1 (ts:List Tok) (k:Nat) (j:JF):Except Flt (JF × Nat):=do
 let n ←Xc1 ts k
 if n < 1∨16 < n then .error (flt 2 (tkA ts k)) else
 let m ←Xc1 ts (k+1)
 .ok ({ j with burst:=n,window:=m },k+2)
theorem Xn8 (ts:List Tok) (k:Nat) (j:JF):Xi1 ts k j=((Xc1 ts k).map fun n=>(n,k+1)) >>= fun p=>(if p.1 < 1∨16 < p.1 then .error (flt 2 (tkA ts k)) else .ok ((),p.2)) >>= fun q=>((Xc1 ts q.2).map fun n=>(n,q.2+1)).map fun m=>({ j with burst:=p.1,window:=m.1 },m.2):=by
 unfold Xi1
 cases Xc1 ts k with
 | error f=>rfl
 | ok n=>
   simp only [Except.map,bind,Except.bind]
   by_cases h:n < 1∨16 < n
   ·rw [if_pos h,if_pos h]
   ·rw [if_neg h,if_neg h]
    cases h3:Xc1 ts (k+1)<;>simp [h3]
theorem Xgi {ts:List Tok} {s s1 s2 s3:PS} {j:JF} {n m:Int} (g1:Got ts s ((Xc1 ts s.k).map fun n=>(n,s.k+1)) s1 n) (g2:Got ts s1 (if n < 1∨16 < n then .error (flt 2 (tkA ts s.k)) else .ok ((),s1.k)) s2 ()) (g3:Got ts s2 ((Xc1 ts s2.k).map fun n=>(n,s2.k+1)) s3 m):Got ts s (Xi1 ts s.k j) s3 { j with burst:=n,window:=m }:=by
 refine (Got.bind (y:=fun n q=>(if n < 1∨16 < n then .error (flt 2 (tkA ts s.k)) else .ok ((),q)) >>= fun q=>((Xc1 ts q.2).map fun n=>(n,q.2+1)).map fun m=>({ j with burst:=n,window:=m.1 },m.2)) g1 ?_).of (Xn8 ts s.k j)
 exact Got.bind (y:=fun _ q=>((Xc1 ts q).map fun n=>(n,q+1)).map fun m=>({ j with burst:=n,window:=m.1 },m.2)) g2 (g3.val fun m=>{ j with burst:=n,window:=m })
theorem XfD (b:Nat) (ts:List Tok) (k:Nat) (e l c:Int) (sv:AV) (hsv:sv.one=true) (e2:Int) (h2:e2≠0) (t:Tok) (hk:k < ts.length):Xa3 Tryz.prog 202 [.box b (pc ts k e l c sv)] [.x (.pointer (some ⟨b,0,none⟩)),.x (.int .i64 e2),t.av] (fun r H'=>∃e1 l1 c1,r=.x (.tuple #[])∧H'=[.box b (pc ts k e1 l1 c1 sv)]∧(e1≠0)∧Got ts ⟨k,e,l,c⟩ (.error (flt e2 t):Except Flt (Unit × Nat)) ⟨k,e1,l1,c1⟩ ()):=by
 refine (Xgr b ts ⟨k,e,l,c⟩ sv hsv e2 t).mono fun r H' ⟨h1,h3⟩=>?_
 have g:=Got.test (α:=Unit) (s:=⟨k,e,l,c⟩) hk e2 h2 t ()
 by_cases h:e=0
 ·simp only [PS.fail,if_pos h,PS.cells] at h3 g
  exact ⟨_,_,_,h1,h3,h2,g⟩
 ·simp only [PS.fail,if_neg h,PS.cells] at h3 g
  exact ⟨_,_,_,h1,h3,h,g⟩
theorem XrP (b:Nat) (ts:List Tok) (k:Nat) (e l c:Int) (sv:AV) (hsv:sv.one=true) (j:JF) (hk:k < ts.length) (hl:ts.length≤1000000) (hv:VT ts) (hN:XeI ts) :
  Xa3 Tryz.prog 213 [.box b (pc ts k e l c sv)] [.x (.pointer (some ⟨b,0,none⟩)),.agg j.cells] (fun r H'=>∃k1 e1 l1 c1 x y,r=.agg { j with burst:=x,window:=y }.cells∧H'=[.box b (pc ts k1 e1 l1 c1 sv)]∧k1 < ts.length∧Got ts ⟨k,e,l,c⟩ (Xi1 ts k j) ⟨k1,e1,l1,c1⟩ { j with burst:=x,window:=y }):=by
 have hN':=Lib.hid hN
 clear hN
 unfold JF.cells
 refine XaD Tryz.func213 rfl ?_
 simp only [Tryz.ntmps213,Xvy,XvB,XvC,XvD,XvG,XvF,Nat.reduceAdd,Nat.reduceSub]
 (repeat' (first|with_reducible (first|refine Xag ?_|refine Xac ?_|refine Xar ?_|refine Xau ?_|refine Xae ?_|refine Xaa ?_)|(refine Xak _ rfl (fun h=>?_) (fun h=>?_)<;>((try (simp only [whn] at h));skip))|((first|apply Xad rfl|apply Xa8 _ _ rfl rfl rfl);(case h=>((try (intro (hp:(_:Bool)=true);((try simp only [Bool.and_eq_true,Bool.not_eq_true'] at hp);(try simp only [hp,wte]);(try simp only [whn] at hp))));(first|(apply Xab 0 rfl;(first|exact Xap _ rfl|exact Xan _ rfl))|(apply Xab 1 rfl;(first|exact XbC _ _ _ _ _ rfl rfl rfl rfl|exact Xf7 _ _ _ _ _ rfl rfl rfl rfl))|(apply Xab 5 rfl;(exact Xal _ _ _ _ _ _ rfl rfl Xa5.out))|(apply Xab 6 rfl;(exact Xaz _ _ _ _ _ _ _ _ rfl rfl XaS.out XaN.out (by first|exact Xvu rfl|fail) (by first|exact Xvu rfl|fail)))|(apply Xab 11 rfl;(first|exact Xa9 189 Tryz.f189 _ _ rfl rfl Tryz.func189 (by decide) rfl (by (repeat' (first|exact VwL.nil|(refine VwL.cons ?_ ?_)|exact Vw.box (List.Mem.head _) (VwL.refl _ _)|fail));done) (Xca ts _ _ _ _ sv)|exact Xa9 187 Tryz.f187 _ _ rfl rfl Tryz.func187 (by decide) rfl (by (repeat' (first|exact VwL.nil|(refine VwL.cons ?_ ?_)|exact Vw.box (List.Mem.tail _ (List.Mem.tail _ (List.Mem.head _))) (VwL.refl _ _)|fail));done) (Xkx ts k _ _ _ sv hk hl)))|(apply XaC;(case hs=>(intro _ _ h;cases h));(case hx=>rfl);(case hrun=>(intro w;simp [wtb,AV.val,go_sem];(try go_bits);rfl))))));(case hT=>((try simp (disch:=omega) only [wtn,pc,Tok.av,Xvz,Xvw,Xvx,XvA,XvE,Nat.reduceAdd,Nat.reduceMul,Nat.reduceSub,↓reduceIte,Nat.reduceEqDiff]);rfl)))|(refine Xai rfl ?_;((first|(refine Xas 11 rfl ?_;(first|(refine Xam 212 Tryz.f212 [_] _ _ _ rfl rfl Tryz.func212 (by decide) rfl (XvI (l₁:=[_,_,_])) (VwL.refl _ _) (XdC _ ts k _ _ _ sv hsv hk hl hv hN'.out) ?_;rintro _ _ ⟨k1,e1,l1,c1,n1,rfl,rfl,q1,g1⟩)|(refine Xam 202 Tryz.f202 [_] _ _ _ rfl rfl Tryz.func202 (by decide) rfl (Xvv _) (VwL.refl _ _) (XfD _ ts k1 _ _ _ sv hsv _ (by decide) ts[k] q1) ?_;rintro _ _ ⟨e2,l2,c2,rfl,rfl,hz,g2⟩)|(refine Xam 212 Tryz.f212 [_] _ _ _ rfl rfl Tryz.func212 (by decide) rfl (Xvv _) (VwL.refl _ _) (XdC _ ts k1 _ _ _ sv hsv q1 hl hv hN'.out) ?_;rintro _ _ ⟨k3,e3,l3,c3,n3,rfl,rfl,q3,g3⟩)))|(refine Xas 14 rfl ?_;(refine XaK _ _ rfl Xbk.out rfl (fun b=>?_)))|(refine Xas 15 rfl ?_;(refine Xbo _ _ rfl (by first|rfl|fail) (fun b=>?_)))|(refine Xas 16 rfl ?_;(refine Xaw _ _ _ _ _ _ _ rfl rfl XaS.out XaR.out (by first|rfl|fail) (by first|exact Xvu rfl|fail) ?_)));apply Xah;(case hT=>((try simp (disch:=omega) only [wtn,pc,Tok.av,Xvz,Xvw,Xvx,XvA,XvE,Nat.reduceAdd,Nat.reduceMul,Nat.reduceSub,↓reduceIte,Nat.reduceEqDiff]);rfl));(case hH=>((try simp (disch:=omega) only [wtn,pc,Tok.av,Xvz,Xvw,Xvx,XvA,XvE,Nat.reduceAdd,Nat.reduceMul,Nat.reduceSub,↓reduceIte,Nat.reduceEqDiff]);rfl))))|fail))
 all_goals refine Xaf _ _ (Xbh rfl (RV.cell 2 rfl rfl XaN.out (by simp) (by simp)) (XaH.mk' [_,_,_] [_] (XvI (l₁:=[_,_,_]) (l₂:=[])).symm (XaB.refl _ _) (VwL.refl _ _))) ⟨k3,e3,l3,c3,_,_,rfl,rfl,q3,?_⟩
 ·exact (Xgi g1 (g2.of (by rw [Xbm hk];exact if_pos h.2)) g3).any (fun he=>hz (g3.ok he).1)
 ·by_cases he:e3=0
  ·have h1:=(g3.nx he).2
   have hn:¬(n1 < 1∨16 < n1):=by simp only at h1;omega
   rw [show wrap64 n1=n1 from by simp only [wrap64];omega]
   exact Xgi (j:=j) g1 ((Got.pure q1 ()).of (if_neg hn)) g3
  ·exact (Xgi (n:=n1) g1 (by
    by_cases h1:e1=0
    ·exact (Got.pure q1 ()).of (if_neg (by omega))
    ·exact Got.bad q1 h1 _ _) g3).any he
def XkY:List (List UInt8):=[[114,117,110],[101,110,118],[110,101,101,100,115],[114,101,97,100,121],[114,101,115,116,97,114,116],[98,97,99,107,111,102,102],[98,117,114,115,116],[115,116,111,112]]
theorem Xsr (s:List UInt8):Xa3 Tryz.prog 206 [] [.sq 8 [.x (.string ⟨#[114,117,110]⟩),.x (.string ⟨#[101,110,118]⟩),.x (.string ⟨#[110,101,101,100,115]⟩),.x (.string ⟨#[114,101,97,100,121]⟩),.x (.string ⟨#[114,101,115,116,97,114,116]⟩),.x (.string ⟨#[98,97,99,107,111,102,102]⟩),.x (.string ⟨#[98,117,114,115,116]⟩),.x (.string ⟨#[115,116,111,112]⟩)],.x (.string (bs s))] (fun r H'=>r=.x (.bool (decide (s∈XkY)))∧H'=[]):=by
 have e:([.x (.string ⟨#[114,117,110]⟩),.x (.string ⟨#[101,110,118]⟩),.x (.string ⟨#[110,101,101,100,115]⟩),.x (.string ⟨#[114,101,97,100,121]⟩),.x (.string ⟨#[114,101,115,116,97,114,116]⟩),.x (.string ⟨#[98,97,99,107,111,102,102]⟩),.x (.string ⟨#[98,117,114,115,116]⟩),.x (.string ⟨#[115,116,111,112]⟩)]:List AV)=sa XkY:=by simp [sa,XkY,bs]
 rw [e]
 exact XlA XkY s (by simp [XkY])
theorem Xss (s:List UInt8):Xa3 Tryz.prog 205 [] [.x (.string (bs s))] (fun r H'=>r=.x (.bool (decide (s∈XkY)))∧H'=[]):=by
 refine XaD Tryz.func205 rfl ?_
 simp only [Tryz.ntmps205,Xvy,XvB,XvC,XvD,XvG,XvF,Nat.reduceAdd,Nat.reduceSub]
 (repeat' (first|with_reducible (first|refine Xag ?_|refine Xac ?_|refine Xar ?_|refine Xae ?_|refine Xaa ?_)|((apply Xad rfl);(case h=>(first|(apply Xab 0 rfl;(first|exact Xap _ rfl|exact Xan _ rfl))|(apply Xab 11 rfl;(exact Xa9 206 Tryz.f206 _ _ rfl rfl Tryz.func206 (by decide) rfl (by (repeat' (first|exact VwL.nil|(refine VwL.cons ?_ ?_)|exact Vw.refl _|exact Vw.row (List.Mem.head _) (VwL.refl _ _)|fail));done) (Xsr s)))));(case hT=>((try simp only [wtn]);rfl)))|(refine Xai rfl ?_;((refine Xas 17 rfl ?_;(refine XaE _ _ _ _ _ _ _ _ rfl XaY.out (by first|rfl|fail) rfl (by decide) rfl (fun b=>?_)));apply Xah;(case hT=>((try simp only [wtn]);rfl));(case hH=>((try simp only [wtn]);rfl))))|fail))
 refine Xaf _ _ (Xbh rfl (RV.tmp _) (XaH.mk' [_] [] (Xvv _) (XaB.refl _ _) (by first|exact VwL.refl _ _|fail))) ?_
 exact ⟨rfl,rfl⟩
end Go.Proofs.YtdpobjakdplljaaGreatDoor

import Derived.Test.YtdlblokjfoggpaaGreatDoorW32
/- The program's parser: elements with commas between them. -/
set_option linter.unusedSimpArgs false
set_option linter.unusedVariables false
--%old
set_option maxRecDepth 100000
set_option maxHeartbeats 8000000
namespace Go.Proofs.YtdlblokjfoggpaaGreatDoor
open Go.RowKit
theorem Xj1 {α:Type} {el:Nat→List α→Except Flt α} {st:Nat} {ts:List Tok} {k:Nat} {out:List α} {a:α} (h:el k out=.ok a):Xc7 el st ts k out=if k+st < ts.length∧gIs ts (k+st) [44]=true then Xc7 el st ts (k+st+1) (out++[a]) else .ok (out++[a],k+st):=by
 rw [Xc7,h]
 simp only
 split<;>rfl
theorem XhV {α:Type} {el:Nat→List α→Except Flt α} {st:Nat} {ts:List Tok} {k:Nat} {out:List α} {f:Flt} (h:el k out=.error f):Xc7 el st ts k out=.error f:=by
 rw [Xc7,h]
theorem Xp7 {α τ:Type} (pb:Nat) (ts:List Tok) (hT:Xlx ts) (f:Nat) (fn:Func) (cs:Array Value) (hf:Tryz.prog.funcs[f]?=some fn) (hnn:fn.name≠ "runtime.NumGoroutine") (hb:fn.body.isSome=true) (Rest:τ→List Hp) (out:τ→List α) (el:Nat→List α→Except Flt α) (st:Nat) (Inv:Nat→τ→Prop)
  (hel:∀k x,k < ts.length→Inv k x→XcF Tryz.prog f (.box pb (tc ts k) :: Rest x) (cs.toList.map .x) (fun r H'=>r=.x (.tuple #[])∧∃x' a,H'=.box pb (tc ts (k+st)) :: Rest x'∧el k (out x)=.ok a∧out x'=out x++[a]∧k+st < ts.length∧Inv (k+st) x') (fun v _=>∃e,el k (out x)=.error e∧v=fv e))
  (hInv:∀k x,Inv k x→Inv (k+1) x) (k0:Nat) (x0:τ) (hk0:k0 < ts.length) (h0:Inv k0 x0) :
  XcF Tryz.prog 122 (.box pb (tc ts k0) :: Rest x0) [.x (.pointer (some ⟨pb,0,none⟩)),.x (.func (.func f) #[] cs)] (fun r H'=>r=.x (.tuple #[])∧∃k x,H'=.box pb (tc ts k) :: Rest x∧Xc7 el st ts k0 (out x0)=.ok (out x,k)∧k < ts.length∧Inv k x∧k0≤k) (fun v _=>∃e,Xc7 el st ts k0 (out x0)=.error e∧v=fv e):=by
 have hel':=Lib.hid hel
 clear hel
 have hl:=hT.len
 have hv':=fun k=>Xfy hT.vt (s:=[44]) k
 have hv:=Lib.hid hv'
 clear hv'
 refine XbT Tryz.func122 rfl ?_
 simp only [Tryz.ntmps122,Xvw,Xvz,XvA,XvB,XvE,XvD,Nat.reduceAdd,Nat.reduceSub]
 (repeat' (first|with_reducible (first|refine XaK ?_|refine Xah ?_|refine Xbg ?_|refine Xay ?_|refine Xac ?_|refine Xae ?_)|((apply Xao rfl);(case h=>((try (intro (hp:(_:Bool)=true);((try simp only [Bool.and_eq_true,Bool.not_eq_true',Bool.not_eq_true] at hp);(try simp only [hp,wte]);(try simp only [whn] at hp))));(apply Xad 0 rfl;(exact XaS _ rfl))));(case hT=>((try simp (disch:=omega) only [wtn,List.append_nil,Xvx,Xvu,Xvv,Xvy,XvC,Nat.reduceAdd,Nat.reduceMul,Nat.reduceSub,↓reduceIte,Nat.reduceEqDiff]);rfl)))|(refine XaD rfl ?_;refine XaB f fn (_ :: _) [] _ _ _ rfl rfl hf hnn hb (by simp) (VwL.refl _ _) (hel'.out k0 x0 hk0 h0) ?_ ?_;(case' refine_1=>(rintro _ _ ⟨rfl,x1,a1,rfl,e1,e2,e3,e4⟩;(apply Xam;(case hT=>((try simp (disch:=omega) only [wtn,List.append_nil,Xvx,Xvu,Xvv,Xvy,XvC,Nat.reduceAdd,Nat.reduceMul,Nat.reduceSub,↓reduceIte,Nat.reduceEqDiff]);rfl));(case hH=>((try simp (disch:=omega) only [wtn,List.append_nil,Xvx,Xvu,Xvv,Xvy,XvC,Nat.reduceAdd,Nat.reduceMul,Nat.reduceSub,↓reduceIte,Nat.reduceEqDiff]);rfl)))));(case' refine_2=>(rintro _ _ ⟨f1,e1,rfl⟩)))|fail))
 ·(repeat (with_reducible first|refine Xae ?_|fail));refine Xan _ _ (Xaq.mk' [] _ (Xvt _) (Xap.refl _ _) VwL.nil) ?_
  exact ⟨f1,XhV e1,rfl⟩
 refine XaA (S:=Nat × τ) (fun s=>frm 17 [(0,.x (.pointer (some ⟨pb,0,none⟩))),(1,.x (.func (.func f) #[] cs))]) (fun s=>.box pb (tc ts s.1) :: Rest s.2) (fun s=>s.1 < ts.length∧Inv s.1 s.2∧k0≤s.1∧Xc7 el st ts k0 (out x0)=if s.1 < ts.length∧gIs ts s.1 [44]=true then Xc7 el st ts (s.1+1) (out s.2) else .ok (out s.2,s.1)) (fun s=>ts.length - s.1) (k0+st,x1) (Xaq.mk' [] _ (Xvt _) (Xap.refl _ _) (by (repeat' (first|exact VwL.nil|(refine VwL.cons ?_ ?_)|exact Vw.refl _|exact Vw.top _|fail)))) ⟨e3,e4,Nat.le_add_right _ _,by rw [Xj1 e1,e2]⟩ fun s hs=>?_
 obtain ⟨k,x⟩:=s
 obtain ⟨g1,g2,g3,g4⟩:=hs
 simp only at g1 g2 g3 g4
 have g4':=Lib.hid g4
 clear g4 e1 e2
 simp only [frm,XvA,XvB,Xvu,Xvv,XvH,XvI]
 simp only [tc]
 (repeat' (first|with_reducible (first|refine XaK ?_|refine Xah ?_|refine Xbg ?_|refine Xa9 ?_|refine Xdq ?_|refine Xay ?_|refine Xac ?_|refine XcA ?_|refine Xcg ?_|refine Xaz ?_|refine Xae ?_|refine XaU ?_)|(refine XaX _ rfl (fun h=>?_) (fun h=>?_)<;>((try (simp only [whn] at h));skip))|((apply Xao rfl);(case h=>((try (intro (hp:(_:Bool)=true);((try simp only [Bool.and_eq_true,Bool.not_eq_true',Bool.not_eq_true] at hp);(try simp only [hp,wte]);(try simp only [whn] at hp))));(first|(apply Xad 0 rfl;(exact XaS _ rfl))|(apply Xad 4 rfl;(exact Xa3 _ rfl (by first|exact .inl ⟨_,rfl⟩|fail)))|(apply Xad 5 rfl;(exact Xal _ _ _ _ _ _ rfl rfl Xa1.out))|(apply Xad 6 rfl;(exact XaN _ _ _ _ _ _ _ _ rfl rfl Xby.out XaR.out (by first|exact Xvs rfl|fail) (by first|exact Xvs rfl|fail)))|(apply Xad 11 rfl;(exact Xcc 104 Tryz.f104 _ _ rfl rfl Tryz.func104 (by decide) rfl (by (repeat' (first|exact VwL.nil|(refine VwL.cons ?_ ?_)|exact Vw.refl _|exact Vw.box (List.Mem.head _) (VwL.refl _ _)|fail));done) (Xg8 ts k [44] g1 hl)))|(apply XbB;(case hs=>(intro _ _ h;cases h));(case hx=>rfl);(case hrun=>(intro w;simp [wtb,AV.val,go_sem];(try go_bits);rfl))))));(case hT=>((try simp (disch:=omega) only [wtn,List.append_nil,Xvx,Xvu,Xvv,Xvy,XvC,Nat.reduceAdd,Nat.reduceMul,Nat.reduceSub,↓reduceIte,Nat.reduceEqDiff]);rfl)))|(refine XaD rfl ?_;refine XaB f fn (_ :: _) [] _ _ _ rfl rfl hf hnn hb (by rw [List.append_nil];exact Xvt _) (VwL.refl _ _) (hel'.out (k+1) x (hv.out k g1 h) (hInv _ _ g2)) ?_ ?_;(case' refine_1=>(rintro _ _ ⟨rfl,x2,a2,rfl,e1,e2,e3,e4⟩;(apply Xam;(case hT=>((try simp (disch:=omega) only [wtn,List.append_nil,Xvx,Xvu,Xvv,Xvy,XvC,Nat.reduceAdd,Nat.reduceMul,Nat.reduceSub,↓reduceIte,Nat.reduceEqDiff]);rfl));(case hH=>((try simp (disch:=omega) only [wtn,List.append_nil,Xvx,Xvu,Xvv,Xvy,XvC,Nat.reduceAdd,Nat.reduceMul,Nat.reduceSub,↓reduceIte,Nat.reduceEqDiff]);rfl)))));(case' refine_2=>(rintro _ _ ⟨f1,e1,rfl⟩)))|(refine Xaa rfl ?_;((refine XaQ 16 rfl ?_;(refine XaH _ _ _ _ _ _ _ rfl rfl Xby.out Xa6.out (by first|rfl|fail) (by first|exact Xvs rfl|fail) ?_));apply Xam;(case hT=>((try simp (disch:=omega) only [wtn,List.append_nil,Xvx,Xvu,Xvv,Xvy,XvC,Nat.reduceAdd,Nat.reduceMul,Nat.reduceSub,↓reduceIte,Nat.reduceEqDiff]);rfl));(case hH=>((try simp (disch:=omega) only [wtn,List.append_nil,Xvx,Xvu,Xvv,Xvy,XvC,Nat.reduceAdd,Nat.reduceMul,Nat.reduceSub,↓reduceIte,Nat.reduceEqDiff]);rfl))))|fail))
 ·(repeat (with_reducible first|refine Xae ?_|fail));refine Xan _ _ (Xaq.mk' [] _ (Xvt _) (Xap.refl _ _) VwL.nil) ?_
  exact ⟨f1,g4'.out.trans ((if_pos ⟨g1,h⟩).trans (XhV e1)),rfl⟩
 ·exact ⟨(k+1+st,x2),by simp only;omega,⟨e3,e4,by simp only;omega,g4'.out.trans ((if_pos ⟨g1,h⟩).trans (by rw [Xj1 e1,e2]))⟩,(Xaq.mk' [] _ (Xvt _) (Xap.refl _ _) (by (repeat' (first|exact VwL.nil|(refine VwL.cons ?_ ?_)|exact Vw.refl _|exact Vw.top _|fail))))⟩
 ·exact Xba _ _ (Xff rfl (Xaq.mk' [] _ (Xvt _) (Xap.refl _ _) VwL.nil)) ⟨rfl,k,x,rfl,g4'.out.trans (if_neg (by rw [h];simp)),g1,g2,g3⟩
theorem Xq8 (pb jb t3 t5:Nat) (ts:List Tok) (k:Nat) (j:JF) (aE:Option Addr) (cE:Nat) (aN:Option Addr) (cN:Nat) (aL:Option Addr) (cL:Nat) (hk:k < ts.length) (hT:Xlx ts) (hj:j.needs.length≤1000000) :
  XcF Tryz.prog 123 (.box pb (tc ts k) :: (fun x:JF × Option Addr × Nat=>[.box jb (jc x.1 aE cE x.2.1 x.2.2 aL cL),.row x.2.1 x.1.needs.length x.2.2 9 1 (sa x.1.needs),.box t3 [.x (.pointer (some ⟨pb,0,none⟩))],.box t5 [.x (.pointer (some ⟨jb,0,none⟩))]]) (j,aN,cN)) [.x (.pointer (some ⟨t3,0,none⟩)),.x (.pointer (some ⟨t5,0,none⟩))]
   (fun r H'=>r=.x (.tuple #[])∧∃x a c,H'=.box pb (tc ts (k+1)) :: (fun x:JF × Option Addr × Nat=>[.box jb (jc x.1 aE cE x.2.1 x.2.2 aL cL),.row x.2.1 x.1.needs.length x.2.2 9 1 (sa x.1.needs),.box t3 [.x (.pointer (some ⟨pb,0,none⟩))],.box t5 [.x (.pointer (some ⟨jb,0,none⟩))]]) ({ j with needs:=j.needs++[x] },a,c)∧Xfr ts k j.needs=.ok x∧k+1 < ts.length)
   (fun v _=>∃f,Xfr ts k j.needs=.error f∧v=fv f):=by
 have hN:=Xtq pb jb ts k j aE cE aN cN aL cL hk hT hj
 simp only
 refine XbT Tryz.func123 rfl ?_
 simp only [Tryz.ntmps123,Xvw,Xvz,XvA,XvB,XvE,XvD,Nat.reduceAdd,Nat.reduceSub]
 (repeat' (first|with_reducible (first|refine Xah ?_|refine Xay ?_)|((apply Xao rfl);(case h=>((try (intro (hp:(_:Bool)=true);((try simp only [Bool.and_eq_true,Bool.not_eq_true',Bool.not_eq_true] at hp);(try simp only [hp,wte]);(try simp only [whn] at hp))));(apply Xad 6 rfl;(exact XaN _ _ _ _ _ _ _ _ rfl rfl Xby.out XaR.out (by first|exact Xvs rfl|fail) (by first|exact Xvs rfl|fail)))));(case hT=>((try simp only [wtn,Xvx,Xvu,Xvv,Xvy,XvC,Nat.reduceAdd,Nat.reduceMul,Nat.reduceSub,↓reduceIte,Nat.reduceEqDiff]);rfl)))|(refine XaD rfl ?_;refine XaB 124 Tryz.f124 [_,_,_] _ _ _ _ rfl rfl Tryz.func124 (by decide) rfl (Xvt _) (VwL.refl _ _) (hN) ?_ ?_;(case' refine_1=>(rintro _ _ ⟨x,a,c,rfl,rfl,hx,hk2⟩;(apply Xam;(case hT=>((try simp only [wtn,Xvx,Xvu,Xvv,Xvy,XvC,Nat.reduceAdd,Nat.reduceMul,Nat.reduceSub,↓reduceIte,Nat.reduceEqDiff]);rfl));(case hH=>((try simp only [wtn,Xvx,Xvu,Xvv,Xvy,XvC,Nat.reduceAdd,Nat.reduceMul,Nat.reduceSub,↓reduceIte,Nat.reduceEqDiff]);rfl)))));(case' refine_2=>(rintro _ _ ⟨f,hx,rfl⟩)))|fail))
 ·(repeat (with_reducible first|refine Xae ?_|fail));refine Xan _ _ (Xaq.mk' [] _ (Xvt _) (Xap.refl _ _) VwL.nil) ?_
  exact ⟨f,hx,rfl⟩
 ·exact Xba _ _ (Xff rfl (Xaq.mk' [] _ (Xvt _) (Xap.refl _ _) VwL.nil)) ⟨rfl,x,a,c,rfl,hx,hk2⟩
theorem Xq9 (pb jb t3 t5:Nat) (ts:List Tok) (k:Nat) (j:JF) (aE:Option Addr) (cE:Nat) (aN:Option Addr) (cN:Nat) (aL:Option Addr) (cL:Nat) (hk:k < ts.length) (hT:Xlx ts) (hj:j.ladder.length≤1000000) :
  XcF Tryz.prog 128 (.box pb (tc ts k) :: (fun x:JF × Option Addr × Nat=>[.box jb (jc x.1 aE cE aN cN x.2.1 x.2.2),.row x.2.1 x.1.ladder.length x.2.2 100 2 (ra x.1.ladder),.box t3 [.x (.pointer (some ⟨pb,0,none⟩))],.box t5 [.x (.pointer (some ⟨jb,0,none⟩))]]) (j,aL,cL)) [.x (.pointer (some ⟨t3,0,none⟩)),.x (.pointer (some ⟨t5,0,none⟩))]
   (fun r H'=>r=.x (.tuple #[])∧∃x a c,H'=.box pb (tc ts (k+2)) :: (fun x:JF × Option Addr × Nat=>[.box jb (jc x.1 aE cE aN cN x.2.1 x.2.2),.row x.2.1 x.1.ladder.length x.2.2 100 2 (ra x.1.ladder),.box t3 [.x (.pointer (some ⟨pb,0,none⟩))],.box t5 [.x (.pointer (some ⟨jb,0,none⟩))]]) ({ j with ladder:=j.ladder++[x] },a,c)∧Xe1 ts k j.ladder=.ok x∧k+2 < ts.length)
   (fun v _=>∃f,Xe1 ts k j.ladder=.error f∧v=fv f):=by
 have hN:=XtB pb jb ts k j aE cE aN cN aL cL hk hT hj
 simp only
 refine XbT Tryz.func128 rfl ?_
 simp only [Tryz.ntmps128,Xvw,Xvz,XvA,XvB,XvE,XvD,Nat.reduceAdd,Nat.reduceSub]
 (repeat' (first|with_reducible (first|refine Xah ?_|refine Xay ?_)|((apply Xao rfl);(case h=>((try (intro (hp:(_:Bool)=true);((try simp only [Bool.and_eq_true,Bool.not_eq_true',Bool.not_eq_true] at hp);(try simp only [hp,wte]);(try simp only [whn] at hp))));(apply Xad 6 rfl;(exact XaN _ _ _ _ _ _ _ _ rfl rfl Xby.out XaR.out (by first|exact Xvs rfl|fail) (by first|exact Xvs rfl|fail)))));(case hT=>((try simp only [wtn,Xvx,Xvu,Xvv,Xvy,XvC,Nat.reduceAdd,Nat.reduceMul,Nat.reduceSub,↓reduceIte,Nat.reduceEqDiff]);rfl)))|(refine XaD rfl ?_;refine XaB 129 Tryz.f129 [_,_,_] _ _ _ _ rfl rfl Tryz.func129 (by decide) rfl (Xvt _) (VwL.refl _ _) (hN) ?_ ?_;(case' refine_1=>(rintro _ _ ⟨x,a,c,rfl,rfl,hx,hk2⟩;(apply Xam;(case hT=>((try simp only [wtn,Xvx,Xvu,Xvv,Xvy,XvC,Nat.reduceAdd,Nat.reduceMul,Nat.reduceSub,↓reduceIte,Nat.reduceEqDiff]);rfl));(case hH=>((try simp only [wtn,Xvx,Xvu,Xvv,Xvy,XvC,Nat.reduceAdd,Nat.reduceMul,Nat.reduceSub,↓reduceIte,Nat.reduceEqDiff]);rfl)))));(case' refine_2=>(rintro _ _ ⟨f,hx,rfl⟩)))|fail))
 ·(repeat (with_reducible first|refine Xae ?_|fail));refine Xan _ _ (Xaq.mk' [] _ (Xvt _) (Xap.refl _ _) VwL.nil) ?_
  exact ⟨f,hx,rfl⟩
 ·exact Xba _ _ (Xff rfl (Xaq.mk' [] _ (Xvt _) (Xap.refl _ _) VwL.nil)) ⟨rfl,x,a,c,rfl,hx,hk2⟩
theorem Xi9 (pb jb t3 t5:Nat) (ts:List Tok) (k:Nat) (j:JF) (aE:Option Addr) (cE:Nat) (aN:Option Addr) (cN:Nat) (aL:Option Addr) (cL:Nat) (hk:k < ts.length) (hT:Xlx ts) (hj:j.needs.length≤k) :
  XcF Tryz.prog 122 (.box pb (tc ts k) :: (fun x:JF × Option Addr × Nat=>[.box jb (jc x.1 aE cE x.2.1 x.2.2 aL cL),.row x.2.1 x.1.needs.length x.2.2 9 1 (sa x.1.needs),.box t3 [.x (.pointer (some ⟨pb,0,none⟩))],.box t5 [.x (.pointer (some ⟨jb,0,none⟩))]]) (j,aN,cN)) [.x (.pointer (some ⟨pb,0,none⟩)),.x (.func (.func 123) #[] #[.pointer (some ⟨t3,0,none⟩),.pointer (some ⟨t5,0,none⟩)])]
   (fun r H'=>r=.x (.tuple #[])∧∃k1 ns a c,H'=.box pb (tc ts k1) :: (fun x:JF × Option Addr × Nat=>[.box jb (jc x.1 aE cE x.2.1 x.2.2 aL cL),.row x.2.1 x.1.needs.length x.2.2 9 1 (sa x.1.needs),.box t3 [.x (.pointer (some ⟨pb,0,none⟩))],.box t5 [.x (.pointer (some ⟨jb,0,none⟩))]]) ({ j with needs:=ns },a,c)∧Xc7 (Xfr ts) 1 ts k j.needs=.ok (ns,k1)∧k1 < ts.length∧ns.length≤k1∧k≤k1)
   (fun v _=>∃f,Xc7 (Xfr ts) 1 ts k j.needs=.error f∧v=fv f):=by
 have h:=Xp7 (τ:=JF × Option Addr × Nat) pb ts hT 123 Tryz.f123 #[.pointer (some ⟨t3,0,none⟩),.pointer (some ⟨t5,0,none⟩)] Tryz.func123 (by decide) rfl (fun x:JF × Option Addr × Nat=>[.box jb (jc x.1 aE cE x.2.1 x.2.2 aL cL),.row x.2.1 x.1.needs.length x.2.2 9 1 (sa x.1.needs),.box t3 [.x (.pointer (some ⟨pb,0,none⟩))],.box t5 [.x (.pointer (some ⟨jb,0,none⟩))]]) (fun x=>x.1.needs) (Xfr ts) 1 (fun q x=>x.1.needs.length≤q∧∃ns,x.1={ j with needs:=ns })
  (fun q x hq ⟨h1,ns,h2⟩=>((Xq8 pb jb t3 t5 ts q x.1 aE cE x.2.1 x.2.2 aL cL hq hT (by have:=hT.len;omega)).mono (fun r H' ⟨g1,y,a,c,g2,g3,g4⟩=>⟨g1,({ x.1 with needs:=x.1.needs++[y] },a,c),y,g2,g3,rfl,g4,by simp;omega,_,by rw [h2]⟩) (fun v H' h=>h)))
  (fun q x ⟨h1,h2⟩=>⟨by omega,h2⟩) k (j,aN,cN) hk ⟨hj,j.needs,rfl⟩
 refine h.mono (fun r H' ⟨g1,k1,x,g2,g3,g4,⟨g5,ns,g6⟩,g7⟩=>?_) (fun v H' h=>h)
 obtain ⟨x1,a,c⟩:=x
 simp only at g2 g3 g5 g6
 subst g6
 exact ⟨g1,k1,ns,a,c,g2,g3,g4,g5,g7⟩
theorem Xlj (pb jb t3 t5:Nat) (ts:List Tok) (k:Nat) (j:JF) (aE:Option Addr) (cE:Nat) (aN:Option Addr) (cN:Nat) (aL:Option Addr) (cL:Nat) (hk:k < ts.length) (hT:Xlx ts) (hj:j.ladder.length≤k) :
  XcF Tryz.prog 122 (.box pb (tc ts k) :: (fun x:JF × Option Addr × Nat=>[.box jb (jc x.1 aE cE aN cN x.2.1 x.2.2),.row x.2.1 x.1.ladder.length x.2.2 100 2 (ra x.1.ladder),.box t3 [.x (.pointer (some ⟨pb,0,none⟩))],.box t5 [.x (.pointer (some ⟨jb,0,none⟩))]]) (j,aL,cL)) [.x (.pointer (some ⟨pb,0,none⟩)),.x (.func (.func 128) #[] #[.pointer (some ⟨t3,0,none⟩),.pointer (some ⟨t5,0,none⟩)])]
   (fun r H'=>r=.x (.tuple #[])∧∃k1 ns a c,H'=.box pb (tc ts k1) :: (fun x:JF × Option Addr × Nat=>[.box jb (jc x.1 aE cE aN cN x.2.1 x.2.2),.row x.2.1 x.1.ladder.length x.2.2 100 2 (ra x.1.ladder),.box t3 [.x (.pointer (some ⟨pb,0,none⟩))],.box t5 [.x (.pointer (some ⟨jb,0,none⟩))]]) ({ j with ladder:=ns },a,c)∧Xc7 (Xe1 ts) 2 ts k j.ladder=.ok (ns,k1)∧k1 < ts.length∧ns.length≤k1∧k≤k1)
   (fun v _=>∃f,Xc7 (Xe1 ts) 2 ts k j.ladder=.error f∧v=fv f):=by
 have h:=Xp7 (τ:=JF × Option Addr × Nat) pb ts hT 128 Tryz.f128 #[.pointer (some ⟨t3,0,none⟩),.pointer (some ⟨t5,0,none⟩)] Tryz.func128 (by decide) rfl (fun x:JF × Option Addr × Nat=>[.box jb (jc x.1 aE cE aN cN x.2.1 x.2.2),.row x.2.1 x.1.ladder.length x.2.2 100 2 (ra x.1.ladder),.box t3 [.x (.pointer (some ⟨pb,0,none⟩))],.box t5 [.x (.pointer (some ⟨jb,0,none⟩))]]) (fun x=>x.1.ladder) (Xe1 ts) 2 (fun q x=>x.1.ladder.length≤q∧∃ns,x.1={ j with ladder:=ns })
  (fun q x hq ⟨h1,ns,h2⟩=>((Xq9 pb jb t3 t5 ts q x.1 aE cE aN cN x.2.1 x.2.2 hq hT (by have:=hT.len;omega)).mono (fun r H' ⟨g1,y,a,c,g2,g3,g4⟩=>⟨g1,({ x.1 with ladder:=x.1.ladder++[y] },a,c),y,g2,g3,rfl,g4,by simp;omega,_,by rw [h2]⟩) (fun v H' h=>h)))
  (fun q x ⟨h1,h2⟩=>⟨by omega,h2⟩) k (j,aL,cL) hk ⟨hj,j.ladder,rfl⟩
 refine h.mono (fun r H' ⟨g1,k1,x,g2,g3,g4,⟨g5,ns,g6⟩,g7⟩=>?_) (fun v H' h=>h)
 obtain ⟨x1,a,c⟩:=x
 simp only at g2 g3 g5 g6
 subst g6
 exact ⟨g1,k1,ns,a,c,g2,g3,g4,g5,g7⟩
end Go.Proofs.YtdlblokjfoggpaaGreatDoor

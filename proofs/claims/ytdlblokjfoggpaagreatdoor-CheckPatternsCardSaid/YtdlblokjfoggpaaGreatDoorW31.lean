import Derived.Test.YtdlblokjfoggpaaGreatDoorW30
/- The program's parser: elements with commas between them. -/
set_option linter.unusedSimpArgs false
set_option linter.unusedVariables false
--%old
set_option maxRecDepth 100000
set_option maxHeartbeats 8000000
namespace Go.Proofs.YtdlblokjfoggpaaGreatDoor
open Go.RowKit
theorem Xk4 {α:Type} {el:Nat→List α→Except Flt α} {st:Nat} {ts:List Tok} {k:Nat} {out:List α} {a:α} (h:el k out=.ok a):Xdf el st ts k out=if k+st < ts.length∧gIs ts (k+st) [44]=true then Xdf el st ts (k+st+1) (out++[a]) else .ok (out++[a],k+st):=by
 rw [Xdf,h]
 simp only
 split<;>rfl
theorem XiQ {α:Type} {el:Nat→List α→Except Flt α} {st:Nat} {ts:List Tok} {k:Nat} {out:List α} {f:Flt} (h:el k out=.error f):Xdf el st ts k out=.error f:=by
 rw [Xdf,h]
theorem Xse {α τ:Type} (pb:Nat) (ts:List Tok) (hT:XmX ts) (f:Nat) (fn:Func) (cs:Array Value) (hf:Tryz.prog.funcs[f]?=some fn) (hnn:fn.name≠ "runtime.NumGoroutine") (hb:fn.body.isSome=true) (Rest:τ→List Hp) (out:τ→List α) (el:Nat→List α→Except Flt α) (st:Nat) (Inv:Nat→τ→Prop)
  (hel:∀k x,k < ts.length→Inv k x→XcH Tryz.prog f (.box pb (tc ts k) :: Rest x) (cs.toList.map .x) (fun r H'=>r=.x (.tuple #[])∧∃x' a,H'=.box pb (tc ts (k+st)) :: Rest x'∧el k (out x)=.ok a∧out x'=out x++[a]∧k+st < ts.length∧Inv (k+st) x') (fun v _=>∃e,el k (out x)=.error e∧v=fv e))
  (hInv:∀k x,Inv k x→Inv (k+1) x) (k0:Nat) (x0:τ) (hk0:k0 < ts.length) (h0:Inv k0 x0) :
  XcH Tryz.prog 122 (.box pb (tc ts k0) :: Rest x0) [.x (.pointer (some ⟨pb,0,none⟩)),.x (.func (.func f) #[] cs)] (fun r H'=>r=.x (.tuple #[])∧∃k x,H'=.box pb (tc ts k) :: Rest x∧Xdf el st ts k0 (out x0)=.ok (out x,k)∧k < ts.length∧Inv k x∧k0≤k) (fun v _=>∃e,Xdf el st ts k0 (out x0)=.error e∧v=fv e):=by
 have hel':=Lib.hid hel
 clear hel
 have hl:=hT.len
 have hv':=fun k=>XfR hT.vt (s:=[44]) k
 have hv:=Lib.hid hv'
 clear hv'
 refine XbE Tryz.func122 rfl ?_
 simp only [Tryz.ntmps122,Xyr,Xyu,Xyv,Xyw,Xyz,Xyy,Nat.reduceAdd,Nat.reduceSub]
 (repeat' (first|with_reducible (first|refine XaH ?_|refine Xal ?_|refine Xbp ?_|refine Xat ?_|refine Xac ?_|refine Xae ?_)|((apply Xar rfl);(case h=>((try (intro (hp:(_:Bool)=true);((try simp only [Bool.and_eq_true,Bool.not_eq_true',Bool.not_eq_true] at hp);(try simp only [hp,wte]);(try simp only [whn] at hp))));(apply Xag 0 rfl;(exact XaW _ rfl))));(case hT=>((try simp (disch:=omega) only [wtn,List.append_nil,Xys,Xyp,Xyq,Xyt,Xyx,Nat.reduceAdd,Nat.reduceMul,Nat.reduceSub,↓reduceIte,Nat.reduceEqDiff]);rfl)))|(refine Xav rfl ?_;refine Xas f fn (_ :: _) [] _ _ _ rfl rfl hf hnn hb (by simp) (VwL.refl _ _) (hel'.out k0 x0 hk0 h0) ?_ ?_;(case' refine_1=>(rintro _ _ ⟨rfl,x1,a1,rfl,e1,e2,e3,e4⟩;(apply Xap;(case hT=>((try simp (disch:=omega) only [wtn,List.append_nil,Xys,Xyp,Xyq,Xyt,Xyx,Nat.reduceAdd,Nat.reduceMul,Nat.reduceSub,↓reduceIte,Nat.reduceEqDiff]);rfl));(case hH=>((try simp (disch:=omega) only [wtn,List.append_nil,Xys,Xyp,Xyq,Xyt,Xyx,Nat.reduceAdd,Nat.reduceMul,Nat.reduceSub,↓reduceIte,Nat.reduceEqDiff]);rfl)))));(case' refine_2=>(rintro _ _ ⟨f1,e1,rfl⟩)))|fail))
 ·(repeat (with_reducible first|refine Xae ?_|fail));refine Xan _ _ (Xaj.mk' [] _ (Xyo _) (Xak.refl _ _) VwL.nil) ?_
  exact ⟨f1,XiQ e1,rfl⟩
 refine Xah (S:=Nat × τ) (fun s=>frm 17 [(0,.x (.pointer (some ⟨pb,0,none⟩))),(1,.x (.func (.func f) #[] cs))]) (fun s=>.box pb (tc ts s.1) :: Rest s.2) (fun s=>s.1 < ts.length∧Inv s.1 s.2∧k0≤s.1∧Xdf el st ts k0 (out x0)=if s.1 < ts.length∧gIs ts s.1 [44]=true then Xdf el st ts (s.1+1) (out s.2) else .ok (out s.2,s.1)) (fun s=>ts.length - s.1) (k0+st,x1) (Xaj.mk' [] _ (Xyo _) (Xak.refl _ _) (by (repeat' (first|exact VwL.nil|(refine VwL.cons ?_ ?_)|exact Vw.refl _|exact Vw.top _|fail)))) ⟨e3,e4,Nat.le_add_right _ _,by rw [Xk4 e1,e2]⟩ fun s hs=>?_
 obtain ⟨k,x⟩:=s
 obtain ⟨g1,g2,g3,g4⟩:=hs
 simp only at g1 g2 g3 g4
 have g4':=Lib.hid g4
 clear g4 e1 e2
 simp only [frm,Xyv,Xyw,Xyp,Xyq,XyC,XyD]
 simp only [tc]
 (repeat' (first|with_reducible (first|refine XaH ?_|refine Xal ?_|refine Xbp ?_|refine Xa4 ?_|refine XdV ?_|refine Xat ?_|refine Xac ?_|refine XcU ?_|refine Xcz ?_|refine Xax ?_|refine Xae ?_|refine XaL ?_)|(refine XaR _ rfl (fun h=>?_) (fun h=>?_)<;>((try (simp only [whn] at h));skip))|((apply Xar rfl);(case h=>((try (intro (hp:(_:Bool)=true);((try simp only [Bool.and_eq_true,Bool.not_eq_true',Bool.not_eq_true] at hp);(try simp only [hp,wte]);(try simp only [whn] at hp))));(first|(apply Xag 0 rfl;(exact XaW _ rfl))|(apply Xag 4 rfl;(exact Xbl _ rfl (by first|exact .inl ⟨_,rfl⟩|fail)))|(apply Xag 5 rfl;(exact Xaq _ _ _ _ _ _ rfl rfl Xbc.out))|(apply Xag 6 rfl;(exact XaK _ _ _ _ _ _ _ _ rfl rfl Xbt.out XaI.out (by first|exact Xyn rfl|fail) (by first|exact Xyn rfl|fail)))|(apply Xag 11 rfl;(exact Xb4 104 Tryz.f104 _ _ rfl rfl Tryz.func104 (by decide) rfl (by (repeat' (first|exact VwL.nil|(refine VwL.cons ?_ ?_)|exact Vw.refl _|exact Vw.box (List.Mem.head _) (VwL.refl _ _)|fail));done) (XhN ts k [44] g1 hl)))|(apply XbI;(case hs=>(intro _ _ h;cases h));(case hx=>rfl);(case hrun=>(intro w;simp [wtb,AV.val,go_sem];(try go_bits);rfl))))));(case hT=>((try simp (disch:=omega) only [wtn,List.append_nil,Xys,Xyp,Xyq,Xyt,Xyx,Nat.reduceAdd,Nat.reduceMul,Nat.reduceSub,↓reduceIte,Nat.reduceEqDiff]);rfl)))|(refine Xav rfl ?_;refine Xas f fn (_ :: _) [] _ _ _ rfl rfl hf hnn hb (by rw [List.append_nil];exact Xyo _) (VwL.refl _ _) (hel'.out (k+1) x (hv.out k g1 h) (hInv _ _ g2)) ?_ ?_;(case' refine_1=>(rintro _ _ ⟨rfl,x2,a2,rfl,e1,e2,e3,e4⟩;(apply Xap;(case hT=>((try simp (disch:=omega) only [wtn,List.append_nil,Xys,Xyp,Xyq,Xyt,Xyx,Nat.reduceAdd,Nat.reduceMul,Nat.reduceSub,↓reduceIte,Nat.reduceEqDiff]);rfl));(case hH=>((try simp (disch:=omega) only [wtn,List.append_nil,Xys,Xyp,Xyq,Xyt,Xyx,Nat.reduceAdd,Nat.reduceMul,Nat.reduceSub,↓reduceIte,Nat.reduceEqDiff]);rfl)))));(case' refine_2=>(rintro _ _ ⟨f1,e1,rfl⟩)))|(refine Xab rfl ?_;((refine XaQ 16 rfl ?_;(refine Xaw _ _ _ _ _ _ _ rfl rfl Xbt.out Xa1.out (by first|rfl|fail) (by first|exact Xyn rfl|fail) ?_));apply Xap;(case hT=>((try simp (disch:=omega) only [wtn,List.append_nil,Xys,Xyp,Xyq,Xyt,Xyx,Nat.reduceAdd,Nat.reduceMul,Nat.reduceSub,↓reduceIte,Nat.reduceEqDiff]);rfl));(case hH=>((try simp (disch:=omega) only [wtn,List.append_nil,Xys,Xyp,Xyq,Xyt,Xyx,Nat.reduceAdd,Nat.reduceMul,Nat.reduceSub,↓reduceIte,Nat.reduceEqDiff]);rfl))))|fail))
 ·(repeat (with_reducible first|refine Xae ?_|fail));refine Xan _ _ (Xaj.mk' [] _ (Xyo _) (Xak.refl _ _) VwL.nil) ?_
  exact ⟨f1,g4'.out.trans ((if_pos ⟨g1,h⟩).trans (XiQ e1)),rfl⟩
 ·exact ⟨(k+1+st,x2),by simp only;omega,⟨e3,e4,by simp only;omega,g4'.out.trans ((if_pos ⟨g1,h⟩).trans (by rw [Xk4 e1,e2]))⟩,(Xaj.mk' [] _ (Xyo _) (Xak.refl _ _) (by (repeat' (first|exact VwL.nil|(refine VwL.cons ?_ ?_)|exact Vw.refl _|exact Vw.top _|fail))))⟩
 ·exact XaZ _ _ (Xfa rfl (Xaj.mk' [] _ (Xyo _) (Xak.refl _ _) VwL.nil)) ⟨rfl,k,x,rfl,g4'.out.trans (if_neg (by rw [h];simp)),g1,g2,g3⟩
theorem XtH (pb jb t3 t5:Nat) (ts:List Tok) (k:Nat) (j:JF) (aE:Option Addr) (cE:Nat) (aN:Option Addr) (cN:Nat) (aL:Option Addr) (cL:Nat) (hk:k < ts.length) (hT:XmX ts) (hj:j.needs.length≤1000000) :
  XcH Tryz.prog 123 (.box pb (tc ts k) :: (fun x:JF × Option Addr × Nat=>[.box jb (jc x.1 aE cE x.2.1 x.2.2 aL cL),.row x.2.1 x.1.needs.length x.2.2 9 1 (sa x.1.needs),.box t3 [.x (.pointer (some ⟨pb,0,none⟩))],.box t5 [.x (.pointer (some ⟨jb,0,none⟩))]]) (j,aN,cN)) [.x (.pointer (some ⟨t3,0,none⟩)),.x (.pointer (some ⟨t5,0,none⟩))]
   (fun r H'=>r=.x (.tuple #[])∧∃x a c,H'=.box pb (tc ts (k+1)) :: (fun x:JF × Option Addr × Nat=>[.box jb (jc x.1 aE cE x.2.1 x.2.2 aL cL),.row x.2.1 x.1.needs.length x.2.2 9 1 (sa x.1.needs),.box t3 [.x (.pointer (some ⟨pb,0,none⟩))],.box t5 [.x (.pointer (some ⟨jb,0,none⟩))]]) ({ j with needs:=j.needs++[x] },a,c)∧XfI ts k j.needs=.ok x∧k+1 < ts.length)
   (fun v _=>∃f,XfI ts k j.needs=.error f∧v=fv f):=by
 have hN:=Xv1 pb jb ts k j aE cE aN cN aL cL hk hT hj
 simp only
 refine XbE Tryz.func123 rfl ?_
 simp only [Tryz.ntmps123,Xyr,Xyu,Xyv,Xyw,Xyz,Xyy,Nat.reduceAdd,Nat.reduceSub]
 (repeat' (first|with_reducible (first|refine Xal ?_|refine Xat ?_)|((apply Xar rfl);(case h=>((try (intro (hp:(_:Bool)=true);((try simp only [Bool.and_eq_true,Bool.not_eq_true',Bool.not_eq_true] at hp);(try simp only [hp,wte]);(try simp only [whn] at hp))));(apply Xag 6 rfl;(exact XaK _ _ _ _ _ _ _ _ rfl rfl Xbt.out XaI.out (by first|exact Xyn rfl|fail) (by first|exact Xyn rfl|fail)))));(case hT=>((try simp only [wtn,Xys,Xyp,Xyq,Xyt,Xyx,Nat.reduceAdd,Nat.reduceMul,Nat.reduceSub,↓reduceIte,Nat.reduceEqDiff]);rfl)))|(refine Xav rfl ?_;refine Xas 124 Tryz.f124 [_,_,_] _ _ _ _ rfl rfl Tryz.func124 (by decide) rfl (Xyo _) (VwL.refl _ _) (hN) ?_ ?_;(case' refine_1=>(rintro _ _ ⟨x,a,c,rfl,rfl,hx,hk2⟩;(apply Xap;(case hT=>((try simp only [wtn,Xys,Xyp,Xyq,Xyt,Xyx,Nat.reduceAdd,Nat.reduceMul,Nat.reduceSub,↓reduceIte,Nat.reduceEqDiff]);rfl));(case hH=>((try simp only [wtn,Xys,Xyp,Xyq,Xyt,Xyx,Nat.reduceAdd,Nat.reduceMul,Nat.reduceSub,↓reduceIte,Nat.reduceEqDiff]);rfl)))));(case' refine_2=>(rintro _ _ ⟨f,hx,rfl⟩)))|fail))
 ·(repeat (with_reducible first|refine Xae ?_|fail));refine Xan _ _ (Xaj.mk' [] _ (Xyo _) (Xak.refl _ _) VwL.nil) ?_
  exact ⟨f,hx,rfl⟩
 ·exact XaZ _ _ (Xfa rfl (Xaj.mk' [] _ (Xyo _) (Xak.refl _ _) VwL.nil)) ⟨rfl,x,a,c,rfl,hx,hk2⟩
theorem XtI (pb jb t3 t5:Nat) (ts:List Tok) (k:Nat) (j:JF) (aE:Option Addr) (cE:Nat) (aN:Option Addr) (cN:Nat) (aL:Option Addr) (cL:Nat) (hk:k < ts.length) (hT:XmX ts) (hj:j.ladder.length≤1000000) :
  XcH Tryz.prog 128 (.box pb (tc ts k) :: (fun x:JF × Option Addr × Nat=>[.box jb (jc x.1 aE cE aN cN x.2.1 x.2.2),.row x.2.1 x.1.ladder.length x.2.2 100 2 (ra x.1.ladder),.box t3 [.x (.pointer (some ⟨pb,0,none⟩))],.box t5 [.x (.pointer (some ⟨jb,0,none⟩))]]) (j,aL,cL)) [.x (.pointer (some ⟨t3,0,none⟩)),.x (.pointer (some ⟨t5,0,none⟩))]
   (fun r H'=>r=.x (.tuple #[])∧∃x a c,H'=.box pb (tc ts (k+2)) :: (fun x:JF × Option Addr × Nat=>[.box jb (jc x.1 aE cE aN cN x.2.1 x.2.2),.row x.2.1 x.1.ladder.length x.2.2 100 2 (ra x.1.ladder),.box t3 [.x (.pointer (some ⟨pb,0,none⟩))],.box t5 [.x (.pointer (some ⟨jb,0,none⟩))]]) ({ j with ladder:=j.ladder++[x] },a,c)∧Xfj ts k j.ladder=.ok x∧k+2 < ts.length)
   (fun v _=>∃f,Xfj ts k j.ladder=.error f∧v=fv f):=by
 have hN:=Xwj pb jb ts k j aE cE aN cN aL cL hk hT hj
 simp only
 refine XbE Tryz.func128 rfl ?_
 simp only [Tryz.ntmps128,Xyr,Xyu,Xyv,Xyw,Xyz,Xyy,Nat.reduceAdd,Nat.reduceSub]
 (repeat' (first|with_reducible (first|refine Xal ?_|refine Xat ?_)|((apply Xar rfl);(case h=>((try (intro (hp:(_:Bool)=true);((try simp only [Bool.and_eq_true,Bool.not_eq_true',Bool.not_eq_true] at hp);(try simp only [hp,wte]);(try simp only [whn] at hp))));(apply Xag 6 rfl;(exact XaK _ _ _ _ _ _ _ _ rfl rfl Xbt.out XaI.out (by first|exact Xyn rfl|fail) (by first|exact Xyn rfl|fail)))));(case hT=>((try simp only [wtn,Xys,Xyp,Xyq,Xyt,Xyx,Nat.reduceAdd,Nat.reduceMul,Nat.reduceSub,↓reduceIte,Nat.reduceEqDiff]);rfl)))|(refine Xav rfl ?_;refine Xas 129 Tryz.f129 [_,_,_] _ _ _ _ rfl rfl Tryz.func129 (by decide) rfl (Xyo _) (VwL.refl _ _) (hN) ?_ ?_;(case' refine_1=>(rintro _ _ ⟨x,a,c,rfl,rfl,hx,hk2⟩;(apply Xap;(case hT=>((try simp only [wtn,Xys,Xyp,Xyq,Xyt,Xyx,Nat.reduceAdd,Nat.reduceMul,Nat.reduceSub,↓reduceIte,Nat.reduceEqDiff]);rfl));(case hH=>((try simp only [wtn,Xys,Xyp,Xyq,Xyt,Xyx,Nat.reduceAdd,Nat.reduceMul,Nat.reduceSub,↓reduceIte,Nat.reduceEqDiff]);rfl)))));(case' refine_2=>(rintro _ _ ⟨f,hx,rfl⟩)))|fail))
 ·(repeat (with_reducible first|refine Xae ?_|fail));refine Xan _ _ (Xaj.mk' [] _ (Xyo _) (Xak.refl _ _) VwL.nil) ?_
  exact ⟨f,hx,rfl⟩
 ·exact XaZ _ _ (Xfa rfl (Xaj.mk' [] _ (Xyo _) (Xak.refl _ _) VwL.nil)) ⟨rfl,x,a,c,rfl,hx,hk2⟩
theorem Xj9 (pb jb t3 t5:Nat) (ts:List Tok) (k:Nat) (j:JF) (aE:Option Addr) (cE:Nat) (aN:Option Addr) (cN:Nat) (aL:Option Addr) (cL:Nat) (hk:k < ts.length) (hT:XmX ts) (hj:j.needs.length≤k) :
  XcH Tryz.prog 122 (.box pb (tc ts k) :: (fun x:JF × Option Addr × Nat=>[.box jb (jc x.1 aE cE x.2.1 x.2.2 aL cL),.row x.2.1 x.1.needs.length x.2.2 9 1 (sa x.1.needs),.box t3 [.x (.pointer (some ⟨pb,0,none⟩))],.box t5 [.x (.pointer (some ⟨jb,0,none⟩))]]) (j,aN,cN)) [.x (.pointer (some ⟨pb,0,none⟩)),.x (.func (.func 123) #[] #[.pointer (some ⟨t3,0,none⟩),.pointer (some ⟨t5,0,none⟩)])]
   (fun r H'=>r=.x (.tuple #[])∧∃k1 ns a c,H'=.box pb (tc ts k1) :: (fun x:JF × Option Addr × Nat=>[.box jb (jc x.1 aE cE x.2.1 x.2.2 aL cL),.row x.2.1 x.1.needs.length x.2.2 9 1 (sa x.1.needs),.box t3 [.x (.pointer (some ⟨pb,0,none⟩))],.box t5 [.x (.pointer (some ⟨jb,0,none⟩))]]) ({ j with needs:=ns },a,c)∧Xdf (XfI ts) 1 ts k j.needs=.ok (ns,k1)∧k1 < ts.length∧ns.length≤k1∧k≤k1)
   (fun v _=>∃f,Xdf (XfI ts) 1 ts k j.needs=.error f∧v=fv f):=by
 have h:=Xse (τ:=JF × Option Addr × Nat) pb ts hT 123 Tryz.f123 #[.pointer (some ⟨t3,0,none⟩),.pointer (some ⟨t5,0,none⟩)] Tryz.func123 (by decide) rfl (fun x:JF × Option Addr × Nat=>[.box jb (jc x.1 aE cE x.2.1 x.2.2 aL cL),.row x.2.1 x.1.needs.length x.2.2 9 1 (sa x.1.needs),.box t3 [.x (.pointer (some ⟨pb,0,none⟩))],.box t5 [.x (.pointer (some ⟨jb,0,none⟩))]]) (fun x=>x.1.needs) (XfI ts) 1 (fun q x=>x.1.needs.length≤q∧∃ns,x.1={ j with needs:=ns })
  (fun q x hq ⟨h1,ns,h2⟩=>((XtH pb jb t3 t5 ts q x.1 aE cE x.2.1 x.2.2 aL cL hq hT (by have:=hT.len;omega)).mono (fun r H' ⟨g1,y,a,c,g2,g3,g4⟩=>⟨g1,({ x.1 with needs:=x.1.needs++[y] },a,c),y,g2,g3,rfl,g4,by simp;omega,_,by rw [h2]⟩) (fun v H' h=>h)))
  (fun q x ⟨h1,h2⟩=>⟨by omega,h2⟩) k (j,aN,cN) hk ⟨hj,j.needs,rfl⟩
 refine h.mono (fun r H' ⟨g1,k1,x,g2,g3,g4,⟨g5,ns,g6⟩,g7⟩=>?_) (fun v H' h=>h)
 obtain ⟨x1,a,c⟩:=x
 simp only at g2 g3 g5 g6
 subst g6
 exact ⟨g1,k1,ns,a,c,g2,g3,g4,g5,g7⟩
theorem XmM (pb jb t3 t5:Nat) (ts:List Tok) (k:Nat) (j:JF) (aE:Option Addr) (cE:Nat) (aN:Option Addr) (cN:Nat) (aL:Option Addr) (cL:Nat) (hk:k < ts.length) (hT:XmX ts) (hj:j.ladder.length≤k) :
  XcH Tryz.prog 122 (.box pb (tc ts k) :: (fun x:JF × Option Addr × Nat=>[.box jb (jc x.1 aE cE aN cN x.2.1 x.2.2),.row x.2.1 x.1.ladder.length x.2.2 100 2 (ra x.1.ladder),.box t3 [.x (.pointer (some ⟨pb,0,none⟩))],.box t5 [.x (.pointer (some ⟨jb,0,none⟩))]]) (j,aL,cL)) [.x (.pointer (some ⟨pb,0,none⟩)),.x (.func (.func 128) #[] #[.pointer (some ⟨t3,0,none⟩),.pointer (some ⟨t5,0,none⟩)])]
   (fun r H'=>r=.x (.tuple #[])∧∃k1 ns a c,H'=.box pb (tc ts k1) :: (fun x:JF × Option Addr × Nat=>[.box jb (jc x.1 aE cE aN cN x.2.1 x.2.2),.row x.2.1 x.1.ladder.length x.2.2 100 2 (ra x.1.ladder),.box t3 [.x (.pointer (some ⟨pb,0,none⟩))],.box t5 [.x (.pointer (some ⟨jb,0,none⟩))]]) ({ j with ladder:=ns },a,c)∧Xdf (Xfj ts) 2 ts k j.ladder=.ok (ns,k1)∧k1 < ts.length∧ns.length≤k1∧k≤k1)
   (fun v _=>∃f,Xdf (Xfj ts) 2 ts k j.ladder=.error f∧v=fv f):=by
 have h:=Xse (τ:=JF × Option Addr × Nat) pb ts hT 128 Tryz.f128 #[.pointer (some ⟨t3,0,none⟩),.pointer (some ⟨t5,0,none⟩)] Tryz.func128 (by decide) rfl (fun x:JF × Option Addr × Nat=>[.box jb (jc x.1 aE cE aN cN x.2.1 x.2.2),.row x.2.1 x.1.ladder.length x.2.2 100 2 (ra x.1.ladder),.box t3 [.x (.pointer (some ⟨pb,0,none⟩))],.box t5 [.x (.pointer (some ⟨jb,0,none⟩))]]) (fun x=>x.1.ladder) (Xfj ts) 2 (fun q x=>x.1.ladder.length≤q∧∃ns,x.1={ j with ladder:=ns })
  (fun q x hq ⟨h1,ns,h2⟩=>((XtI pb jb t3 t5 ts q x.1 aE cE aN cN x.2.1 x.2.2 hq hT (by have:=hT.len;omega)).mono (fun r H' ⟨g1,y,a,c,g2,g3,g4⟩=>⟨g1,({ x.1 with ladder:=x.1.ladder++[y] },a,c),y,g2,g3,rfl,g4,by simp;omega,_,by rw [h2]⟩) (fun v H' h=>h)))
  (fun q x ⟨h1,h2⟩=>⟨by omega,h2⟩) k (j,aL,cL) hk ⟨hj,j.ladder,rfl⟩
 refine h.mono (fun r H' ⟨g1,k1,x,g2,g3,g4,⟨g5,ns,g6⟩,g7⟩=>?_) (fun v H' h=>h)
 obtain ⟨x1,a,c⟩:=x
 simp only at g2 g3 g5 g6
 subst g6
 exact ⟨g1,k1,ns,a,c,g2,g3,g4,g5,g7⟩
end Go.Proofs.YtdlblokjfoggpaaGreatDoor

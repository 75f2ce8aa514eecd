import Derived.Test.YtdlblokjfoggpaaGreatDoorW15
/- Automata, in plain Lean: a search that finds nothing has seen all that can be reached. No program in sight. -/
set_option linter.unusedSimpArgs false
set_option linter.unusedVariables false
set_option maxRecDepth 100000
set_option maxHeartbeats 8000000
namespace Go.Proofs.YtdlblokjfoggpaaGreatDoor
inductive Nxt (l:List Sx) (p:Sp):Sp→Prop
 | out:(l.getD p.st default).kind=2→Nxt l p ⟨(l.getD p.st default).out,p.bol,p.eol⟩
 | other:(l.getD p.st default).kind=2→Nxt l p ⟨(l.getD p.st default).other,p.bol,p.eol⟩
 | bol:(l.getD p.st default).kind=3→p.bol=true→Nxt l p ⟨(l.getD p.st default).out,p.bol,p.eol⟩
 | eol:(l.getD p.st default).kind=4→Nxt l p ⟨(l.getD p.st default).out,p.bol,true⟩
inductive Nxb (l:List Sx) (p:Sp):Sp→Prop
 | nl:(l.getD p.st default).kind=1→(l.getD p.st default).set.testBit 10=true→Nxb l p ⟨(l.getD p.st default).out,true,false⟩
 | ot (c:Nat):(l.getD p.st default).kind=1→XdB (l.getD p.st default).set=some c→p.eol=false→Nxb l p ⟨(l.getD p.st default).out,false,false⟩
def Sn (sn:SnL) (p:Sp):Prop:=∃y∈sn,y.1=p
theorem XbO (q:SnL × List Sp) (d:Sp) (o:Og):Sn (XaB q d o).1 d∧∀p,Sn q.1 p→Sn (XaB q d o).1 p:=by
 unfold XaB
 split
 ·rename_i h
  obtain ⟨y,hy,e⟩:=List.any_eq_true.1 h
  exact ⟨⟨y,hy,by simpa using e⟩,fun _ h=>h⟩
 ·exact ⟨⟨(d,o),by simp,rfl⟩,fun p ⟨y,hy,e⟩=>⟨y,by simp [hy],e⟩⟩
theorem Xph (l:List Sx) (p:Sp) (q:SnL × List Sp):(∀r,Nxt l p r→Sn (XcJ l p q).1 r)∧∀r,Sn q.1 r→Sn (XcJ l p q).1 r:=by
 unfold XcJ
 simp only
 split
 ·rename_i e
  refine ⟨fun r h=>?_,fun r h=>(XbO _ _ _).2 _ ((XbO _ _ _).2 _ h)⟩
  cases h with
  | out h=>exact (XbO _ _ _).2 _ (XbO _ _ _).1
  | other h=>exact (XbO _ _ _).1
  | bol h=>omega
  | eol h=>omega
 split
 ·rename_i e
  split
  ·refine ⟨fun r h=>?_,fun r h=>(XbO _ _ _).2 _ h⟩
   cases h with
   | out h=>omega
   | other h=>omega
   | bol h=>exact (XbO _ _ _).1
   | eol h=>omega
  ·rename_i hb
   refine ⟨fun r h=>?_,fun r h=>h⟩
   cases h with
   | out h=>omega
   | other h=>omega
   | bol _ h=>exact absurd h hb
   | eol h=>omega
 split
 ·refine ⟨fun r h=>?_,fun r h=>(XbO _ _ _).2 _ h⟩
  cases h with
  | out h=>omega
  | other h=>omega
  | bol h=>omega
  | eol h=>exact (XbO _ _ _).1
 ·refine ⟨fun r h=>?_,fun r h=>h⟩
  cases h with
  | out h=>omega
  | other h=>omega
  | bol h=>omega
  | eol h=>omega
theorem XcP.sn {n:Nat} {sn:SnL} {list:List Sp} {q:SnL × List Sp} (h:XcP n sn list q) {p:Sp} (hp:Sn sn p):Sn q.1 p:=h.sub hp
theorem Xhm {l:List Sx} (hv:Xa5 l=true) {sn:SnL} {list:List Sp} (hi:In sn list) (hl:list.length≤sn.length):∀(n i:Nat) (q:SnL × List Sp),XcP l.length sn list q→4*l.length < n+i→(∀j,j < i→∀p,q.2[j]?=some p→∀r,Nxt l p r→Sn q.1 r) →
  ∀p∈(Xbe l n i q).2,∀r,Nxt l p r→Sn (Xbe l n i q).1 r
 | 0,i,q,h,hn,hd=>by
   have h1:=h.ok.len
   obtain ⟨t,e1,e2⟩:=h.ext
   have h2:q.1.length=sn.length+t.length:=by rw [e1];simp
   have h3:q.2.length=list.length+t.length:=by rw [e2];simp
   intro p hp r hr
   obtain ⟨j,hj,e⟩:=List.getElem_of_mem (show p∈q.2 from hp)
   exact hd j (by omega) p (by rw [List.getElem?_eq_getElem hj,e]) r hr
 | n+1,i,q,h,hn,hd=>by
   rw [Xbe]
   split
   ·rename_i hlt
    have hmm:q.2.getD i default∈q.2:=by rw [List.getD_eq_getElem?_getD,List.getElem?_eq_getElem hlt];exact List.getElem_mem hlt
    have hg:=h.from hv _ (h.in_ hi _ hmm)
    have hg2:XcP l.length q.1 q.2 (XcJ l (q.2.getD i default) q):=(XcP.refl (list:=q.2) h.ok).from hv _ (h.in_ hi _ hmm)
    refine Xhm hv hi hl n (i+1) _ hg (by omega) fun j hj p hp r hr=>?_
    obtain ⟨t,e1,e2⟩:=hg2.ext
    have hp':q.2[j]?=some p:=by
     rw [e2,List.getElem?_append_left (by omega)] at hp;exact hp
    by_cases hji:j=i
    ·subst hji
     have:p=q.2.getD j default:=by rw [List.getD_eq_getElem?_getD,hp'];rfl
     rw [this] at hr
     exact (Xph l _ q).1 r hr
    ·exact (Xph l _ q).2 r (hd j (by omega) p hp' r hr)
   ·rename_i hlt
    intro p hp r hr
    obtain ⟨j,hj,e⟩:=List.getElem_of_mem hp
    exact hd j (by omega) p (by rw [List.getElem?_eq_getElem hj,e]) r hr
theorem Xls (l:List Sx) (p:Sp) (q:SnL × List Sp):(∀r,Nxb l p r→Sn (XbV l p q).1 r)∧∀r,Sn q.1 r→Sn (XbV l p q).1 r:=by
 unfold XbV
 simp only
 split
 ·rename_i e
  exact ⟨fun r h=>by cases h<;>exact absurd ‹_› e,fun r h=>h⟩
 have h1:∀r,Sn q.1 r→Sn (if (l.getD p.st default).set.testBit 10=true then XaB q ⟨(l.getD p.st default).out,true,false⟩ { from_:=p,over:=true,c:=10 } else q).1 r:=fun r h=>by
  split
  ·exact (XbO _ _ _).2 _ h
  ·exact h
 have h2:(l.getD p.st default).set.testBit 10=true→Sn (if (l.getD p.st default).set.testBit 10=true then XaB q ⟨(l.getD p.st default).out,true,false⟩ { from_:=p,over:=true,c:=10 } else q).1 ⟨(l.getD p.st default).out,true,false⟩:=fun h=>by
  rw [if_pos h];exact (XbO _ _ _).1
 split
 ·rename_i hno
  refine ⟨fun r h=>?_,h1⟩
  cases h with
  | nl _ h=>exact h2 h
  | ot c _ h=>rw [hno] at h;cases h
 ·rename_i c hno
  split
  ·rename_i he
   refine ⟨fun r h=>?_,h1⟩
   cases h with
   | nl _ h=>exact h2 h
   | ot c _ _ h=>rw [he] at h;cases h
  ·refine ⟨fun r h=>?_,fun r h=>(XbO _ _ _).2 _ (h1 r h)⟩
   cases h with
   | nl _ h=>exact (XbO _ _ _).2 _ (h2 h)
   | ot c _ _ h=>exact (XbO _ _ _).1
theorem Xpj (l:List Sx):∀(ps:List Sp) (q:SnL × List Sp),(∀p∈ps,∀r,Nxb l p r→Sn (ps.foldl (fun q p=>XbV l p q) q).1 r)∧∀r,Sn q.1 r→Sn (ps.foldl (fun q p=>XbV l p q) q).1 r
 | [],q=>⟨fun p hp=>(by cases hp),fun r h=>h⟩
 | p :: ps,q=>by
   rw [Xyp]
   have ih:=Xpj l ps (XbV l p q)
   refine ⟨fun x hx r hr=>?_,fun r h=>ih.2 r ((Xls l p q).2 r h)⟩
   rcases List.mem_cons.1 hx with rfl|hx
   ·exact ih.2 r ((Xls l x q).1 r hr)
   ·exact ih.1 x hx r hr
def Fin (l:List Sx) (sn:SnL) (p:Sp):Prop:=(∀r,Nxt l p r→Sn sn r)∧(∀r,Nxb l p r→Sn sn r)∧(l.getD p.st default).kind≠5
theorem XmG {l:List Sx} {list:List Sp} (h0:Xcp l list false=none) (h1:Xcp l list true=none) (p:Sp) (hp:p∈list):(l.getD p.st default).kind≠5:=fun e=>by
 unfold Xcp at h0 h1
 rw [List.find?_eq_none] at h0 h1
 have a:=h0 p hp
 have b:=h1 p hp
 cases hq:p.eol
 ·rw [hq,e] at a;exact a rfl
 ·rw [hq,e] at b;exact b rfl
theorem Xn5 {l:List Sx} (hv:Xa5 l=true):∀(n:Nat) (sn:SnL) (list:List Sp),XfF l.length sn→In sn list→list.length≤sn.length→(list=[]∨4*l.length < n+sn.length)→(∀p,Sn sn p→p∈list∨Fin l sn p)→Xt3 l n sn list=none →
  ∃sn',(∀p,Sn sn p→Sn sn' p)∧∀p,Sn sn' p→Fin l sn' p
 | 0,sn,list,hs,hi,hl,hf,hc,_=>by
   have:=hs.len
   rcases hf with rfl|hf
   ·exact ⟨sn,fun _ h=>h,fun p hp=>(hc p hp).resolve_left (by simp)⟩
   ·omega
 | n+1,sn,list,hs,hi,hl,hf,hc,hg=>by
   rw [Xt3] at hg
   split at hg
   ·rename_i he
    subst he
    exact ⟨sn,fun _ h=>h,fun p hp=>(hc p hp).resolve_left (by simp)⟩
   rename_i hne
   simp only at hg
   have hgr:=XcP.spread hv hi (4*l.length+1) 0 (sn,list) (XcP.refl hs)
   have hall:=Xhm hv hi hl (4*l.length+1) 0 (sn,list) (XcP.refl hs) (by omega) (fun j hj=>absurd hj (Nat.not_lt_zero j))
   generalize Xbe l (4*l.length+1) 0 (sn,list)=q at *
   split at hg
   ·cases hg
   rename_i hm0
   split at hg
   ·cases hg
   rename_i hm1
   have hnm:=XmG hm0 hm1
   have hst:=Xpj l q.2 (q.1,[])
   have hgs:=XcP.step hv (sn:=q.1) (list:=[]) q.2 (q.1,[]) (XcP.refl hgr.ok) (hgr.in_ hi)
   have e:Xcv l q.1 q.2=q.2.foldl (fun q p=>XbV l p q) (q.1,[]):=rfl
   rw [←e] at hst hgs
   generalize Xcv l q.1 q.2=z at *
   obtain ⟨t,e1,e2⟩:=hgr.ext
   obtain ⟨u,f1,f2⟩:=hgs.ext
   rw [Xyy] at f2
   obtain ⟨sn',g1,g2⟩:=Xn5 hv n z.1 z.2 hgs.ok (hgs.in_ (fun p hp=>by cases hp)) (by rw [f1,f2];simp) (by
     by_cases hu:u=[]
     ·left;rw [f2,hu];rfl
     ·right
      have hu1:0 < u.length:=List.length_pos_iff.2 hu
      rw [f1,e1]
      simp only [XyA]
      have:=hf.resolve_left hne
      omega) (fun p hp=>by
     obtain ⟨y,hy,rfl⟩:=hp
     rw [f1] at hy
     rcases List.mem_append.1 hy with hy|hy
     ·right
      have hq:y.1∈q.2∨Fin l sn y.1:=by
       rw [e1] at hy
       rcases List.mem_append.1 hy with hy|hy
       ·rcases hc y.1 ⟨y,hy,rfl⟩ with h|h
        ·left;rw [e2];exact List.mem_append_left _ h
        ·right;exact h
       ·left;rw [e2];exact List.mem_append_right _ (List.mem_map.2 ⟨y,hy,rfl⟩)
      rcases hq with hq|hq
      ·exact ⟨fun r hr=>hst.2 r (hall _ hq r hr),fun r hr=>hst.1 _ hq r hr,hnm _ hq⟩
      ·exact ⟨fun r hr=>hst.2 r (hgr.sn (hq.1 r hr)),fun r hr=>hst.2 r (hgr.sn (hq.2.1 r hr)),hq.2.2⟩
     ·left;rw [f2];exact List.mem_map.2 ⟨y,hy,rfl⟩) hg
   exact ⟨sn',fun p hp=>g1 p (hst.2 p (hgr.sn hp)),g2⟩
inductive Rch (l:List Sx):Sp→Prop
 | root:Rch l ⟨0,true,false⟩
 | nxt (p q:Sp):Rch l p→Nxt l p q→Rch l q
 | nxb (p q:Sp):Rch l p→Nxb l p q→Rch l q
theorem Xko {l:List Sx} (hv:Xa5 l=true) (h:Xbk l=none) (p:Sp) (hp:Rch l p):(l.getD p.st default).kind≠5:=by
 unfold Xbk at h
 rw [if_neg (by rw [hv];decide)] at h
 have h0:0 < l.length:=by
  unfold Xa5 at hv
  rw [Bool.and_eq_true,Bool.and_eq_true,decide_eq_true_eq] at hv
  omega
 obtain ⟨sn',h1,h2⟩:=Xn5 hv (4*l.length+1) _ _ ⟨by simp,fun x hx=>by rw [List.mem_singleton] at hx;subst hx;exact h0,fun i x hx=>by
   cases i with
   | zero=>simp at hx;subst hx;exact .inl rfl
   | succ i=>simp at hx⟩ (fun p hp=>by rw [List.mem_singleton] at hp;subst hp;exact ⟨_,List.mem_singleton.2 rfl,rfl⟩) (by simp) (.inr (by simp only [Xyr,Xyu];omega)) (fun p ⟨y,hy,e⟩=>by rw [List.mem_singleton] at hy;subst hy;subst e;exact .inl (List.mem_singleton.2 rfl)) h
 have hs:Sn sn' p:=by
  induction hp with
  | root=>exact h1 _ ⟨_,List.mem_singleton.2 rfl,rfl⟩
  | nxt p q _ hq ih=>exact (h2 p ih).1 q hq
  | nxb p q _ hq ih=>exact (h2 p ih).2.1 q hq
 exact (h2 p hs).2.2
inductive Mt (l:List Nd) (t:List UInt8):Nat→Nat→Nat→Prop
 | emp (k p:Nat):(l.getD k default).kind=1→Mt l t k p p
 | set (k p:Nat):(l.getD k default).kind=2→p < t.length→(l.getD k default).set.testBit (chr t p)=true→Mt l t k p (p+1)
 | bol (k p:Nat):(l.getD k default).kind=8→(p=0∨chr t (p - 1)=10)→Mt l t k p p
 | eol (k p:Nat):(l.getD k default).kind=9→p < t.length→chr t p=10→Mt l t k p p
 | cat (k p j q:Nat):(l.getD k default).kind=3→Mt l t (l.getD k default).left p j→Mt l t (l.getD k default).right j q→Mt l t k p q
 | altl (k p q:Nat):(l.getD k default).kind=4→Mt l t (l.getD k default).left p q→Mt l t k p q
 | altr (k p q:Nat):(l.getD k default).kind=4→Mt l t (l.getD k default).right p q→Mt l t k p q
 | opt0 (k p:Nat):(l.getD k default).kind=7→Mt l t k p p
 | opt1 (k p q:Nat):(l.getD k default).kind=7→Mt l t (l.getD k default).left p q→Mt l t k p q
 | star0 (k p:Nat):(l.getD k default).kind=5→Mt l t k p p
 | star1 (k p j q:Nat):(l.getD k default).kind=5→Mt l t (l.getD k default).left p j→Mt l t k j q→Mt l t k p q
 | plus0 (k p q:Nat):(l.getD k default).kind=6→Mt l t (l.getD k default).left p q→Mt l t k p q
 | plus1 (k p j q:Nat):(l.getD k default).kind=6→Mt l t (l.getD k default).left p j→Mt l t k j q→Mt l t k p q
inductive Cl (R:Nat→Nat→Prop):Nat→Nat→Prop
 | refl (p:Nat):Cl R p p
 | step (p j q:Nat):R p j→Cl R j q→Cl R p q
theorem XtX {l:List Nd} {t:List UInt8} {k p q:Nat} (h:Mt l t k p q):(l.getD k default).kind=5→Cl (Mt l t (l.getD k default).left) p q:=by
 induction h with
 | star0 k p _=>exact fun _=>.refl p
 | star1 k p j q _ h1 _ _ ih=>exact fun e=>.step p j q h1 (ih e)
 | _=>intro e;omega
theorem XtW {l:List Nd} {t:List UInt8} {k p q:Nat} (h:Mt l t k p q):(l.getD k default).kind=6→∃j,Mt l t (l.getD k default).left p j∧Cl (Mt l t (l.getD k default).left) j q:=by
 induction h with
 | plus0 k p q _ h _=>exact fun _=>⟨q,h,.refl q⟩
 | plus1 k p j q _ h1 _ _ ih=>exact fun e=>(by obtain ⟨m,h2,h3⟩:=ih e;exact ⟨j,h1,.step j m q h2 h3⟩)
 | _=>intro e;omega
inductive Pth (S:List Sx) (t:List UInt8):Nat→Nat→Nat→Nat→Prop
 | refl (s p:Nat):Pth S t s p s p
 | out (s p z q:Nat):(S.getD s default).kind=2→Pth S t (S.getD s default).out p z q→Pth S t s p z q
 | other (s p z q:Nat):(S.getD s default).kind=2→Pth S t (S.getD s default).other p z q→Pth S t s p z q
 | set (s p z q:Nat):(S.getD s default).kind=1→p < t.length→(S.getD s default).set.testBit (chr t p)=true→Pth S t (S.getD s default).out (p+1) z q→Pth S t s p z q
 | bol (s p z q:Nat):(S.getD s default).kind=3→(p=0∨chr t (p - 1)=10)→Pth S t (S.getD s default).out p z q→Pth S t s p z q
 | eol (s p z q:Nat):(S.getD s default).kind=4→p < t.length→chr t p=10→Pth S t (S.getD s default).out p z q→Pth S t s p z q
theorem Pth.trans {S:List Sx} {t:List UInt8} {s p z q y r:Nat} (h:Pth S t s p z q) (h2:Pth S t z q y r):Pth S t s p y r:=by
 induction h with
 | refl=>exact h2
 | out s p z q e _ ih=>exact .out _ _ _ _ e (ih h2)
 | other s p z q e _ ih=>exact .other _ _ _ _ e (ih h2)
 | set s p z q e e1 e2 _ ih=>exact .set _ _ _ _ e e1 e2 (ih h2)
 | bol s p z q e e1 _ ih=>exact .bol _ _ _ _ e e1 (ih h2)
 | eol s p z q e e1 e2 _ ih=>exact .eol _ _ _ _ e e1 e2 (ih h2)
theorem Xqz {l m:List Sx} {i:Nat} (h:i < l.length):(l++m).getD i default=l.getD i default:=by
 rw [List.getD_eq_getElem?_getD,List.getD_eq_getElem?_getD,List.getElem?_append_left h]
theorem Xr3 (l:List Sx) (x:Sx):(l++[x]).getD l.length default=x:=by
 rw [List.getD_eq_getElem?_getD,List.getElem?_append_right (Nat.le_refl _),Nat.sub_self];rfl
theorem Xfy {l:List Sx} {i j:Nat} {x:Sx} (h:i≠j):(l.set i x).getD j default=l.getD j default:=by
 rw [List.getD_eq_getElem?_getD,List.getD_eq_getElem?_getD,List.getElem?_set_ne h]
theorem Xc0 {l:List Sx} {i:Nat} {x:Sx} (h:i < l.length):(l.set i x).getD i default=x:=by
 rw [List.getD_eq_getElem?_getD,List.getElem?_set_self h];rfl
theorem XdX {l:List Nd} {k m:Nat} (h:Xht l k m):∀(n:Nat) (ss:List Sx) (next:Nat),k < n→next < ss.length→∀i,i < ss.length→(bld n l ss k next).2.getD i default=ss.getD i default:=by
 induction h with
 | leaf k hk=>
   intro n ss next hn hs i hi
   obtain ⟨n,rfl⟩:∃q,n=q+1:=⟨n - 1,by omega⟩
   rw [Xcu]
   rcases Xmw hk with e|e|e|e<;>simp only [e,reduceCtorEq,Nat.reduceEqDiff,if_true,if_false,or_false]<;>first|rfl|exact Xqz hi
 | one k m hk hl h1 ih=>
   intro n ss next hn hs i hi
   obtain ⟨n,rfl⟩:∃q,n=q+1:=⟨n - 1,by omega⟩
   rw [Xcu]
   have i1:=ih n ss next (by omega) hs i hi
   have i2:=ih n (ss++[⟨2,0,next,0⟩]) ss.length (by omega) (by simp) i (by simp;omega)
   have i3:=(Xbm h1 n ss next (by omega) hs).1
   rw [Xqz hi] at i2
   rcases Xmx hk with e|e|e<;>simp only [e,reduceCtorEq,Nat.reduceEqDiff,if_true,if_false,or_false,or_true]
   ·rw [Xfy (by omega),i2]
   ·rw [Xfy (by omega),i2]
   ·rw [Xqz (by omega),i1]
 | two k m n hk hl hr h1 h2 ih1 ih2=>
   intro q ss next hn hs i hi
   obtain ⟨q,rfl⟩:∃p,q=p+1:=⟨q - 1,by omega⟩
   rw [Xcu]
   rcases Xmy hk with e|e
   ·have b2:=Xbm h2 q ss next (by omega) hs
    have i1:=ih2 q ss next (by omega) hs i hi
    have i2:=ih1 q (bld q l ss (l.getD k default).right next).2 (bld q l ss (l.getD k default).right next).1 (by omega) b2.2.2 i (by omega)
    simp only [e,reduceCtorEq,Nat.reduceEqDiff,if_true,if_false]
    rw [i2,i1]
   ·have b1:=Xbm h1 q ss next (by omega) hs
    have i1:=ih1 q ss next (by omega) hs i hi
    have b2:=Xbm h2 q (bld q l ss (l.getD k default).left next).2 next (by omega) (by omega)
    have i2:=ih2 q (bld q l ss (l.getD k default).left next).2 next (by omega) (by omega) i (by omega)
    simp only [e,reduceCtorEq,Nat.reduceEqDiff,if_true,if_false]
    rw [Xqz (by omega),i2,i1]
theorem Xqh {l:List Nd} {t:List UInt8} {S:List Sx} {k m:Nat} (h:Xht l k m):∀(n:Nat) (ss:List Sx) (next:Nat),k < n→next < ss.length→(∀i,ss.length≤i→i < (bld n l ss k next).2.length→S.getD i default=(bld n l ss k next).2.getD i default)→∀p q,Mt l t k p q→Pth S t (bld n l ss k next).1 p next q:=by
 induction h with
 | leaf k hk=>
   intro n ss next hn hs hA p q hm
   obtain ⟨n,rfl⟩:∃q,n=q+1:=⟨n - 1,by omega⟩
   rw [Xcu] at hA ⊢
   rcases Xmw hk with e|e|e|e<;>simp only [e,reduceCtorEq,Nat.reduceEqDiff,if_true,if_false,or_false] at hA ⊢
   ·cases hm with
    | emp=>exact .refl _ _
    | _=>omega
   ·have hx:=hA ss.length (Nat.le_refl _) (by simp)
    rw [Xr3] at hx
    cases hm with
    | set _ _ _ h1 h2=>exact .set _ _ _ _ (by rw [hx]) h1 (by rw [hx];exact h2) (by rw [hx];exact .refl _ _)
    | _=>omega
   ·have hx:=hA ss.length (Nat.le_refl _) (by simp)
    rw [Xr3] at hx
    cases hm with
    | bol _ _ _ h1=>exact .bol _ _ _ _ (by rw [hx]) h1 (by rw [hx];exact .refl _ _)
    | _=>omega
   ·have hx:=hA ss.length (Nat.le_refl _) (by simp)
    rw [Xr3] at hx
    cases hm with
    | eol _ _ _ h1 h2=>exact .eol _ _ _ _ (by rw [hx]) h1 h2 (by rw [hx];exact .refl _ _)
    | _=>omega
 | one k m hk hl h1 ih=>
   intro n ss next hn hs hA p q hm
   obtain ⟨n,rfl⟩:∃q,n=q+1:=⟨n - 1,by omega⟩
   rw [Xcu] at hA ⊢
   have i1:=ih n ss next (by omega) hs
   have i2:=ih n (ss++[⟨2,0,next,0⟩]) ss.length (by omega) (by simp)
   have b1:=Xbm h1 n ss next (by omega) hs
   have b2:=Xbm h1 n (ss++[⟨2,0,next,0⟩]) ss.length (by omega) (by simp)
   generalize bld n l ss (l.getD k default).left next=a at *
   generalize bld n l (ss++[⟨2,0,next,0⟩]) (l.getD k default).left ss.length=b at *
   rw [XyA,List.length_singleton] at b2 i2
   have loop:(l.getD k default).kind=5∨(l.getD k default).kind=6→(∀i,ss.length≤i→i < (b.2.set ss.length ⟨2,b.1,next,0⟩).length→S.getD i default=(b.2.set ss.length ⟨2,b.1,next,0⟩).getD i default) →
     (∀p q,Mt l t (l.getD k default).left p q→Pth S t b.1 p ss.length q)∧∀p q,Cl (Mt l t (l.getD k default).left) p q→Pth S t ss.length p next q:=fun _ hA=>by
    rw [List.length_set] at hA
    have g1:∀p q,Mt l t (l.getD k default).left p q→Pth S t b.1 p ss.length q:=i2 fun i hi1 hi2=>by
     rw [hA i (by omega) hi2,Xfy (by omega)]
    have hx:=hA ss.length (Nat.le_refl _) (by omega)
    rw [Xc0 (by omega)] at hx
    refine ⟨g1,fun p q hc=>?_⟩
    induction hc with
    | refl p=>exact .other _ _ _ _ (by rw [hx]) (by rw [hx];exact .refl _ _)
    | step p j q h1 _ ih=>exact .out _ _ _ _ (by rw [hx]) (by rw [hx];exact (g1 p j h1).trans ih)
   rcases Xmx hk with e|e|e<;>simp only [e,reduceCtorEq,Nat.reduceEqDiff,if_true,if_false,or_false,or_true] at hA ⊢
   ·exact (loop (.inl e) hA).2 p q (XtX hm e)
   ·obtain ⟨j,g1,g2⟩:=XtW hm e
    obtain ⟨g3,g4⟩:=loop (.inr e) hA
    exact (g3 p j g1).trans (g4 j q g2)
   ·rw [XyA,List.length_singleton] at hA
    have hx:=hA a.2.length (by omega) (by omega)
    rw [Xr3] at hx
    have g1:=i1 fun i hi1 hi2=>by rw [hA i hi1 (by omega),Xqz hi2]
    cases hm with
    | opt0=>exact .other _ _ _ _ (by rw [hx]) (by rw [hx];exact .refl _ _)
    | opt1 _ _ _ _ h=>exact .out _ _ _ _ (by rw [hx]) (by rw [hx];exact g1 p q h)
    | _=>omega
 | two k m n hk hl hr h1 h2 ih1 ih2=>
   intro z ss next hn hs hA p q hm
   obtain ⟨z,rfl⟩:∃p,z=p+1:=⟨z - 1,by omega⟩
   rw [Xcu] at hA ⊢
   rcases Xmy hk with e|e
   ·simp only [e,reduceCtorEq,Nat.reduceEqDiff,if_true,if_false] at hA ⊢
    have b2:=Xbm h2 z ss next (by omega) hs
    have i2:=ih2 z ss next (by omega) hs
    generalize bld z l ss (l.getD k default).right next=b at *
    have b1:=Xbm h1 z b.2 b.1 (by omega) b2.2.2
    have i1:=ih1 z b.2 b.1 (by omega) b2.2.2
    have pre:=XdX h1 z b.2 b.1 (by omega) b2.2.2
    generalize bld z l b.2 (l.getD k default).left b.1=a at *
    cases hm with
    | cat _ _ j _ _ g1 g2=>exact (i1 (fun i hi1 hi2=>hA i (by omega) hi2) p j g1).trans (i2 (fun i hi1 hi2=>by rw [hA i hi1 (by omega),pre i hi2]) j q g2)
    | _=>omega
   ·simp only [e,reduceCtorEq,Nat.reduceEqDiff,if_true,if_false] at hA ⊢
    have b1:=Xbm h1 z ss next (by omega) hs
    have i1:=ih1 z ss next (by omega) hs
    generalize bld z l ss (l.getD k default).left next=a at *
    have b2:=Xbm h2 z a.2 next (by omega) (by omega)
    have i2:=ih2 z a.2 next (by omega) (by omega)
    have pre:=XdX h2 z a.2 next (by omega) (by omega)
    generalize bld z l a.2 (l.getD k default).right next=b at *
    rw [XyA,List.length_singleton] at hA
    have hx:=hA b.2.length (by omega) (by omega)
    rw [Xr3] at hx
    cases hm with
    | altl _ _ _ _ h=>exact .out _ _ _ _ (by rw [hx]) (by rw [hx];exact i1 (fun i hi1 hi2=>by rw [hA i hi1 (by omega),Xqz (by omega),pre i hi2]) p q h)
    | altr _ _ _ _ h=>exact .other _ _ _ _ (by rw [hx]) (by rw [hx];exact i2 (fun i hi1 hi2=>by rw [hA i (by omega) (by omega),Xqz hi2]) p q h)
    | _=>omega
theorem Xe5 {n m:Nat} {s:Sx} (h:XgU n s=true) (hn:n≤m):XgU m s=true:=by
 unfold XgU at *
 split
 ·rw [if_pos ‹_›,Bool.and_eq_true,decide_eq_true_eq,decide_eq_true_eq] at h
  rw [Bool.and_eq_true,decide_eq_true_eq,decide_eq_true_eq];omega
 ·rw [if_neg ‹_›] at h
  split
  ·rw [if_pos ‹_›,decide_eq_true_eq] at h
   rw [decide_eq_true_eq];omega
  ·rw [if_neg ‹_›] at h;exact h
theorem Xvd {l:List Nd} {k m:Nat} (h:Xht l k m):∀(n:Nat) (ss:List Sx) (next:Nat),k < n→next < ss.length→∀i,ss.length≤i→i < (bld n l ss k next).2.length→XgU (bld n l ss k next).2.length ((bld n l ss k next).2.getD i default)=true:=by
 induction h with
 | leaf k hk=>
   intro n ss next hn hs i hi1 hi2
   obtain ⟨n,rfl⟩:∃q,n=q+1:=⟨n - 1,by omega⟩
   rw [Xcu] at hi2 ⊢
   rcases Xmw hk with e|e|e|e<;>simp only [e,reduceCtorEq,Nat.reduceEqDiff,if_true,if_false,or_false] at hi2 ⊢
   ·omega
   all_goals
    rw [XyA,List.length_singleton] at hi2 ⊢
    obtain rfl:i=ss.length:=by omega
    rw [Xr3]
    simp [XgU]
    omega
 | one k m hk hl h1 ih=>
   intro n ss next hn hs i hi1 hi2
   obtain ⟨n,rfl⟩:∃q,n=q+1:=⟨n - 1,by omega⟩
   rw [Xcu] at hi2 ⊢
   have i1:=ih n ss next (by omega) hs i hi1
   have i2:=ih n (ss++[⟨2,0,next,0⟩]) ss.length (by omega) (by simp) i
   have b1:=Xbm h1 n ss next (by omega) hs
   have b2:=Xbm h1 n (ss++[⟨2,0,next,0⟩]) ss.length (by omega) (by simp)
   generalize bld n l ss (l.getD k default).left next=a at *
   generalize bld n l (ss++[⟨2,0,next,0⟩]) (l.getD k default).left ss.length=b at *
   rw [XyA,List.length_singleton] at b2 i2
   rcases Xmx hk with e|e|e<;>simp only [e,reduceCtorEq,Nat.reduceEqDiff,if_true,if_false,or_false,or_true] at hi2 ⊢
   ·rw [List.length_set] at hi2 ⊢
    by_cases hie:i=ss.length
    ·subst hie;rw [Xc0 (by omega)];simp [XgU];omega
    ·rw [Xfy (by omega)];exact i2 (by omega) hi2
   ·rw [List.length_set] at hi2 ⊢
    by_cases hie:i=ss.length
    ·subst hie;rw [Xc0 (by omega)];simp [XgU];omega
    ·rw [Xfy (by omega)];exact i2 (by omega) hi2
   ·rw [XyA,List.length_singleton] at hi2 ⊢
    by_cases hie:i=a.2.length
    ·subst hie;rw [Xr3];simp [XgU];omega
    ·rw [Xqz (by omega)];exact Xe5 (i1 (by omega)) (by omega)
 | two k m n hk hl hr h1 h2 ih1 ih2=>
   intro z ss next hn hs i hi1 hi2
   obtain ⟨z,rfl⟩:∃p,z=p+1:=⟨z - 1,by omega⟩
   rw [Xcu] at hi2 ⊢
   rcases Xmy hk with e|e
   ·simp only [e,reduceCtorEq,Nat.reduceEqDiff,if_true,if_false] at hi2 ⊢
    have b2:=Xbm h2 z ss next (by omega) hs
    have i2:=ih2 z ss next (by omega) hs i hi1
    generalize bld z l ss (l.getD k default).right next=b at *
    have b1:=Xbm h1 z b.2 b.1 (by omega) b2.2.2
    have i1:=ih1 z b.2 b.1 (by omega) b2.2.2 i
    have pre:=XdX h1 z b.2 b.1 (by omega) b2.2.2 i
    generalize bld z l b.2 (l.getD k default).left b.1=a at *
    by_cases hie:i < b.2.length
    ·rw [pre hie];exact Xe5 (i2 hie) (by omega)
    ·exact i1 (by omega) hi2
   ·simp only [e,reduceCtorEq,Nat.reduceEqDiff,if_true,if_false] at hi2 ⊢
    have b1:=Xbm h1 z ss next (by omega) hs
    have i1:=ih1 z ss next (by omega) hs i hi1
    generalize bld z l ss (l.getD k default).left next=a at *
    have b2:=Xbm h2 z a.2 next (by omega) (by omega)
    have i2:=ih2 z a.2 next (by omega) (by omega) i
    have pre:=XdX h2 z a.2 next (by omega) (by omega) i
    generalize bld z l a.2 (l.getD k default).right next=b at *
    rw [XyA,List.length_singleton] at hi2 ⊢
    by_cases hie:i=b.2.length
    ·subst hie;rw [Xr3];simp [XgU];omega
    ·rw [Xqz (by omega)]
     by_cases hia:i < a.2.length
     ·rw [pre hia];exact Xe5 (i1 hia) (by omega)
     ·exact Xe5 (i2 (by omega) (by omega)) (by omega)
theorem Xmg {l:List Nd} (h:XbW l=true):Xa5 (XbU l)=true:=by
 obtain ⟨h1,h2,hT⟩:=Xd7 h
 have b:=Xbm hT l.length [⟨2,0,0,0⟩,⟨5,0,0,0⟩] 1 (by omega) (by decide)
 have ok:=Xvd hT l.length [⟨2,0,0,0⟩,⟨5,0,0,0⟩] 1 (by omega) (by decide)
 have pre:=XdX hT l.length [⟨2,0,0,0⟩,⟨5,0,0,0⟩] 1 (by omega) (by decide) 1 (by decide)
 unfold XbU
 simp only
 generalize bld l.length l [⟨2,0,0,0⟩,⟨5,0,0,0⟩] (l.length - 1) 1=r at *
 simp only [Xyr,Xyu] at b ok
 unfold Xa5
 rw [Bool.and_eq_true,Bool.and_eq_true,decide_eq_true_eq,decide_eq_true_eq,List.length_set]
 refine ⟨⟨by omega,by omega⟩,List.all_eq_true.2 fun x hx=>?_⟩
 obtain ⟨i,hi,rfl⟩:=List.getElem_of_mem hx
 rw [List.length_set] at hi
 have hg:(r.2.set 0 ⟨2,r.1,r.1,0⟩)[i]'(by rw [List.length_set];exact hi)=(r.2.set 0 ⟨2,r.1,r.1,0⟩).getD i default:=by
  rw [List.getD_eq_getElem?_getD,List.getElem?_eq_getElem (by rw [List.length_set];exact hi)];rfl
 rw [hg]
 by_cases h0:i=0
 ·subst h0;rw [Xc0 hi];simp [XgU];omega
 ·rw [Xfy (by omega)]
  by_cases h1:i=1
  ·subst h1;rw [pre];rfl
  ·exact ok i (by omega) hi
theorem Xwd {S:List Sx} {t:List UInt8} {s p z q:Nat} (h:Pth S t s p z q):∀b e,Rch S ⟨s,b,e⟩→((p=0∨chr t (p - 1)=10)→b=true)→(e=true→chr t p=10)→∃b' e',Rch S ⟨z,b',e'⟩:=by
 induction h with
 | refl s p=>exact fun b e hr _ _=>⟨b,e,hr⟩
 | out s p z q k _ ih=>exact fun b e hr hb he=>ih b e (.nxt _ _ hr (.out k)) hb he
 | other s p z q k _ ih=>exact fun b e hr hb he=>ih b e (.nxt _ _ hr (.other k)) hb he
 | bol s p z q k h1 _ ih=>exact fun b e hr hb he=>ih b e (.nxt _ _ hr (.bol k (hb h1))) hb he
 | eol s p z q k h1 h2 _ ih=>exact fun b e hr hb he=>ih b true (.nxt _ _ hr (.eol k)) hb (fun _=>h2)
 | set s p z q k h1 h2 _ ih=>
   intro b e hr hb he
   by_cases hc:chr t p=10
   ·rw [hc] at h2
    exact ih true false (.nxb _ _ hr (.nl k h2)) (fun _=>rfl) (fun h=>by cases h)
   ·have he':e=false:=by
     cases e with
     | false=>rfl
     | true=>exact absurd (he rfl) hc
    have hlt:chr t p < 256:=(t.getD p 0).toNat_lt
    cases ho:XdB (S.getD s default).set with
    | none=>
      unfold XdB at ho
      rw [List.find?_eq_none] at ho
      have:=ho (chr t p) (List.mem_range.2 hlt)
      exact absurd (by rw [h2,Bool.and_true];exact decide_eq_true hc) this
    | some c=>
      refine ih false false (.nxb _ _ hr (.ot c k ho he')) (fun h=>?_) (fun h=>by cases h)
      rcases h with h|h
      ·omega
      ·rw [Nat.add_sub_cancel] at h;exact absurd h hc
theorem Xi7 {l:List Nd} {t:List UInt8} {p q:Nat} (hv:XbW l=true) (hm:Mt l t (l.length - 1) p q):Xbk (XbU l)≠none:=by
 obtain ⟨h1,h2,hT⟩:=Xd7 hv
 intro hn
 have hsn:=Xko (Xmg hv) hn
 have b:=Xbm hT l.length [⟨2,0,0,0⟩,⟨5,0,0,0⟩] 1 (by omega) (by decide)
 have pre:=XdX hT l.length [⟨2,0,0,0⟩,⟨5,0,0,0⟩] 1 (by omega) (by decide) 1 (by decide)
 have pth:=Xqh (t:=t) (S:=XbU l) hT l.length [⟨2,0,0,0⟩,⟨5,0,0,0⟩] 1 (by omega) (by decide)
 have e:XbU l=(bld l.length l [⟨2,0,0,0⟩,⟨5,0,0,0⟩] (l.length - 1) 1).2.set 0 ⟨2,(bld l.length l [⟨2,0,0,0⟩,⟨5,0,0,0⟩] (l.length - 1) 1).1,(bld l.length l [⟨2,0,0,0⟩,⟨5,0,0,0⟩] (l.length - 1) 1).1,0⟩:=rfl
 generalize bld l.length l [⟨2,0,0,0⟩,⟨5,0,0,0⟩] (l.length - 1) 1=r at *
 generalize XbU l=S at *
 subst e
 simp only [Xyr,Xyu] at b pth
 have p1:=pth (fun i hi1 hi2=>Xfy (by omega)) p q hm
 have hx:(r.2.set 0 ⟨2,r.1,r.1,0⟩).getD 0 default=⟨2,r.1,r.1,0⟩:=Xc0 (by omega)
 have p0:Pth (r.2.set 0 ⟨2,r.1,r.1,0⟩) t 0 p 1 q:=.out _ _ _ _ (by rw [hx]) (by rw [hx];exact p1)
 obtain ⟨b',e',hr⟩:=Xwd p0 true false .root (fun _=>rfl) (fun h=>by cases h)
 refine hsn _ hr ?_
 show ((r.2.set 0 ⟨2,r.1,r.1,0⟩).getD 1 default).kind=5
 rw [Xfy (by omega),pre];rfl
end Go.Proofs.YtdlblokjfoggpaaGreatDoor

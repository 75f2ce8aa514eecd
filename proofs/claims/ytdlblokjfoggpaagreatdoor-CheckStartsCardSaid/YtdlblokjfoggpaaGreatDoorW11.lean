import Derived.Test.YtdlblokjfoggpaaGreatDoorW10
import Derived.Test.YtdlblokjfoggpaaGreatDoorW6
import Derived.Test.YtdlblokjfoggpaaGreatDoorW7
import Derived.Maps.Keyed
import Derived.Carry
/- Automata, in plain Lean: the trees that valid nodes are, and how many states they make. No program in sight. -/
set_option linter.unusedSimpArgs false
set_option linter.unusedVariables false
set_option maxRecDepth 100000
set_option maxHeartbeats 8000000
namespace Go.Proofs.YtdlblokjfoggpaaGreatDoor
inductive Xik (l:List Nd):Nat→Nat→Prop
 | leaf (k:Nat):Xc1 (l.getD k default).kind=some 0→Xik l k 1
 | one (k m:Nat):Xc1 (l.getD k default).kind=some 1→(l.getD k default).left < k→Xik l (l.getD k default).left m→Xik l k (m+1)
 | two (k m n:Nat):Xc1 (l.getD k default).kind=some 2→(l.getD k default).left < k→(l.getD k default).right < k→Xik l (l.getD k default).left m→Xik l (l.getD k default).right n→Xik l k (m+n+1)
theorem Xj5 {k c:Nat} (h:Xc1 k=some c):c≤2:=by
 unfold Xc1 at h
 split at h
 ·simp at h;omega
 split at h
 ·simp at h;omega
 split at h
 ·simp at h;omega
 ·cases h
def Xod (l:List Nd) (i:Nat) (roots:List Nat):Prop:=∃ms:List Nat,ms.length=roots.length∧ms.sum=i∧∀(j r m:Nat),roots[j]?=some r→ms[j]?=some m→r < i∧Xik l r m
theorem XpB {l:List Nd} {i:Nat} {roots r:List Nat} (h:Xod l i roots) (hs:Xft (l.getD i default) i roots=some r):Xod l (i+1) r∧r.getLast?=some i:=by
 obtain ⟨ms,h1,h2,h3⟩:=h
 unfold Xft at hs
 split at hs
 ·cases hs
 split at hs
 ·cases hs
 rename_i c hc
 split at hs
 ·cases hs
 rename_i hlen
 split at hs
 ·rename_i hk
  obtain rfl:=Option.some.inj hs
  have hc2:=Xj5 hc
  have hsum:(ms.take (roots.length - c)).sum+(ms.drop (roots.length - c)).sum=i:=by rw [←List.sum_append,List.take_append_drop,h2]
  have hget:∀q,q < c→∃m,(roots.drop (roots.length - c))[q]?=some ((roots.drop (roots.length - c)).getD q 0)∧ms[roots.length - c+q]?=some m∧(roots.drop (roots.length - c)).getD q 0 < i∧Xik l ((roots.drop (roots.length - c)).getD q 0) m:=fun q hq=>by
   have hb:roots.length - c+q < roots.length:=by omega
   have hr:(roots.drop (roots.length - c))[q]?=some roots[roots.length - c+q]:=by rw [List.getElem?_drop,List.getElem?_eq_getElem hb]
   have hd:(roots.drop (roots.length - c)).getD q 0=roots[roots.length - c+q]:=by rw [List.getD_eq_getElem?_getD,hr];rfl
   obtain ⟨g1,g2⟩:=h3 (roots.length - c+q) _ _ (List.getElem?_eq_getElem hb) (List.getElem?_eq_getElem (h1.symm▸hb))
   exact ⟨_,by rw [hd];exact hr,List.getElem?_eq_getElem (h1.symm▸hb),by rw [hd];exact g1,by rw [hd];exact g2⟩
  have key:∃m,Xik l i m∧m=(ms.drop (roots.length - c)).sum+1:=by
   match c,hc,hc2,hget,hk with
   | 0,hc,_,_,_=>
     refine ⟨1,.leaf i hc,?_⟩
     rw [show roots.length - 0=ms.length by omega,List.drop_length];rfl
   | 1,hc,_,hget,hk=>
     obtain ⟨m,_,g2,g3,g4⟩:=hget 0 (by decide)
     refine ⟨m+1,.one i m hc (by rw [hk.1];exact g3) (by rw [hk.1];exact g4),?_⟩
     have:ms.drop (roots.length - 1)=[m]:=by
      apply List.ext_getElem?
      intro q
      rw [List.getElem?_drop]
      match q with
      | 0=>exact g2
      | q+1=>rw [List.getElem?_eq_none (by omega)];simp
     rw [this];simp
   | 2,hc,_,hget,hk=>
     obtain ⟨m,_,g2,g3,g4⟩:=hget 0 (by decide)
     obtain ⟨n,_,k2,k3,k4⟩:=hget 1 (by decide)
     refine ⟨m+n+1,.two i m n hc (by rw [hk.1];exact g3) (by rw [hk.2];exact k3) (by rw [hk.1];exact g4) (by rw [hk.2];exact k4),?_⟩
     have:ms.drop (roots.length - 2)=[m,n]:=by
      apply List.ext_getElem?
      intro q
      rw [List.getElem?_drop]
      match q with
      | 0=>exact g2
      | 1=>exact k2
      | q+2=>rw [List.getElem?_eq_none (by omega)];simp
     rw [this];simp
  obtain ⟨m,ht,hm⟩:=key
  refine ⟨⟨ms.take (roots.length - c)++[m],by simp [h1],by simp;omega,fun j r' m' hr hm'=>?_⟩,by simp⟩
  by_cases hj:j < roots.length - c
  ·rw [List.getElem?_append_left (by simp;omega),List.getElem?_take,if_pos hj] at hr hm'
   obtain ⟨g1,g2⟩:=h3 j r' m' hr hm'
   exact ⟨by omega,g2⟩
  ·have hl1:(roots.take (roots.length - c)).length=roots.length - c:=by simp
   have hl2:(ms.take (roots.length - c)).length=roots.length - c:=by simp [h1]
   rw [List.getElem?_append_right (by omega),hl1] at hr
   rw [List.getElem?_append_right (by omega),hl2] at hm'
   match hq:j - (roots.length - c) with
   | 0=>rw [hq] at hr hm';simp at hr hm';subst hr hm';exact ⟨by omega,ht⟩
   | q+1=>rw [hq] at hr;simp at hr
 ·cases hs
theorem Xqp {l:List Nd}:∀(t:List Nd) (i:Nat) (roots r:List Nat),l.drop i=t→i≤l.length→Xod l i roots→vGo t i roots=some r→Xod l l.length r∧(t≠[]→r.getLast?=some (l.length - 1))
 | [],i,roots,r,ht,hi,h,hr=>by
   simp only [vGo,Option.some.injEq] at hr;subst hr
   have:i=l.length:=by have:=List.drop_eq_nil_iff.1 ht;omega
   subst this;exact ⟨h,fun h=>absurd rfl h⟩
 | n :: t,i,roots,r,ht,hi,h,hr=>by
   have hlt:i < l.length:=by
    rcases Nat.lt_or_ge i l.length with h|h
    ·exact h
    ·rw [List.drop_of_length_le h] at ht;cases ht
   rw [List.drop_eq_getElem_cons hlt] at ht
   obtain ⟨e1,e2⟩:=List.cons.inj ht
   have hn:l.getD i default=n:=by rw [List.getD_eq_getElem?_getD,List.getElem?_eq_getElem hlt];exact e1
   rw [vGo] at hr
   split at hr
   ·cases hr
   rename_i r1 h1
   rw [←hn] at h1
   obtain ⟨g1,g2⟩:=XpB h h1
   obtain ⟨k1,k2⟩:=Xqp t (i+1) r1 r e2 hlt g1 hr
   refine ⟨k1,fun _=>?_⟩
   cases t with
   | nil=>
     simp only [vGo,Option.some.injEq] at hr;subst hr
     have:=List.drop_eq_nil_iff.1 e2
     rw [g2];congr 1;omega
   | cons x t=>exact k2 (by simp)
theorem XgN {l:List Nd} (h:Xc0 l=true):l.length≤256∧0 < l.length∧Xik l (l.length - 1) l.length:=by
 unfold Xc0 at h
 rw [Bool.and_eq_true,decide_eq_true_eq] at h
 refine ⟨h.1,?_⟩
 have h2:=h.2
 split at h2
 ·cases h2
 rename_i r hr
 rw [decide_eq_true_eq] at h2
 obtain ⟨⟨ms,g1,g2,g3⟩,k⟩:=Xqp (l:=l) l 0 [] r (by simp) (Nat.zero_le _) ⟨[],rfl,rfl,fun j r m h=>by simp at h⟩ hr
 have hne:l≠[]:=by
  rintro rfl
  simp only [vGo,Option.some.injEq] at hr;subst hr;cases h2
 have hl:0 < l.length:=List.length_pos_iff.2 hne
 refine ⟨hl,?_⟩
 match r,h2 with
 | [x],_=>
   match ms,g1 with
   | [m],_=>
     have hx:x=l.length - 1:=by have:=k hne;simpa using this
     have hm:m=l.length:=by simpa using g2
     have:=(g3 0 x m rfl rfl).2
     rw [hx,hm] at this;exact this
theorem Xer (n:Nat) (l:List Nd) (ss:List Sx) (k next:Nat):bld (n+1) l ss k next =
  if (l.getD k default).kind=2 then (ss.length,ss++[⟨1,next,0,(l.getD k default).set⟩]) else
  if (l.getD k default).kind=8 then (ss.length,ss++[⟨3,next,0,0⟩]) else
  if (l.getD k default).kind=9 then (ss.length,ss++[⟨4,next,0,0⟩]) else
  if (l.getD k default).kind=3 then bld n l (bld n l ss (l.getD k default).right next).2 (l.getD k default).left (bld n l ss (l.getD k default).right next).1 else
  if (l.getD k default).kind=4 then
   ((bld n l (bld n l ss (l.getD k default).left next).2 (l.getD k default).right next).2.length,(bld n l (bld n l ss (l.getD k default).left next).2 (l.getD k default).right next).2++[⟨2,(bld n l ss (l.getD k default).left next).1,(bld n l (bld n l ss (l.getD k default).left next).2 (l.getD k default).right next).1,0⟩]) else
  if (l.getD k default).kind=7 then
   ((bld n l ss (l.getD k default).left next).2.length,(bld n l ss (l.getD k default).left next).2++[⟨2,(bld n l ss (l.getD k default).left next).1,next,0⟩]) else
  if (l.getD k default).kind=5∨(l.getD k default).kind=6 then
   (if (l.getD k default).kind=6 then (bld n l (ss++[⟨2,0,next,0⟩]) (l.getD k default).left ss.length).1 else ss.length,(bld n l (ss++[⟨2,0,next,0⟩]) (l.getD k default).left ss.length).2.set ss.length ⟨2,(bld n l (ss++[⟨2,0,next,0⟩]) (l.getD k default).left ss.length).1,next,0⟩) else (next,ss):=rfl
theorem Xre {k:Nat} (h:Xc1 k=some 1):k=5∨k=6∨k=7:=by
 unfold Xc1 at h
 split at h
 ·simp at h
 split at h
 ·assumption
 split at h<;>simp at h
theorem Xrf {k:Nat} (h:Xc1 k=some 2):k=3∨k=4:=by
 unfold Xc1 at h
 split at h
 ·simp at h
 split at h
 ·simp at h
 split at h
 ·assumption
 ·simp at h
theorem Xrd {k:Nat} (h:Xc1 k=some 0):k=1∨k=2∨k=8∨k=9:=by
 unfold Xc1 at h
 split at h
 ·assumption
 split at h
 ·simp at h
 split at h<;>simp at h
theorem Xd9 {l:List Nd} {k m:Nat} (h:Xik l k m):∀(n:Nat) (ss:List Sx) (next:Nat),k < n→next < ss.length→ss.length≤(bld n l ss k next).2.length∧(bld n l ss k next).2.length≤ss.length+m∧(bld n l ss k next).1 < (bld n l ss k next).2.length:=by
 induction h with
 | leaf k hk=>
   intro n ss next hn hs
   obtain ⟨n,rfl⟩:∃q,n=q+1:=⟨n - 1,by omega⟩
   rw [Xer]
   rcases Xrd hk with e|e|e|e<;>simp only [e,reduceCtorEq,Nat.reduceEqDiff,if_true,if_false,or_false,XvF,List.length_singleton]<;>omega
 | one k m hk hl _ ih=>
   intro n ss next hn hs
   obtain ⟨n,rfl⟩:∃q,n=q+1:=⟨n - 1,by omega⟩
   rw [Xer]
   have i1:=ih n ss next (by omega) hs
   have i2:=ih n (ss++[⟨2,0,next,0⟩]) ss.length (by omega) (by simp)
   rw [XvF,List.length_singleton] at i2
   rcases Xre hk with e|e|e<;>simp only [e,reduceCtorEq,Nat.reduceEqDiff,if_true,if_false,or_false,or_true,List.length_set,XvF,List.length_singleton]<;>omega
 | two k m n hk hl hr _ _ ih1 ih2=>
   intro q ss next hn hs
   obtain ⟨q,rfl⟩:∃p,q=p+1:=⟨q - 1,by omega⟩
   rw [Xer]
   rcases Xrf hk with e|e
   ·have i1:=ih2 q ss next (by omega) hs
    have i2:=ih1 q (bld q l ss (l.getD k default).right next).2 (bld q l ss (l.getD k default).right next).1 (by omega) i1.2.2
    simp only [e,reduceCtorEq,Nat.reduceEqDiff,if_true,if_false]
    omega
   ·have i1:=ih1 q ss next (by omega) hs
    have i2:=ih2 q (bld q l ss (l.getD k default).left next).2 next (by omega) (by omega)
    simp only [e,reduceCtorEq,Nat.reduceEqDiff,if_true,if_false,XvF,List.length_singleton]
    omega
theorem Xji:∀(n:Nat) (d:List Int),d.Nodup→(∀x∈d,0≤x∧x < (n:Int))→d.length≤n
 | 0,d,_,h=>by
   cases d with
   | nil=>simp
   | cons a d=>have:=h a (List.mem_cons_self ..);omega
 | n+1,d,hd,h=>by
   by_cases hm:(n:Int)∈d
   ·have h1:=Xji n (d.erase n) (hd.erase _) (fun x hx=>by
     rw [hd.mem_erase_iff] at hx
     have:=h x hx.2
     have:=hx.1
     omega)
    rw [List.length_erase_of_mem hm] at h1
    omega
   ·have:=Xji n d hd (fun x hx=>by
     have:=h x hx
     have:x≠n:=fun e=>hm (e▸hx)
     omega)
    omega
structure Xfv (n:Nat) (sn:SnL):Prop where
 nodup:(sn.map (·.1)).Nodup
 st:∀x∈sn,x.1.st < n
 chain:∀(i:Nat) x,sn[i]?=some x→x.2.root=true∨∃j,∃y,j < i∧sn[j]?=some y∧y.1=x.2.from_
def spN (p:Sp):Int:=((4*p.st+(if p.bol then 2 else 0)+(if p.eol then 1 else 0):Nat):Int)
theorem Xr1 {p q:Sp} (h:spN p=spN q):p=q:=by
 obtain ⟨a,b,c⟩:=p
 obtain ⟨a',b',c'⟩:=q
 unfold spN at h
 cases b<;>cases b'<;>cases c<;>cases c'<;>simp at h ⊢<;>omega
theorem Xfv.len {n:Nat} {sn:SnL} (h:Xfv n sn):sn.length≤4*n:=by
 have:=Xji (4*n) (sn.map fun x=>spN x.1) (by
  have h1:=h.nodup
  rw [List.nodup_iff_pairwise_ne,List.pairwise_map] at h1 ⊢
  exact h1.imp fun hne e=>hne (Xr1 e)) (fun x hx=>by
  obtain ⟨y,hy,rfl⟩:=List.mem_map.1 hx
  have:=h.st y hy
  unfold spN
  split<;>split<;>omega)
 simpa using this
theorem Xfv.reach {n:Nat} {sn:SnL} {list:List Sp} (h:Xfv n sn) (d:Sp) (o:Og) (hd:d.st < n) (ho:∃y∈sn,y.1=o.from_) :
  Xfv n (XaL (sn,list) d o).1∧(∃t,(XaL (sn,list) d o).1=sn++t∧(XaL (sn,list) d o).2=list++t.map (·.1)):=by
 unfold XaL
 split
 ·exact ⟨h,[],by simp,by simp⟩
 ·rename_i hn
  refine ⟨⟨?_,fun x hx=>?_,fun i x hx=>?_⟩,[(d,o)],rfl,rfl⟩
  ·rw [List.map_append,List.nodup_append]
   refine ⟨h.nodup,by simp,fun a ha b hb e=>?_⟩
   simp only [Xvy,XvC,List.mem_singleton] at hb
   subst hb e
   obtain ⟨y,hy,e⟩:=List.mem_map.1 ha
   exact hn (List.any_eq_true.2 ⟨y,hy,by simp [e]⟩)
  ·rcases List.mem_append.1 hx with hx|hx
   ·exact h.st x hx
   ·rw [List.mem_singleton] at hx;subst hx;exact hd
  ·by_cases hi:i < sn.length
   ·rw [List.getElem?_append_left hi] at hx
    rcases h.chain i x hx with hr|⟨j,y,h1,h2,h3⟩
    ·exact .inl hr
    ·exact .inr ⟨j,y,h1,by rw [List.getElem?_append_left (Nat.lt_trans h1 hi)];exact h2,h3⟩
   ·rw [List.getElem?_append_right (Nat.le_of_not_lt hi)] at hx
    match hq:i - sn.length with
    | 0=>
      rw [hq] at hx;simp at hx;subst hx
      obtain ⟨y,hy,e⟩:=ho
      obtain ⟨j,hj,hjy⟩:=List.getElem_of_mem hy
      exact .inr ⟨j,y,by omega,by rw [List.getElem?_append_left hj,List.getElem?_eq_getElem hj,hjy],e⟩
    | q+1=>rw [hq] at hx;simp at hx
def In (sn:SnL) (list:List Sp):Prop:=∀p∈list,∃y∈sn,y.1=p
structure Xdm (n:Nat) (sn:SnL) (list:List Sp) (q:SnL × List Sp):Prop where
 ok:Xfv n q.1
 ext:∃t,q.1=sn++t∧q.2=list++t.map (·.1)
theorem Xdm.refl {n:Nat} {sn:SnL} {list:List Sp} (h:Xfv n sn):Xdm n sn list (sn,list):=⟨h,[],by simp,by simp⟩
theorem Xdm.trans {n:Nat} {sn:SnL} {list:List Sp} {q r:SnL × List Sp} (h:Xdm n sn list q) (k:Xdm n q.1 q.2 r):Xdm n sn list r:=by
 obtain ⟨t,e1,e2⟩:=h.ext
 obtain ⟨u,f1,f2⟩:=k.ext
 exact ⟨k.ok,t++u,by rw [f1,e1,List.append_assoc],by rw [f2,e2,List.map_append,List.append_assoc]⟩
theorem Xdm.reach {n:Nat} {sn:SnL} {list:List Sp} {q:SnL × List Sp} (h:Xdm n sn list q) (d:Sp) (o:Og) (hd:d.st < n) (ho:∃y∈q.1,y.1=o.from_):Xdm n sn list (XaL q d o):=
 h.trans (by obtain ⟨a,b⟩:=q;exact ⟨(h.ok.reach d o hd ho).1,(h.ok.reach d o hd ho).2⟩)
theorem Xdm.sub {n:Nat} {sn:SnL} {list:List Sp} {q:SnL × List Sp} (h:Xdm n sn list q) {p:Sp} (hp:∃y∈sn,y.1=p):∃y∈q.1,y.1=p:=by
 obtain ⟨t,e,_⟩:=h.ext
 obtain ⟨y,hy,e'⟩:=hp
 exact ⟨y,by rw [e];exact List.mem_append_left _ hy,e'⟩
theorem Xdm.in_ {n:Nat} {sn:SnL} {list:List Sp} {q:SnL × List Sp} (h:Xdm n sn list q) (hi:In sn list):In q.1 q.2:=by
 obtain ⟨t,e,e2⟩:=h.ext
 intro p hp
 rw [e2] at hp
 rcases List.mem_append.1 hp with hp|hp
 ·exact h.sub (hi p hp)
 ·obtain ⟨y,hy,rfl⟩:=List.mem_map.1 hp
  exact ⟨y,by rw [e];exact List.mem_append_right _ hy,rfl⟩
theorem XeO {l:List Sx} (hv:Xbw l=true) {k:Nat} (hk:k < l.length):XlE l.length (l.getD k default)=true:=by
 unfold Xbw at hv
 rw [Bool.and_eq_true] at hv
 rw [List.getD_eq_getElem?_getD,List.getElem?_eq_getElem hk]
 exact List.all_eq_true.1 hv.2 _ (List.getElem_mem hk)
theorem Xqm {n:Nat} {s:Sx} (h:XlE n s=true) (hk:s.kind=2):s.out < n∧s.other < n:=by
 unfold XlE at h;rw [if_pos hk,Bool.and_eq_true,decide_eq_true_eq,decide_eq_true_eq] at h;exact h
theorem Xih {n:Nat} {s:Sx} (h:XlE n s=true) (hk:s.kind=1∨s.kind=3∨s.kind=4):s.out < n:=by
 unfold XlE at h;rw [if_neg (by omega),if_pos hk,decide_eq_true_eq] at h;exact h
theorem Xdm.from {l:List Sx} (hv:Xbw l=true) {sn:SnL} {list:List Sp} {q:SnL × List Sp} (h:Xdm l.length sn list q) (p:Sp) (hp:∃y∈q.1,y.1=p):Xdm l.length sn list (Xdl l p q):=by
 have hs:p.st < l.length:=by obtain ⟨y,hy,rfl⟩:=hp;exact h.ok.st y hy
 have hk:=XeO hv hs
 unfold Xdl
 simp only
 split
 ·rename_i e
  have:=Xqm hk e
  have h1:=h.reach ⟨(l.getD p.st default).out,p.bol,p.eol⟩ { from_:=p } this.1 hp
  exact h1.reach _ _ this.2 (by obtain ⟨t,e1,_⟩:=(h.ok.reach (list:=q.2) ⟨(l.getD p.st default).out,p.bol,p.eol⟩ { from_:=p } this.1 hp).2;obtain ⟨y,hy,e'⟩:=hp;exact ⟨y,by rw [show XaL q _ _=XaL (q.1,q.2) _ _ from rfl,e1];exact List.mem_append_left _ hy,e'⟩)
 split
 ·rename_i e
  split
  ·exact h.reach _ _ (Xih hk (.inr (.inl e))) hp
  ·exact h
 split
 ·rename_i e;exact h.reach _ _ (Xih hk (.inr (.inr e))) hp
 ·exact h
theorem Xdm.spread {l:List Sx} (hv:Xbw l=true) {sn:SnL} {list:List Sp} (hi:In sn list):∀(n i:Nat) (q:SnL × List Sp),Xdm l.length sn list q→Xdm l.length sn list (XbF l n i q)
 | 0,_,_,h=>h
 | n+1,i,q,h=>by
   rw [XbF]
   split
   ·rename_i hlt
    refine Xdm.spread hv hi n (i+1) _ (h.from hv _ ?_)
    have hm:q.2.getD i default∈q.2:=by rw [List.getD_eq_getElem?_getD,List.getElem?_eq_getElem hlt];exact List.getElem_mem hlt
    exact h.in_ hi _ hm
   ·exact h
theorem XjC {l:List Sx} (n i:Nat) (q:SnL × List Sp) (h:¬i < q.2.length):XbF l n i q=q:=by
 cases n with
 | zero=>rfl
 | succ n=>rw [XbF,if_neg h]
theorem Xdm.step1 {l:List Sx} (hv:Xbw l=true) {sn:SnL} {list:List Sp} {q:SnL × List Sp} (h:Xdm l.length sn list q) (p:Sp) (hp:∃y∈q.1,y.1=p):Xdm l.length sn list (Xc8 l p q):=by
 have hs:p.st < l.length:=by obtain ⟨y,hy,rfl⟩:=hp;exact h.ok.st y hy
 have hk:=XeO hv hs
 unfold Xc8
 simp only
 split
 ·exact h
 rename_i e
 have e:(l.getD p.st default).kind=1:=by omega
 have ho:=Xih hk (.inl e)
 have h1:Xdm l.length sn list (if (l.getD p.st default).set.testBit 10=true then XaL q ⟨(l.getD p.st default).out,true,false⟩ { from_:=p,over:=true,c:=10 } else q)∧∃y∈(if (l.getD p.st default).set.testBit 10=true then XaL q ⟨(l.getD p.st default).out,true,false⟩ { from_:=p,over:=true,c:=10 } else q).1,y.1=p:=by
  split
  ·refine ⟨h.reach _ _ ho hp,?_⟩
   obtain ⟨t,e1,_⟩:=(h.ok.reach (list:=q.2) ⟨(l.getD p.st default).out,true,false⟩ { from_:=p,over:=true,c:=10 } ho hp).2
   obtain ⟨y,hy,e'⟩:=hp
   exact ⟨y,by rw [show XaL q _ _=XaL (q.1,q.2) _ _ from rfl,e1];exact List.mem_append_left _ hy,e'⟩
  ·exact ⟨h,hp⟩
 split
 ·exact h1.1
 ·split
  ·exact h1.1
  ·exact h1.1.reach _ _ ho h1.2
theorem Xdm.step {l:List Sx} (hv:Xbw l=true) {sn:SnL} {list:List Sp}:∀(ps:List Sp) (q:SnL × List Sp),Xdm l.length sn list q→In sn ps→Xdm l.length sn list (ps.foldl (fun q p=>Xc8 l p q) q)
 | [],q,h,_=>h
 | p :: ps,q,h,hp=>by
   rw [Xvu]
   exact Xdm.step hv ps _ (h.step1 hv p (h.sub (hp p (by simp)))) (fun x hx=>hp x (by simp [hx]))
theorem XfK {n:Nat} {sn:SnL} (h:Xfv n sn) {i:Nat} {x:Sp × Og} (hx:sn[i]?=some x):Xn7 sn x.1=x.2:=by
 unfold Xn7
 have hm:x∈sn:=List.mem_of_getElem? hx
 cases hf:sn.find? (fun y=>y.1 == x.1) with
 | none=>exact absurd (List.find?_eq_none.1 hf x hm) (by simp)
 | some y=>
   have h1:=List.find?_some hf
   have h2:=List.mem_of_find?_eq_some hf
   simp only [beq_iff_eq] at h1
   have hnd:=h.nodup
   rw [List.nodup_iff_pairwise_ne,List.pairwise_map] at hnd
   obtain ⟨j,hj,hjy⟩:=List.getElem_of_mem h2
   have hil:i < sn.length:=(List.getElem?_eq_some_iff.1 hx).1
   have hix:sn[i]=x:=(List.getElem?_eq_some_iff.1 hx).2
   have hp:=List.pairwise_iff_getElem.1 hnd
   have:i=j:=by
    rcases Nat.lt_trichotomy i j with h3|h3|h3
    ·exact absurd (by rw [hix,hjy];exact h1.symm) (hp i j hil hj h3)
    ·exact h3
    ·exact absurd (by rw [hix,hjy];exact h1) (hp j i hj hil h3)
   subst this
   rw [hix] at hjy
   subst hjy
   rfl
open Go.RowKit
set_option linter.defProp false
def wd (n k:Nat):Nat:=n / 2 ^ (64*k) % 2 ^ 64
theorem XcI (n k:Nat):wd n k < 18446744073709551616:=Nat.mod_lt _ (by decide)
theorem XaI (k:Nat):wd 0 k=0:=by simp [wd]
theorem Xej (n k i:Nat):(wd n k).testBit i=(decide (i < 64) && n.testBit (64*k+i)):=by
 unfold wd
 rw [Nat.testBit_mod_two_pow,Nat.testBit_div_two_pow,Nat.add_comm]
theorem XtX (m n k:Nat):wd (m ||| n) k=wd m k ||| wd n k:=by
 apply Nat.eq_of_testBit_eq
 intro i
 rw [Nat.testBit_or,Xej,Xej,Xej,Nat.testBit_or,Bool.and_or_distrib_left]
theorem XtV (c k:Nat):wd (1 <<< c) k=if c / 64=k then 1 <<< (c % 64) else 0:=by
 apply Nat.eq_of_testBit_eq
 intro i
 rw [Xej]
 have h1:∀a b:Nat,(1 <<< a).testBit b=decide (a=b):=fun a b=>by rw [Nat.one_shiftLeft,Nat.testBit_two_pow]
 rw [h1]
 split
 ·rw [h1]
  by_cases hi:i < 64
  ·simp [hi];omega
  ·simp [hi];omega
 ·rw [Nat.zero_testBit]
  by_cases hi:i < 64
  ·simp [hi];omega
  ·simp [hi]
theorem XpH (n k:Nat) (hk:k < 4):wd (XhL n) k=wd n k ^^^ 18446744073709551615:=by
 apply Nat.eq_of_testBit_eq
 intro i
 rw [Nat.testBit_xor,Xej,Xej]
 unfold XhL
 rw [Nat.testBit_xor,show (18446744073709551615:Nat)=2 ^ 64 - 1 from rfl,Nat.testBit_two_pow_sub_one,Nat.testBit_two_pow_sub_one]
 by_cases hi:i < 64
 ·have h1:64*k+i < 256:=by omega
  simp [hi,h1]
 ·simp [hi]
theorem Xsk (n c:Nat) (hc:c < 256):((wd n (c / 64) >>> (c % 64)) &&& 1)=if n.testBit c then 1 else 0:=by
 have h:=Xej n (c / 64) (c % 64)
 rw [show 64*(c / 64)+c % 64=c from by omega,show decide (c % 64 < 64)=true from by simp;omega,Bool.true_and] at h
 rw [←h,Nat.testBit]
 rw [Nat.and_comm 1,bne,Nat.and_one_is_mod]
 rcases Nat.mod_two_eq_zero_or_one (wd n (c / 64) >>> (c % 64)) with e|e<;>rw [e]<;>rfl
def XpN (j:Nat):Nat:=1 <<< j
def Xuh (n j:Nat):Nat:=n >>> j
theorem Xcy {j:Nat} (h:j < 64):XpN j < 18446744073709551616:=by
 have:(2:Nat) ^ j < 2 ^ 64:=Nat.pow_lt_pow_right (by decide) h
 simpa [XpN,Nat.one_shiftLeft] using this
theorem Xcz {n:Nat} (j:Nat) (h:n < 18446744073709551616):Xuh n j < 18446744073709551616:=Nat.lt_of_le_of_lt (Nat.shiftRight_le _ _) h
theorem XtW (n c:Nat) (hc:c < 256):(Xuh (wd n (c / 64)) (c % 64) &&& 1)=if n.testBit c then 1 else 0:=Xsk n c hc
def w4 (n:Nat):List AV:=[.x (.int .u64 (wd n 0:Nat)),.x (.int .u64 (wd n 1:Nat)),.x (.int .u64 (wd n 2:Nat)),.x (.int .u64 (wd n 3:Nat))]
def v4 (n:Nat):Value:=.agg #[.int .u64 (wd n 0:Nat),.int .u64 (wd n 1:Nat),.int .u64 (wd n 2:Nat),.int .u64 (wd n 3:Nat)]
@[simp] theorem Xvd (n:Nat):(w4 n).length=4:=rfl
theorem XjG:w4 0=[.x (.int .u64 0),.x (.int .u64 0),.x (.int .u64 0),.x (.int .u64 0)]:=by simp [w4,XaI]
theorem Xsi (n k:Nat) (hk:k < 4):∃l,(w4 n).drop k=.x (.int .u64 (wd n k:Nat)) :: l:=by
 match k,hk with
 | 0,_=>exact ⟨_,rfl⟩
 | 1,_=>exact ⟨_,rfl⟩
 | 2,_=>exact ⟨_,rfl⟩
 | 3,_=>exact ⟨_,rfl⟩
theorem Xsj (n k:Nat) (hk:k < 4):((w4 n).drop k).getD 0 .top=.x (.int .u64 (wd n k:Nat)):=by
 obtain ⟨l,h⟩:=Xsi n k hk;rw [h];rfl
theorem XtT (n c:Nat) (hc:c < 256):spl (w4 n) (c / 64) [.x (.int .u64 ((wd n (c / 64) ||| XpN (c % 64):Nat):Int))]=w4 (n ||| 1 <<< c):=by
 have h:∀k,wd (n ||| 1 <<< c) k=if c / 64=k then wd n k ||| 1 <<< (c % 64) else wd n k:=fun k=>by
  rw [XtX,XtV];split
  ·rfl
  ·simp
 have:c / 64 < 4:=by omega
 unfold w4 XpN
 rw [h,h,h,h]
 match hq:c / 64,this with
 | 0,_=>simp [spl]
 | 1,_=>simp [spl]
 | 2,_=>simp [spl]
 | 3,_=>simp [spl]
theorem XpG (n:Nat):List.take 4 (w4 n)=w4 n:=rfl
theorem XpF (n:Nat):List.drop 4 (w4 n)=[]:=rfl
theorem XuX (n:Nat):(w4 n).all AV.ex=true:=rfl
theorem XtU (n:Nat):(List.map AV.val (w4 n)).toArray=#[.int .u64 (wd n 0:Nat),.int .u64 (wd n 1:Nat),.int .u64 (wd n 2:Nat),.int .u64 (wd n 3:Nat)]:=rfl
def w4r (n:Nat):=And.intro (XpG n) (And.intro (XpF n) (And.intro (XuX n) (XtU n)))
class Xoa (P:Program) (t:TypeId) (L:outParam Nat) (e:outParam TypeId) (size:outParam Nat):Prop where out:P.underlying t=some (.array L e)∧(P.info? e).map (·.size)=some size
class Xdb (i:Int) (j:outParam Nat):Prop where out:i=(j:Int)
instance {n:Nat}:Xdb (n:Int) n:=⟨rfl⟩
instance:Xdb 64 64:=⟨rfl⟩
instance:Xdb 1 1:=⟨rfl⟩
instance {i j:Int} {m n:Nat} [h:Xdb i m] [k:Xdb j n]:Xdb (i+j) (m+n):=⟨by rw [h.out,k.out];simp⟩
instance {i j:Int} {m n:Nat} [h:Xdb i m] [k:Xdb j n]:Xdb (i / j) (m / n):=⟨by rw [h.out,k.out];simp⟩
instance {i j:Int} {m n:Nat} [h:Xdb i m] [k:Xdb j n]:Xdb (i % j) (m % n):=⟨by rw [h.out,k.out];simp⟩
def w4m (m n k:Nat):List AV:=(List.range 4).map fun i=>.x (.int .u64 ((if i < k then wd n i else wd m i:Nat):Int))
theorem Xkt (m n:Nat):w4m m n 4=w4 n:=rfl
@[simp] theorem XuY (m n k:Nat):(w4m m n k).length=4:=rfl
theorem Xqq (m n k:Nat) (hk:k < 4):((w4m m n k).drop k).getD 0 .top=.x (.int .u64 (wd m k:Nat)):=by
 match k,hk with
 | 0,_=>rfl
 | 1,_=>rfl
 | 2,_=>rfl
 | 3,_=>rfl
theorem Xn2 (m n k:Nat) (hk:k < 4):spl (w4m m n k) k [.x (.int .u64 (wd n k:Nat))]=w4m m n (k+1):=by
 match k,hk with
 | 0,_=>rfl
 | 1,_=>rfl
 | 2,_=>rfl
 | 3,_=>rfl
section
variable {P:Program} {V O:Nat→Prop} {w0 w w':World} {H H' D:List Hp} {T T':List AV} {a:Act} {o:Oper} {ρ:Operand→AV}
theorem Xkr (n:Nat) (h:n < 18446744073709551616):IntKind.u64.wrap (n:Int)=n:=by
 simp only [IntKind.wrap,IntKind.bits,IntKind.signed];simp;omega
theorem XpO (n:Nat) (h:n < 18446744073709551616):(BitVec.ofInt 64 (n:Int)).toNat=n:=by
 simp;omega
def bop:BinOp→Nat→Nat→Option Nat
 | .or,m,n=>some (m ||| n)
 | .and,m,n=>some (m &&& n)
 | .xor,m,n=>some (m ^^^ n)
 | _,_,_=>none
theorem Xma (op:BinOp) (m n r:Nat) (hm:m < 18446744073709551616) (hn:n < 18446744073709551616) (hr:bop op m n=some r) (w:World):(Op.intBits op .u64 m n).run P w=.ok (.int .u64 r) w:=by
 unfold Op.intBits
 have hl:r < 2 ^ 64:=by
  cases op<;>simp [bop] at hr<;>subst hr
  ·exact Nat.lt_of_le_of_lt Nat.and_le_left hm
  ·exact Nat.or_lt_two_pow hm hn
  ·exact Nat.xor_lt_two_pow hm hn
 cases op<;>simp only [bop,reduceCtorEq,Option.some.injEq] at hr<;>subst hr
 all_goals
  simp only [Sem.run_pure]
  rw [show IntKind.bits .u64=64 from rfl]
  first|rw [BitVec.toNat_or]|rw [BitVec.toNat_and]|rw [BitVec.toNat_xor]
  rw [XpO _ hm,XpO _ hn,Xkr _ hl]
theorem Xc5 {av:AV} (h:XeR P o ρ H av):Evl P o ρ H av:=by
 intro V a w Kc Q ok hKc
 obtain ⟨v,h1,h2⟩:=h V a w ok
 unfold Oper.wp
 rw [h1 w]
 exact hKc _ _ (Below.refl _ _) h2
theorem XgQ (op:BinOp) (t u:TypeId) (x y:Operand) (m n r:Nat) (ho:o.op=.binOp op t x y u) (hx:ρ x=.x (.int .u64 m)) (hy:ρ y=.x (.int .u64 n)) (hm:m < 18446744073709551616) (hn:n < 18446744073709551616) (hr:bop op m n=some r) :
  XeR P o ρ H (.x (.int .u64 r)):=by
 intro V a w ok
 have e1:=ok.evx (by simp [ho,Op.operands]) hx
 have e2:=ok.evx (by simp [ho,Op.operands]) hy
 refine ⟨_,fun w'=>?_,by rw [Den]⟩
 have hb:=Xma (P:=P) op m n r hm hn hr w'
 cases op<;>simp only [bop,reduceCtorEq] at hr<;>simp [execOp,ho,e1,e2,eqGuard,binOp,hb,Result.andThen]
theorem Xhu (t u:TypeId) (x y:Operand) (k:IntKind) (i:Int) (j:Nat) (ho:o.op=.binOp .shl t x y u) (hx:ρ x=.x (.int .u64 1)) (hy:ρ y=.x (.int k i)) (hi:i=(j:Int)) (hj:j < 64) :
  XeR P o ρ H (.x (.int .u64 (XpN j:Nat))):=by
 subst hi
 intro V a w ok
 have e1:=ok.evx (by simp [ho,Op.operands]) hx
 have e2:=ok.evx (by simp [ho,Op.operands]) hy
 refine ⟨_,fun w'=>?_,by rw [Den]⟩
 have hm:min j 64=j:=by omega
 have hp:(2:Nat) ^ j < 18446744073709551616:=by
  have:(2:Nat) ^ j < 2 ^ 64:=Nat.pow_lt_pow_right (by decide) hj
  simpa using this
 have hw:IntKind.u64.wrap (2 ^ j:Int)=(2 ^ j:Int):=by
  have:=Xkr (2 ^ j) hp
  simpa using this
 have hn:¬(j:Int) < 0:=by omega
 simp [execOp,ho,e1,e2,eqGuard,binOp,Op.shift,hn,IntKind.bits,hm,hw,XpN,Nat.one_shiftLeft,Result.andThen]
theorem XjM (t u:TypeId) (x y:Operand) (k:IntKind) (n:Nat) (i:Int) (j:Nat) (ho:o.op=.binOp .shr t x y u) (hx:ρ x=.x (.int .u64 n)) (hy:ρ y=.x (.int k i)) (hi:i=(j:Int)) (hj:j < 64) :
  XeR P o ρ H (.x (.int .u64 (Xuh n j:Nat))):=by
 subst hi
 intro V a w ok
 have e1:=ok.evx (by simp [ho,Op.operands]) hx
 have e2:=ok.evx (by simp [ho,Op.operands]) hy
 refine ⟨_,fun w'=>?_,by rw [Den]⟩
 have hm:min j 64=j:=by omega
 have hn:¬(j:Int) < 0:=by omega
 have hd:(n:Int).fdiv (2 ^ j)=((n >>> j:Nat):Int):=by
  rw [Int.fdiv_eq_ediv_of_nonneg _ (by exact_mod_cast Nat.zero_le (2 ^ j))]
  simp [Int.shiftRight_eq_div_pow]
 simp [execOp,ho,e1,e2,eqGuard,binOp,Op.shift,hn,IntKind.bits,hm,hd,Xuh,Int.shiftRight_eq_div_pow,Result.andThen]
theorem Xht (t:TypeId) (x:Operand) (n:Nat) (ho:o.op=.unOp .xor t x) (hx:ρ x=.x (.int .u64 n)) (hn:n < 18446744073709551616) :
  XeR P o ρ H (.x (.int .u64 (n ^^^ 18446744073709551615:Nat))):=by
 intro V a w ok
 have e1:=ok.evx (by simp [ho,Op.operands]) hx
 refine ⟨_,fun w'=>?_,by rw [Den]⟩
 have hb:=Xma (P:=P) .xor 18446744073709551615 n (n ^^^ 18446744073709551615) (by decide) hn (by simp [bop,Nat.xor_comm]) w'
 have hm:(if IntKind.signed .u64 then (-1:Int) else IntKind.max .u64)=((18446744073709551615:Nat):Int):=by decide
 simp only [execOp,ho,e1,Op.unary,hm,hb,Sem.run_bind,Sem.run_pure,Result.andThen_ok]
theorem Xd2 (t e:TypeId) (x y:Operand) (L size b off:Nat) (k:IntKind) (i:Int) (j:Nat) (ho:o.op=.indexAddr t x y) (hx:ρ x=.x (.pointer (some ⟨b,off,none⟩))) (hy:ρ y=.x (.int k i)) (hA:P.underlying t=some (.array L e)∧(P.info? e).map (·.size)=some size)
  (hi:i=(j:Int)) (hj:j < L):XeR P o ρ H (.x (.pointer (some ⟨b,off+j*size,none⟩))):=by
 subst hi
 intro V a w ok
 have e1:=ok.evx (by simp [ho,Op.operands]) hx
 have e2:=ok.evx (by simp [ho,Op.operands]) hy
 refine ⟨_,fun w'=>?_,by rw [Den]⟩
 obtain ⟨ht,hs⟩:=hA
 obtain ⟨inf,hi1,hi2⟩:=Option.map_eq_some_iff.1 hs
 have hadd:(⟨b,off,none⟩:Addr).add (j*size)=⟨b,off+j*size,none⟩:=by unfold Addr.add;split<;>simp_all
 have h1:(0:Int)≤j∧(j:Int) < (L:Int):=by omega
 simp [execOp,ho,e1,e2,Instr.indexAt,asIntOf,run_underlying ht,Instr.sureAddr,h1,hj,sizeOf,typeInfo,hi1,hi2,hadd,Result.andThen]
end
open Go.RowKit
theorem XbC {α:Type} (l:List α) (k:Nat) (h:k < l.length):l.take (k+1)=l.take k++[l[k]]:=by
 rw [List.take_succ_eq_append_getElem h]
def sa (l:List (List UInt8)):List AV:=l.map fun s=>.x (.string (bs s))
@[simp] theorem Xvb (l:List (List UInt8)):(sa l).length=l.length:=by simp [sa]
theorem Xei (l:List (List UInt8)) (k:Nat) (h:k < l.length):(sa l).drop k=.x (.string (bs l[k])) :: sa (l.drop (k+1)):=by
 rw [sa,←List.map_drop,List.drop_eq_getElem_cons h];rfl
theorem XnG (l m:List (List UInt8)):sa (l++m)=sa l++sa m:=by simp [sa]
theorem XnT (l m:List UInt8):u8a (l++m)=u8a l++u8a m:=by simp [u8a,u8s]
theorem XdX (b:UInt8) (l:List UInt8):u8a (b :: l)=.x (.int .u8 (b.toNat:Nat)) :: u8a l:=by simp [u8a,u8s]
theorem XnU:u8a []=[]:=rfl
def Sx.cells (n:Sx):List AV:=.x (.int .i64 n.kind) :: .x (.int .i64 n.out) :: .x (.int .i64 n.other) :: w4 n.set
def Sx.val (n:Sx):Value:=.agg #[.int .i64 n.kind,.int .i64 n.out,.int .i64 n.other,.int .u64 (wd n.set 0:Nat),.int .u64 (wd n.set 1:Nat),.int .u64 (wd n.set 2:Nat),.int .u64 (wd n.set 3:Nat)]
def sxa (l:List Sx):List AV:=l.flatMap Sx.cells
@[simp] theorem XuT (l:List Sx):(sxa l).length=l.length*7:=by
 induction l with
 | nil=>rfl
 | cons a l ih=>
   have e:sxa (a :: l)=a.cells++sxa l:=by simp [sxa]
   rw [e,XvF,ih];simp [Sx.cells];omega
theorem Xsc (l:List Sx) (n:Sx):sxa l++n.cells=sxa (l++[n]):=by simp [sxa]
theorem Xhl (l:List Sx) (k:Nat) (h:k < l.length):(sxa l).drop (k*7)=l[k].cells++sxa (l.drop (k+1)):=by
 induction l generalizing k with
 | nil=>simp at h
 | cons a l ih=>
   have e:sxa (a :: l)=a.cells++sxa l:=by simp [sxa]
   cases k with
   | zero=>simp [e]
   | succ k=>
     rw [e,show (k+1)*7=a.cells.length+k*7 by simp [Sx.cells];omega,List.drop_append]
     simp only [XvF,Nat.add_sub_cancel_left]
     rw [List.drop_eq_nil_of_le (by omega),XvD,ih k (by simpa using h)]
     simp
def Sp.cells (s:Sp):List AV:=[.x (.int .i64 s.st),.x (.bool s.bol),.x (.bool s.eol)]
def spa (l:List Sp):List AV:=l.flatMap Sp.cells
@[simp] theorem XuQ (l:List Sp):(spa l).length=l.length*3:=by
 induction l with
 | nil=>rfl
 | cons a l ih=>
   have e:spa (a :: l)=a.cells++spa l:=by simp [spa]
   rw [e,XvF,ih];simp [Sp.cells];omega
theorem Xr4 (l:List Sp) (n:Sp):spa l++n.cells=spa (l++[n]):=by simp [spa]
theorem Xkm (l:List Sp) (k:Nat) (h:k < l.length):(spa l).drop (k*3)=l[k].cells++spa (l.drop (k+1)):=by
 induction l generalizing k with
 | nil=>simp at h
 | cons a l ih=>
   have e:spa (a :: l)=a.cells++spa l:=by simp [spa]
   cases k with
   | zero=>simp [e]
   | succ k=>
     rw [e,show (k+1)*3=a.cells.length+k*3 by simp [Sp.cells];omega,List.drop_append]
     simp only [XvF,Nat.add_sub_cancel_left]
     rw [List.drop_eq_nil_of_le (by omega),XvD,ih k (by simpa using h)]
     simp
def Sp.val (s:Sp):Value:=.agg #[.int .i64 s.st,.bool s.bol,.bool s.eol]
open Go.Maps (Keyed)
open Go.ChangeMaps (setBlock heap_setBlock_same heap_setBlock_other)
section
variable {P:Program} {Δ:List Deferred} {V O:Nat→Prop} {w0 w w':World} {H H' D:List Hp} {T T':List AV} {a:Act} {o:Oper} {K:List AV→List Hp→Prop} {ρ:Operand→AV}
def Xfe (P:Program) (k:TypeId) (l:List (Value × Value)):Prop:=∀x∈l,∃q,keyOf P k x.1=some q
def Hit (P:Program) (e:TypeId) (l:List (Value × Value)) (key v:Value) (f:Bool):Prop:=
 (f=true∧(key,v)∈l∧∀y∈l,y.1=key→y.2=v)∨(f=false∧(∀y∈l,y.1≠key)∧(P.info? e).bind (·.zero)=some v)
theorem Xg3 {k:TypeId} (Kd:Keyed P k) {es:Array MapEntry} {l:List (Value × Value)} (hes:es.toList.map (fun x=>(x.key,x.val))=l) (hk:Xfe P k l) {key:Value} {q:Lit} (hq:keyOf P k key=some q) (w:World) :
  ((Instr.findKey k key es.toList).run P w=.ok none w∧∀y∈l,y.1≠key)∨∃j e,(Instr.findKey k key es.toList).run P w=.ok (some (j,e.val)) w∧es.toList[j]?=some e∧e.key=key∧(key,e.val)∈l:=by
 subst hes
 rcases Kd.find w hq es.toList (fun e he=>hk (e.key,e.val) (List.mem_map.2 ⟨e,he,rfl⟩)) with ⟨h1,h2⟩|⟨j,e,h1,h2,h3⟩
 ·refine .inl ⟨h1,fun y hy=>?_⟩
  obtain ⟨e,he,rfl⟩:=List.mem_map.1 hy
  exact h2 e he
 ·exact .inr ⟨j,e,h1,h2,h3,List.mem_map.2 ⟨e,List.mem_of_getElem? h2,by rw [h3]⟩⟩
theorem Xkw (i:Nat) (t:TypeId) (x ix:Operand) (c:Bool) (k e:TypeId) (b:Nat) (l:List (Value × Value)) (key v:Value) (f:Bool) (ho:o.op=.lookup t x ix c) (ht:P.underlying t=some (.map k e))
  (hx:ρ x=.x (.map (some b))) (hi:H[i]?=some (.map b l)) (hkx:ρ ix=.x key) (Kd:Keyed P k) (hk:Xfe P k l) (hq:∃q,keyOf P k key=some q) (hh:Hit P e l key v f) :
  Evl P o ρ H (.x (if c then .tuple #[v,.bool f] else v)):=by
 intro V a w Kc Q r hKc
 obtain ⟨es,clock,hb,hes⟩:=r.hp i _ hi
 obtain ⟨q,hq⟩:=hq
 have e1:=r.evx (by simp [ho,Op.operands]) hx
 have e2:=r.evx (by simp [ho,Op.operands]) hkx
 have hrun:(execOp a.eval o).run P w=.ok (.value (if c then .tuple #[v,.bool f] else v)) w:=by
  rcases Xg3 Kd hes hk hq w with ⟨h1,h2⟩|⟨j,y,h1,h2,h3,h4⟩
  ·rcases hh with ⟨_,hm,_⟩|⟨rfl,_,hz⟩
   ·exact absurd rfl (h2 _ hm)
   ·obtain ⟨inf,hi1,hz1⟩:=Option.bind_eq_some_iff.1 hz
    simp [execOp,ho,Instr.lookup,run_underlying ht,MapKept.run_getObj_map hb,e1,e2,Kd.check w _ hq,h1,zeroValue,typeInfo,hi1,hz1,Result.andThen]
  ·rcases hh with ⟨rfl,hm,hu⟩|⟨rfl,hn,_⟩
   ·have:=hu _ h4 rfl
    simp [execOp,ho,Instr.lookup,run_underlying ht,MapKept.run_getObj_map hb,e1,e2,Kd.check w _ hq,h1,Result.andThen,←this]
   ·exact absurd rfl (hn _ h4)
 unfold Oper.wp
 rw [hrun]
 exact hKc _ _ (Below.refl _ _) (by rw [Den])
theorem Xip (t:TypeId) (ho:o.op=.makeMap t none)
  (hK:∀b,K (Xbd T o.dst (.x (.map (some b)))) (.map b [] :: H)):Stp P o T H K:=by
 intro Δ V O w0 a w Kc Q r hKc
 have hrun:(execOp a.eval o).run P w=.ok (.value (.map (some w.heap.size))) (w.alloc (.map #[] 0)):=by
  have h0:=run_makeMap (P:=P) t w
  simp [execOp,ho,h0,Result.andThen]
 unfold Oper.wp
 rw [hrun]
 refine hKc _ _ _ _ (hK w.heap.size) (Rel.put (Rel.new r (Ext.al _ _) _ ?_ ?_) _ (by rw [Den]))
 ·intro k hk;cases hk;simp
 ·exact ⟨#[],0,(MapKept.heap_alloc w _).1,rfl⟩
theorem Xky (i:Nat) (t:TypeId) (m x y:Operand) (k e:TypeId) (b:Nat) (l:List (Value × Value)) (key v:Value) (ho:o.op=.mapUpdate t m x y) (ht:P.underlying t=some (.map k e))
  (hm:ev T m=.x (.map (some b))) (hi:H[i]?=some (.map b l)) (hx:ev T x=.x key) (hy:ev T y=.x v) (Kd:Keyed P k) (hk:Xfe P k l) (hq:∃q,keyOf P k key=some q) (hn:∀y∈l,y.1≠key)
  (hK:K (Xbd T o.dst (.x undef)) (H.set i (.map b (l++[(key,v)])))):Stp P o T H K:=by
 intro Δ V O w0 a w Kc Q r hKc
 obtain ⟨es,clock,hb,hes⟩:=r.hp i _ hi
 obtain ⟨q,hq⟩:=hq
 have e1:=r.evx hm
 have e2:=r.evx hx
 have e3:=r.evx hy
 have hrun:(execOp a.eval o).run P w=.ok .skip (setBlock w b (.map (es.push ⟨key,v,clock⟩) (clock+1))):=by
  rcases Xg3 Kd hes hk hq w with ⟨h1,h2⟩|⟨j,y,h1,h2,h3,h4⟩
  ·simp [execOp,ho,Instr.mapUpdate,run_underlying ht,MapKept.run_getObj_map hb,e1,e2,e3,Kd.check w false hq,h1,MapKept.run_setObj_map _ hb,Result.andThen,setBlock]
  ·exact absurd rfl (hn _ h4)
 have hlt:b < w.heap.size:=(Array.getElem?_eq_some_iff.1 hb).1
 unfold Oper.wp
 rw [hrun]
 have hoth:∀k,k≠b→(setBlock w b (.map (es.push ⟨key,v,clock⟩) (clock+1))).heap[k]?=w.heap[k]?:=fun k hk=>heap_setBlock_other hb _ hk
 refine hKc _ _ _ _ hK (Rel.put (Rel.turnAt (w':=setBlock w b (.map (es.push ⟨key,v,clock⟩) (clock+1))) (y:=.map b (l++[(key,v)])) r i hi rfl rfl rfl (by simp [setBlock]) (fun k _ hk=>hoth k (fun e=>hk (by rw [e];rfl))) (fun k hk=>⟨by cases hk;simpa [setBlock] using hlt,.inl hk⟩) ?_) _ (by rw [Den]))
 exact ⟨_,_,heap_setBlock_same hb _,by simp [hes]⟩
end
end Go.Proofs.YtdlblokjfoggpaaGreatDoor

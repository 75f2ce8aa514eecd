import Derived.Test.YtdlblokjfoggpaaGreatDoorW10
import Derived.Test.YtdlblokjfoggpaaGreatDoorW7
import Derived.Test.YtdlblokjfoggpaaGreatDoorW11
import Derived.DeepKeys4
/- Automata, in plain Lean: what nfa.Compile and nfa.Sample compute. No program in sight. -/
set_option linter.unusedSimpArgs false
set_option linter.unusedVariables false
set_option maxRecDepth 100000
set_option maxHeartbeats 8000000
namespace Go.Proofs.YtdlblokjfoggpaaGreatDoor
def XcO (k:Nat):Option Nat:=
 if k=1∨k=2∨k=8∨k=9 then some 0 else if k=5∨k=6∨k=7 then some 1 else if k=3∨k=4 then some 2 else none
def XcL (n:Nd) (i:Nat) (roots:List Nat):Option (List Nat):=
 if n.kind≠2∧n.set % 115792089237316195423570985008687907853269984665640564039457584007913129639936≠0 then none else
 match XcO n.kind with
 | none=>none
 | some c=>if roots.length < c then none else
   if n.left=(roots.drop (roots.length - c)).getD 0 0∧n.right=(roots.drop (roots.length - c)).getD 1 0 then some (roots.take (roots.length - c)++[i]) else none
def vGo:List Nd→Nat→List Nat→Option (List Nat)
 | [],_,roots=>some roots
 | n :: l,i,roots=>match XcL n i roots with
   | none=>none
   | some r=>vGo l (i+1) r
def XbW (l:List Nd):Bool:=decide (l.length≤256) && (match vGo l 0 [] with|none=>false|some r=>decide (r.length=1))
structure Sx where
 kind:Nat
 out:Nat:=0
 other:Nat:=0
 set:Nat:=0
 deriving Inhabited,DecidableEq
def bld:Nat→List Nd→List Sx→Nat→Nat→Nat × List Sx
 | 0,_,ss,_,next=>(next,ss)
 | n+1,l,ss,k,next=>
   let d:=l.getD k default
   if d.kind=2 then (ss.length,ss++[⟨1,next,0,d.set⟩]) else
   if d.kind=8 then (ss.length,ss++[⟨3,next,0,0⟩]) else
   if d.kind=9 then (ss.length,ss++[⟨4,next,0,0⟩]) else
   if d.kind=3 then bld n l (bld n l ss d.right next).2 d.left (bld n l ss d.right next).1 else
   if d.kind=4 then
    let a:=bld n l ss d.left next
    let b:=bld n l a.2 d.right next
    (b.2.length,b.2++[⟨2,a.1,b.1,0⟩]) else
   if d.kind=7 then
    let a:=bld n l ss d.left next
    (a.2.length,a.2++[⟨2,a.1,next,0⟩]) else
   if d.kind=5∨d.kind=6 then
    let a:=bld n l (ss++[⟨2,0,next,0⟩]) d.left ss.length
    (if d.kind=6 then a.1 else ss.length,a.2.set ss.length ⟨2,a.1,next,0⟩) else (next,ss)
def XbU (l:List Nd):List Sx:=
 let r:=bld l.length l [⟨2,0,0,0⟩,⟨5,0,0,0⟩] (l.length - 1) 1
 r.2.set 0 ⟨2,r.1,r.1,0⟩
def XgU (n:Nat) (s:Sx):Bool:=if s.kind=2 then decide (s.out < n) && decide (s.other < n) else if s.kind=1∨s.kind=3∨s.kind=4 then decide (s.out < n) else decide (s.kind=5)
def Xa5 (l:List Sx):Bool:=decide (l.length≠0) && decide (l.length≤513) && l.all (XgU l.length)
structure Sp where
 st:Nat
 bol:Bool:=false
 eol:Bool:=false
 deriving Inhabited,DecidableEq
structure Og where
 from_:Sp:=⟨0,false,false⟩
 root:Bool:=false
 over:Bool:=false
 c:Nat:=0
 deriving Inhabited,DecidableEq
abbrev SnL:=List (Sp × Og)
def XaB (q:SnL × List Sp) (d:Sp) (o:Og):SnL × List Sp:=if q.1.any (fun x=>x.1 == d) then q else (q.1++[(d,o)],q.2++[d])
def XcJ (l:List Sx) (p:Sp) (q:SnL × List Sp):SnL × List Sp:=
 let s:=l.getD p.st default
 if s.kind=2 then XaB (XaB q ⟨s.out,p.bol,p.eol⟩ { from_:=p }) ⟨s.other,p.bol,p.eol⟩ { from_:=p } else
 if s.kind=3 then (if p.bol then XaB q ⟨s.out,p.bol,p.eol⟩ { from_:=p } else q) else
 if s.kind=4 then XaB q ⟨s.out,p.bol,true⟩ { from_:=p } else q
def Xbe (l:List Sx):Nat→Nat→SnL × List Sp→SnL × List Sp
 | 0,_,q=>q
 | n+1,i,q=>if i < q.2.length then Xbe l n (i+1) (XcJ l (q.2.getD i default) q) else q
def XdB (s:Nat):Option Nat:=(List.range 256).find? fun c=>c≠10 && s.testBit c
def XbV (l:List Sx) (p:Sp) (q:SnL × List Sp):SnL × List Sp:=
 let s:=l.getD p.st default
 if s.kind≠1 then q else
 let q1:=if s.set.testBit 10 then XaB q ⟨s.out,true,false⟩ { from_:=p,over:=true,c:=10 } else q
 match XdB s.set with
 | none=>q1
 | some c=>if p.eol then q1 else XaB q1 ⟨s.out,false,false⟩ { from_:=p,over:=true,c:=c }
def Xcv (l:List Sx) (seen:SnL) (list:List Sp):SnL × List Sp:=list.foldl (fun q p=>XbV l p q) (seen,[])
def XpP (seen:SnL) (p:Sp):Og:=((seen.find? fun x=>x.1 == p).map (·.2)).getD {}
def Xcw (seen:SnL):Nat→Sp→List UInt8
 | 0,_=>[]
 | n+1,p=>let o:=XpP seen p;if o.root then [] else (if o.over then [UInt8.ofNat o.c] else [])++Xcw seen n o.from_
def Xcp (l:List Sx) (list:List Sp) (eol:Bool):Option Sp:=list.find? fun p=>(l.getD p.st default).kind == 5 && p.eol == eol
def Xt3 (l:List Sx):Nat→SnL→List Sp→Option (List UInt8)
 | 0,_,_=>none
 | n+1,seen,list=>
   if list=[] then none else
   let q:=Xbe l (4*l.length+1) 0 (seen,list)
   match Xcp l q.2 false with
   | some p=>some (Xcw q.1 (4*l.length+1) p).reverse
   | none=>match Xcp l q.2 true with
     | some p=>some ((Xcw q.1 (4*l.length+1) p).reverse++[10])
     | none=>Xt3 l n (Xcv l q.1 q.2).1 (Xcv l q.1 q.2).2
def Xbk (l:List Sx):Option (List UInt8):=
 if Xa5 l=false then none else Xt3 l (4*l.length+1) [(⟨0,true,false⟩,{ root:=true })] [⟨0,true,false⟩]
inductive Xht (l:List Nd):Nat→Nat→Prop
 | leaf (k:Nat):XcO (l.getD k default).kind=some 0→Xht l k 1
 | one (k m:Nat):XcO (l.getD k default).kind=some 1→(l.getD k default).left < k→Xht l (l.getD k default).left m→Xht l k (m+1)
 | two (k m n:Nat):XcO (l.getD k default).kind=some 2→(l.getD k default).left < k→(l.getD k default).right < k→Xht l (l.getD k default).left m→Xht l (l.getD k default).right n→Xht l k (m+n+1)
theorem Xk7 {k c:Nat} (h:XcO k=some c):c≤2:=by
 unfold XcO at h
 split at h
 ·simp at h;omega
 split at h
 ·simp at h;omega
 split at h
 ·simp at h;omega
 ·cases h
def XpU (l:List Nd) (i:Nat) (roots:List Nat):Prop:=∃ms:List Nat,ms.length=roots.length∧ms.sum=i∧∀(j r m:Nat),roots[j]?=some r→ms[j]?=some m→r < i∧Xht l r m
theorem XrB {l:List Nd} {i:Nat} {roots r:List Nat} (h:XpU l i roots) (hs:XcL (l.getD i default) i roots=some r):XpU l (i+1) r∧r.getLast?=some i:=by
 obtain ⟨ms,h1,h2,h3⟩:=h
 unfold XcL at hs
 split at hs
 ·cases hs
 split at hs
 ·cases hs
 rename_i c hc
 split at hs
 ·cases hs
 rename_i hlen
 split at hs
 ·rename_i hk
  obtain rfl:=Option.some.inj hs
  have hc2:=Xk7 hc
  have hsum:(ms.take (roots.length - c)).sum+(ms.drop (roots.length - c)).sum=i:=by rw [←List.sum_append,List.take_append_drop,h2]
  have hget:∀q,q < c→∃m,(roots.drop (roots.length - c))[q]?=some ((roots.drop (roots.length - c)).getD q 0)∧ms[roots.length - c+q]?=some m∧(roots.drop (roots.length - c)).getD q 0 < i∧Xht l ((roots.drop (roots.length - c)).getD q 0) m:=fun q hq=>by
   have hb:roots.length - c+q < roots.length:=by omega
   have hr:(roots.drop (roots.length - c))[q]?=some roots[roots.length - c+q]:=by rw [List.getElem?_drop,List.getElem?_eq_getElem hb]
   have hd:(roots.drop (roots.length - c)).getD q 0=roots[roots.length - c+q]:=by rw [List.getD_eq_getElem?_getD,hr];rfl
   obtain ⟨g1,g2⟩:=h3 (roots.length - c+q) _ _ (List.getElem?_eq_getElem hb) (List.getElem?_eq_getElem (h1.symm▸hb))
   exact ⟨_,by rw [hd];exact hr,List.getElem?_eq_getElem (h1.symm▸hb),by rw [hd];exact g1,by rw [hd];exact g2⟩
  have key:∃m,Xht l i m∧m=(ms.drop (roots.length - c)).sum+1:=by
   match c,hc,hc2,hget,hk with
   | 0,hc,_,_,_=>
     refine ⟨1,.leaf i hc,?_⟩
     rw [show roots.length - 0=ms.length by omega,List.drop_length];rfl
   | 1,hc,_,hget,hk=>
     obtain ⟨m,_,g2,g3,g4⟩:=hget 0 (by decide)
     refine ⟨m+1,.one i m hc (by rw [hk.1];exact g3) (by rw [hk.1];exact g4),?_⟩
     have:ms.drop (roots.length - 1)=[m]:=by
      apply List.ext_getElem?
      intro q
      rw [List.getElem?_drop]
      match q with
      | 0=>exact g2
      | q+1=>rw [List.getElem?_eq_none (by omega)];simp
     rw [this];simp
   | 2,hc,_,hget,hk=>
     obtain ⟨m,_,g2,g3,g4⟩:=hget 0 (by decide)
     obtain ⟨n,_,k2,k3,k4⟩:=hget 1 (by decide)
     refine ⟨m+n+1,.two i m n hc (by rw [hk.1];exact g3) (by rw [hk.2];exact k3) (by rw [hk.1];exact g4) (by rw [hk.2];exact k4),?_⟩
     have:ms.drop (roots.length - 2)=[m,n]:=by
      apply List.ext_getElem?
      intro q
      rw [List.getElem?_drop]
      match q with
      | 0=>exact g2
      | 1=>exact k2
      | q+2=>rw [List.getElem?_eq_none (by omega)];simp
     rw [this];simp
  obtain ⟨m,ht,hm⟩:=key
  refine ⟨⟨ms.take (roots.length - c)++[m],by simp [h1],by simp;omega,fun j r' m' hr hm'=>?_⟩,by simp⟩
  by_cases hj:j < roots.length - c
  ·rw [List.getElem?_append_left (by simp;omega),List.getElem?_take,if_pos hj] at hr hm'
   obtain ⟨g1,g2⟩:=h3 j r' m' hr hm'
   exact ⟨by omega,g2⟩
  ·have hl1:(roots.take (roots.length - c)).length=roots.length - c:=by simp
   have hl2:(ms.take (roots.length - c)).length=roots.length - c:=by simp [h1]
   rw [List.getElem?_append_right (by omega),hl1] at hr
   rw [List.getElem?_append_right (by omega),hl2] at hm'
   match hq:j - (roots.length - c) with
   | 0=>rw [hq] at hr hm';simp at hr hm';subst hr hm';exact ⟨by omega,ht⟩
   | q+1=>rw [hq] at hr;simp at hr
 ·cases hs
theorem XsL {l:List Nd}:∀(t:List Nd) (i:Nat) (roots r:List Nat),l.drop i=t→i≤l.length→XpU l i roots→vGo t i roots=some r→XpU l l.length r∧(t≠[]→r.getLast?=some (l.length - 1))
 | [],i,roots,r,ht,hi,h,hr=>by
   simp only [vGo,Option.some.injEq] at hr;subst hr
   have:i=l.length:=by have:=List.drop_eq_nil_iff.1 ht;omega
   subst this;exact ⟨h,fun h=>absurd rfl h⟩
 | n :: t,i,roots,r,ht,hi,h,hr=>by
   have hlt:i < l.length:=by
    rcases Nat.lt_or_ge i l.length with h|h
    ·exact h
    ·rw [List.drop_of_length_le h] at ht;cases ht
   rw [List.drop_eq_getElem_cons hlt] at ht
   obtain ⟨e1,e2⟩:=List.cons.inj ht
   have hn:l.getD i default=n:=by rw [List.getD_eq_getElem?_getD,List.getElem?_eq_getElem hlt];exact e1
   rw [vGo] at hr
   split at hr
   ·cases hr
   rename_i r1 h1
   rw [←hn] at h1
   obtain ⟨g1,g2⟩:=XrB h h1
   obtain ⟨k1,k2⟩:=XsL t (i+1) r1 r e2 hlt g1 hr
   refine ⟨k1,fun _=>?_⟩
   cases t with
   | nil=>
     simp only [vGo,Option.some.injEq] at hr;subst hr
     have:=List.drop_eq_nil_iff.1 e2
     rw [g2];congr 1;omega
   | cons x t=>exact k2 (by simp)
theorem Xd7 {l:List Nd} (h:XbW l=true):l.length≤256∧0 < l.length∧Xht l (l.length - 1) l.length:=by
 unfold XbW at h
 rw [Bool.and_eq_true,decide_eq_true_eq] at h
 refine ⟨h.1,?_⟩
 have h2:=h.2
 split at h2
 ·cases h2
 rename_i r hr
 rw [decide_eq_true_eq] at h2
 obtain ⟨⟨ms,g1,g2,g3⟩,k⟩:=XsL (l:=l) l 0 [] r (by simp) (Nat.zero_le _) ⟨[],rfl,rfl,fun j r m h=>by simp at h⟩ hr
 have hne:l≠[]:=by
  rintro rfl
  simp only [vGo,Option.some.injEq] at hr;subst hr;cases h2
 have hl:0 < l.length:=List.length_pos_iff.2 hne
 refine ⟨hl,?_⟩
 match r,h2 with
 | [x],_=>
   match ms,g1 with
   | [m],_=>
     have hx:x=l.length - 1:=by have:=k hne;simpa using this
     have hm:m=l.length:=by simpa using g2
     have:=(g3 0 x m rfl rfl).2
     rw [hx,hm] at this;exact this
theorem Xcu (n:Nat) (l:List Nd) (ss:List Sx) (k next:Nat):bld (n+1) l ss k next =
  if (l.getD k default).kind=2 then (ss.length,ss++[⟨1,next,0,(l.getD k default).set⟩]) else
  if (l.getD k default).kind=8 then (ss.length,ss++[⟨3,next,0,0⟩]) else
  if (l.getD k default).kind=9 then (ss.length,ss++[⟨4,next,0,0⟩]) else
  if (l.getD k default).kind=3 then bld n l (bld n l ss (l.getD k default).right next).2 (l.getD k default).left (bld n l ss (l.getD k default).right next).1 else
  if (l.getD k default).kind=4 then
   ((bld n l (bld n l ss (l.getD k default).left next).2 (l.getD k default).right next).2.length,(bld n l (bld n l ss (l.getD k default).left next).2 (l.getD k default).right next).2++[⟨2,(bld n l ss (l.getD k default).left next).1,(bld n l (bld n l ss (l.getD k default).left next).2 (l.getD k default).right next).1,0⟩]) else
  if (l.getD k default).kind=7 then
   ((bld n l ss (l.getD k default).left next).2.length,(bld n l ss (l.getD k default).left next).2++[⟨2,(bld n l ss (l.getD k default).left next).1,next,0⟩]) else
  if (l.getD k default).kind=5∨(l.getD k default).kind=6 then
   (if (l.getD k default).kind=6 then (bld n l (ss++[⟨2,0,next,0⟩]) (l.getD k default).left ss.length).1 else ss.length,(bld n l (ss++[⟨2,0,next,0⟩]) (l.getD k default).left ss.length).2.set ss.length ⟨2,(bld n l (ss++[⟨2,0,next,0⟩]) (l.getD k default).left ss.length).1,next,0⟩) else (next,ss):=rfl
theorem Xmx {k:Nat} (h:XcO k=some 1):k=5∨k=6∨k=7:=by
 unfold XcO at h
 split at h
 ·simp at h
 split at h
 ·assumption
 split at h<;>simp at h
theorem Xmy {k:Nat} (h:XcO k=some 2):k=3∨k=4:=by
 unfold XcO at h
 split at h
 ·simp at h
 split at h
 ·simp at h
 split at h
 ·assumption
 ·simp at h
theorem Xmw {k:Nat} (h:XcO k=some 0):k=1∨k=2∨k=8∨k=9:=by
 unfold XcO at h
 split at h
 ·assumption
 split at h
 ·simp at h
 split at h<;>simp at h
theorem Xbm {l:List Nd} {k m:Nat} (h:Xht l k m):∀(n:Nat) (ss:List Sx) (next:Nat),k < n→next < ss.length→ss.length≤(bld n l ss k next).2.length∧(bld n l ss k next).2.length≤ss.length+m∧(bld n l ss k next).1 < (bld n l ss k next).2.length:=by
 induction h with
 | leaf k hk=>
   intro n ss next hn hs
   obtain ⟨n,rfl⟩:∃q,n=q+1:=⟨n - 1,by omega⟩
   rw [Xcu]
   rcases Xmw hk with e|e|e|e<;>simp only [e,reduceCtorEq,Nat.reduceEqDiff,if_true,if_false,or_false,XyA,List.length_singleton]<;>omega
 | one k m hk hl _ ih=>
   intro n ss next hn hs
   obtain ⟨n,rfl⟩:∃q,n=q+1:=⟨n - 1,by omega⟩
   rw [Xcu]
   have i1:=ih n ss next (by omega) hs
   have i2:=ih n (ss++[⟨2,0,next,0⟩]) ss.length (by omega) (by simp)
   rw [XyA,List.length_singleton] at i2
   rcases Xmx hk with e|e|e<;>simp only [e,reduceCtorEq,Nat.reduceEqDiff,if_true,if_false,or_false,or_true,List.length_set,XyA,List.length_singleton]<;>omega
 | two k m n hk hl hr _ _ ih1 ih2=>
   intro q ss next hn hs
   obtain ⟨q,rfl⟩:∃p,q=p+1:=⟨q - 1,by omega⟩
   rw [Xcu]
   rcases Xmy hk with e|e
   ·have i1:=ih2 q ss next (by omega) hs
    have i2:=ih1 q (bld q l ss (l.getD k default).right next).2 (bld q l ss (l.getD k default).right next).1 (by omega) i1.2.2
    simp only [e,reduceCtorEq,Nat.reduceEqDiff,if_true,if_false]
    omega
   ·have i1:=ih1 q ss next (by omega) hs
    have i2:=ih2 q (bld q l ss (l.getD k default).left next).2 next (by omega) (by omega)
    simp only [e,reduceCtorEq,Nat.reduceEqDiff,if_true,if_false,XyA,List.length_singleton]
    omega
theorem Xkf:∀(n:Nat) (d:List Int),d.Nodup→(∀x∈d,0≤x∧x < (n:Int))→d.length≤n
 | 0,d,_,h=>by
   cases d with
   | nil=>simp
   | cons a d=>have:=h a (List.mem_cons_self ..);omega
 | n+1,d,hd,h=>by
   by_cases hm:(n:Int)∈d
   ·have h1:=Xkf n (d.erase n) (hd.erase _) (fun x hx=>by
     rw [hd.mem_erase_iff] at hx
     have:=h x hx.2
     have:=hx.1
     omega)
    rw [List.length_erase_of_mem hm] at h1
    omega
   ·have:=Xkf n d hd (fun x hx=>by
     have:=h x hx
     have:x≠n:=fun e=>hm (e▸hx)
     omega)
    omega
structure XfF (n:Nat) (sn:SnL):Prop where
 nodup:(sn.map (·.1)).Nodup
 st:∀x∈sn,x.1.st < n
 chain:∀(i:Nat) x,sn[i]?=some x→x.2.root=true∨∃j,∃y,j < i∧sn[j]?=some y∧y.1=x.2.from_
def spN (p:Sp):Int:=((4*p.st+(if p.bol then 2 else 0)+(if p.eol then 1 else 0):Nat):Int)
theorem XuD {p q:Sp} (h:spN p=spN q):p=q:=by
 obtain ⟨a,b,c⟩:=p
 obtain ⟨a',b',c'⟩:=q
 unfold spN at h
 cases b<;>cases b'<;>cases c<;>cases c'<;>simp at h ⊢<;>omega
theorem XfF.len {n:Nat} {sn:SnL} (h:XfF n sn):sn.length≤4*n:=by
 have:=Xkf (4*n) (sn.map fun x=>spN x.1) (by
  have h1:=h.nodup
  rw [List.nodup_iff_pairwise_ne,List.pairwise_map] at h1 ⊢
  exact h1.imp fun hne e=>hne (XuD e)) (fun x hx=>by
  obtain ⟨y,hy,rfl⟩:=List.mem_map.1 hx
  have:=h.st y hy
  unfold spN
  split<;>split<;>omega)
 simpa using this
theorem XfF.reach {n:Nat} {sn:SnL} {list:List Sp} (h:XfF n sn) (d:Sp) (o:Og) (hd:d.st < n) (ho:∃y∈sn,y.1=o.from_) :
  XfF n (XaB (sn,list) d o).1∧(∃t,(XaB (sn,list) d o).1=sn++t∧(XaB (sn,list) d o).2=list++t.map (·.1)):=by
 unfold XaB
 split
 ·exact ⟨h,[],by simp,by simp⟩
 ·rename_i hn
  refine ⟨⟨?_,fun x hx=>?_,fun i x hx=>?_⟩,[(d,o)],rfl,rfl⟩
  ·rw [List.map_append,List.nodup_append]
   refine ⟨h.nodup,by simp,fun a ha b hb e=>?_⟩
   simp only [Xyt,Xyx,List.mem_singleton] at hb
   subst hb e
   obtain ⟨y,hy,e⟩:=List.mem_map.1 ha
   exact hn (List.any_eq_true.2 ⟨y,hy,by simp [e]⟩)
  ·rcases List.mem_append.1 hx with hx|hx
   ·exact h.st x hx
   ·rw [List.mem_singleton] at hx;subst hx;exact hd
  ·by_cases hi:i < sn.length
   ·rw [List.getElem?_append_left hi] at hx
    rcases h.chain i x hx with hr|⟨j,y,h1,h2,h3⟩
    ·exact .inl hr
    ·exact .inr ⟨j,y,h1,by rw [List.getElem?_append_left (Nat.lt_trans h1 hi)];exact h2,h3⟩
   ·rw [List.getElem?_append_right (Nat.le_of_not_lt hi)] at hx
    match hq:i - sn.length with
    | 0=>
      rw [hq] at hx;simp at hx;subst hx
      obtain ⟨y,hy,e⟩:=ho
      obtain ⟨j,hj,hjy⟩:=List.getElem_of_mem hy
      exact .inr ⟨j,y,by omega,by rw [List.getElem?_append_left hj,List.getElem?_eq_getElem hj,hjy],e⟩
    | q+1=>rw [hq] at hx;simp at hx
def In (sn:SnL) (list:List Sp):Prop:=∀p∈list,∃y∈sn,y.1=p
structure XcP (n:Nat) (sn:SnL) (list:List Sp) (q:SnL × List Sp):Prop where
 ok:XfF n q.1
 ext:∃t,q.1=sn++t∧q.2=list++t.map (·.1)
theorem XcP.refl {n:Nat} {sn:SnL} {list:List Sp} (h:XfF n sn):XcP n sn list (sn,list):=⟨h,[],by simp,by simp⟩
theorem XcP.trans {n:Nat} {sn:SnL} {list:List Sp} {q r:SnL × List Sp} (h:XcP n sn list q) (k:XcP n q.1 q.2 r):XcP n sn list r:=by
 obtain ⟨t,e1,e2⟩:=h.ext
 obtain ⟨u,f1,f2⟩:=k.ext
 exact ⟨k.ok,t++u,by rw [f1,e1,List.append_assoc],by rw [f2,e2,List.map_append,List.append_assoc]⟩
theorem XcP.reach {n:Nat} {sn:SnL} {list:List Sp} {q:SnL × List Sp} (h:XcP n sn list q) (d:Sp) (o:Og) (hd:d.st < n) (ho:∃y∈q.1,y.1=o.from_):XcP n sn list (XaB q d o):=
 h.trans (by obtain ⟨a,b⟩:=q;exact ⟨(h.ok.reach d o hd ho).1,(h.ok.reach d o hd ho).2⟩)
theorem XcP.sub {n:Nat} {sn:SnL} {list:List Sp} {q:SnL × List Sp} (h:XcP n sn list q) {p:Sp} (hp:∃y∈sn,y.1=p):∃y∈q.1,y.1=p:=by
 obtain ⟨t,e,_⟩:=h.ext
 obtain ⟨y,hy,e'⟩:=hp
 exact ⟨y,by rw [e];exact List.mem_append_left _ hy,e'⟩
theorem XcP.in_ {n:Nat} {sn:SnL} {list:List Sp} {q:SnL × List Sp} (h:XcP n sn list q) (hi:In sn list):In q.1 q.2:=by
 obtain ⟨t,e,e2⟩:=h.ext
 intro p hp
 rw [e2] at hp
 rcases List.mem_append.1 hp with hp|hp
 ·exact h.sub (hi p hp)
 ·obtain ⟨y,hy,rfl⟩:=List.mem_map.1 hp
  exact ⟨y,by rw [e];exact List.mem_append_right _ hy,rfl⟩
theorem Xe6 {l:List Sx} (hv:Xa5 l=true) {k:Nat} (hk:k < l.length):XgU l.length (l.getD k default)=true:=by
 unfold Xa5 at hv
 rw [Bool.and_eq_true] at hv
 rw [List.getD_eq_getElem?_getD,List.getElem?_eq_getElem hk]
 exact List.all_eq_true.1 hv.2 _ (List.getElem_mem hk)
theorem XsA {n:Nat} {s:Sx} (h:XgU n s=true) (hk:s.kind=2):s.out < n∧s.other < n:=by
 unfold XgU at h;rw [if_pos hk,Bool.and_eq_true,decide_eq_true_eq,decide_eq_true_eq] at h;exact h
theorem Xjd {n:Nat} {s:Sx} (h:XgU n s=true) (hk:s.kind=1∨s.kind=3∨s.kind=4):s.out < n:=by
 unfold XgU at h;rw [if_neg (by omega),if_pos hk,decide_eq_true_eq] at h;exact h
theorem XcP.from {l:List Sx} (hv:Xa5 l=true) {sn:SnL} {list:List Sp} {q:SnL × List Sp} (h:XcP l.length sn list q) (p:Sp) (hp:∃y∈q.1,y.1=p):XcP l.length sn list (XcJ l p q):=by
 have hs:p.st < l.length:=by obtain ⟨y,hy,rfl⟩:=hp;exact h.ok.st y hy
 have hk:=Xe6 hv hs
 unfold XcJ
 simp only
 split
 ·rename_i e
  have:=XsA hk e
  have h1:=h.reach ⟨(l.getD p.st default).out,p.bol,p.eol⟩ { from_:=p } this.1 hp
  exact h1.reach _ _ this.2 (by obtain ⟨t,e1,_⟩:=(h.ok.reach (list:=q.2) ⟨(l.getD p.st default).out,p.bol,p.eol⟩ { from_:=p } this.1 hp).2;obtain ⟨y,hy,e'⟩:=hp;exact ⟨y,by rw [show XaB q _ _=XaB (q.1,q.2) _ _ from rfl,e1];exact List.mem_append_left _ hy,e'⟩)
 split
 ·rename_i e
  split
  ·exact h.reach _ _ (Xjd hk (.inr (.inl e))) hp
  ·exact h
 split
 ·rename_i e;exact h.reach _ _ (Xjd hk (.inr (.inr e))) hp
 ·exact h
theorem XcP.spread {l:List Sx} (hv:Xa5 l=true) {sn:SnL} {list:List Sp} (hi:In sn list):∀(n i:Nat) (q:SnL × List Sp),XcP l.length sn list q→XcP l.length sn list (Xbe l n i q)
 | 0,_,_,h=>h
 | n+1,i,q,h=>by
   rw [Xbe]
   split
   ·rename_i hlt
    refine XcP.spread hv hi n (i+1) _ (h.from hv _ ?_)
    have hm:q.2.getD i default∈q.2:=by rw [List.getD_eq_getElem?_getD,List.getElem?_eq_getElem hlt];exact List.getElem_mem hlt
    exact h.in_ hi _ hm
   ·exact h
theorem XkA {l:List Sx} (n i:Nat) (q:SnL × List Sp) (h:¬i < q.2.length):Xbe l n i q=q:=by
 cases n with
 | zero=>rfl
 | succ n=>rw [Xbe,if_neg h]
theorem XcP.step1 {l:List Sx} (hv:Xa5 l=true) {sn:SnL} {list:List Sp} {q:SnL × List Sp} (h:XcP l.length sn list q) (p:Sp) (hp:∃y∈q.1,y.1=p):XcP l.length sn list (XbV l p q):=by
 have hs:p.st < l.length:=by obtain ⟨y,hy,rfl⟩:=hp;exact h.ok.st y hy
 have hk:=Xe6 hv hs
 unfold XbV
 simp only
 split
 ·exact h
 rename_i e
 have e:(l.getD p.st default).kind=1:=by omega
 have ho:=Xjd hk (.inl e)
 have h1:XcP l.length sn list (if (l.getD p.st default).set.testBit 10=true then XaB q ⟨(l.getD p.st default).out,true,false⟩ { from_:=p,over:=true,c:=10 } else q)∧∃y∈(if (l.getD p.st default).set.testBit 10=true then XaB q ⟨(l.getD p.st default).out,true,false⟩ { from_:=p,over:=true,c:=10 } else q).1,y.1=p:=by
  split
  ·refine ⟨h.reach _ _ ho hp,?_⟩
   obtain ⟨t,e1,_⟩:=(h.ok.reach (list:=q.2) ⟨(l.getD p.st default).out,true,false⟩ { from_:=p,over:=true,c:=10 } ho hp).2
   obtain ⟨y,hy,e'⟩:=hp
   exact ⟨y,by rw [show XaB q _ _=XaB (q.1,q.2) _ _ from rfl,e1];exact List.mem_append_left _ hy,e'⟩
  ·exact ⟨h,hp⟩
 split
 ·exact h1.1
 ·split
  ·exact h1.1
  ·exact h1.1.reach _ _ ho h1.2
theorem XcP.step {l:List Sx} (hv:Xa5 l=true) {sn:SnL} {list:List Sp}:∀(ps:List Sp) (q:SnL × List Sp),XcP l.length sn list q→In sn ps→XcP l.length sn list (ps.foldl (fun q p=>XbV l p q) q)
 | [],q,h,_=>h
 | p :: ps,q,h,hp=>by
   rw [Xyp]
   exact XcP.step hv ps _ (h.step1 hv p (h.sub (hp p (by simp)))) (fun x hx=>hp x (by simp [hx]))
theorem Xf8 {n:Nat} {sn:SnL} (h:XfF n sn) {i:Nat} {x:Sp × Og} (hx:sn[i]?=some x):XpP sn x.1=x.2:=by
 unfold XpP
 have hm:x∈sn:=List.mem_of_getElem? hx
 cases hf:sn.find? (fun y=>y.1 == x.1) with
 | none=>exact absurd (List.find?_eq_none.1 hf x hm) (by simp)
 | some y=>
   have h1:=List.find?_some hf
   have h2:=List.mem_of_find?_eq_some hf
   simp only [beq_iff_eq] at h1
   have hnd:=h.nodup
   rw [List.nodup_iff_pairwise_ne,List.pairwise_map] at hnd
   obtain ⟨j,hj,hjy⟩:=List.getElem_of_mem h2
   have hil:i < sn.length:=(List.getElem?_eq_some_iff.1 hx).1
   have hix:sn[i]=x:=(List.getElem?_eq_some_iff.1 hx).2
   have hp:=List.pairwise_iff_getElem.1 hnd
   have:i=j:=by
    rcases Nat.lt_trichotomy i j with h3|h3|h3
    ·exact absurd (by rw [hix,hjy];exact h1.symm) (hp i j hil hj h3)
    ·exact h3
    ·exact absurd (by rw [hix,hjy];exact h1) (hp j i hj hil h3)
   subst this
   rw [hix] at hjy
   subst hjy
   rfl
open Go.RowKit
theorem XbA {α:Type} (l:List α) (k:Nat) (h:k < l.length):l.take (k+1)=l.take k++[l[k]]:=by
 rw [List.take_succ_eq_append_getElem h]
def sa (l:List (List UInt8)):List AV:=l.map fun s=>.x (.string (bs s))
@[simp] theorem Xx5 (l:List (List UInt8)):(sa l).length=l.length:=by simp [sa]
theorem Xh2 (l:List (List UInt8)) (k:Nat) (h:k < l.length):(sa l).drop k=.x (.string (bs l[k])) :: sa (l.drop (k+1)):=by
 rw [sa,←List.map_drop,List.drop_eq_getElem_cons h];rfl
theorem Xsn (l m:List (List UInt8)):sa (l++m)=sa l++sa m:=by simp [sa]
theorem Xpw (l m:List UInt8):u8a (l++m)=u8a l++u8a m:=by simp [u8a,u8s]
theorem Xd6 (b:UInt8) (l:List UInt8):u8a (b :: l)=.x (.int .u8 (b.toNat:Nat)) :: u8a l:=by simp [u8a,u8s]
theorem Xpx:u8a []=[]:=rfl
def Sx.cells (n:Sx):List AV:=.x (.int .i64 n.kind) :: .x (.int .i64 n.out) :: .x (.int .i64 n.other) :: w4 n.set
def Sx.val (n:Sx):Value:=.agg #[.int .i64 n.kind,.int .i64 n.out,.int .i64 n.other,.int .u64 (wd n.set 0:Nat),.int .u64 (wd n.set 1:Nat),.int .u64 (wd n.set 2:Nat),.int .u64 (wd n.set 3:Nat)]
def sxa (l:List Sx):List AV:=l.flatMap Sx.cells
@[simp] theorem XxJ (l:List Sx):(sxa l).length=l.length*7:=by
 induction l with
 | nil=>rfl
 | cons a l ih=>
   have e:sxa (a :: l)=a.cells++sxa l:=by simp [sxa]
   rw [e,XyA,ih];simp [Sx.cells];omega
theorem XuP (l:List Sx) (n:Sx):sxa l++n.cells=sxa (l++[n]):=by simp [sxa]
theorem Xia (l:List Sx) (k:Nat) (h:k < l.length):(sxa l).drop (k*7)=l[k].cells++sxa (l.drop (k+1)):=by
 induction l generalizing k with
 | nil=>simp at h
 | cons a l ih=>
   have e:sxa (a :: l)=a.cells++sxa l:=by simp [sxa]
   cases k with
   | zero=>simp [e]
   | succ k=>
     rw [e,show (k+1)*7=a.cells.length+k*7 by simp [Sx.cells];omega,List.drop_append]
     simp only [XyA,Nat.add_sub_cancel_left]
     rw [List.drop_eq_nil_of_le (by omega),Xyy,ih k (by simpa using h)]
     simp
def Sp.cells (s:Sp):List AV:=[.x (.int .i64 s.st),.x (.bool s.bol),.x (.bool s.eol)]
def spa (l:List Sp):List AV:=l.flatMap Sp.cells
@[simp] theorem XxG (l:List Sp):(spa l).length=l.length*3:=by
 induction l with
 | nil=>rfl
 | cons a l ih=>
   have e:spa (a :: l)=a.cells++spa l:=by simp [spa]
   rw [e,XyA,ih];simp [Sp.cells];omega
theorem XuG (l:List Sp) (n:Sp):spa l++n.cells=spa (l++[n]):=by simp [spa]
theorem Xlu (l:List Sp) (k:Nat) (h:k < l.length):(spa l).drop (k*3)=l[k].cells++spa (l.drop (k+1)):=by
 induction l generalizing k with
 | nil=>simp at h
 | cons a l ih=>
   have e:spa (a :: l)=a.cells++spa l:=by simp [spa]
   cases k with
   | zero=>simp [e]
   | succ k=>
     rw [e,show (k+1)*3=a.cells.length+k*3 by simp [Sp.cells];omega,List.drop_append]
     simp only [XyA,Nat.add_sub_cancel_left]
     rw [List.drop_eq_nil_of_le (by omega),Xyy,ih k (by simpa using h)]
     simp
def Sp.val (s:Sp):Value:=.agg #[.int .i64 s.st,.bool s.bol,.bool s.eol]
open Go.Maps (Keyed)
def Og.val (o:Og):Value:=.agg #[.int .i64 o.from_.st,.bool o.from_.bol,.bool o.from_.eol,.bool o.root,.bool o.over,.int .u8 (o.c % 256:Nat)]
def snv (sn:SnL):List (Value × Value):=sn.map fun x=>(x.1.val,x.2.val)
theorem Sp.val_inj {a b:Sp} (h:a.val=b.val):a=b:=by
 obtain ⟨s,x,y⟩:=a
 obtain ⟨t,u,v⟩:=b
 simp only [Sp.val,Value.agg.injEq,Array.mk.injEq,List.cons.injEq,Value.int.injEq,Value.bool.injEq,true_and,and_true,Int.natCast_inj] at h
 obtain ⟨rfl,rfl,rfl⟩:=h
 rfl
theorem XuE:laidOutB Tryz.prog=true:=by kernel_rfl
theorem Xhj:Keyed Tryz.prog 86:=Keyed.of_law (deep_law_laid XuE (m:=2) (by omega) (of_decide_eq_true (by kernel_rfl)) (by kernel_rfl) (by rw [Tryz.underlying86]))
theorem XuF (s:Sp) (h:s.st≤1000000) (d:Nat):∃q,Tryz.prog.keyLits (d+1+1) 86 [.int .i64 s.st,.bool s.bol,.bool s.eol]=some q:=by
 have hc:Tryz.prog.cellsOf 86=3:=by kernel_rfl
 have hi:Tryz.prog.cellsOf 3=1:=by kernel_rfl
 have hb:Tryz.prog.cellsOf 4=1:=by kernel_rfl
 have hw:(Lit.int .i64 (s.st:Int)).wf=true:=by
  have h1:IntKind.i64.min = -9223372036854775808:=by decide
  have h2:IntKind.i64.max=9223372036854775807:=by decide
  simp only [Lit.wf,h1,h2,Bool.and_eq_true,decide_eq_true_eq];omega
 simp [Program.keyLits,Tryz.underlying86,hc,hi,hb,Tryz.underlying3,Tryz.underlying4,hw]
theorem Xjc (s:Sp) (h:s.st≤1000000):∃q,keyOf Tryz.prog 86 s.val=some q:=by
 have hk:Tryz.prog.keyType 86=true:=by kernel_rfl
 have hc:Tryz.prog.cellsOf 86=3:=by kernel_rfl
 have hf:s.val.formed Tryz.prog 86=true:=by simp [Value.formed,Tryz.underlying86,hc,Sp.val]
 have hn:Tryz.prog.types.size+1=(332 - 1)+1+1:=by kernel_rfl
 obtain ⟨q,hq⟩:=XuF s h (332 - 1)
 refine ⟨.string (keyBytes q),?_⟩
 unfold keyOf
 rw [Tryz.underlying86]
 simp only [hk,hf,Bool.and_self,if_true]
 rw [hn,show s.val.cells.toList=[.int .i64 s.st,.bool s.bol,.bool s.eol] from rfl,hq]
 rfl
theorem Xkz {n:Nat} {sn:SnL} (h:XfF n sn) (hn:n≤1000000):Xft Tryz.prog 86 (snv sn):=by
 intro x hx
 obtain ⟨y,hy,rfl⟩:=List.mem_map.1 hx
 exact Xjc y.1 (by have:=h.st y hy;omega)
theorem Xt5:(Tryz.prog.info? 88).bind (·.zero)=some ({ }:Og).val:=by kernel_rfl
theorem Xpi {n:Nat} {sn:SnL} (h:XfF n sn) {p:Sp} (hp:∃y∈sn,y.1=p):Hit Tryz.prog 88 (snv sn) p.val (XpP sn p).val true:=by
 obtain ⟨y,hy,rfl⟩:=hp
 obtain ⟨i,hi,hiy⟩:=List.getElem_of_mem hy
 rw [Xf8 h (i:=i) (x:=y) (by rw [List.getElem?_eq_getElem hi,hiy])]
 refine .inl ⟨rfl,List.mem_map.2 ⟨y,hy,rfl⟩,fun z hz he=>?_⟩
 obtain ⟨u,hu,rfl⟩:=List.mem_map.1 hz
 have e:=Sp.val_inj he
 obtain ⟨j,hj,hju⟩:=List.getElem_of_mem hu
 have h1:=Xf8 h (i:=i) (x:=y) (by rw [List.getElem?_eq_getElem hi,hiy])
 have h2:=Xf8 h (i:=j) (x:=u) (by rw [List.getElem?_eq_getElem hj,hju])
 rw [e,h1] at h2
 rw [h2]
theorem XuB {sn:SnL} {p:Sp} (hp:sn.any (fun x=>x.1 == p)=false):Hit Tryz.prog 88 (snv sn) p.val ({ }:Og).val false:=by
 refine .inr ⟨rfl,fun y hy he=>?_,Xt5⟩
 obtain ⟨u,hu,rfl⟩:=List.mem_map.1 hy
 have e:=Sp.val_inj he
 rw [List.any_eq_false] at hp
 exact hp u hu (by simp [e])
theorem Xu9 {sn:SnL} {p:Sp} (h:sn.any (fun x=>x.1 == p)=true):∃y∈sn,y.1=p:=by
 obtain ⟨y,hy,e⟩:=List.any_eq_true.1 h
 exact ⟨y,hy,by simpa using e⟩
theorem Xwp {sn:SnL} {p:Sp} (h:sn.any (fun x=>x.1 == p)=false):∀y∈snv sn,y.1≠p.val:=by
 intro y hy he
 obtain ⟨u,hu,rfl⟩:=List.mem_map.1 hy
 rw [List.any_eq_false] at h
 exact h u hu (by simp [Sp.val_inj he])
theorem XuC (sn:SnL) (p:Sp) (o:Og):snv sn++[(p.val,o.val)]=snv (sn++[(p,o)]):=by simp [snv]
theorem Xrc (sb mb:Nat) (l:List Sx) (sn:SnL) (q:List Sp) (ad:Option Addr) (cap:Nat) (p:Sp) (o:Og) (hn:XfF l.length sn) (hl:l.length≤1000) (hp:p.st < l.length) (hh:sn.any (fun x=>x.1 == p)=true) :
  Xay Tryz.prog 25 [.box sb [.sq l.length (sxa l),.x (.map (some mb))],.map mb (snv sn),.row ad q.length cap 86 3 (spa q)] [.x (.pointer (some ⟨sb,0,none⟩)),.x (.slice ad q.length cap),.x p.val,.x o.val] (fun r H'=>r=.x (.slice ad q.length cap)∧H'=[.box sb [.sq l.length (sxa l),.x (.map (some mb))],.map mb (snv sn),.row ad q.length cap 86 3 (spa q)]):=by
 have hk:=Xkz hn (by omega)
 have hq:=Xjc p (by omega)
 have hit:=Xpi hn (Xu9 hh)
 generalize XpP sn p=ov at hit
 unfold Og.val at hit
 generalize snv sn=S at *
 clear hn
 have hp':p.val=.agg #[.int .i64 p.st,.bool p.bol,.bool p.eol]:=rfl
 rw [hp'] at *
 have hk:=Lib.hid hk;have hq:=Lib.hid hq;have hit:=Lib.hid hit
 unfold Og.val
 refine XaV Tryz.func25 Tryz.ntmps25 ?_
 (repeat' (first|refine Wkx.go ?_|refine Xad ?_|(refine Xab rfl ?_;(refine Xd9 (fun b=>?_)))|fail))
 refine XaE mixed [] [_,_,_,_] [_] (Xyo _) ?_
 ((first|refine XbQ 0 ?_|fail);(first|refine XbQ 1 ?_|fail);(first|refine XbQ 2 ?_|fail);(first|refine Xdr 3 ?_|fail);(first|refine Xdr 4 ?_|fail))
 refine Xx8 5 _ _ _ Xhj hk.out hq.out hit.out ?_
 ((first|refine XbQ 6 ?_|fail);(first|refine XbQ 7 ?_|fail);(first|refine XbQ 8 ?_|fail))
 (refine XcV 9 ?_;(first|refine Xb8 (fun b=>?_)|fail))
 (refine XcV 10 ?_;(first|refine Xbh ?_|fail))
 (refine XcV 11 ?_;(first|refine Xd5 ?_|fail))
 refine XaG (by decide +kernel) ?_
 refine Xai rfl (by simp only [Xyz,Xyy];rfl) ?_
 refine Xao (by decide +kernel) ?_
 (repeat' (first|refine Wkx.go ?_|(refine Xaz (fun h=>?_) (fun h=>?_)<;>first|(exact absurd h (by decide))|skip)|refine Xad ?_|fail))
 refine Xaa _ _ (XaF rfl (RV.tmp _) (Xaj.mk' [.box _ [_,_,_,_,_,_],.box _ [_,_,_],.box _ [_,_,_,_,_,_]] [.box sb _,.map mb _,.row _ _ _ _ _ _] (by (repeat' (first|exact Xyo _|refine XyE _ ?_|refine (XyB (l₁:=[_,_])).trans (XyE _ ?_)|fail))) (Xak.refl _ _) (VwL.refl _ _))) ⟨rfl,rfl⟩
theorem Xo1 (sb mb:Nat) (l:List Sx) (sn:SnL) (q:List Sp) (ad:Option Addr) (cap:Nat) (p:Sp) (o:Og) (hn:XfF l.length sn) (hl:l.length≤1000) (hp:p.st < l.length) (hq0:q.length≤1000000) (hh:sn.any (fun x=>x.1 == p)=false) :
  Xay Tryz.prog 25 [.box sb [.sq l.length (sxa l),.x (.map (some mb))],.map mb (snv sn),.row ad q.length cap 86 3 (spa q)] [.x (.pointer (some ⟨sb,0,none⟩)),.x (.slice ad q.length cap),.x p.val,.x o.val] (fun r H'=>∃ad' cap',r=.x (.slice ad' (q++[p]).length cap')∧H'=[.box sb [.sq l.length (sxa l),.x (.map (some mb))],.map mb (snv (sn++[(p,o)])),.row ad' (q++[p]).length cap' 86 3 (spa (q++[p]))]):=by
 have hk:=Xkz hn (by omega)
 have hq:=Xjc p (by omega)
 have hit:=XuB hh
 have hnew:=Xwp hh
 rw [←XuC,←XuG,show (q++[p]).length=q.length+1 from by simp]
 generalize snv sn=S at *
 clear hn hh
 have hp':p.val=.agg #[.int .i64 p.st,.bool p.bol,.bool p.eol]:=rfl
 have ho':o.val=.agg #[.int .i64 o.from_.st,.bool o.from_.bol,.bool o.from_.eol,.bool o.root,.bool o.over,.int .u8 (o.c % 256:Nat)]:=rfl
 have hz':({ }:Og).val=.agg #[.int .i64 (0:Nat),.bool false,.bool false,.bool false,.bool false,.int .u8 (0 % 256:Nat)]:=rfl
 rw [hp',ho'] at *
 rw [hz'] at hit
 have hk:=Lib.hid hk;have hq:=Lib.hid hq;have hit:=Lib.hid hit;have hnew:=Lib.hid hnew
 clear hp' ho' hz'
 refine XaV Tryz.func25 Tryz.ntmps25 ?_
 (repeat' (first|refine Wkx.go ?_|refine Xad ?_|(refine Xab rfl ?_;(refine Xd9 (fun b=>?_)))|fail))
 refine XaE mixed [] [_,_,_,_] [_] (Xyo _) ?_
 ((first|refine XbQ 0 ?_|fail);(first|refine XbQ 1 ?_|fail);(first|refine XbQ 2 ?_|fail);(first|refine Xdr 3 ?_|fail);(first|refine Xdr 4 ?_|fail))
 refine Xx8 5 _ _ _ Xhj hk.out hq.out hit.out ?_
 ((first|refine XbQ 6 ?_|fail);(first|refine XbQ 7 ?_|fail);(first|refine XbQ 8 ?_|fail))
 (refine XcV 9 ?_;(first|refine Xb8 (fun b=>?_)|fail))
 (refine XcV 10 ?_;(first|refine Xbh ?_|fail))
 (refine XcV 11 ?_;(first|refine Xd5 ?_|fail))
 refine XaG (by decide +kernel) ?_
 refine Xai rfl (by simp only [Xyz,Xyy];rfl) ?_
 refine Xao (by decide +kernel) ?_
 (repeat' (first|refine Wkx.go ?_|(refine Xaz (fun h=>?_) (fun h=>?_)<;>first|(exact absurd h (by decide))|skip)|refine Xad ?_|fail))
 refine XaE mixed [6] [_,_,_,_,_] [_] (by (repeat' (first|exact Xyo _|fail))) ?_
 ((first|refine XbQ 0 ?_|fail);(first|refine XbQ 1 ?_|fail);(first|refine XbQ 2 ?_|fail);(first|refine Xdr 3 ?_|fail);(first|refine Xdr 4 ?_|fail);(first|refine Xdr 5 ?_|fail))
 refine XaG (by decide +kernel) ?_
 refine Xai rfl (by simp only [Xyz,Xyy];rfl) ?_
 refine Xd8 6 ?_
 refine Xyj Xhj hk.out hq.out hnew.out ?_ (ht:=Tryz.underlying80)
 refine Xao (by decide +kernel) ?_
 (repeat' (first|refine Wkx.go ?_|refine Xad ?_|(refine Xab rfl ?_;(first|refine XfK (fun ad cap=>?_)|refine Xfr (fun b=>?_)))|fail))
 refine Xaa _ _ (XaF rfl (RV.tmp _) (Xaj.mk' [.box _ [_,_,_,_,_,_],.box _ [_,_,_],.box _ [_,_,_,_,_,_],.row (some _) 1 1 _ _ _] [.box sb _,.map mb _,.row _ (q.length+1) _ _ _ _] (by (repeat' (first|exact Xyo _|refine (XyB (l₁:=[_])).trans (XyE _ ?_)|refine (XyB (l₁:=[_,_,_])).trans (XyE _ ?_)|fail))) (Xak.refl _ _) (VwL.refl _ _))) ⟨_,_,rfl,rfl⟩
theorem Xo0 (sb mb:Nat) (l:List Sx) (sn:SnL) (q:List Sp) (ad:Option Addr) (cap:Nat) (p:Sp) (o:Og) (hn:XfF l.length sn) (hl:l.length≤1000) (hp:p.st < l.length) (hq0:q.length≤1000000) :
  Xay Tryz.prog 25 [.box sb [.sq l.length (sxa l),.x (.map (some mb))],.map mb (snv sn),.row ad q.length cap 86 3 (spa q)] [.x (.pointer (some ⟨sb,0,none⟩)),.x (.slice ad q.length cap),.x p.val,.x o.val] (fun r H'=>∃ad' cap',r=.x (.slice ad' (XaB (sn,q) p o).2.length cap')∧H'=[.box sb [.sq l.length (sxa l),.x (.map (some mb))],.map mb (snv (XaB (sn,q) p o).1),.row ad' (XaB (sn,q) p o).2.length cap' 86 3 (spa (XaB (sn,q) p o).2)]):=by
 cases hh:sn.any (fun x=>x.1 == p) with
 | true=>
   have e:XaB (sn,q) p o=(sn,q):=by simp [XaB,hh]
   rw [e]
   exact (Xrc sb mb l sn q ad cap p o hn hl hp hh).mono fun r H' h=>⟨ad,cap,h.1,h.2⟩
 | false=>
   have e:XaB (sn,q) p o=(sn++[(p,o)],q++[p]):=by simp [XaB,hh]
   rw [e]
   exact Xo1 sb mb l sn q ad cap p o hn hl hp hq0 hh
end Go.Proofs.YtdlblokjfoggpaaGreatDoor

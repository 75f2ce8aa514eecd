import Derived.Test.YtdlblokjfoggpaaGreatDoorW40
import Derived.Test.YtdlblokjfoggpaaGreatDoorW45
import Derived.Test.YtdlblokjfoggpaaGreatDoorW24
import Derived.Test.YtdlblokjfoggpaaGreatDoorW43
import Derived.Test.YtdlblokjfoggpaaGreatDoorW21
import Derived.Test.YtdlblokjfoggpaaGreatDoorW26
import Derived.Test.YtdlblokjfoggpaaGreatDoorW7
import Derived.Test.YtdlblokjfoggpaaGreatDoorW37
import Derived.Test.YtdlblokjfoggpaaGreatDoorW10
import Derived.Test.YtdlblokjfoggpaaGreatDoorW20
import Derived.Test.YtdlblokjfoggpaaGreatDoorW25
import Derived.Test.YtdlblokjfoggpaaGreatDoorW12
import Derived.Test.YtdlblokjfoggpaaGreatDoorW9
import Derived.Test.YtdlblokjfoggpaaGreatDoorW23
/- The reference's relations, in plain Lean: a pair is a match; kids stand ahead of their nodes. No program in sight. -/
set_option linter.unusedSimpArgs false
set_option linter.unusedVariables false
set_option maxRecDepth 100000
set_option maxHeartbeats 8000000
namespace Go.Proofs.YtdlblokjfoggpaaGreatDoor
theorem Xly {m:Nat}:∀(n i:Nat) (M:Mat),MOk m M→n+i≤m→(∀p q,M.at p q=true→p=q)→∀p q,(Xpr n i M).at p q=true→p=q
 | 0,_,_,_,_,h=>h
 | n+1,i,M,hM,hn,h=>Xly n (i+1) _ (hM.put i i true) (by omega) fun p q hpq=>by
   rw [XfB hM true (by omega) (by omega)] at hpq
   split at hpq
   ·omega
   ·exact h p q hpq
theorem XlA {m p q:Nat} (h:(XdO m).at p q=true):p=q:=Xly m 0 _ (Xcc m) (by omega) (fun p q hh=>by rw [XfZ] at hh;cases hh) p q h
theorem XkT {m:Nat} (A B:Mat) (i:Nat) (hi:i < m):∀(n k:Nat) (M:Mat),MOk m M→n+k≤m→(∀p q,M.at p q=true→A.at p q=true∨B.at p q=true)→∀p q,(XjJ A B i n k M).at p q=true→A.at p q=true∨B.at p q=true
 | 0,_,_,_,_,h=>h
 | n+1,k,M,hM,hn,h=>XkT A B i hi n (k+1) _ (hM.put i k _) (by omega) fun p q hpq=>by
   rw [XfB hM _ hi (by omega)] at hpq
   split at hpq
   ·rename_i e;obtain ⟨rfl,rfl⟩:=e;simpa using hpq
   ·exact h p q hpq
theorem XkR {m:Nat} (A B:Mat):∀(n i:Nat) (M:Mat),MOk m M→n+i≤m→(∀p q,M.at p q=true→A.at p q=true∨B.at p q=true)→∀p q,(Xl9 A B m n i M).at p q=true→A.at p q=true∨B.at p q=true
 | 0,_,_,_,_,h=>h
 | n+1,i,M,hM,hn,h=>XkR A B n (i+1) _ (XhA A B i m 0 M hM) (by omega) (XkT A B i (by omega) m 0 M hM (by omega) h)
theorem XhB {A B:Mat} {p q:Nat} (h:(XeJ A B).at p q=true):A.at p q=true∨B.at p q=true:=XkR A B A.length 0 _ (Xcc _) (by omega) (fun p q hh=>by rw [XfZ] at hh;cases hh) p q h
def Two (A B:Mat) (p q:Nat):Prop:=∃j,A.at p j=true∧B.at j q=true
theorem XsG {m:Nat} (A B:Mat) (i j:Nat) (hi:i < m) (hA:A.at i j=true):∀(n k:Nat) (M:Mat),MOk m M→n+k≤m→(∀p q,M.at p q=true→Two A B p q)→∀p q,(thK B i j n k M).at p q=true→Two A B p q
 | 0,_,_,_,_,h=>h
 | n+1,k,M,hM,hn,h=>XsG A B i j hi hA n (k+1) _ (hM.put i k _) (by omega) fun p q hpq=>by
   rw [XfB hM _ hi (by omega)] at hpq
   split at hpq
   ·rename_i e
    obtain ⟨rfl,rfl⟩:=e
    rw [Bool.or_eq_true] at hpq
    rcases hpq with hpq|hpq
    ·exact h _ _ hpq
    ·exact ⟨j,hA,hpq⟩
   ·exact h p q hpq
theorem XsF {m:Nat} (A B:Mat) (i:Nat) (hi:i < m):∀(n j:Nat) (M:Mat),MOk m M→(∀p q,M.at p q=true→Two A B p q)→∀p q,(thJ A B i m n j M).at p q=true→Two A B p q
 | 0,_,_,_,h=>h
 | n+1,j,M,hM,h=>by
   rw [thJ]
   refine XsF A B i hi n (j+1) _ ?_ ?_
   ·split
    ·exact Xpv B i j m 0 M hM
    ·exact hM
   ·split
    ·rename_i hA
     exact XsG A B i j hi hA m 0 M hM (by omega) h
    ·exact h
theorem XsD {m:Nat} (A B:Mat):∀(n i:Nat) (M:Mat),MOk m M→n+i≤m→(∀p q,M.at p q=true→Two A B p q)→∀p q,(thI A B m n i M).at p q=true→Two A B p q
 | 0,_,_,_,_,h=>h
 | n+1,i,M,hM,hn,h=>XsD A B n (i+1) _ (Xpu A B i m m 0 M hM) (by omega) (XsF A B i (by omega) m 0 M hM h)
theorem XlC {A B:Mat} {p q:Nat} (h:(Xid A B).at p q=true):Two A B p q:=XsD A B A.length 0 _ (Xcc _) (by omega) (fun p q hh=>by rw [XfZ] at hh;cases hh) p q h
theorem Cl.trans {R:Nat→Nat→Prop} {p j q:Nat} (h:Cl R p j) (k:Cl R j q):Cl R p q:=by
 induction h with
 | refl=>exact k
 | step p j _ h _ ih=>exact .step p j q h (ih k)
theorem Xsx {m:Nat} (R:Nat→Nat→Prop) (i j:Nat) (hi:i < m):∀(n k:Nat) (M:Mat),MOk m M→n+k≤m→(∀p q,M.at p q=true→Cl R p q)→∀p q,(stK i j n k M).at p q=true→Cl R p q
 | 0,_,_,_,_,h=>h
 | n+1,k,M,hM,hn,h=>by
   rw [stK]
   split
   ·rename_i hA
    refine Xsx R i j hi n (k+1) _ (hM.put i k _) (by omega) fun p q hpq=>?_
    rw [XfB hM _ hi (by omega)] at hpq
    split at hpq
    ·rename_i e
     obtain ⟨rfl,rfl⟩:=e
     rw [Bool.or_eq_true] at hpq
     rcases hpq with hpq|hpq
     ·exact h _ _ hpq
     ·exact (h _ _ hA).trans (h _ _ hpq)
    ·exact h p q hpq
   ·exact h
theorem Xsu {m:Nat} (R:Nat→Nat→Prop) (j:Nat):∀(n i:Nat) (M:Mat),MOk m M→n+i≤m→(∀p q,M.at p q=true→Cl R p q)→∀p q,(stI j m n i M).at p q=true→Cl R p q
 | 0,_,_,_,_,h=>h
 | n+1,i,M,hM,hn,h=>Xsu R j n (i+1) _ (Xpq i j m 0 M hM) (by omega) (Xsx R i j (by omega) m 0 M hM (by omega) h)
theorem Xsv {m:Nat} (R:Nat→Nat→Prop):∀(n j:Nat) (M:Mat),MOk m M→(∀p q,M.at p q=true→Cl R p q)→∀p q,(stJ m n j M).at p q=true→Cl R p q
 | 0,_,_,_,h=>h
 | n+1,j,M,hM,h=>Xsv R n (j+1) _ (Xpp j m m 0 M hM) (Xsu R j m 0 M hM (by omega) h)
theorem Xlx {A:Mat} {p q:Nat} (h:(XgM A).at p q=true):Cl (fun a b=>A.at a b=true) p q:=by
 refine Xsv _ A.length 0 _ (by have:=Xdv (XdO A.length) A;rw [(Xc9 A.length).len] at this;exact this) (fun p q hh=>?_) p q h
 rcases XhB hh with hh|hh
 ·obtain rfl:=XlA hh;exact .refl _
 ·exact .step _ _ _ hh (.refl _)
theorem Xsc {m:Nat} (x:Nd) (t:List UInt8) (hm:m=t.length+1) (Q:Nat→Nat→Prop) (h1:x.kind=1→∀p,Q p p) (h8:x.kind=8→∀p,(p=0∨chr t (p - 1)=10)→Q p p) (h9:x.kind=9→∀p,p < t.length→chr t p=10→Q p p) (h2:x.kind=2→∀p,p < t.length→x.set.testBit (chr t p)=true→Q p (p+1)) :
  ∀(n i:Nat) (M:Mat),MOk m M→n+i≤m→(∀p q,M.at p q=true→Q p q)→∀p q,(lfF x t n i M).at p q=true→Q p q
 | 0,_,_,_,_,h=>h
 | n+1,i,M,hM,hn,h=>Xsc x t hm Q h1 h8 h9 h2 n (i+1) _ (XiZ x t i M hM) (by omega) fun p q hpq=>by
   unfold Xc6 at hpq
   split at hpq
   ·rename_i e
    rw [XfB hM _ (by omega) (by omega)] at hpq
    split at hpq
    ·rename_i e2;obtain ⟨rfl,rfl⟩:=e2;exact h1 e _
    ·exact h p q hpq
   split at hpq
   ·rename_i e
    rw [XfB hM _ (by omega) (by omega)] at hpq
    split at hpq
    ·rename_i e2;obtain ⟨rfl,rfl⟩:=e2;exact h8 e _ (by simpa using hpq)
    ·exact h p q hpq
   split at hpq
   ·rename_i e
    rw [XfB hM _ (by omega) (by omega)] at hpq
    split at hpq
    ·rename_i e2
     obtain ⟨rfl,rfl⟩:=e2
     rw [Bool.and_eq_true,decide_eq_true_iff,decide_eq_true_iff] at hpq
     exact h9 e _ hpq.1 hpq.2
    ·exact h p q hpq
   split at hpq
   ·rename_i e
    split at hpq
    ·rename_i e3
     rw [XfB hM _ (by omega) (by omega)] at hpq
     split at hpq
     ·rename_i e2;obtain ⟨rfl,rfl⟩:=e2;exact h2 e _ e3.1 e3.2
     ·exact h p q hpq
    ·exact h p q hpq
   ·exact h p q hpq
theorem XqL {l:List Nd} {t:List UInt8} {k p q:Nat} (h:(XiX (l.getD k default) t).at p q=true):Mt l t k p q:=
 Xsc (l.getD k default) t rfl (Mt l t k) (fun e p=>.emp k p e) (fun e p h=>.bol k p e h) (fun e p h1 h2=>.eol k p e h1 h2) (fun e p h1 h2=>.set k p e h1 h2) (t.length+1) 0 _ (Xcc _) (by omega) (fun p q hh=>by rw [XfZ] at hh;cases hh) p q h
theorem XnD {R R':Nat→Nat→Prop} (h:∀p q,R p q→R' p q) {p q:Nat} (hc:Cl R p q):Cl R' p q:=by
 induction hc with
 | refl p=>exact .refl p
 | step p j q hr _ ih=>exact .step p j q (h _ _ hr) ih
theorem XuI {l:List Nd} {t:List UInt8} {k p q:Nat} (e:(l.getD k default).kind=5) (h:Cl (Mt l t (l.getD k default).left) p q):Mt l t k p q:=by
 induction h with
 | refl p=>exact .star0 k p e
 | step p j q h1 _ ih=>exact .star1 k p j q e h1 ih
theorem Xuo {l:List Nd} {t:List UInt8} {k p j q:Nat} (e:(l.getD k default).kind=6) (h1:Mt l t (l.getD k default).left p j) (h:Cl (Mt l t (l.getD k default).left) j q):Mt l t k p q:=by
 induction h generalizing p with
 | refl j=>exact .plus0 k p j e h1
 | step j m q h2 _ ih=>exact .plus1 k p j q e h1 (ih h2)
theorem XqV {l:List Nd} {t:List UInt8} {Ms:List Mat} {k:Nat} (hk:Ms.length=k) (hK1:(l.getD k default).kind=3∨(l.getD k default).kind=4→(l.getD k default).left < k∧(l.getD k default).right < k) (hK2:(l.getD k default).kind=5∨(l.getD k default).kind=6∨(l.getD k default).kind=7→(l.getD k default).left < k)
  (hs:∀j,j < k→∀p q,(Ms.getD j []).at p q=true→Mt l t j p q) (p q:Nat) (h:(XdM Ms t (l.getD k default)).at p q=true):Mt l t k p q:=by
 unfold XdM at h
 split at h
 ·rename_i e
  obtain ⟨j,a,b⟩:=XlC h
  exact .cat k p j q e (hs _ (hK1 (.inl e)).1 _ _ a) (hs _ (hK1 (.inl e)).2 _ _ b)
 split at h
 ·rename_i e
  rcases XhB h with a|a
  ·exact .altl k p q e (hs _ (hK1 (.inr e)).1 _ _ a)
  ·exact .altr k p q e (hs _ (hK1 (.inr e)).2 _ _ a)
 split at h
 ·rename_i e
  exact XuI e (XnD (fun a b hh=>hs _ (hK2 (.inl e)) _ _ hh) (Xlx h))
 split at h
 ·rename_i e
  obtain ⟨j,a,b⟩:=XlC h
  exact Xuo e (hs _ (hK2 (.inr (.inl e))) _ _ a) (XnD (fun a b hh=>hs _ (hK2 (.inr (.inl e))) _ _ hh) (Xlx b))
 split at h
 ·rename_i e
  rcases XhB h with a|a
  ·obtain rfl:=XlA a;exact .opt0 k p e
  ·exact .opt1 k p q e (hs _ (hK2 (.inr (.inr e))) _ _ a)
 ·exact XqL h
theorem Xln {l:List Nd} {t:List UInt8} (hK:Xim l):∀(n k:Nat) (Ms:List Mat),n+k=l.length→Ms.length=k→(∀j,j < k→∀p q,(Ms.getD j []).at p q=true→Mt l t j p q)→∀j,j < l.length→∀p q,((Xh1 l t n k Ms).getD j []).at p q=true→Mt l t j p q
 | 0,k,Ms,hn,hk,h=>fun j hj=>h j (by omega)
 | n+1,k,Ms,hn,hk,h=>by
   rw [Xh1]
   refine Xln hK n (k+1) _ (by omega) (by simp [hk]) fun j hj p q hpq=>?_
   by_cases e:j=k
   ·subst e
    rw [List.getD_eq_getElem?_getD,List.getElem?_append_right (by omega),hk,Nat.sub_self] at hpq
    obtain ⟨k1,k2⟩:=hK j (by omega)
    exact XqV hk k1 k2 h p q hpq
   ·rw [List.getD_eq_getElem?_getD,List.getElem?_append_left (by omega),←List.getD_eq_getElem?_getD] at hpq
    exact h j (by omega) p q hpq
theorem XrH {l:List Nd} {t:List UInt8} (hl:0 < l.length) (hK:Xim l) {p q:Nat} (h:((Xh1 l t l.length 0 []).getD (l.length - 1) []).at p q=true):Mt l t (l.length - 1) p q:=Xln hK l.length 0 [] (by omega) rfl (fun j hj=>absurd hj (Nat.not_lt_zero j)) _ (by omega) p q h
theorem XsK {l:List Nd}:∀(t:List Nd) (i:Nat) (roots r:List Nat),l.drop i=t→(∀x∈roots,x < i)→vGo t i roots=some r→∀k,i≤k→k < l.length→((l.getD k default).kind=3∨(l.getD k default).kind=4→(l.getD k default).left < k∧(l.getD k default).right < k)∧((l.getD k default).kind=5∨(l.getD k default).kind=6∨(l.getD k default).kind=7→(l.getD k default).left < k)
 | [],i,roots,r,ht,_,_,k,hik,hk=>by
   have:=congrArg List.length ht
   simp at this;omega
 | n :: t,i,roots,r,ht,hr,h,k,hik,hk=>by
   have hil:i < l.length:=by
    have:=congrArg List.length ht
    simp only [List.length_drop,Xyr] at this;omega
   have hn:l.getD i default=n:=by
    rw [List.getD_eq_getElem?_getD,List.getElem?_eq_getElem hil]
    have:=List.drop_eq_getElem_cons hil
    rw [ht] at this
    simp only [List.cons.injEq] at this
    exact this.1.symm
   have ht':l.drop (i+1)=t:=by
    have:=List.drop_eq_getElem_cons hil
    rw [ht] at this
    simp only [List.cons.injEq] at this
    exact this.2.symm
   rw [vGo] at h
   cases hs:XcL n i roots with
   | none=>rw [hs] at h;cases h
   | some r1=>
     rw [hs] at h
     simp only at h
     have hs0:=hs
     unfold XcL at hs
     split at hs
     ·cases hs
     split at hs
     ·cases hs
     rename_i c hc
     split at hs
     ·cases hs
     rename_i hlen
     split at hs
     ·rename_i hkk
      obtain rfl:=Option.some.inj hs
      by_cases e:k=i
      ·subst e
       rw [hn]
       have hget:∀q,q < c→(roots.drop (roots.length - c)).getD q 0 < k:=fun q hq=>by
        have hl2:roots.length - c+q < roots.length:=by omega
        rw [List.getD_eq_getElem?_getD,List.getElem?_drop,List.getElem?_eq_getElem hl2]
        exact hr _ (List.getElem_mem hl2)
       refine ⟨fun h3=>?_,fun h5=>?_⟩
       ·have:c=2:=by rcases h3 with h3|h3<;>(rw [h3] at hc;cases hc;rfl)
        subst this
        rw [hkk.1,hkk.2]
        exact ⟨hget 0 (by omega),hget 1 (by omega)⟩
       ·have:c=1:=by rcases h5 with h5|h5|h5<;>(rw [h5] at hc;cases hc;rfl)
        subst this
        rw [hkk.1]
        exact hget 0 (by omega)
      ·refine XsK t (i+1) _ r ht' (fun x hx=>?_) h k (by omega) hk
       rcases List.mem_append.1 hx with hx|hx
       ·have:=hr x (List.mem_of_mem_take hx);omega
       ·rw [List.mem_singleton] at hx;omega
     ·cases hs
theorem Xok {l:List Nd} (h:XbW l=true):Xim l:=by
 unfold XbW at h
 rw [Bool.and_eq_true] at h
 intro k hk
 cases hv:vGo l 0 [] with
 | none=>rw [hv] at h;exact absurd h.2 (by decide)
 | some r=>exact XsK l 0 [] r rfl (by simp) hv k (Nat.zero_le _) hk
open Go.RowKit
def Xii (s:List UInt8):JF:={ name:=[97],run:=[],env:=[],needs:=[],hasr:=true,ready:=s,restart:=1,base:=0,cap:=0,stable:=0,burst:=1,window:=1,ladder:=[],line:=3,col:=4 }
theorem Xsj (s:List UInt8):XhP [Xii s]=(Xlg s).map fun i=>(i,Xii s):=by
 have e:Xr8 [Xii s] 0 (Xii s)=Xlg s:=by
  have h1:¬XmZ [Xii s] (Xii s).name < ((0:Nat):Int):=(by decide:¬((0:Int) < 0))
  have h2:¬((Xii s).needs.any (fun n=>decide (XmZ [Xii s] n < 0)))=true:=(by decide:¬(false=true))
  have h3:¬inR (Xii s)=false:=(by decide:¬(true=false))
  unfold Xr8
  rw [if_neg h1,if_neg h2,if_neg h3]
  rfl
 unfold XhP
 rw [XdI,e]
 cases Xlg s with
 | some i=>rfl
 | none=>
   have hc:cyc ([Xii s].map JF.toJA)=[]:=rfl
   rw [XdI]
   unfold Xfl
   simp only [hc]
   rfl
theorem Xq5 {s:List UInt8} {c:Nat} (h:XbG s=.error c):XjM [Xii s]=(52,3,4):=by
 unfold XjM
 rw [Xsj,show Xlg s=some 4 from by unfold Xlg;rw [h]]
 rfl
theorem Xuk {s:List UInt8} {l:List Nd} (h:XbG s=.ok l):XjM [Xii s]=if (Xbk (XbU l)).isNone then (120,3,4) else (0,0,0):=by
 have hv:=(Xeu h).1
 unfold XjM
 rw [Xsj,show Xlg s=if (Xbk (XbU l)).isNone then some 5 else none from by unfold Xlg;rw [h];simp only;rw [if_neg (by rw [hv];decide)]]
 cases (Xbk (XbU l)).isNone<;>rfl
theorem XoQ {s:List UInt8} {l:List Nd} {t:List UInt8} (h:XbG s=.ok l) {n i k:Nat} (hm:(XpK l (t.take n)).at i k=true):(Xbk (XbU l)).isNone=false:=by
 obtain ⟨hv,hl,_⟩:=Xeu h
 have:=Xi7 hv (XrH hl (Xok hv) hm)
 cases hs:Xbk (XbU l) with
 | none=>exact absurd hs this
 | some t=>rfl
structure Xym (l:List JF):Prop where
 idx:∀(k:Nat) (hk:k < l.length),XmZ l l[k].name=k
 needs:∀(k:Nat) (hk:k < l.length),∀n∈l[k].needs,0≤XmZ l n
 cap:∀(k:Nat) (hk:k < l.length),l[k].base≤l[k].cap∧l[k].window≠0
 order:(ord (l.map JF.toJA)).length=l.length
 pat:∀(k:Nat) (hk:k < l.length),l[k].hasr=true→Xlg l[k].ready=none
def Xw3:Nat→List UInt8→Option (List UInt8 × Nat)
 | 0,_=>none
 | _+1,[]=>none
 | q+1,c :: r=>if c.toNat=34 then some ([],1) else match part (c :: r) with
   | none=>none
   | some x=>(Xw3 q ((c :: r).drop (max x.2 1))).map fun y=>(x.1 :: y.1,x.2+y.2)
theorem XoY:∀(q:Nat) (l:List UInt8),l.length < q→Xw3 q l=quo l
 | 0,_,h=>by omega
 | q+1,[],_=>by rw [quo];rfl
 | q+1,c :: r,h=>by
   rw [quo,Xw3]
   split
   ·rfl
   ·cases part (c :: r) with
    | none=>rfl
    | some x=>
      simp only
      rw [XoY q _ (by simp only [List.length_drop,Xyr] at *;omega)]
def Xm1:Nat→List UInt8→Nat
 | 0,_=>0
 | _+1,[]=>0
 | q+1,c :: r=>if c.toNat=32∨c.toNat=9∨c.toNat=10∨c.toNat=13 then Xm1 q r+1 else if c.toNat=35 then cmt (c :: r)+Xm1 q ((c :: r).drop (max (cmt (c :: r)) 1)) else 0
theorem Xks:∀(q:Nat) (l:List UInt8),l.length < q→Xm1 q l=skp l
 | 0,_,h=>by omega
 | q+1,[],_=>by rw [skp];rfl
 | q+1,c :: r,h=>by
   rw [skp,Xm1]
   split
   ·rw [Xks q r (by simp only [Xyr] at h;omega)]
   ·split
    ·rw [Xks q _ (by simp only [List.length_drop,Xyr] at *;omega)]
    ·rfl
def Xxz (q:Nat):List UInt8→Except Int (Int × List UInt8 × Nat)
 | []=>.error 50
 | c :: r=>
   if XeQ c then .ok (1,(c :: r).take (spn XeR (c :: r)),spn XeR (c :: r))
   else if XbK c then
    if 18 < spn XbK (c :: r)∨1 < spn XbK (c :: r)∧c.toNat=48 then .error 53 else .ok (2,(c :: r).take (spn XbK (c :: r)),spn XbK (c :: r))
   else if c.toNat=34 then match Xw3 q r with
    | none=>.error 51
    | some x=>.ok (3,x.1,x.2+1)
   else if c.toNat=47 then match sla r with
    | none=>.error 52
    | some x=>.ok (4,x.1,x.2+1)
   else if c.toNat=123∨c.toNat=125∨c.toNat=44∨c.toNat=61 then .ok (5,[c],1)
   else .error 50
theorem Xt6 (q:Nat):∀l:List UInt8,l.length≤q→Xxz q l=one l
 | [],_=>rfl
 | c :: r,h=>by
   unfold Xxz one
   simp only
   rw [XoY q r (by simp only [Xyr] at h;omega)]
   rfl
def XwY:Nat→Nat × Nat→Nat→List UInt8→Except Flt (List Tok)
 | 0,_,_,_=>.ok []
 | q+1,p,n,l=>
   match l.drop (Xm1 (q+2) l) with
   | []=>.ok [⟨6,[],(plc p l).1,(plc p l).2⟩]
   | c :: r=>
     match Xxz (q+2) (c :: r) with
     | .error e=>.error ⟨e,(plc p (l.take (Xm1 (q+2) l))).1,(plc p (l.take (Xm1 (q+2) l))).2⟩
     | .ok x=>if 2000≤n then .error ⟨1,(plc p (l.take (Xm1 (q+2) l))).1,(plc p (l.take (Xm1 (q+2) l))).2⟩
       else (XwY q (plc p (l.take (Xm1 (q+2) l+x.2.2))) (n+1) ((c :: r).drop (max x.2.2 1))).map (⟨x.1,x.2.1,(plc p (l.take (Xm1 (q+2) l))).1,(plc p (l.take (Xm1 (q+2) l))).2⟩ :: ·)
theorem Xop:∀(q:Nat) (p:Nat × Nat) (n:Nat) (l:List UInt8),l.length < q→XwY q p n l=Xct p n l
 | 0,_,_,_,h=>by omega
 | q+1,p,n,l,h=>by
   unfold XwY
   rw [Xks (q+2) l (by omega)]
   cases hd:l.drop (skp l) with
   | nil=>rw [XdK p n l hd]
   | cons c r=>
     have hlen:=congrArg List.length hd
     simp only [List.length_drop,Xyr] at hlen
     simp only
     rw [Xt6 (q+2) (c :: r) (by simp only [Xyr];omega)]
     cases h1:one (c :: r) with
     | error e=>rw [XdJ p n l c r e hd h1]
     | ok x=>
       simp only
       by_cases hn:2000≤n
       ·rw [if_pos hn,Xdn p n l c r x hd h1 hn]
       ·obtain ⟨a,b,k⟩:=x
        have g:=Xgy h1
        simp only at g
        rw [if_neg hn,XdL p n l c r a b k hd h1 g.1 (by omega),show max k 1=k from by omega,Xop q _ _ _ (by simp only [List.length_drop,Xyr];omega)]
def Xxu (l:List UInt8):Except Flt (List Tok):=if 8192 < l.length then .error ⟨1,0,0⟩ else XwY (l.length+1) (1,1) 0 l
theorem XtR (l:List UInt8):Xxu l=lex l:=by
 unfold Xxu lex
 rw [Xop _ _ _ _ (Nat.lt_succ_self _)]
def XiP {α:Type} (el:Nat→List α→Except Flt α) (st:Nat) (ts:List Tok):Nat→Nat→List α→Except Flt (List α × Nat)
 | 0,_,_=>.ok ([],0)
 | q+1,k,out=>match el k out with
   | .error f=>.error f
   | .ok x=>if k+st < ts.length∧gIs ts (k+st) [44]=true then XiP el st ts q (k+st+1) (out++[x]) else .ok (out++[x],k+st)
theorem Xgo {α:Type} (el:Nat→List α→Except Flt α) (st:Nat) (ts:List Tok):∀(q k:Nat) (out:List α),ts.length - k < q→XiP el st ts q k out=Xdf el st ts k out
 | 0,_,_,h=>by omega
 | q+1,k,out,h=>by
   rw [Xdf,XiP]
   cases el k out with
   | error f=>rfl
   | ok x=>
     simp only
     by_cases hc:k+st < ts.length∧gIs ts (k+st) [44]=true
     ·rw [if_pos hc,dif_pos hc,Xgo el st ts q _ _ (by omega)]
     ·rw [if_neg hc,dif_neg hc]
def XnY (ts:List Tok) (k:Nat) (w:List UInt8) (j:JF):Except Flt (JF × Nat):=
 if w=XlH then (XcZ ts k 3 512).map fun t=>({ j with run:=t.text },k+1)
 else if w=Xij then (XtB ts k j.env).map fun v=>({ j with env:=j.env++[v] },k+3)
 else if w=XdQ then (XiP (XfI ts) 1 ts (ts.length+1) k []).map fun x=>({ j with needs:=x.1 },x.2)
 else if w=XfE then (XcZ ts k 4 128).map fun t=>({ j with hasr:=true,ready:=t.text },k+1)
 else if w=Xda then (Xqy ts k).map fun n=>({ j with restart:=n },k+1)
 else if w=XcD then do
  let a ←XeA ts k
  let b ←XeA ts (k+1)
  let c ←XeA ts (k+2)
  .ok ({ j with base:=a,cap:=b,stable:=c },k+3)
 else if w=Xe7 then do
  let n ←XeA ts k
  if n < 1∨16 < n then .error (flt 2 (tkA ts k)) else
  let m ←XeA ts (k+1)
  .ok ({ j with burst:=n,window:=m },k+2)
 else (XiP (Xfj ts) 2 ts (ts.length+1) k []).map fun x=>({ j with ladder:=x.1 },x.2)
theorem XnZ (ts:List Tok) (k:Nat) (w:List UInt8) (j:JF):XnY ts k w j=XcI ts k w j:=by
 unfold XnY XcI
 rw [Xgo _ _ _ _ _ _ (by omega),Xgo _ _ _ _ _ _ (by omega)]
def Xgm (ts:List Tok) (name:Tok):Nat→Nat→List (List UInt8)→JF→Except Flt (JF × Nat)
 | 0,_,_,j=>.ok (j,0)
 | q+1,k,seen,j=>
   if gIs ts k [125] then (if seen.contains XlH then .ok (j,k+1) else .error (flt 6 name))
   else if (tkA ts k).kind≠1∨¬Xgs.contains (tkA ts k).text then .error (flt 60 (tkA ts k))
   else if (tkA ts k).text≠Xij∧seen.contains (tkA ts k).text then .error (flt 5 (tkA ts k))
   else match XnY ts (k+1) (tkA ts k).text j with
    | .error f=>.error f
    | .ok x=>if k < x.2∧k < ts.length then Xgm ts name q x.2 (if (tkA ts k).text=Xij then seen else seen++[(tkA ts k).text]) x.1 else .error (flt 60 (tkA ts k))
theorem Xhc (ts:List Tok) (name:Tok):∀(q k:Nat) (seen:List (List UInt8)) (j:JF),ts.length - k < q→Xgm ts name q k seen j=Xcn ts name k seen j
 | 0,_,_,_,h=>by omega
 | q+1,k,seen,j,h=>by
   rw [Xcn,Xgm,XnZ]
   split
   ·rfl
   split
   ·rfl
   split
   ·rfl
   cases XcI ts (k+1) (tkA ts k).text j with
   | error f=>rfl
   | ok x=>
     simp only
     by_cases hc:k < x.2∧k < ts.length
     ·rw [if_pos hc,dif_pos hc,Xhc ts name q _ _ _ (by omega)]
     ·rw [if_neg hc,dif_neg hc]
def Xty (ts:List Tok) (k:Nat) (full:Bool):Except Flt (JF × Nat):=do
 let w ←XcZ ts k 1 8192
 if w.text≠XxQ then .error (flt 60 w) else
 let t ←Xfh ts (k+1) full
 XgY ts (k+2) [123]
 Xgm ts t (ts.length+1) (k+3) [] (Xk6 t)
theorem Xqx (ts:List Tok) (k:Nat) (full:Bool):Xty ts k full=Xk2 ts k full:=by
 unfold Xty Xk2
 have e:∀t,Xgm ts t (ts.length+1) (k+3) [] (Xk6 t)=Xcn ts t (k+3) [] (Xk6 t):=fun t=>Xhc _ _ _ _ _ _ (by omega)
 simp only [e]
def Xk3 (ts:List Tok):Nat→Nat→List JF→Except Flt (List JF)
 | 0,_,out=>.ok out
 | q+1,k,out=>if (tkA ts k).kind=6 then .ok out
   else match Xty ts k (decide (32≤out.length)) with
    | .error f=>.error f
    | .ok x=>if k < x.2∧k < ts.length then Xk3 ts q x.2 (out++[x.1]) else .ok out
theorem XiO (ts:List Tok):∀(q k:Nat) (out:List JF),ts.length - k < q→Xk3 ts q k out=Xec ts k out
 | 0,_,_,h=>by omega
 | q+1,k,out,h=>by
   rw [Xec,Xk3,Xqx]
   split
   ·rfl
   cases Xk2 ts k (decide (32≤out.length)) with
   | error f=>rfl
   | ok x=>
     simp only
     by_cases hc:k < x.2∧k < ts.length
     ·rw [if_pos hc,dif_pos hc,XiO ts q _ _ (by omega)]
     ·rw [if_neg hc,dif_neg hc]
def Xn2 (s:List UInt8):Except Flt (List JF):=match Xxu s with
 | .error f=>.error f
 | .ok ts=>Xk3 ts (ts.length+1) 0 []
theorem Xfi (s:List UInt8):Xn2 s=XcR s:=by
 unfold Xn2 XcR
 rw [XtR]
 cases lex s with
 | error f=>rfl
 | ok ts=>exact XiO ts _ _ _ (by omega)
def ex1:List UInt8:=[106,111,98,32,97,32,123,32,114,117,110,32,34,120,34,32,125]
theorem Xmo:XcR ex1=.ok [{ Xk6 ⟨1,[97],1,5⟩ with run:=[120] }]:=by rw [←Xfi];rfl
def exA:List UInt8:=[106,111,98,32,97,32,123,32,114,117,110,32,34,120,34,32,110,101,101,100,115,32,97,32,125]
def exB:List UInt8:=[106,111,98,32,97,32,123,32,114,117,110,32,34,120,34,32,110,101,101,100,115,32,98,32,125]
def XwW:JF:={ Xk6 ⟨1,[97],1,5⟩ with run:=[120] }
def Xxo:JF:={ XwW with needs:=[[97]] }
def Xxp:JF:={ XwW with needs:=[[98]] }
theorem Xmp:XcR exA=.ok [Xxo]:=by rw [←Xfi];rfl
theorem Xmq:XcR exB=.ok [Xxp]:=by rw [←Xfi];rfl
theorem Xvi:XjM [Xxo]=(70,1,5):=by decide +kernel
theorem Xvj:XjM [Xxp]=(4,1,5):=by decide +kernel
theorem Xvk:XjM [XwW]=(0,0,0):=by decide +kernel
theorem Xos (ad:Nat→Addr) (hinj:XeD ad) (s:List UInt8) (hs:s.length≤1000000) (l:List JF) (hp:XcR s=.ok l) (hl:l.length≤32) (hj:∀j∈l,XwM j) (c a b:Int) (h0:XjM l=(c,a,b)):Xay Tryz.prog 15 [.sen ad] [.x (.string (bs s))] (fun r H'=>r=(if c=0 then .tup [.sq l.length (jfa l),.x (.agg #[.int .i64 0,.int .i64 0,.int .i64 0])] else .tup [.x (.slice none 0 0),.x (.agg #[.int .i64 c,.int .i64 a,.int .i64 b])])∧H'=[.sen ad]):=by
 have h1:=XqA s hs
 rw [hp] at h1
 simp only [XwX] at h1
 have h2:=XnC ad hinj l hl hj
 rw [h0] at h2
 simp only at h2
 have h2:=Lib.hid h2
 clear hp h0
 by_cases hc:c=0
 ·rw [if_pos hc]
  subst hc
  refine XaV Tryz.func15 Tryz.ntmps15 ?_
  (repeat' (first|refine Wkx.go ?_|(refine Xaz (fun h=>?_) (fun h=>?_)<;>first|(exact absurd h (by decide))|skip)|refine Xad ?_ (h:=by exact fun _=>Xbb rfl rfl Tryz.func40 (h1))|refine Xad ?_|(refine Xab rfl ?_;(first|((refine Xa7 Tryz.func6 [_] rfl rfl (by (repeat' (first|exact Xyo _|refine (XyB (l₁:=[_,_])).trans (XyE _ ?_)|fail))) h2.out ?_;rintro _ _ ⟨rfl,rfl⟩);refine XaJ ?_)|refine Xbh ?_|refine Xb8 (fun b=>?_)))|fail))
  refine Xaa _ _ (XbR rfl (RV.tmp _) (RV.cell 2 rfl rfl XaI.out (by simp) (by simp)) (Xaj.mk' [.box _ _,.box _ _] [.sen ad] (by (repeat' (first|exact Xyo _|refine (XyB (l₁:=[_])).trans (XyE _ ?_)|fail))) (Xak.refl _ _) (VwL.refl _ _))) ⟨rfl,rfl⟩
 ·rw [if_neg hc]
  refine XaV Tryz.func15 Tryz.ntmps15 ?_
  (repeat' (first|refine Wkx.go ?_|(refine Xaz (fun h=>?_) (fun h=>?_)<;>first|(exact absurd h (by decide))|(exfalso;omega;done)|skip)|refine Xad ?_ (h:=by exact fun _=>Xbb rfl rfl Tryz.func40 (h1))|refine Xad ?_|(refine Xab rfl ?_;(first|((refine Xa7 Tryz.func6 [_] rfl rfl (by (repeat' (first|exact Xyo _|refine (XyB (l₁:=[_,_])).trans (XyE _ ?_)|fail))) h2.out ?_;rintro _ _ ⟨rfl,rfl⟩);refine XaJ ?_)|refine Xbh ?_|refine Xb8 (fun b=>?_)))|fail))
  refine Xbu mixed ?_
  (refine XfY 1 ?_)
  (refine Xd8 0 ?_;(first|refine Xd5 ?_|fail))
  (refine Xd8 2 ?_;(first|refine Xbh ?_|fail))
  refine Xao (by decide +kernel) ?_
  (repeat' (first|refine Wkx.go ?_|fail))
  refine Xaa _ _ (XbR rfl (RV.tmp _) (RV.cell 2 rfl rfl XaI.out (by simp) (by simp)) (Xaj.mk' [.box _ _,.box _ _] [.sen ad] (by (repeat' (first|exact Xyo _|refine (XyB (l₁:=[_])).trans (XyE _ ?_)|fail))) (Xak.refl _ _) (VwL.refl _ _))) ⟨rfl,rfl⟩
structure DK (l:List Int):Prop where
 len:l.length≤140737488355328
 vals:I64 l
def names:List (List UInt8):=[[97],[98],[99],[100],[120]]
def Xx3:List (List UInt8):=[[111,107],[],[114,46,42,121,36],[94,117,112,124,103,111,43],[91,48,45,57,93,43,120,63],[40,97,98,41,42,99],[94,36]]
def Xyh:List (List UInt8):=[[120],[114,117,110,32,105,116],[97,32,34,98,34,10],[]]
@[simp] theorem Xw2:Xx3.length=7:=rfl
def Xyi:List Int:=[15,2,1]
def Xyf:List (List UInt8 × List UInt8):=[([80],[49]),([81],[0,32,113])]
structure Xx9 (name:List UInt8) (others:List (List UInt8)) (j:JF):Prop where
 small:Xu1 j
 name:j.name=name
 run:j.run∈Xyh
 env:∃v,v≤2∧j.env=Xyf.take v
 needs:j.needs.Sublist others
 ready:(j.hasr=true∧j.ready∈Xx3)∨(j.hasr=false∧j.ready=[])
 restart:j.restart=1∨j.restart=2∨j.restart=3
 base:0≤j.base∧j.base≤1000
 cap:0≤j.cap∧j.cap≤1000
 stable:0≤j.stable∧j.stable≤1000
 window:0≤j.window∧j.window≤1000
 burst:1≤j.burst∧j.burst≤4
 ladder:j.ladder≠[]∧j.ladder.length≤3
 laddere:∀p∈j.ladder,p.1∈Xyi∧0≤p.2∧p.2≤1000
 capge:j.base≤j.cap
 win1:1≤j.window
end Go.Proofs.YtdlblokjfoggpaaGreatDoor
--%old
namespace Go.Proofs.YtdlblokjfoggpaaGreatDoor
open Go.RowKit
section
variable {l:List JF} {i:Nat} {j:JF}
end
open Go.RowKit
theorem Xrj (ad:Nat→Addr) (hinj:XeD ad):Xay Tryz.prog 5 [.sen ad] [] (fun r H'=>r=.x (.bool true)∧H'=[.sen ad]):=by
 have jok:∀j,j.needs.length≤1→j.ladder.length≤1→j.ready.length≤1→XwM j:=fun j h1 h2 h3=>⟨by omega,by omega,by omega⟩
 have hA:=Xos ad hinj exA (by decide) [Xxo] Xmp (by decide) (fun j hj=>by rw [List.mem_singleton] at hj;subst hj;exact jok _ (by decide) (by decide) (by decide)) _ _ _ Xvi
 have hB:=Xos ad hinj exB (by decide) [Xxp] Xmq (by decide) (fun j hj=>by rw [List.mem_singleton] at hj;subst hj;exact jok _ (by decide) (by decide) (by decide)) _ _ _ Xvj
 have hX:=Xos ad hinj ex1 (by decide) [XwW] Xmo (by decide) (fun j hj=>by rw [List.mem_singleton] at hj;subst hj;exact jok _ (by decide) (by decide) (by decide)) _ _ _ Xvk
 rw [if_neg (by decide)] at hA hB
 rw [if_pos rfl] at hX
 have hA:=Lib.hid hA
 have hB:=Lib.hid hB
 have hX:=Lib.hid hX
 refine XaV Tryz.func5 Tryz.ntmps5 ?_
 (repeat' (first|refine Wkx.go ?_|refine Xad ?_|(refine Xab rfl ?_;(first|((refine Xa7 Tryz.func15 [_] rfl rfl (by (repeat' (first|exact Xyo _|fail))) hA.out ?_;rintro _ _ ⟨rfl,rfl⟩);refine XaJ ?_)|((refine Xa7 Tryz.func15 [_] rfl rfl (by (repeat' (first|exact Xyo _|refine (XyB (l₁:=[_])).trans (XyE _ ?_)|fail))) hB.out ?_;rintro _ _ ⟨rfl,rfl⟩);refine XaJ ?_)|((refine Xa7 Tryz.func15 [_] rfl rfl (by (repeat' (first|exact Xyo _|refine (XyB (l₁:=[_])).trans (XyE _ ?_)|fail))) hX.out ?_;rintro _ _ ⟨rfl,rfl⟩);refine XaJ ?_)|refine Xbh ?_|refine Xb8 (fun b=>?_)))|fail))
 refine Xaa _ _ (XaF rfl (RV.tmp _) (Xaj.mk' [.box _ _,.box _ _,.box _ _] [.sen ad] (by (repeat' (first|exact Xyo _|refine XyE _ ?_|refine (XyB (l₁:=[_])).trans (XyE _ ?_)|fail))) (Xak.refl _ _) (VwL.refl _ _))) ⟨rfl,rfl⟩
end Go.Proofs.YtdlblokjfoggpaaGreatDoor

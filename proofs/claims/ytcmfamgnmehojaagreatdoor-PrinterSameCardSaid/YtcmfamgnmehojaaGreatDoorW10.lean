import Derived.Test.YtcmfamgnmehojaaGreatDoorW9
import Derived.Test.YtcmfamgnmehojaaGreatDoorW8
import Derived.Test.YtcmfamgnmehojaaGreatDoorRows
import Derived.Test.YtcmfamgnmehojaaGreatDoorW0
import Derived.Lib.AppendZeros
import Derived.Test.YtcmfamgnmehojaaGreatDoorW2
import Derived.Test.YtcmfamgnmehojaaGreatDoorW6
/- Jobs of tokens: two texts, one behind the other; tokens that are the same but for their places. No program in sight. -/
set_option linter.unusedSimpArgs false
set_option linter.unusedVariables false
set_option maxRecDepth 100000
set_option maxHeartbeats 8000000
namespace Go.Proofs.YtcmfamgnmehojaaGreatDoor
open Go.RowKit
structure Ag (ts us:List Tok) (m:Nat):Prop where
 same:∀k,k < m→tkA us k=tkA ts k
 ne:∀k,k < m→(tkA ts k).kind≠6
 fin:(tkA ts m).kind=6
 lt:ts.length=m+1
 lu:m+1 < us.length
 kw:(tkA us m).kind=1
 tw:(tkA us m).text=Xou
 kn:(tkA us (m+1)).kind=1
 tn:(tkA us (m+1)).text ∉ Xek
section
variable {α β:Type} {ts us:List Tok} {m k:Nat}
def A2 (x y:Except Flt α) (n m:Nat):Prop:=(∃a,x=.ok a∧y=.ok a∧n≤m)∨((∃f,x=.error f)∧∃f,y=.error f)
theorem A2.bad {x y:Except Flt α} {n m:Nat} {f g:Flt} (hx:x=.error f) (hy:y=.error g):A2 x y n m:=.inr ⟨⟨f,hx⟩,g,hy⟩
theorem A2.of {x y:Except Flt α} {n m:Nat} (h:y=x) (hn:n≤m):A2 x y n m:=by
 subst h
 cases y with
 | error f=>exact .bad rfl rfl
 | ok a=>exact .inl ⟨a,rfl,rfl,hn⟩
theorem A2.bind {x y:Except Flt α} {f g:α→Except Flt β} {n n' m:Nat} (h:A2 x y n m) (hf:∀a,n≤m→A2 (f a) (g a) n' m):A2 (x >>= f) (y >>= g) n' m:=by
 rcases h with ⟨a,rfl,rfl,hn⟩|⟨⟨f1,rfl⟩,f2,rfl⟩
 ·exact hf a hn
 ·exact .bad rfl rfl
theorem A2.map {x y:Except Flt α} {f:α→β} {n m:Nat} (h:A2 x y n m):A2 (x.map f) (y.map f) n m:=by
 rcases h with ⟨a,rfl,rfl,hn⟩|⟨⟨f1,rfl⟩,f2,rfl⟩
 ·exact .inl ⟨_,rfl,rfl,hn⟩
 ·exact .bad rfl rfl
theorem Ag.take_m (h:Ag ts us m) {kind:Int} {most:Nat} (hk:kind≠6):∃f,Xb0 ts m kind most=.error f:=⟨_,by unfold Xb0;rw [if_pos (by rw [h.fin];exact fun e=>hk e.symm)]⟩
theorem Ag.take_lt (h:Ag ts us m) {kind:Int} {most:Nat} (hk:k < m):Xb0 us k kind most=Xb0 ts k kind most:=by unfold Xb0;rw [h.same k hk]
theorem Ag.take (h:Ag ts us m) {kind:Int} {most:Nat} (hk:k≤m) (h1:kind≠1) (h6:kind≠6):A2 (Xb0 ts k kind most) (Xb0 us k kind most) (k+1) m:=by
 by_cases hlt:k < m
 ·exact .of (h.take_lt hlt) hlt
 ·obtain rfl:k=m:=by omega
  obtain ⟨f,hf⟩:=h.take_m (most:=most) h6
  exact .bad hf (by unfold Xb0;rw [if_pos (by rw [h.kw];exact fun e=>h1 e.symm)])
theorem Ag.num (h:Ag ts us m) (hk:k≤m):A2 (Xdk ts k) (Xdk us k) (k+1) m:=(h.take hk (by decide) (by decide)).map
def AI (x y:Except Flt (JF × Nat)) (k m:Nat):Prop:=(∃j k',x=.ok (j,k')∧y=.ok (j,k')∧k≤k'∧k'≤m)∨((∃f,x=.error f)∧((∃f,y=.error f)∨∃j,y=.ok (j,m+1)))
theorem AI.of {x y:Except Flt α} {k d m:Nat} {f:α→JF} (h:A2 x y (k+d) m):AI (x.map fun t=>(f t,k+d)) (y.map fun t=>(f t,k+d)) k m:=by
 rcases h with ⟨a,rfl,rfl,hn⟩|⟨⟨f1,rfl⟩,f2,rfl⟩
 ·exact .inl ⟨_,_,rfl,rfl,by omega,hn⟩
 ·exact .inr ⟨⟨_,rfl⟩,.inl ⟨_,rfl⟩⟩
structure Sh (ts us:List Tok) (d:Nat):Prop where
 kind:∀k,(tkA us (k+d)).kind=(tkA ts k).kind
 text:∀k,(tkA us (k+d)).text=(tkA ts k).text
 len:us.length=ts.length+d
def RE (R:α→β→Prop):Except Flt α→Except Flt β→Prop
 | .error f,.error g=>f.code=g.code
 | .ok a,.ok b=>R a b
 | _,_=>False
theorem RE.bind {α' β':Type} {R:α→β→Prop} {S:α'→β'→Prop} {x:Except Flt α} {y:Except Flt β} {f:α→Except Flt α'} {g:β→Except Flt β'} (h:RE R x y) (hf:∀a b,R a b→RE S (f a) (g b)):RE S (x >>= f) (y >>= g):=by
 cases x with
 | error e=>cases y with
   | error e'=>exact h
   | ok b=>exact h.elim
 | ok a=>cases y with
   | error e'=>exact h.elim
   | ok b=>exact hf a b h
theorem RE.map {α' β':Type} {R:α→β→Prop} {S:α'→β'→Prop} {x:Except Flt α} {y:Except Flt β} {f:α→α'} {g:β→β'} (h:RE R x y) (hf:∀a b,R a b→S (f a) (g b)):RE S (x.map f) (y.map g):=by
 cases x with
 | error e=>cases y with
   | error e'=>exact h
   | ok b=>exact h.elim
 | ok a=>cases y with
   | error e'=>exact h.elim
   | ok b=>exact hf a b h
def XoW (t u:Tok):Prop:=u.kind=t.kind∧u.text=t.text
variable {d:Nat}
theorem Sh.take (h:Sh ts us d) (k:Nat) (kind:Int) (most:Nat):RE XoW (Xb0 ts k kind most) (Xb0 us (k+d) kind most):=by
 unfold Xb0
 rw [h.kind,h.text]
 split
 ·rfl
 ·split
  ·rfl
  ·exact ⟨h.kind k,h.text k⟩
theorem Sh.num (h:Sh ts us d) (k:Nat):RE Eq (Xdk ts k) (Xdk us (k+d)):=(h.take k 2 8192).map fun t u e=>by rw [e.2]
theorem Sh.name (h:Sh ts us d) (k:Nat) (full:Bool):RE XoW (Xdw ts k full) (Xdw us (k+d) full):=
 (h.take k 1 32).bind fun t u e=>by
  cases full with
  | true=>exact rfl
  | false=>exact e
theorem Sh.at (h:Sh ts us d) (k i:Nat):k+d+i=k+i+d:=by omega
def RJ (j j':JF):Prop:=∃l c,j'={ j with line:=l,col:=c }
theorem RJ.refl (j:JF):RJ j j:=⟨j.line,j.col,rfl⟩
def RL:List JF→List JF→Prop
 | [],[]=>True
 | a :: l,b :: m=>RJ a b∧RL l m
 | _,_=>False
theorem RL.refl:∀l:List JF,RL l l
 | []=>trivial
 | a :: l=>⟨RJ.refl a,RL.refl l⟩
theorem RL.len:∀{l m:List JF},RL l m→m.length=l.length
 | [],[],_=>rfl
 | a :: l,b :: m,h=>by simp [RL.len h.2]
 | [],b :: m,h=>h.elim
 | a :: l,[],h=>h.elim
theorem RL.app:∀{l m l' m':List JF},RL l m→RL l' m'→RL (l++l') (m++m')
 | [],[],_,_,_,h=>h
 | a :: l,b :: m,_,_,h,h'=>⟨h.1,RL.app h.2 h'⟩
 | [],b :: m,_,_,h,_=>h.elim
 | a :: l,[],_,_,h,_=>h.elim
end
open Go.RowKit
theorem Xd6 (p:UInt8→Bool) (c:UInt8) (r:List UInt8) (h:p c=true):spn p (c :: r)=spn p r+1:=by simp [spn,List.takeWhile_cons,h]
theorem Xkl (p:UInt8→Bool) (c:UInt8) (r:List UInt8) (h:p c=false):spn p (c :: r)=0:=by simp [spn,List.takeWhile_cons,h]
theorem Xh2 (p:UInt8→Bool) (l:List UInt8):spn p l≤l.length:=(List.takeWhile_prefix p).length_le
theorem Xhk:quo []=none:=by rw [quo]
theorem XfM (c:UInt8) (r:List UInt8) (h:c.toNat=34):quo (c :: r)=some ([],1):=by rw [quo,if_pos h]
theorem XhZ (c:UInt8) (r:List UInt8) (h:c.toNat≠34) (h2:part (c :: r)=none):quo (c :: r)=none:=by rw [quo,if_neg h,h2]
theorem XdT (c:UInt8) (r:List UInt8) (b:UInt8) (n:Nat) (h:c.toNat≠34) (h2:part (c :: r)=some (b,n)):quo (c :: r)=(quo ((c :: r).drop n)).map fun y=>(b :: y.1,n+y.2):=by
 rw [quo,if_neg h,h2];simp only [];rw [show max n 1=n from by have:=Xhf h2;omega]
theorem XlR (l:List UInt8):∀x,quo l=some x→1≤x.2∧x.2≤l.length∧x.1.length < x.2:=by
 match h:l with
 | []=>intro x hx;rw [Xhk] at hx;cases hx
 | c :: r=>
   intro x hx
   by_cases h1:c.toNat=34
   ·rw [XfM c r h1] at hx;cases hx;simp
   ·cases hp:part (c :: r) with
    | none=>rw [XhZ c r h1 hp] at hx;cases hx
    | some y=>
      obtain ⟨b,n⟩:=y
      have hle:=Xhf hp
      rw [XdT c r b n h1 hp] at hx
      cases hq:quo ((c :: r).drop n) with
      | none=>rw [hq] at hx;cases hx
      | some z=>
        have:=XlR ((c :: r).drop n) z hq
        rw [hq] at hx;cases hx
        simp only [List.length_drop,Xpq] at *;omega
termination_by l.length
decreasing_by subst h;simp;omega
theorem Xhr:sla []=none:=by rw [sla]
theorem Xhp (c:UInt8) (r:List UInt8) (h:c.toNat=47):sla (c :: r)=some ([],1):=by rw [sla.eq_def];simp only [if_pos h]
theorem Xho (c:UInt8) (r:List UInt8) (h:c.toNat < 32):sla (c :: r)=none:=by rw [sla.eq_def];simp only [if_neg (show ¬c.toNat=47 by omega),if_pos h]
theorem XfO (c:UInt8) (h:c.toNat=92):sla [c]=none:=by rw [sla,if_neg (by omega),if_neg (by omega),if_pos h]
theorem XfN (c d:UInt8) (r:List UInt8) (h:c.toNat=92) (h2:d.toNat < 32):sla (c :: d :: r)=none:=by rw [sla,if_neg (by omega),if_neg (by omega),if_pos h];simp only [if_pos h2]
theorem Xhq (c d:UInt8) (r:List UInt8) (h:c.toNat=92) (h2:d.toNat=47):sla (c :: d :: r)=(sla r).map fun x=>(d :: x.1,2+x.2):=by
 rw [sla,if_neg (by omega),if_neg (by omega),if_pos h];simp only [if_neg (show ¬d.toNat < 32 by omega),if_pos h2]
theorem Xht (c d:UInt8) (r:List UInt8) (h:c.toNat=92) (h2:32≤d.toNat) (h3:d.toNat≠47):sla (c :: d :: r)=(sla r).map fun x=>(c :: d :: x.1,2+x.2):=by
 rw [sla,if_neg (by omega),if_neg (by omega),if_pos h];simp only [if_neg (show ¬d.toNat < 32 by omega),if_neg h3]
theorem Xhs (c:UInt8) (r:List UInt8) (h:c.toNat≠47) (h2:32≤c.toNat) (h3:c.toNat≠92):sla (c :: r)=(sla r).map fun x=>(c :: x.1,1+x.2):=by
 rw [sla.eq_def];simp only [if_neg h,if_neg (show ¬c.toNat < 32 by omega),if_neg h3]
theorem Xh1 (l:List UInt8):∀x,sla l=some x→1≤x.2∧x.2≤l.length∧x.1.length < x.2:=by
 match h:l with
 | []=>intro x hx;rw [Xhr] at hx;cases hx
 | c :: r=>
   intro x hx
   by_cases h1:c.toNat=47
   ·rw [Xhp c r h1] at hx;cases hx;simp
   by_cases h2:c.toNat < 32
   ·rw [Xho c r h2] at hx;cases hx
   by_cases h3:c.toNat=92
   ·match r,hx with
    | [],hx=>rw [XfO c h3] at hx;cases hx
    | d :: r,hx=>
      by_cases h4:d.toNat < 32
      ·rw [XfN c d r h3 h4] at hx;cases hx
      by_cases h5:d.toNat=47
      ·rw [Xhq c d r h3 h5] at hx
       cases hq:sla r with
       | none=>rw [hq] at hx;cases hx
       | some z=>have:=Xh1 r z hq;rw [hq] at hx;cases hx;simp only [Xpq];omega
      ·rw [Xht c d r h3 (by omega) h5] at hx
       cases hq:sla r with
       | none=>rw [hq] at hx;cases hx
       | some z=>have:=Xh1 r z hq;rw [hq] at hx;cases hx;simp only [Xpq];omega
   ·rw [Xhs c r h1 (by omega) h3] at hx
    cases hq:sla r with
    | none=>rw [hq] at hx;cases hx
    | some z=>have:=Xh1 r z hq;rw [hq] at hx;cases hx;simp only [Xpq];omega
termination_by l.length
decreasing_by
 all_goals subst h;simp;try omega
theorem Xdc (p:Nat × Nat) (n:Nat) (l:List UInt8) (h:l.drop (skp l)=[]):Xb8 p n l=.ok [⟨6,[],(plc p l).1,(plc p l).2⟩]:=by
 rw [Xb8]
 split
 ·rfl
 ·rename_i h2;rw [h] at h2;cases h2
theorem Xdb (p:Nat × Nat) (n:Nat) (l:List UInt8) (c:UInt8) (r:List UInt8) (e:Int) (h:l.drop (skp l)=c :: r) (h1:one (c :: r)=.error e):Xb8 p n l=.error ⟨e,(plc p (l.take (skp l))).1,(plc p (l.take (skp l))).2⟩:=by
 rw [Xb8]
 split
 ·rename_i h2;rw [h] at h2;cases h2
 ·rename_i c' r' h2
  rw [h] at h2;cases h2
  rw [h1]
theorem XcN (p:Nat × Nat) (n:Nat) (l:List UInt8) (c:UInt8) (r:List UInt8) (x:Int × List UInt8 × Nat) (h:l.drop (skp l)=c :: r) (h1:one (c :: r)=.ok x) (hn:2000≤n):Xb8 p n l=.error ⟨1,(plc p (l.take (skp l))).1,(plc p (l.take (skp l))).2⟩:=by
 rw [Xb8]
 split
 ·rename_i h2;rw [h] at h2;cases h2
 ·rename_i c' r' h2
  rw [h] at h2;cases h2
  rw [h1]
  simp only [if_pos hn]
theorem XcO (p:Nat × Nat) (n:Nat) (l:List UInt8) (c:UInt8) (r:List UInt8) (k:Int) (t:List UInt8) (m:Nat) (h:l.drop (skp l)=c :: r) (h1:one (c :: r)=.ok (k,t,m)) (hm:1≤m) (hn:n < 2000) :
  Xb8 p n l=(Xb8 (plc p (l.take (skp l+m))) (n+1) ((c :: r).drop m)).map (⟨k,t,(plc p (l.take (skp l))).1,(plc p (l.take (skp l))).2⟩ :: ·):=by
 rw [Xb8]
 split
 ·rename_i h2;rw [h] at h2;cases h2
 ·rename_i c' r' h2
  rw [h] at h2;cases h2
  rw [h1]
  simp only [if_neg (show ¬2000≤n by omega),show max m 1=m from by omega]
theorem XhS (p:Nat × Nat) (a b:List UInt8):plc p (a++b)=plc (plc p a) b:=by
 induction a generalizing p with
 | nil=>rfl
 | cons c a ih=>simp only [Xpy,plc];exact ih _
theorem Xef (l:List UInt8) (k s:Nat):plc (plc (1,1) (l.take k)) ((l.drop k).take s)=plc (1,1) (l.take (k+s)):=by
 rw [←XhS,←List.take_add]
theorem Xm1 (l:List UInt8):skp l≤l.length:=by
 induction h:l.length using Nat.strongRecOn generalizing l with
 | _ n ih=>
   cases l with
   | nil=>simp [Xkh]
   | cons c r=>
     by_cases h1:c.toNat=32∨c.toNat=9∨c.toNat=10∨c.toNat=13
     ·rw [Xgt c r h1]
      have:=ih r.length (by simp at h;omega) r rfl
      simp at h;omega
     ·by_cases h2:c.toNat=35
      ·rw [Xkg c r h2]
       have h3:=XeG c r (by omega)
       have:=ih ((c :: r).drop (cmt (c :: r))).length (by simp at h ⊢;omega) _ rfl
       have h4:=XlD (c :: r)
       rw [List.length_drop] at this
       omega
      ·rw [Xki c r h1 h2];exact Nat.zero_le _
theorem XeV {l:List UInt8} {x:Int × List UInt8 × Nat} (h:one l=.ok x):1≤x.2.2∧x.2.2≤l.length∧x.2.1.length≤l.length∧x.1≠6:=by
 cases l with
 | nil=>simp [one] at h
 | cons c r=>
   have hs:=fun p=>Xh2 p (c :: r)
   simp only [one] at h
   split at h
   ·cases h
    rename_i hc
    have:=Xd6 XcZ c r (by simp [XcZ,hc])
    refine ⟨by simp only;omega,hs _,by simp only [List.length_take];omega,by simp⟩
   ·split at h
    ·rename_i hc
     have:=Xd6 XbC c r hc
     split at h
     ·cases h
     ·cases h;refine ⟨by simp only;omega,hs _,by simp only [List.length_take];omega,by simp⟩
    ·split at h
     ·cases hq:quo r with
      | none=>rw [hq] at h;cases h
      | some y=>
        rw [hq] at h;cases h
        have:=XlR r y hq
        simp only [Xpq]
        refine ⟨by omega,by omega,by omega,by simp⟩
     ·split at h
      ·cases hq:sla r with
       | none=>rw [hq] at h;cases h
       | some y=>
         rw [hq] at h;cases h
         have:=Xh1 r y hq
         simp only [Xpq]
         refine ⟨by omega,by omega,by omega,by simp⟩
      ·split at h
       ·cases h;simp
       ·cases h
structure XgB (l:List UInt8) (k:Nat) (ts:List Tok):Prop where
 le:k≤l.length
 cnt:ts.length≤2000
 eq:Xb8 (1,1) 0 l=(Xb8 (plc (1,1) (l.take k)) ts.length (l.drop k)).map (ts++·)
theorem XdL {ε α:Type} (x:Except ε α) (f:α→α) (h:∀a,f a=a):x.map f=x:=by cases x<;>simp [Except.map,h]
theorem XgB.start (l:List UInt8):XgB l 0 [] where
 le:=Nat.zero_le _
 cnt:=Nat.zero_le _
 eq:=by simp [plc,XdL]
section
variable {l:List UInt8} {k:Nat} {ts:List Tok}
def nxk (l:List UInt8) (k:Nat):Nat:=k+skp (l.drop k)
theorem XnV (h:k≤l.length):nxk l k≤l.length:=by
 have:=Xm1 (l.drop k)
 rw [List.length_drop] at this
 unfold nxk;omega
theorem XgB.fin (h:XgB l k ts) (he:l.length≤nxk l k):Xb8 (1,1) 0 l=.ok (ts++[⟨6,[],(plc (1,1) (l.take (nxk l k))).1,(plc (1,1) (l.take (nxk l k))).2⟩]):=by
 have hd:(l.drop k).drop (skp (l.drop k))=[]:=by
  rw [List.drop_drop];exact List.drop_eq_nil_of_le (by unfold nxk at he;omega)
 rw [h.eq,Xdc _ _ _ hd]
 have:plc (plc (1,1) (l.take k)) (l.drop k)=plc (1,1) (l.take (nxk l k)):=by
  have h2:=Xef l k (l.length - k)
  rw [List.take_of_length_le (show (l.drop k).length≤l.length - k by rw [List.length_drop];exact Nat.le_refl _),List.take_of_length_le (show l.length≤k+(l.length - k) by omega)] at h2
  rw [h2,List.take_of_length_le he]
 rw [this];rfl
theorem XgB.cons (h:XgB l k ts) (he:nxk l k < l.length):∃c r,l.drop (nxk l k)=c :: r∧(l.drop k).drop (skp (l.drop k))=c :: r:=by
 refine ⟨l[nxk l k],l.drop (nxk l k+1),List.drop_eq_getElem_cons he,?_⟩
 rw [List.drop_drop];exact List.drop_eq_getElem_cons he
theorem XgB.bad (h:XgB l k ts) {c:UInt8} {r:List UInt8} (hc:(l.drop k).drop (skp (l.drop k))=c :: r) {e:Int} (h1:one (c :: r)=.error e):Xb8 (1,1) 0 l=.error ⟨e,(plc (1,1) (l.take (nxk l k))).1,(plc (1,1) (l.take (nxk l k))).2⟩:=by
 rw [h.eq,Xdb _ _ _ c r e hc h1,Xef];rfl
theorem XgB.full (h:XgB l k ts) {c:UInt8} {r:List UInt8} (hc:(l.drop k).drop (skp (l.drop k))=c :: r) {x:Int × List UInt8 × Nat} (h1:one (c :: r)=.ok x) (hn:2000≤ts.length):Xb8 (1,1) 0 l=.error ⟨1,(plc (1,1) (l.take (nxk l k))).1,(plc (1,1) (l.take (nxk l k))).2⟩:=by
 rw [h.eq,XcN _ _ _ c r x hc h1 hn,Xef];rfl
theorem XgB.next (h:XgB l k ts) {c:UInt8} {r:List UInt8} (hc:(l.drop k).drop (skp (l.drop k))=c :: r) {a:Int} {t:List UInt8} {m:Nat} (h1:one (c :: r)=.ok (a,t,m)) (hn:ts.length < 2000) :
  XgB l (nxk l k+m) (ts++[⟨a,t,(plc (1,1) (l.take (nxk l k))).1,(plc (1,1) (l.take (nxk l k))).2⟩]):=by
 obtain ⟨g1,g2,g3,g4⟩:=XeV h1
 simp only at g1 g2
 have hlen:=congrArg List.length hc
 simp only [List.length_drop] at hlen
 have hle:=h.le
 refine ⟨by unfold nxk;omega,by simp;omega,?_⟩
 rw [h.eq,XcO _ _ _ c r a t m hc h1 g1 hn,Xef,Xef]
 have e1:(c :: r).drop m=l.drop (nxk l k+m):=by rw [←hc,List.drop_drop,List.drop_drop];congr 1;unfold nxk;omega
 rw [e1,show k+(skp (l.drop k)+m)=nxk l k+m from by unfold nxk;omega]
 simp only [Xpz,Xpq,Xpt,Nat.zero_add]
 cases Xb8 (plc (1,1) (l.take (nxk l k+m))) (ts.length+1) (l.drop (nxk l k+m)) with
 | error e=>rfl
 | ok y=>simp only [Except.map,nxk,List.append_assoc,List.singleton_append]
end
theorem XfG:∀(n:Nat) (p:Nat × Nat) (i:Nat) (l:List UInt8) (ts:List Tok),l.length≤n→Xb8 p i l=.ok ts→∃qs e,ts=qs++[e]∧e.kind=6∧(∀t∈qs,t.kind≠6)∧∀t∈ts,t.text.length≤l.length
 | n,p,i,l,ts,hn,h=>by
   cases hd:l.drop (skp l) with
   | nil=>
     rw [Xdc p i l hd] at h;cases h
     exact ⟨[],_,rfl,rfl,by simp,by simp⟩
   | cons c r=>
     have hlen:=congrArg List.length hd
     simp only [List.length_drop,Xpq] at hlen
     cases h1:one (c :: r) with
     | error e=>rw [Xdb p i l c r e hd h1] at h;cases h
     | ok x=>
       by_cases hi:2000≤i
       ·rw [XcN p i l c r x hd h1 hi] at h;cases h
       ·obtain ⟨a,t,m⟩:=x
        obtain ⟨g1,g2,g3,g4⟩:=XeV h1
        simp only at g1 g2 g3 g4
        rw [XcO p i l c r a t m hd h1 g1 (by omega)] at h
        cases hr:Xb8 (plc p (l.take (skp l+m))) (i+1) ((c :: r).drop m) with
        | error e=>rw [hr] at h;cases h
        | ok y=>
          rw [hr] at h
          simp only [Except.map] at h
          cases h
          cases n with
          | zero=>omega
          | succ n=>
            obtain ⟨qs,e,rfl,he,has,ht⟩:=XfG n _ _ _ y (by simp only [List.length_drop,Xpq];omega) hr
            refine ⟨_ :: qs,e,rfl,he,?_,?_⟩
            ·intro t ht
             rcases List.mem_cons.1 ht with rfl|ht
             ·exact g4
             ·exact has t ht
            ·intro t ht2
             rcases List.mem_cons.1 ht2 with rfl|ht2
             ·show t.length≤l.length
              rw [Xpq] at g3;omega
             ·have:=ht t ht2
              rw [List.length_drop,Xpq] at this;omega
open Go.RowKit
section
variable (t:List UInt8)
end
def PL (a b:Nat × Nat):Prop:=a.1 < b.1∨a.1=b.1∧a.2 < b.2
theorem PL.tr {a b c:Nat × Nat} (h:PL a b) (k:PL b c):PL a c:=by unfold PL at *;omega
def Asc (q:Nat × Nat):List Tok→Prop
 | []=>True
 | t :: ts=>PL q (t.line,t.col)∧Asc (t.line,t.col) ts
theorem Asc.get:∀{ts:List Tok} {q:Nat × Nat},Asc q ts→∀(k:Nat) (h:k+1 < ts.length),PL (ts[k].line,ts[k].col) (ts[k+1].line,ts[k+1].col)
 | [],_,_,k,h=>by simp at h
 | [t],_,_,k,h=>by simp at h
 | t :: u :: ts,q,hA,0,h=>hA.2.1
 | t :: u :: ts,q,hA,k+1,h=>Asc.get hA.2 k (by simpa using h)
def TR (d:Nat) (c:Bool) (x y:Tok):Prop:=y.kind=x.kind∧y.text=x.text∧y.line=x.line+d∧(c=true→y.col=x.col)
def TRs (d:Nat) (c:Bool):List Tok→List Tok→Prop
 | [],[]=>True
 | x :: xs,y :: ys=>TR d c x y∧TRs d c xs ys
 | _,_=>False
theorem TRs.len {d:Nat} {c:Bool}:∀{xs ys:List Tok},TRs d c xs ys→ys.length=xs.length
 | [],[],_=>rfl
 | x :: xs,y :: ys,h=>by simp [TRs.len h.2]
 | [],y :: ys,h=>h.elim
 | x :: xs,[],h=>h.elim
theorem TRs.get {d:Nat} {c:Bool}:∀{xs ys:List Tok},TRs d c xs ys→∀(k:Nat) (h1:k < xs.length) (h2:k < ys.length),TR d c xs[k] ys[k]
 | [],[],_,k,h1,_=>by simp at h1
 | x :: xs,y :: ys,h,0,_,_=>h.1
 | x :: xs,y :: ys,h,k+1,h1,h2=>TRs.get h.2 k (by simpa using h1) (by simpa using h2)
 | [],y :: ys,h,_,_,_=>h.elim
 | x :: xs,[],h,_,_,_=>h.elim
open Go.RowKit
theorem Xdr {P:Program} {o:Oper} {ρ:Operand→AV} {H:List Hp} (t:TypeId) (x y:Operand) (k:IntKind) (i:Int) (j:Nat) (l:List UInt8) (ho:o.op=.index t x y) (hx:ρ x=.x (.string (bs l))) (hy:ρ y=.x (.int k i)) (ht:P.underlying t=some .string) (hi:i=(j:Int)) (h1:j < l.length):XgD P o ρ H (.x (.int .u8 (l.getD j 0).toNat)):=by
 subst hi
 intro V a w r
 have hg:(bs l)[j]?=some l[j]:=by rw [getElem?_pos (bs l) j (by simpa using h1)];simp
 refine ⟨.int .u8 (l.getD j 0).toNat,fun w'=>?_,by rw [Den]⟩
 have hrun:(Instr.index t (.string (bs l)) (.int k (j:Int))).run P w'=.ok (.int .u8 (l.getD j 0).toNat) w':=by simp [Instr.index,asIntOf,run_underlying ht,hg,h1,List.getD]
 simp [execOp,ho,r.evx (x:=x) (by simp [ho,Op.operands]) hx,r.evx (x:=y) (by simp [ho,Op.operands]) hy,hrun]
theorem Xmq {α:Type} (s:List α) (k:Nat) (d:α) (h:k < s.length):s.getD k d=s[k]:=by simp [List.getD,h]
def Xgz:List UInt8:=[48,49,50,51,52,53,54,55,56,57,97,98,99,100,101,102]
def Xec (b:UInt8):List UInt8:=if b.toNat=34∨b.toNat=92 then [92,b] else if b.toNat=10 then [92,110] else if b.toNat=9 then [92,116] else if b.toNat < 32∨b.toNat=127 then [92,120,Xgz.getD (b.toNat / 16) 0,Xgz.getD (b.toNat % 16) 0] else [b]
def Xkt (s:List UInt8):List UInt8:=34 :: s.flatMap Xec
def Xgo (s:List UInt8):List UInt8:=Xkt s++[34]
theorem XkK (b:UInt8):(Xec b).length≤4:=by
 unfold Xec
 repeat' (first|(split)|(simp;done))
theorem XkL (s:List UInt8):(Xkt s).length≤4*s.length+1:=by
 unfold Xkt
 rw [Xpq]
 induction s with
 | nil=>simp
 | cons b s ih=>have:=XkK b;simp only [List.flatMap_cons,Xpz,Xpq] at ih ⊢;omega
theorem Xjo (s:List UInt8) (k:Nat) (h:k < s.length):Xkt (s.take (k+1))=Xkt (s.take k)++Xec s[k]:=by
 unfold Xkt;rw [Xbg s k h,List.flatMap_append,Xpy];simp
theorem Src.bytes {ρ:Operand→AV} {H:List Hp} {x:Operand} (q:Nat) (l:List UInt8) {ad:Option Addr} {n cap:Nat} {e:TypeId} {size:Nat} {cells:List AV} (hx:ρ x=.x (.slice ad n cap)) (hq:H[q]?=some (.row ad n cap e size cells)) (hn:n=l.length) (hc:cells=u8a l):Src ρ H x l.length (u8a l):=by
 subst hn hc;exact Src.row q hx hq
theorem XhL:∀i:Nat,i < 16→Xgg (Xgz.getD i 0)=some i:=by decide
theorem Xlc (b:UInt8) (r:List UInt8):∃c t,Xec b=c :: t∧c.toNat≠34∧part (c :: (t++r))=some (b,(Xec b).length):=by
 have hb:=UInt8.toNat_lt b
 unfold Xec
 split
 ·rename_i h
  refine ⟨92,[b],rfl,by decide,?_⟩
  rw [Xce,if_neg (by decide),if_neg (by decide)]
  show Option.map _ (XdF (b :: r))=_
  rw [Xf8 b r h];rfl
 ·split
  ·rename_i h
   refine ⟨92,[110],rfl,by decide,?_⟩
   rw [Xce,if_neg (by decide),if_neg (by decide)]
   show Option.map _ (XdF (110 :: r))=_
   rw [XlI 110 r (by decide),show b=10 from UInt8.toNat_inj.1 (by rw [h];rfl)];rfl
  ·split
   ·rename_i h
    refine ⟨92,[116],rfl,by decide,?_⟩
    rw [Xce,if_neg (by decide),if_neg (by decide)]
    show Option.map _ (XdF (116 :: r))=_
    rw [XlJ 116 r (by decide),show b=9 from UInt8.toNat_inj.1 (by rw [h];rfl)];rfl
   ·split
    ·refine ⟨92,[120,Xgz.getD (b.toNat / 16) 0,Xgz.getD (b.toNat % 16) 0],rfl,by decide,?_⟩
     rw [Xce,if_neg (by decide),if_neg (by decide)]
     show Option.map _ (XdF (120 :: Xgz.getD (b.toNat / 16) 0 :: Xgz.getD (b.toNat % 16) 0 :: r))=_
     rw [XhD 120 _ _ r (by decide),XhL _ (by omega),XhL _ (by omega)]
     simp only [Option.bind_some,Option.map_some,Xpq,Xpt]
     rw [show 16*(b.toNat / 16)+b.toNat % 16=b.toNat from by omega,UInt8.ofNat_toNat]
    ·refine ⟨b,[],rfl,by omega,?_⟩
     rw [Xce,if_neg (by omega),if_pos (by omega)];rfl
theorem XhX (t:List UInt8):∀s:List UInt8,quo (s.flatMap Xec++34 :: t)=some (s,(s.flatMap Xec).length+1)
 | []=>by rw [List.flatMap_nil,Xpx,XfM 34 t (by decide)];rfl
 | b :: s=>by
   obtain ⟨c,u,he,h34,hp⟩:=Xlc b (s.flatMap Xec++34 :: t)
   have hl:(Xec b).length=u.length+1:=by rw [he];rfl
   rw [List.flatMap_cons,List.append_assoc,he,Xpy,XdT c _ b _ h34 hp,hl,List.drop_succ_cons,List.drop_left,XhX t s]
   simp only [Option.map_some,Xpz,Xpq]
   congr 2<;>omega
theorem Xk8 (c:UInt8) (r:List UInt8) (h:Xc3 c=true):one (c :: r)=.ok (1,(c :: r).take (spn XcZ (c :: r)),spn XcZ (c :: r)):=by simp only [one,h,if_true]
theorem Xk6 (c:UInt8) (r:List UInt8) (h:Xc3 c=false) (h2:XbC c=true) (h3:18 < spn XbC (c :: r)∨1 < spn XbC (c :: r)∧c.toNat=48):one (c :: r)=.error 53:=by simp only [one,h,h2,if_pos h3,if_true,Bool.false_eq_true,if_false]
theorem XmP (c:UInt8) (r:List UInt8) (h:Xc3 c=false) (h2:XbC c=true) (h3:¬(18 < spn XbC (c :: r)∨1 < spn XbC (c :: r)∧c.toNat=48)):one (c :: r)=.ok (2,(c :: r).take (spn XbC (c :: r)),spn XbC (c :: r)):=by simp only [one,h,h2,if_neg h3,if_true,Bool.false_eq_true,if_false]
theorem XjS (c:UInt8) (r:List UInt8) (h:Xc3 c=false) (h2:XbC c=false) (h3:c.toNat=34):one (c :: r)=match quo r with|none=>.error 51|some x=>.ok (3,x.1,x.2+1):=by simp only [one,h,h2,if_pos h3,Bool.false_eq_true,if_false];first|done|(cases quo r<;>rfl)
theorem XjR (c:UInt8) (r:List UInt8) (h:Xc3 c=false) (h2:XbC c=false) (h3:c.toNat=47):one (c :: r)=match sla r with|none=>.error 52|some x=>.ok (4,x.1,x.2+1):=by simp only [one,h,h2,if_neg (show ¬c.toNat=34 by omega),if_pos h3,Bool.false_eq_true,if_false];first|done|(cases sla r<;>rfl)
theorem Xk7 (c:UInt8) (r:List UInt8) (h:Xc3 c=false) (h2:XbC c=false) (h3:c.toNat=123∨c.toNat=125∨c.toNat=44∨c.toNat=61):one (c :: r)=.ok (5,[c],1):=by simp only [one,h,h2,if_neg (show ¬c.toNat=34 by omega),if_neg (show ¬c.toNat=47 by omega),if_pos h3,Bool.false_eq_true,if_false]
theorem XmL (c:UInt8) (r:List UInt8) (h:Xc3 c=false) (h2:XbC c=false) (h3:c.toNat≠34) (h4:c.toNat≠47) (h5:¬(c.toNat=123∨c.toNat=125∨c.toNat=44∨c.toNat=61)):one (c :: r)=.error 50:=by simp only [one,h,h2,if_neg h3,if_neg h4,if_neg h5,Bool.false_eq_true,if_false]
def Tok.cells (t:Tok):List AV:=[.x (.int .i64 t.kind),.x (.string (bs t.text)),.x (.int .i64 (t.line:Nat)),.x (.int .i64 (t.col:Nat))]
def ta (l:List Tok):List AV:=l.flatMap Tok.cells
@[simp] theorem Xo8 (l:List Tok):(ta l).length=l.length*4:=by
 induction l with
 | nil=>rfl
 | cons j l ih=>simp only [ta,List.flatMap_cons,Xpz,Xpq] at ih ⊢;rw [ih];simp [Tok.cells];omega
theorem XlX (l m:List Tok):ta (l++m)=ta l++ta m:=by simp [ta]
theorem Xd7 (l:List Tok) (k:Nat) (h:k < l.length):(ta l).drop (k*4)=l[k].cells++ta (l.drop (k+1)):=by
 induction l generalizing k with
 | nil=>simp at h
 | cons j l ih=>
   have hc:j.cells.length=4:=rfl
   cases k with
   | zero=>simp [ta]
   | succ k=>
     simp only [ta,List.flatMap_cons,List.drop_succ_cons,List.getElem_cons_succ] at ih ⊢
     rw [show (k+1)*4=4+k*4 from by omega,←List.drop_drop,List.drop_append_of_le_length (by omega),show j.cells.drop 4=[] from rfl,Xpx]
     exact ih k (by simpa using h)
def Xh4:Except Flt (List Tok)→List Tok|.ok l=>l|.error _=>[]
def Xml:Except Flt (List Tok)→Flt|.ok _=>⟨0,0,0⟩|.error f=>f
def Flt.av (f:Flt):AV:=.x (.agg #[.int .i64 f.code,.int .i64 (f.line:Nat),.int .i64 (f.col:Nat)])
theorem XmN {l:List UInt8} {e:Int} (h:one l=.error e):50≤e∧e≤53:=by
 cases l with
 | nil=>simp [one] at h;omega
 | cons c r=>
   simp only [one] at h
   repeat' (first|(split at h)|(cases h;done)|(cases h;omega))
   all_goals (first|(cases h;omega)|(cases hq:quo r with|none=>(rw [hq] at h;cases h;omega)|some y=>(rw [hq] at h;cases h))|(cases hq:sla r with|none=>(rw [hq] at h;cases h;omega)|some y=>(rw [hq] at h;cases h)))
def pc (ts:List Tok) (k:Nat) (e l c:Int) (sv:AV):List AV:=[.sq ts.length (ta ts),.x (.int .i64 k),.x (.int .i64 e),.x (.int .i64 l),.x (.int .i64 c),sv]
def Tok.av (t:Tok):AV:=.x (.agg #[.int .i64 t.kind,.string (bs t.text),.int .i64 (t.line:Nat),.int .i64 (t.col:Nat)])
def VT (ts:List Tok):Prop:=∀k,(h:k < ts.length)→ts[k].kind≠6→k+1 < ts.length
structure St (ts:List Tok) (k:Nat) (e:Int) (k':Nat) (e':Int):Prop where
 le:k≤k'
 lt:k' < ts.length
 bad:e'=0→e=0
def XfQ (n:Nat):List UInt8:=if h:n < 10 then [UInt8.ofNat (48+n)] else XfQ (n / 10)++XfQ (n % 10)
termination_by n
decreasing_by
 ·omega
 ·omega
end Go.Proofs.YtcmfamgnmehojaaGreatDoor

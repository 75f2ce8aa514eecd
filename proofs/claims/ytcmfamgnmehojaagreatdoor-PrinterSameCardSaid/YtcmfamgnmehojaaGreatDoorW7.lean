import Derived.Test.YtcmfamgnmehojaaGreatDoorW6
/- A walk over symbolic memory: a region that draws its order, in which the operations that turn memory wait one for the other: one order stands for all. No program in sight. -/
set_option linter.unusedSimpArgs false
set_option linter.unusedVariables false
set_option maxRecDepth 100000
set_option maxHeartbeats 8000000
namespace Go.Proofs.YtcmfamgnmehojaaGreatDoor
open Go.RowKit
section
variable {P:Program} {Δ:List Deferred} {V O:Nat→Prop} {w0 w w':World} {B H H' D:List Hp} {T T':List AV} {a a':Act} {o:Oper} {Q:Xb9}
theorem Xoj {Kc:Act→World→Prop} {Qc:Exit→Act→World→Prop} (h:o.wp P a w (fun a' w'=>((∃v,a'=a.put o.dst v)∨a'.defers≠a.defers)→Kc a' w') Qc):o.wp P a w Kc Qc:=by
 unfold Oper.wp at *
 generalize (execOp a.eval o).run P w=r at *
 cases r with
 | ok n w1=>
   cases n<;>simp only [Oper.upon] at h ⊢
   case value u=>exact h (.inl ⟨u,rfl⟩)
   case skip=>exact h (.inl ⟨_,rfl⟩)
   case defer d=>exact h (.inr (by cases hd:o.dst<;>simp [Act.put]))
   case enter f args=>
    refine Calls.mono h fun e w2 he=>?_
    cases e with
    | returned u=>exact he (.inl ⟨u,rfl⟩)
    | panicked c=>exact he
    | outgrown=>exact he
   case row row args=>exact Rows.mono h fun u w2 he=>he (.inl ⟨u,rfl⟩)
 | halt x w1=>cases x<;>simp only [Oper.upon] at h ⊢;exact h
def msk (ks:List Nat):Nat→List AV→List AV
 | _,[]=>[]
 | n,v :: T=>(if ks.contains n then v else .top) :: msk ks (n+1) T
theorem XjK (ks:List Nat):∀(T:List AV) (n t:Nat),(msk ks n T)[t]?=(T[t]?).map fun v=>if ks.contains (n+t) then v else .top
 | [],n,t=>by simp [msk]
 | v :: T,n,0=>by simp [msk]
 | v :: T,n,t+1=>by
   simp only [msk,List.getElem?_cons_succ]
   rw [XjK ks T (n+1) t,show n+1+t=n+(t+1) by omega]
theorem XjL (ks:List Nat) (n:Nat) (T:List AV):(msk ks n T).length=T.length:=by
 induction T generalizing n with
 | nil=>rfl
 | cons v T ih=>simp [msk,ih]
theorem XiG {ks:List Nat} {M:AV→List Hp→Prop} {TS:List AV} (h:Stp P o (msk ks 0 T) H (fun T' H'=>∃e,T'=XbH (msk ks 0 T) o.dst e∧M e H')) (hl:TS.length=T.length) (hk:∀t,ks.contains t=true→TS[t]?=T[t]?) (hdst:∀d,o.dst=some d→d < T.length)
  (r:Rel Δ V O w0 (B++H) TS a w) (Kc:Act→World→Prop) (Qc:Exit→Act→World→Prop) (hK:∀e H' v w',M e H'→Rel Δ V O w0 (B++H') (XbH TS o.dst e) (a.put o.dst v) w'→Kc (a.put o.dst v) w'):o.wp P a w Kc Qc:=by
 have ra:=r.aside
 have rm:Rel Δ (fun k=>V k∨XbO B k) (XbO H) w H (msk ks 0 T) a w:={ ra with
  tmps:=DenL.of (by rw [XjL,←hl];exact ra.tmps.len) fun t av u h1 h2=>by
   rw [XjK,Nat.zero_add] at h1
   cases hT:T[t]? with
   | none=>rw [hT] at h1;cases h1
   | some v=>
     rw [hT] at h1
     simp only [Option.map_some,Option.some.injEq] at h1
     subst h1
     split
     ·rename_i hc;exact ra.tmps.get' t v u (by rw [hk t hc];exact hT) h2
     ·rw [Den];trivial }
 refine Xoj (h _ _ _ _ a w _ Qc rm ?_)
 rintro T' H' a' w' ⟨e,rfl,hm⟩ r' hput
 rcases hput with ⟨v,rfl⟩|hd
 case inr=>exact absurd (r'.defers.trans r.defers.symm) hd
 obtain ⟨rj,hs⟩:=r.rejoin r'
 have hF:∀k,FB V (B++H') k→FB V (B++H) k∨w.heap.size≤k:=fun k hk=>by
  rcases (Xdq B H' k).2 hk with hk|⟨x,hx,e⟩
  ·exact .inl ((Xdq B H k).1 (.inl hk))
  ·rcases r'.own x hx k e with ⟨y,hy,e'⟩|h
   ·exact .inl ((Xdq B H k).1 (.inr ⟨y,hy,e'⟩))
   ·exact .inr h
 have hw:∀k,k < w.heap.size→¬FB V (B++H) k→w'.heap[k]?=w.heap[k]?:=fun k hk hn=>r'.fr.block k hk fun ⟨y,hy,e⟩=>hn (.inr ⟨y,by simp [hy],e⟩)
 have r2:Rel Δ V O w0 (B++H') TS a w':={ rj with tmps:=DenL.conv hF hw _ _ r.tmps,defers:=r.defers }
 refine hK e H' v w' hm ?_
 cases hd:o.dst with
 | none=>simp only [Act.put,XbH];exact r2
 | some d=>
   rw [hd] at rj
   have hlt:=hdst d hd
   have h1:(XbH (msk ks 0 T) (some d) e)[d]?=some e:=Xhi (by rw [XjL];exact hlt)
   have h2:(a.put (some d) v).tmps.toList[d]?=some v:=by
    have hal:d < a.tmps.size:=by have e:=r.tmps.len;rw [Array.length_toList] at e;rw [e,hl];exact hlt
    simp [Act.put,hal]
   exact r2.put (some d) (rj.tmps.get' d e v h1 h2)
end
/-! ### One order for all -/
def Xdt (l:List Oper):Nat→Nat→Nat→Bool
 | 0,_,_=>false
 | n+1,x,y=>match l[x]? with
   | some o=>o.after.toList.any fun e=>e.on == y || Xdt l n e.on y
   | none=>false
theorem Xhl {l:List Oper} {S:Nat→Bool} (hcl:∀(j:Nat) (q:Oper),l[j]?=some q→S j=true→∀e∈q.after,S e.on=true):∀(n x y:Nat) (o:Oper),l[x]?=some o→(∀e∈o.after,S e.on=true)→Xdt l n x y=true→S y=true
 | 0,_,_,_,_,_,h=>by simp [Xdt] at h
 | n+1,x,y,o,hx,ha,h=>by
   simp only [Xdt,hx,List.any_eq_true,Bool.or_eq_true,beq_iff_eq] at h
   obtain ⟨e,he,h⟩:=h
   have he':e∈o.after:=by simpa using he
   rcases h with rfl|h
   ·exact ha e he'
   ·have hS:=ha e he'
    cases n with
    | zero=>simp [Xdt] at h
    | succ n=>
      cases hq:l[e.on]? with
      | none=>simp [Xdt,hq] at h
      | some q=>exact Xhl hcl (n+1) e.on y q hq (hcl e.on q hq hS) h
def XmG (l:List Oper) (pi L D:List Nat) (n0:Option Nat):Bool:=
 Xlj l && (List.range l.length).all (fun i=>pi.contains i || D.contains i || n0 == some i) &&
 pi.all (fun i=>decide (i < l.length) && !D.contains i && n0 != some i) && decide pi.Nodup &&
 D.all (fun d=>decide (d < l.length) && n0 != some d && (List.range l.length).all fun i=>D.contains i || Xdt l l.length d i) &&
 (match n0 with|some i=>(match l[i]? with|some o=>o.after.isEmpty && o.guard.isNone|none=>false)|none=>true) &&
 (List.range pi.length).all (fun k=>match pi[k]? with
  | some i=>(match l[i]? with
    | some o=>o.guard.isNone && (o.after.toList.all fun e=>(pi.take k).contains e.on) && (pi.take k).all fun q=>!L.contains q || Xdt l l.length i q
    | none=>false)
  | none=>false)
structure Xkw (l:List Oper) (pi L D:List Nat) (n0:Option Nat):Prop where
 reg:Xh9 l
 cover:∀i,i < l.length→i∈pi∨i∈D∨n0=some i
 inpi:∀i∈pi,i < l.length∧i ∉ D∧n0≠some i
 nodup:pi.Nodup
 dlt:∀d∈D,d < l.length∧n0≠some d
 dall:∀d∈D,∀i,i < l.length→i∈D∨Xdt l l.length d i=true
 alloc:∀i,n0=some i→∃o,l[i]?=some o∧(∀e,e ∉ o.after)∧o.guard=none
 ops:∀k i,pi[k]?=some i→∃o,l[i]?=some o∧o.guard=none∧(∀e∈o.after,e.on∈pi.take k)∧∀q∈pi.take k,q∈L→Xdt l l.length i q=true
theorem XkZ {l:List Oper} {pi L D:List Nat} {n0:Option Nat} (h:XmG l pi L D n0=true):Xkw l pi L D n0:=by
 unfold XmG at h
 simp only [Bool.and_eq_true] at h
 obtain ⟨⟨⟨⟨⟨⟨h1,h2⟩,h3⟩,h4⟩,h5⟩,h6⟩,h7⟩:=h
 refine ⟨Xh0 h1,fun i hi=>?_,fun i hi=>?_,of_decide_eq_true h4,fun d hd=>?_,fun d hd i hi=>?_,fun i hi=>?_,fun k i hk=>?_⟩
 ·have:=List.all_eq_true.1 h2 i (List.mem_range.2 hi)
  simpa [or_assoc] using this
 ·have:=List.all_eq_true.1 h3 i hi
  simp at this
  exact ⟨this.1.1,this.1.2,this.2⟩
 ·have:=List.all_eq_true.1 h5 d hd
  simp only [Bool.and_eq_true,decide_eq_true_eq,bne_iff_ne] at this
  exact this.1
 ·have:=List.all_eq_true.1 h5 d hd
  simp only [Bool.and_eq_true] at this
  have:=List.all_eq_true.1 this.2 i (List.mem_range.2 hi)
  simpa using this
 ·subst hi
  simp only at h6
  cases ho:l[i]? with
  | none=>simp [ho] at h6
  | some o=>
    simp only [ho,Bool.and_eq_true,Option.isNone_iff_eq_none] at h6
    refine ⟨o,rfl,fun e he=>?_,h6.2⟩
    have:=h6.1
    rw [Array.isEmpty_iff] at this
    rw [this] at he;simp at he
 ·have hkl:k < pi.length:=(List.getElem?_eq_some_iff.1 hk).1
  have:=List.all_eq_true.1 h7 k (List.mem_range.2 hkl)
  rw [hk] at this
  simp only at this
  cases ho:l[i]? with
  | none=>simp [ho] at this
  | some o=>
    simp only [ho,Bool.and_eq_true,Option.isNone_iff_eq_none,List.all_eq_true] at this
    obtain ⟨⟨g1,g2⟩,g3⟩:=this
    refine ⟨o,rfl,g1,fun e he=>?_,fun q hq hL=>?_⟩
    ·have:=g2 e (by simpa using he)
     simpa using this
    ·have:=g3 q hq
     simpa [hL] using this
def dm (P:Program) (B:List Hp) (l:List Oper) (L:List Nat):List Nat→List AV→List Hp→(List AV→List Hp→Prop)→Prop
 | [],T,H,fin=>fin T H
 | i :: pi,T,H,fin=>∃o,Xdp l i=some o∧((L.contains i=false∧∃e,(∀H1,Evl P o (ev T) (B++H1) e)∧dm P B l L pi (XbH T o.dst e) H fin) ∨
   (L.contains i=true∧Stp P o (msk (looks l o) 0 T) H (fun T' H'=>∃e,T'=XbH (msk (looks l o) 0 T) o.dst e∧dm P B l L pi (XbH T o.dst e) H' fin)))
section
variable {P:Program} {B:List Hp} {l:List Oper} {L:List Nat} {fin:List AV→List Hp→Prop} {T:List AV} {H:List Hp}
theorem Xcx {i:Nat} {pi:List Nat} {o:Oper} {T':List AV} (hi:Xdp l i=some o) (hL:L.contains i=false) (e:AV) (h:∀H1,Evl P o (ev T) (B++H1) e) (hT:XbH T o.dst e=T') (hK:dm P B l L pi T' H fin):dm P B l L (i :: pi) T H fin:=⟨o,hi,.inl ⟨hL,e,h,hT▸hK⟩⟩
theorem Xc9 {i:Nat} {pi:List Nat} {o:Oper} (hi:Xdp l i=some o) (hL:L.contains i=true) (h:Stp P o (msk (looks l o) 0 T) H (fun T' H'=>∃e,T'=XbH (msk (looks l o) 0 T) o.dst e∧dm P B l L pi (XbH T o.dst e) H' fin)):dm P B l L (i :: pi) T H fin:=⟨o,hi,.inr ⟨hL,h⟩⟩
theorem Xc8 {pi:List Nat} {T':List AV} {H':List Hp} (hT:T=T') (hH:H=H') (h:dm P B l L pi T' H' fin):dm P B l L pi T H fin:=hT▸hH▸h
theorem XcP (l:List Oper) (es es':Nat→AV) (T:List AV) (S:Nat→Bool):∀k,(∀j,j < k→S j=true→es j=es' j)→XcH l es T S k=XcH l es' T S k
 | 0,_=>rfl
 | k+1,h=>by
   simp only [XcH]
   rw [XcP l es es' T S k fun j hj=>h j (by omega)]
   split
   ·rename_i hs;rw [h k (by omega) hs]
   ·rfl
theorem XjI {l:List Oper} (hr:Xh9 l) (es:Nat→AV) (T0:List AV) (S S':Nat→Bool) (i:Nat) (o:Oper) (hi:l[i]?=some o) (h1:S i=false) (h2:S' i=false) (a1:∀e∈o.after,S e.on=true) (a2:∀e∈o.after,S' e.on=true)
  (c1:∀(j:Nat) (q:Oper),l[j]?=some q→S j=true→∀e∈q.after,e.on≠i) (c2:∀(j:Nat) (q:Oper),l[j]?=some q→S' j=true→∀e∈q.after,e.on≠i) (t:Nat) (ht:t∈looks l o) :
  (XcH l es T0 S l.length)[t]?=(XcH l es T0 S' l.length)[t]?:=by
 by_cases hlt:t < T0.length
 ·by_cases hw:∃(j:Nat) (q:Oper),l[j]?=some q∧q.dst=some t
  ·obtain ⟨j,q,hj,hq⟩:=hw
   have hjl:=(List.getElem?_eq_some_iff.1 hj).1
   have huniq:∀k,k≠j→(l[k]?).bind (·.dst)≠some t:=fun k hk hb=>by
    obtain ⟨q',hk',hq'⟩:=XcW hb
    exact hk (hr.one k j q' q t hk' hj hq' hq)
   have hdj:(l[j]?).bind (·.dst)=some t:=by rw [hj];exact hq
   have off:∀X:Nat→Bool,X j=false→(XcH l es T0 X l.length)[t]?=T0[t]?:=fun X hX=>XbG l es T0 X t _ fun k hk hs hb=>by
    by_cases hkj:k=j
    ·subst hkj;rw [hX] at hs;cases hs
    ·exact huniq k hkj hb
   rcases hr.look i j o q t hi hj ht hq with rfl|⟨e,he,rfl⟩|⟨e,he,rfl⟩
   ·rw [off S h1,off S' h2]
   ·rw [XcA l es T0 S t hlt _ (a1 e he) hdj huniq _ hjl,XcA l es T0 S' t hlt _ (a2 e he) hdj huniq _ hjl]
   ·have n1:S j=false:=by
     cases hs:S j with
     | false=>rfl
     | true=>exact absurd rfl (c1 j q hj hs e he)
    have n2:S' j=false:=by
     cases hs:S' j with
     | false=>rfl
     | true=>exact absurd rfl (c2 j q hj hs e he)
    rw [off S n1,off S' n2]
  ·have hn:∀k:Nat,(l[k]?).bind (·.dst)≠some t:=fun k hb=>by
    obtain ⟨q',hk',hq'⟩:=XcW hb
    exact hw ⟨k,q',hk',hq'⟩
   rw [XbG _ _ _ _ _ _ fun k _ _=>hn k,XbG _ _ _ _ _ _ fun k _ _=>hn k]
 ·rw [List.getElem?_eq_none (by rw [Xcd];omega),List.getElem?_eq_none (by rw [Xcd];omega)]
theorem XkX {l:List Oper} {o:Oper} {t:Nat} (h:Operand.tmp t∈o.op.operands):t∈looks l o:=by
 unfold looks
 exact List.mem_append_left _ (List.mem_filterMap.2 ⟨.tmp t,by simpa using h,rfl⟩)
end
open Go.RowKit
section
variable {P:Program} {B:List Hp} {l:List Oper} {L D pi:List Nat} {n0:Option Nat} {z:List AV} {T0:List AV} {Q:Xb9} {fin:List AV→List Hp→Prop}
theorem Xgl (l:List Oper) (es:Nat→AV) (T:List AV) (S S':Nat→Bool):∀k,(∀j,j < k→S j=S' j)→XcH l es T S k=XcH l es T S' k
 | 0,_=>rfl
 | k+1,h=>by
   simp only [XcH]
   rw [Xgl l es T S S' k fun j hj=>h j (by omega),h k (by omega)]
structure DI (P:Program) (B:List Hp) (l:List Oper) (L pi:List Nat) (T0:List AV) (pd rest:List Nat) (es:Nat→AV) (T:List AV):Prop where
 split:pi=pd++rest
 eq:T=XcH l es T0 (fun j=>pd.contains j) l.length
 quiet:∀(k i:Nat) (o:Oper),pd[k]?=some i→i ∉ L→l[i]?=some o→∀H1,Evl P o (ev (XcH l es T0 (fun j=>(pd.take k).contains j) l.length)) (B++H1) (es i)
def upd (es:Nat→AV) (i:Nat) (e:AV):Nat→AV:=fun j=>if j=i then e else es j
theorem DI.es {pd rest:List Nat} {es es':Nat→AV} {T:List AV} (h:DI P B l L pi T0 pd rest es T) (he:∀j∈pd,es' j=es j):DI P B l L pi T0 pd rest es' T where
 split:=h.split
 eq:=by rw [h.eq];exact XcP l _ _ _ _ _ fun j _ hj=>(he j (by simpa using hj)).symm
 quiet:=fun k i o hk hL ho H1=>by
  have:=h.quiet k i o hk hL ho H1
  rw [he i (List.mem_of_getElem? hk)]
  rwa [XcP l es' es T0 _ _ fun j _ hj=>he j (List.mem_of_mem_take (by simpa using hj))]
theorem DI.push (ok:Xkw l pi L D n0) {pd rest:List Nat} {es:Nat→AV} {T:List AV} {i:Nat} {o:Oper} (h:DI P B l L pi T0 pd (i :: rest) es T) (ho:l[i]?=some o) (e:AV) (hq:i ∉ L→∀H1,Evl P o (ev T) (B++H1) e) :
  DI P B l L pi T0 (pd++[i]) rest (upd es i e) (XbH T o.dst e):=by
 have hn:=ok.nodup
 rw [h.split] at hn
 have hip:i ∉ pd:=fun hm=>(List.nodup_append.1 hn).2.2 i hm i (by simp) rfl
 have hes:∀j∈pd,upd es i e j=es j:=fun j hj=>by unfold upd;rw [if_neg (by rintro rfl;exact hip hj)]
 have h':=h.es hes
 refine ⟨by rw [h.split];simp,?_,fun k j q hk hL hj H1=>?_⟩
 ·rw [h'.eq]
  have hp:=XfH ok.reg (upd es i e) T0 (fun j=>pd.contains j) (fun j=>(pd++[i]).contains j) i o ho (by simpa using hip) (by simp) (fun j hj=>by simp [hj])
  rw [show upd es i e i=e by simp [upd]] at hp
  exact hp
 ·by_cases hlt:k < pd.length
  ·rw [List.getElem?_append_left hlt] at hk
   have:=h'.quiet k j q hk hL hj H1
   rwa [List.take_append_of_le_length (by omega)]
  ·have hlen:=(List.getElem?_eq_some_iff.1 hk).1
   simp only [Xpz,Xpq,Xpt] at hlen
   have hkk:k=pd.length:=by omega
   subst hkk
   rw [List.getElem?_append_right (Nat.le_refl _)] at hk
   simp at hk
   subst hk
   rw [ho] at hj;cases hj
   have:=hq hL H1
   rw [h'.eq] at this
   rw [List.take_left' rfl]
   simpa [upd] using this
theorem XiU (ok:Xkw l pi L D n0):∀(rest pd:List Nat) (es:Nat→AV) (T:List AV) (H:List Hp),DI P B l L pi T0 pd rest es T→dm P B l L rest T H fin →
  ∃q rest' es' T',rest=q++rest'∧DI P B l L pi T0 (pd++q) rest' es' T'∧dm P B l L rest' T' H fin∧(rest'=[]∨∃i r,rest'=i :: r∧i∈L)∧(∀j,j ∉ q→es' j=es j)∧∀j∈q,j ∉ L
 | [],pd,es,T,H,h,d=>⟨[],[],es,T,rfl,by simpa using h,d,.inl rfl,fun _ _=>rfl,by simp⟩
 | i :: rest,pd,es,T,H,h,d=>by
   have d0:=d
   obtain ⟨o,ho,hh⟩:=d
   rw [Xb3] at ho
   rcases hh with ⟨hL,e,hE,hd⟩|⟨hL,_⟩
   ·have hL':i ∉ L:=by simpa using hL
    obtain ⟨q,rest',es',T',h1,h2,h3,h4,h5,h6⟩:=XiU ok rest (pd++[i]) _ _ H (h.push ok ho e fun _=>hE) hd
    refine ⟨i :: q,rest',es',T',by rw [h1];rfl,by simpa using h2,h3,h4,fun j hj=>?_,fun j hj=>?_⟩
    ·simp only [List.mem_cons,not_or] at hj
     rw [h5 j hj.2];unfold upd;rw [if_neg hj.1]
    ·rcases List.mem_cons.1 hj with rfl|hj
     ·exact hL'
     ·exact h6 j hj
   ·exact ⟨[],i :: rest,es,T,rfl,by simpa using h,d0,.inr ⟨i,rest,rfl,by simpa using hL⟩,fun _ _=>rfl,by simp⟩
theorem Xj9 {listed:Array Bool} (hr:Xh9 l) (hsz:listed.size=l.length) (hnil:Region.ready .any l.toArray listed=[]):∀j,j < l.length→listed.getD j false=true:=by
 intro j
 induction j using Nat.strongRecOn with
 | _ j ihj=>
   intro hj
   cases hs:listed.getD j false with
   | true=>rfl
   | false=>
     exfalso
     have hget:listed.getD j true=listed.getD j false:=by
      have hi':j < listed.size:=by omega
      simp [Array.getD,hi']
     have hlj:l[j]?=some l[j]:=by simp [hj]
     have:j∈Region.ready .any l.toArray listed:=by
      rw [mem_ready]
      exact ⟨by rw [hget,hs],l[j],by simp [hj],fun e he hb=>ihj e.on (hr.after j _ hlj e he).2 (by have:=(hr.after j _ hlj e he).2;omega)⟩
     rw [hnil] at this;cases this
def Xc5 (n:Nat) (D:List Nat):Array Bool:=((List.range n).map fun i=>!D.contains i).toArray
def XlK (P:Program) (B:List Hp) (l:List Oper) (D:List Nat) (n0:Option Nat) (z:List AV) (Q:Xb9) (k:Nat) (T:List AV) (H:List Hp):Prop:=
 match n0 with
 | none=>Xf1 P l.toArray Q k (Xc5 l.length D) T (B++H)
 | some i=>∀b,Xf1 P l.toArray Q k (Xc5 l.length D) (XbH T ((Xdp l i).bind (·.dst)) (.x (.pointer (some ⟨b,0,none⟩)))) (B++(.box b z :: H))
theorem Xma (S S':Nat→Bool):∀k,(∀j,j < k→S j=S' j)→cnt S k=cnt S' k
 | 0,_=>rfl
 | k+1,h=>by simp only [cnt];rw [Xma S S' k fun j hj=>h j (by omega),h k (by omega)]
theorem Xjk (S S':Nat→Bool) (i:Nat) (h1:S i=false) (h2:S' i=true) (h:∀j,j≠i→S' j=S j):∀k,i < k→cnt S k=cnt S' k+1
 | 0,hk=>by omega
 | k+1,hk=>by
   simp only [cnt]
   by_cases hik:i=k
   ·subst hik
    rw [Xma S S' i fun j hj=>(h j (by omega)).symm];simp [h1,h2]
   ·rw [Xjk S S' i h1 h2 h k (by omega),h k (by omega)];omega
end
open Go.RowKit
section
variable {P:Program} {B:List Hp} {l:List Oper} {L D pi:List Nat} {n0:Option Nat} {z:List AV} {T0:List AV} {Q:Xb9}
theorem Xln {listed:Array Bool} {i:Nat} (hi:i < listed.size) (j:Nat):(listed.setIfInBounds i true).getD j false=if j=i then true else listed.getD j false:=by
 by_cases e:j=i
 ·subst e;simp [hi]
 ·rw [if_neg e,getD_set_ne false (Ne.symm e)]
theorem XgG {n:Nat} {D:List Nat} {j:Nat} (h:j < n):(Xc5 n D).getD j false=!D.contains j:=by
 simp [Xc5,h]
theorem Evl.of_ev {o:Oper} {T1 T2:List AV} {H:List Hp} {e:AV} (h:Evl P o (ev T1) H e) (he:∀t∈looks l o,T2[t]?=T1[t]?):Evl P o (ev T2) H e:=fun V a w Kc Qc r hK=>
 h V a w Kc Qc ⟨r.hok,fun x hx=>by
  have:ev T1 x=ev T2 x:=Xnz fun t ht=>(he t (XkX (ht▸hx))).symm
  rw [this];exact r.ops x hx,r.vlt,r.gw⟩ hK
theorem XmH (ok:Xkw l pi L D n0) (hdst:∀(i:Nat) (o:Oper) (d:Nat),l[i]?=some o→o.dst=some d→d < T0.length)
  (hal:∀(i:Nat) (o:Oper),n0=some i→l[i]?=some o→∀(T:List AV) (H:List Hp),Stp P o T H (fun T' H'=>∃b,T'=XbH T o.dst (.x (.pointer (some ⟨b,0,none⟩)))∧H'=.box b z :: H))
  {k:Nat} (hk:cnt (fun j=>(Xc5 l.length D).getD j false) l.length=k) (Δ:List Deferred) (V O:Nat→Prop) (w0:World) :
  ∀(fuel:Nat) (listed:Array Bool) (a:Act) (w:World) (pd rest:List Nat) (es:Nat→AV) (T:List AV) (H eb:List Hp),
   listed.size=l.length→(∀(j:Nat) (q:Oper),l[j]?=some q→listed.getD j false=true→∀e∈q.after,listed.getD e.on false=true)→cnt (fun j=>listed.getD j false) l.length=fuel →
   DI P B l L pi T0 pd rest es T→dm P B l L rest T H (XlK P B l D n0 z Q k)→(rest=[]∨∃i r,rest=i :: r∧i∈L) →
   (∀j∈rest,listed.getD j false=false)→(∀j∈D,listed.getD j false=false)→(∀j∈pd,j∈L→listed.getD j false=true) →
   (∀i,n0=some i→(listed.getD i false=true→∃b,eb=[.box b z]∧es i=.x (.pointer (some ⟨b,0,none⟩)))∧(listed.getD i false=false→eb=[]))→(n0=none→eb=[]) →
   Rel Δ V O w0 (B++(eb++H)) (XcH l es T0 (fun j=>listed.getD j false) l.length) a w→wpAny P .any l.toArray (Xee Δ V O w0 Q) fuel listed a w:=by
 -- all but D have come up
 have atEnd:∀(fuel:Nat) (listed:Array Bool) (a:Act) (w:World) (pd rest:List Nat) (es:Nat→AV) (T:List AV) (H eb:List Hp),
   listed.size=l.length→cnt (fun j=>listed.getD j false) l.length=fuel →
   DI P B l L pi T0 pd rest es T→dm P B l L rest T H (XlK P B l D n0 z Q k) →
   (∀j∈rest,listed.getD j false=false)→(∀j∈D,listed.getD j false=false) →
   (∀i,n0=some i→(listed.getD i false=true→∃b,eb=[.box b z]∧es i=.x (.pointer (some ⟨b,0,none⟩)))∧(listed.getD i false=false→eb=[]))→(n0=none→eb=[]) →
   Rel Δ V O w0 (B++(eb++H)) (XcH l es T0 (fun j=>listed.getD j false) l.length) a w→(∀j,j < l.length→j ∉ D→listed.getD j false=true)→wpAny P .any l.toArray (Xee Δ V O w0 Q) fuel listed a w:=by
  intro fuel listed a w pd rest es T H eb hsz hcnt hDI hd hru hDu hn1 hn2 hrel hall
  have hrest:rest=[]:=by
   cases rest with
   | nil=>rfl
   | cons i r=>
     have hip:=ok.inpi i (by rw [hDI.split];simp)
     have:=hall i hip.1 hip.2.1
     rw [hru i (by simp)] at this;cases this
  subst hrest
  have hpi:pi=pd:=by rw [hDI.split,List.append_nil]
  have hget:∀j,j < l.length→listed.getD j false=!D.contains j:=fun j hj=>by
   by_cases hjD:j∈D
   ·rw [hDu j hjD];simp [hjD]
   ·rw [hall j hj hjD];simp [hjD]
  have hlist:listed=Xc5 l.length D:=by
   apply Array.ext
   ·simp [Xc5,hsz]
   ·intro j h1 h2
    have e1:=hget j (by omega)
    have e2:=XgG (D:=D) (show j < l.length by omega)
    simp [Array.getD,h1] at e1
    simp [Array.getD,h2] at e2
    rw [e1,e2]
  have hfk:fuel=k:=by rw [←hcnt,hlist,hk]
  subst hfk
  simp only [dm] at hd
  cases hn:n0 with
  | none=>
    have:=hn2 hn
    subst this
    rw [hn] at hd
    simp only [XlK] at hd
    rw [hlist]
    refine hd Δ V O w0 a w ?_
    rw [Xpx] at hrel
    have e:XcH l es T0 (fun j=>listed.getD j false) l.length=T:=by
     rw [hDI.eq]
     refine Xgl _ _ _ _ _ _ fun j hj=>?_
     rw [hget j hj]
     rcases ok.cover j hj with h|h|h
     ·have:=(ok.inpi j h).2.1
      rw [hpi] at h;simp [h,this]
     ·have:j ∉ pd:=fun hp=>(ok.inpi j (hpi▸hp)).2.1 h
      simp [h,this]
     ·rw [hn] at h;cases h
    rw [e] at hrel;exact hrel
  | some i=>
    obtain ⟨o,ho,-,-⟩:=ok.alloc i hn
    have hil:=(List.getElem?_eq_some_iff.1 ho).1
    have hiD:i ∉ D:=fun h=>(ok.dlt i h).2 hn
    obtain ⟨b,rfl,hb⟩:=(hn1 i hn).1 (hall i hil hiD)
    rw [hn] at hd
    simp only [XlK] at hd
    rw [hlist]
    refine hd b Δ V O w0 a w ?_
    have hip:i ∉ pd:=fun hp=>(ok.inpi i (hpi▸hp)).2.2 hn
    have e:XcH l es T0 (fun j=>listed.getD j false) l.length=XbH T ((Xdp l i).bind (·.dst)) (.x (.pointer (some ⟨b,0,none⟩))):=by
     rw [Xb3,ho,hDI.eq,←hb]
     refine ((XfH ok.reg es T0 (fun j=>pd.contains j) (fun j=>pd.contains j || j == i) i o ho (by simpa using hip) (by simp) (fun j hj=>by simp [hj])).trans ?_).symm
     refine Xgl _ _ _ _ _ _ fun j hj=>?_
     rw [hget j hj]
     rcases ok.cover j hj with h|h|h
     ·have:=(ok.inpi j h).2.1
      rw [hpi] at h;simp [h,this]
     ·have h1:j ∉ pd:=fun hp=>(ok.inpi j (hpi▸hp)).2.1 h
      have h2:j≠i:=fun e=>hiD (e▸h)
      simp [h,h1,h2]
     ·rw [hn] at h;cases h;simp [hiD]
    rw [e] at hrel;exact hrel
 intro fuel
 induction fuel with
 | zero=>
   intro listed a w pd rest es T H eb hsz hcl hcnt hDI hd hhead hru hDu hLo hn1 hn2 hrel
   exact atEnd 0 listed a w pd rest es T H eb hsz hcnt hDI hd hru hDu hn1 hn2 hrel fun j hj _=>Xfv _ _ hcnt j hj
 | succ fuel ih=>
   intro listed a w pd rest es T H eb hsz hcl hcnt hDI hd hhead hru hDu hLo hn1 hn2 hrel
   by_cases hall:∀j,j < l.length→j ∉ D→listed.getD j false=true
   ·exact atEnd (fuel+1) listed a w pd rest es T H eb hsz hcnt hDI hd hru hDu hn1 hn2 hrel hall
   refine ⟨fun hnil=>absurd (fun j hj _=>Xj9 ok.reg hsz hnil j hj) hall,fun i hi=>?_⟩
   obtain ⟨hi0,o,ho',haf⟩:=mem_ready.1 hi
   have ho:l[i]?=some o:=by simpa using ho'
   have hil:=(List.getElem?_eq_some_iff.1 ho).1
   have hiS:listed.getD i false=false:=by
    have hi':i < listed.size:=by omega
    simp [Array.getD,hi'] at hi0 ⊢;exact hi0
   have haf':∀e∈o.after,listed.getD e.on false=true:=fun e he=>haf e he (ok.reg.after i o ho e he).1
   have hiD:i ∉ D:=fun h=>hall fun j hj hjD=>Xhl hcl l.length i j o ho haf' ((ok.dall i h j hj).resolve_left hjD)
   -- what is so behind this operation,whatever it is
   have hset:=Xln (listed:=listed) (i:=i) (by omega)
   have hcl':∀(j:Nat) (q:Oper),l[j]?=some q→(listed.setIfInBounds i true).getD j false=true→∀e∈q.after,(listed.setIfInBounds i true).getD e.on false=true:=by
    intro j q hj hs e he
    rw [hset] at hs ⊢
    split
    ·rfl
    ·split at hs
     ·rename_i e1;subst e1;rw [ho] at hj;cases hj;exact haf' e he
     ·exact hcl j q hj hs e he
   have hcnt':cnt (fun j=>(listed.setIfInBounds i true).getD j false) l.length=fuel:=by
    have:=Xjk (fun j=>listed.getD j false) (fun j=>(listed.setIfInBounds i true).getD j false) i hiS (by rw [hset];simp) (fun j hj=>by rw [hset];simp [hj]) l.length hil
    omega
   have hDu':∀j∈D,(listed.setIfInBounds i true).getD j false=false:=fun j hj=>by
    rw [hset,if_neg (by rintro rfl;exact hiD hj)];exact hDu j hj
   have hsz':(listed.setIfInBounds i true).size=l.length:=by simpa using hsz
   have hwant:∀{g:Option (Nat × Bool)},o.guard=none→Region.wanted o (yielded l.toArray a.tmps)=true:=fun hg=>by simp [Region.wanted,hg]
   have hput:∀es':Nat→AV,XbH (XcH l es' T0 (fun j=>listed.getD j false) l.length) o.dst (es' i)=XcH l es' T0 (fun j=>(listed.setIfInBounds i true).getD j false) l.length:=fun es'=>
    XfH ok.reg es' T0 _ _ i o ho hiS (by rw [hset];simp) (fun j hj=>by rw [hset];simp [hj])
   unfold wpOp
   simp only [ho']
   rcases ok.cover i hil with hip|h|hin
   case inr.inl=>exact absurd h hiD
   case inr.inr=>
    -- the alloc
    obtain ⟨o',ho2,-,hg⟩:=ok.alloc i hin
    rw [ho] at ho2;cases ho2
    rw [if_pos (hwant (g:=none) hg)]
    have heb:=(hn1 i hin).2 hiS
    subst heb
    refine .inl (hal i o hin ho _ _ Δ V O w0 a w _ _ hrel ?_)
    rintro T' H' a' w' ⟨b,rfl,rfl⟩ r'
    have hes:∀j,j≠i→upd es i (.x (.pointer (some ⟨b,0,none⟩))) j=es j:=fun j hj=>by unfold upd;rw [if_neg hj]
    have hesi:upd es i (.x (.pointer (some ⟨b,0,none⟩))) i=.x (.pointer (some ⟨b,0,none⟩)):=by simp [upd]
    have hnp:∀j∈pi,j≠i:=fun j hj e=>(ok.inpi j hj).2.2 (e▸hin)
    refine ih (listed.setIfInBounds i true) a' w' pd rest (upd es i (.x (.pointer (some ⟨b,0,none⟩)))) T H [.box b z] hsz' hcl' hcnt' (hDI.es fun j hj=>hes j (hnp j (by rw [hDI.split];simp [hj]))) hd hhead
     (fun j hj=>by rw [hset,if_neg (hnp j (by rw [hDI.split];simp [hj]))];exact hru j hj) hDu' (fun j hj hL=>by rw [hset];split;rfl;exact hLo j hj hL)
     (fun i' hi'=>?_) (fun h=>by rw [hin] at h;cases h) ?_
    ·rw [hin] at hi';cases hi'
     exact ⟨fun _=>⟨b,rfl,hesi⟩,fun h=>by rw [hset] at h;simp at h⟩
    ·rw [←hput,hesi,XcP l (upd es i (.x (.pointer (some ⟨b,0,none⟩)))) es T0 _ _ fun j _ hj=>hes j (fun e=>by subst e;rw [hiS] at hj;cases hj)]
     exact r'.perm (by simpa using (XpA (l₁:=B) (l₂:=H) (a:=Hp.box b z)).symm)
   case inl=>
    have hn0i:∀i',n0=some i'→i'≠i:=fun i' hi' e=>(ok.inpi i hip).2.2 (e▸hi')
    rw [hDI.split] at hip
    rcases List.mem_append.1 hip with hpd|hre
    ·-- a quiet one
     obtain ⟨m,hm⟩:=List.mem_iff_getElem?.1 hpd
     have hiL:i ∉ L:=fun hL=>by have:=hLo i hpd hL;rw [hiS] at this;cases this
     have hmp:pi[m]?=some i:=by rw [hDI.split,List.getElem?_append_left (List.getElem?_eq_some_iff.1 hm).1];exact hm
     obtain ⟨o',ho2,hg,hpre,-⟩:=ok.ops m i hmp
     rw [ho] at ho2;cases ho2
     have htk:pi.take m=pd.take m:=by rw [hDI.split,List.take_append_of_le_length (Nat.le_of_lt (List.getElem?_eq_some_iff.1 hm).1)]
     rw [htk] at hpre
     have hE:=hDI.quiet m i o hm hiL ho (eb++H)
     have hnm:i ∉ pd.take m:=fun h=>by
      have hn:=ok.nodup
      rw [hDI.split] at hn
      have hn:=(List.nodup_append.1 hn).1
      obtain ⟨m2,h2⟩:=List.mem_iff_getElem?.1 h
      rw [List.getElem?_take] at h2
      split at h2
      ·rename_i hlt
       have:=(List.getElem?_inj (List.getElem?_eq_some_iff.1 h2).1 hn).1 (h2.trans hm.symm)
       omega
      ·cases h2
     have hE2:Evl P o (ev (XcH l es T0 (fun j=>listed.getD j false) l.length)) (B++(eb++H)) (es i):=hE.of_ev (l:=l) fun t ht=>
      XjI ok.reg es T0 _ _ i o ho hiS (by simpa using hnm) haf' (fun e he=>by simpa using hpre e he) (fun j q hj hs e he e'=>by
       have:=hcl j q hj hs e he
       rw [e',hiS] at this;cases this) (fun j q hj hs e he e'=>by
       have hs':j∈pd.take m:=by simpa using hs
       obtain ⟨m2,h2⟩:=List.mem_iff_getElem?.1 hs'
       rw [List.getElem?_take] at h2
       split at h2
       ·rename_i hlt
        have h2p:pi[m2]?=some j:=by rw [hDI.split,List.getElem?_append_left (List.getElem?_eq_some_iff.1 h2).1];exact h2
        obtain ⟨q',hq',-,hpq,-⟩:=ok.ops m2 j h2p
        rw [hj] at hq';cases hq'
        have:=hpq e he
        rw [e'] at this
        exact hnm (by rw [←htk];exact (List.take_subset_take_left pi (Nat.le_of_lt hlt)) this)
       ·cases h2) t ht
     rw [if_pos (hwant (g:=none) hg)]
     refine .inl (hE2 V a w _ _ (hrel.oks o) fun v w' he hdv=>?_)
     refine ih (listed.setIfInBounds i true) _ w' pd rest es T H eb hsz' hcl' hcnt' hDI hd hhead (fun j hj=>?_) hDu' (fun j hj hL=>by rw [hset];split;rfl;exact hLo j hj hL) (fun i' hi'=>?_) hn2 ?_
     ·rw [hset,if_neg,hru j hj]
      rintro rfl
      have hn:=ok.nodup
      rw [hDI.split] at hn
      exact (List.nodup_append.1 hn).2.2 j hpd j hj rfl
     ·rw [hset,if_neg (hn0i i' hi')];exact hn1 i' hi'
     ·rw [←hput];exact (hrel.quiet he).put _ hdv
    ·-- one still to come: the next loud one
     obtain ⟨h,r,rfl,hL⟩:=hhead.resolve_left (fun e=>by subst e;cases hre)
     have hih:i=h:=by
      rcases List.mem_cons.1 hre with e|hir
      ·exact e
      ·exfalso
       obtain ⟨m,hm⟩:=List.mem_iff_getElem?.1 hir
       have hmp:pi[pd.length+1+m]?=some i:=by
        rw [hDI.split,List.getElem?_append_right (by omega),show pd.length+1+m - pd.length=m+1 by omega];exact hm
       obtain ⟨o',ho2,-,-,hq⟩:=ok.ops _ i hmp
       rw [ho] at ho2;cases ho2
       have hhin:h∈pi.take (pd.length+1+m):=by
        rw [hDI.split,List.take_append,List.take_of_length_le (by omega),show pd.length+1+m - pd.length=m+1 by omega]
        simp
       have:=Xhl hcl l.length i h o ho haf' (hq h hhin hL)
       rw [hru h (by simp)] at this;cases this
     subst hih
     obtain ⟨o',ho2,hd2⟩:=hd
     rw [Xb3,ho] at ho2;cases ho2
     have hLc:L.contains i=true:=by simpa using hL
     rcases hd2 with ⟨hLf,-⟩|⟨-,hst⟩
     ·rw [hLc] at hLf;cases hLf
     have hmp:pi[pd.length]?=some i:=by rw [hDI.split,List.getElem?_append_right (Nat.le_refl _)];simp
     obtain ⟨o',ho2,hg,hpre,-⟩:=ok.ops _ i hmp
     rw [ho] at ho2;cases ho2
     have htk:pi.take pd.length=pd:=by rw [hDI.split,List.take_left' rfl]
     rw [htk] at hpre
     have hnp:i ∉ pd:=fun h=>by
      have hn:=ok.nodup
      rw [hDI.split] at hn
      exact (List.nodup_append.1 hn).2.2 i h i (by simp) rfl
     rw [if_pos (hwant (g:=none) hg)]
     rw [←List.append_assoc] at hrel
     refine .inl (XiG hst (by rw [Xcd,hDI.eq,Xcd]) (fun t ht=>?_) (fun d hd=>by rw [hDI.eq,Xcd];exact hdst i o d ho hd) hrel _ _ fun e H' v w' hm hr'=>?_)
     ·rw [hDI.eq]
      exact XjI ok.reg es T0 _ _ i o ho hiS (by simpa using hnp) haf' (fun e he=>by simpa using hpre e he) (fun j q hj hs e he e'=>by
       have:=hcl j q hj hs e he
       rw [e',hiS] at this;cases this) (fun j q hj hs e he e'=>by
       have hs':j∈pd:=by simpa using hs
       obtain ⟨m2,h2⟩:=List.mem_iff_getElem?.1 hs'
       have h2p:pi[m2]?=some j:=by rw [hDI.split,List.getElem?_append_left (List.getElem?_eq_some_iff.1 h2).1];exact h2
       obtain ⟨q',hq',-,hpq,-⟩:=ok.ops m2 j h2p
       rw [hj] at hq';cases hq'
       have:=hpq e he
       rw [e',hDI.split,List.take_append_of_le_length (Nat.le_of_lt (List.getElem?_eq_some_iff.1 h2).1)] at this
       exact hnp (List.mem_of_mem_take this)) t (by simpa using ht)
     ·have hp1:=hDI.push ok ho e (fun hn=>absurd hL hn)
      obtain ⟨q,rest',es',T',g1,g2,g3,g4,g5,g6⟩:=XiU ok r (pd++[i]) (upd es i e) (XbH T o.dst e) H' hp1 hm
      have hnd:=ok.nodup
      rw [hDI.split] at hnd
      have hnr:=List.nodup_append.1 hnd
      have hri:i ∉ r:=(List.nodup_cons.1 hnr.2.1).1
      have hes:∀j,j ∉ q→j≠i→es' j=es j:=fun j hj hji=>by rw [g5 j hj];unfold upd;rw [if_neg hji]
      have hesi:es' i=e:=by rw [g5 i (fun h=>hri (by rw [g1];simp [h]))];simp [upd]
      have hrr:∀j∈r,(listed.setIfInBounds i true).getD j false=false:=fun j hj=>by
       rw [hset,if_neg (by rintro rfl;exact hri hj)];exact hru j (by simp [hj])
      have hqp:∀j∈q,j∈pi:=fun j hj=>by rw [hDI.split,g1];simp [hj]
      refine ih (listed.setIfInBounds i true) _ w' (pd++[i]++q) rest' es' T' H' eb hsz' hcl' hcnt' g2 g3 g4 (fun j hj=>hrr j (by rw [g1];simp [hj])) hDu' (fun j hj hjL=>?_) (fun i' hi'=>?_) hn2 ?_
      ·rw [hset]
       split
       ·rfl
       ·rename_i hji
        rcases List.mem_append.1 hj with hj|hj
        ·rcases List.mem_append.1 hj with hj|hj
         ·exact hLo j hj hjL
         ·simp at hj;exact absurd hj hji
        ·exact absurd hjL (g6 j hj)
      ·have h1:=hn0i i' hi'
       have h2:i' ∉ q:=fun h=>(ok.inpi i' (hqp i' h)).2.2 hi'
       rw [hset,if_neg h1,hes i' h2 h1];exact hn1 i' hi'
      ·rw [←List.append_assoc,←hput,hesi,XcP l es' es T0 _ _ fun j _ hj=>?_]
       ·exact hr'
       ·have h1:j≠i:=by rintro rfl;rw [hiS] at hj;cases hj
        refine hes j (fun h=>?_) h1
        rw [hru j (by rw [g1];simp [h])] at hj;cases hj
theorem Xc7 {id:Nat} {T:List AV} {H R:List Hp} (hm:P.follows .mixedOrders=true) (pi L D:List Nat) (n0:Option Nat) (z:List AV) (k:Nat) (hp:H.Perm (B++R)) (hok:XmG l pi L D n0=true) (hd:(l.all fun o=>match o.dst with|some d=>decide (d < T.length)|none=>true)=true)
  (hal:∀(i:Nat) (o:Oper),n0=some i→Xdp l i=some o→∀(T:List AV) (H:List Hp),Stp P o T H (fun T' H'=>∃b,T'=XbH T o.dst (.x (.pointer (some ⟨b,0,none⟩)))∧H'=.box b z :: H))
  (hk:cnt (fun j=>(Xc5 l.length D).getD j false) l.length=k) (h:dm P B l L pi T R (XlK P B l D n0 z Q k)):awp P (.region id l.toArray true) Q T H:=by
 have ok:=XkZ hok
 refine Xch hm fun Δ V O w0 a w r=>?_
 obtain ⟨q,rest',es',T',g1,g2,g3,g4,g5,g6⟩:=XiU ok pi [] (fun _=>.top) T R ⟨rfl,by
  rw [Xgl l _ T _ (fun _=>false) _ fun j _=>by simp]
  have:∀k,XcH l (fun _=>.top) T (fun _=>false) k=T:=fun k=>by
   induction k with
   | zero=>rfl
   | succ k ih=>simp [XcH,ih]
  rw [this],fun k i o hk=>by simp at hk⟩ h
 have hgd:∀j,(Array.replicate l.length false).getD j false=false:=fun j=>by
  by_cases hj:j < l.length<;>simp [hj]
 refine XmH ok (fun i o d ho hod=>?_) (fun i o hi ho=>hal i o hi (by rw [Xb3];exact ho)) hk Δ V O w0 l.length _ a w q rest' es' T' R [] (by simp) (fun j q hj hs=>by rw [hgd] at hs;cases hs) ?_ (by simpa using g2) g3 g4 (fun j _=>hgd j) (fun j _=>hgd j) (fun j hj hL=>absurd hL (g6 j hj)) (fun i _=>⟨fun h=>(by rw [hgd] at h;cases h),fun _=>rfl⟩) (fun _=>rfl) ?_
 ·rw [List.all_eq_true] at hd
  have:=hd o (List.mem_of_getElem? ho)
  rw [hod] at this
  simpa using this
 ·rw [Xma _ (fun _=>false) _ fun j _=>hgd j]
  have:∀k,cnt (fun _=>false) k=k:=fun k=>by
   induction k with
   | zero=>rfl
   | succ k ih=>simp [cnt,ih]
  exact this _
 ·rw [Xgl l es' T _ (fun _=>false) _ fun j _=>hgd j]
  have:∀k,XcH l es' T (fun _=>false) k=T:=fun k=>by
   induction k with
   | zero=>rfl
   | succ k ih=>simp [XcH,ih]
  rw [this]
  simpa using r.perm hp
end
end Go.Proofs.YtcmfamgnmehojaaGreatDoor

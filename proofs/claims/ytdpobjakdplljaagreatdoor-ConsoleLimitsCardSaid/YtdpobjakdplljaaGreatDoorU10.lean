import Derived.Test.YtdpobjakdplljaaGreatDoorU9
/- A walk over symbolic memory: the one order stands for all (the proof). No program in sight. -/
set_option linter.unusedSimpArgs false
set_option linter.unusedVariables false
set_option maxRecDepth 100000
set_option maxHeartbeats 8000000
namespace Go.Proofs.YtdpobjakdplljaaGreatDoor
open Go.RowKit
section
variable {P:Program} {B:List Hp} {l:List Oper} {L D pi:List Nat} {n0:Option Nat} {z:List AV} {T0:List AV} {Q:XcB} {fin:List AV→List Hp→Prop}
theorem XgY (l:List Oper) (es:Nat→AV) (T:List AV) (S S':Nat→Bool):∀k,(∀j,j < k→S j=S' j)→XcE l es T S k=XcE l es T S' k
 | 0,_=>rfl
 | k+1,h=>by
   simp only [XcE]
   rw [XgY l es T S S' k fun j hj=>h j (by omega),h k (by omega)]
structure DI (P:Program) (B:List Hp) (l:List Oper) (L pi:List Nat) (T0:List AV) (pd rest:List Nat) (es:Nat→AV) (T:List AV):Prop where
 split:pi=pd++rest
 eq:T=XcE l es T0 (fun j=>pd.contains j) l.length
 quiet:∀(k i:Nat) (o:Oper),pd[k]?=some i→i ∉ L→l[i]?=some o→∀H1,Evl P o (ev (XcE l es T0 (fun j=>(pd.take k).contains j) l.length)) (B++H1) (es i)
def upd (es:Nat→AV) (i:Nat) (e:AV):Nat→AV:=fun j=>if j=i then e else es j
theorem DI.es {pd rest:List Nat} {es es':Nat→AV} {T:List AV} (h:DI P B l L pi T0 pd rest es T) (he:∀j∈pd,es' j=es j):DI P B l L pi T0 pd rest es' T where
 split:=h.split
 eq:=by rw [h.eq];exact Xc0 l _ _ _ _ _ fun j _ hj=>(he j (by simpa using hj)).symm
 quiet:=fun k i o hk hL ho H1=>by
  have:=h.quiet k i o hk hL ho H1
  rw [he i (List.mem_of_getElem? hk)]
  rwa [Xc0 l es' es T0 _ _ fun j _ hj=>he j (List.mem_of_mem_take (by simpa using hj))]
theorem DI.push (ok:Xlx l pi L D n0) {pd rest:List Nat} {es:Nat→AV} {T:List AV} {i:Nat} {o:Oper} (h:DI P B l L pi T0 pd (i :: rest) es T) (ho:l[i]?=some o) (e:AV) (hq:i ∉ L→∀H1,Evl P o (ev T) (B++H1) e) :
  DI P B l L pi T0 (pd++[i]) rest (upd es i e) (XbW T o.dst e):=by
 have hn:=ok.nodup
 rw [h.split] at hn
 have hip:i ∉ pd:=fun hm=>(List.nodup_append.1 hn).2.2 i hm i (by simp) rfl
 have hes:∀j∈pd,upd es i e j=es j:=fun j hj=>by unfold upd;rw [if_neg (by rintro rfl;exact hip hj)]
 have h':=h.es hes
 refine ⟨by rw [h.split];simp,?_,fun k j q hk hL hj H1=>?_⟩
 ·rw [h'.eq]
  have hp:=Xe8 ok.reg (upd es i e) T0 (fun j=>pd.contains j) (fun j=>(pd++[i]).contains j) i o ho (by simpa using hip) (by simp) (fun j hj=>by simp [hj])
  rw [show upd es i e i=e by simp [upd]] at hp
  exact hp
 ·by_cases hlt:k < pd.length
  ·rw [List.getElem?_append_left hlt] at hk
   have:=h'.quiet k j q hk hL hj H1
   rwa [List.take_append_of_le_length (by omega)]
  ·have hlen:=(List.getElem?_eq_some_iff.1 hk).1
   simp only [XqH,Xqy,XqB] at hlen
   have hkk:k=pd.length:=by omega
   subst hkk
   rw [List.getElem?_append_right (Nat.le_refl _)] at hk
   simp at hk
   subst hk
   rw [ho] at hj;cases hj
   have:=hq hL H1
   rw [h'.eq] at this
   rw [List.take_left' rfl]
   simpa [upd] using this
theorem XjI (ok:Xlx l pi L D n0):∀(rest pd:List Nat) (es:Nat→AV) (T:List AV) (H:List Hp),DI P B l L pi T0 pd rest es T→dm P B l L rest T H fin →
  ∃q rest' es' T',rest=q++rest'∧DI P B l L pi T0 (pd++q) rest' es' T'∧dm P B l L rest' T' H fin∧(rest'=[]∨∃i r,rest'=i :: r∧i∈L)∧(∀j,j ∉ q→es' j=es j)∧∀j∈q,j ∉ L
 | [],pd,es,T,H,h,d=>⟨[],[],es,T,rfl,by simpa using h,d,.inl rfl,fun _ _=>rfl,by simp⟩
 | i :: rest,pd,es,T,H,h,d=>by
   have d0:=d
   obtain ⟨o,ho,hh⟩:=d
   rw [XcK] at ho
   rcases hh with ⟨hL,e,hE,hd⟩|⟨hL,_⟩
   ·have hL':i ∉ L:=by simpa using hL
    obtain ⟨q,rest',es',T',h1,h2,h3,h4,h5,h6⟩:=XjI ok rest (pd++[i]) _ _ H (h.push ok ho e fun _=>hE) hd
    refine ⟨i :: q,rest',es',T',by rw [h1];rfl,by simpa using h2,h3,h4,fun j hj=>?_,fun j hj=>?_⟩
    ·simp only [List.mem_cons,not_or] at hj
     rw [h5 j hj.2];unfold upd;rw [if_neg hj.1]
    ·rcases List.mem_cons.1 hj with rfl|hj
     ·exact hL'
     ·exact h6 j hj
   ·exact ⟨[],i :: rest,es,T,rfl,by simpa using h,d0,.inr ⟨i,rest,rfl,by simpa using hL⟩,fun _ _=>rfl,by simp⟩
theorem Xle {listed:Array Bool} (hr:XiW l) (hsz:listed.size=l.length) (hnil:Region.ready .any l.toArray listed=[]):∀j,j < l.length→listed.getD j false=true:=by
 intro j
 induction j using Nat.strongRecOn with
 | _ j ihj=>
   intro hj
   cases hs:listed.getD j false with
   | true=>rfl
   | false=>
     exfalso
     have hget:listed.getD j true=listed.getD j false:=by
      have hi':j < listed.size:=by omega
      simp [Array.getD,hi']
     have hlj:l[j]?=some l[j]:=by simp [hj]
     have:j∈Region.ready .any l.toArray listed:=by
      rw [mem_ready]
      exact ⟨by rw [hget,hs],l[j],by simp [hj],fun e he hb=>ihj e.on (hr.after j _ hlj e he).2 (by have:=(hr.after j _ hlj e he).2;omega)⟩
     rw [hnil] at this;cases this
def XdL (n:Nat) (D:List Nat):Array Bool:=((List.range n).map fun i=>!D.contains i).toArray
def XoG (P:Program) (B:List Hp) (l:List Oper) (D:List Nat) (n0:Option Nat) (z:List AV) (Q:XcB) (k:Nat) (T:List AV) (H:List Hp):Prop:=
 match n0 with
 | none=>XjC P l.toArray Q k (XdL l.length D) T (B++H)
 | some i=>∀b,XjC P l.toArray Q k (XdL l.length D) (XbW T ((XfN l i).bind (·.dst)) (.x (.pointer (some ⟨b,0,none⟩)))) (B++(.box b z :: H))
theorem Xnt (S S':Nat→Bool):∀k,(∀j,j < k→S j=S' j)→cnt S k=cnt S' k
 | 0,_=>rfl
 | k+1,h=>by simp only [cnt];rw [Xnt S S' k fun j hj=>h j (by omega),h k (by omega)]
theorem Xkn (S S':Nat→Bool) (i:Nat) (h1:S i=false) (h2:S' i=true) (h:∀j,j≠i→S' j=S j):∀k,i < k→cnt S k=cnt S' k+1
 | 0,hk=>by omega
 | k+1,hk=>by
   simp only [cnt]
   by_cases hik:i=k
   ·subst hik
    rw [Xnt S S' i fun j hj=>(h j (by omega)).symm];simp [h1,h2]
   ·rw [Xkn S S' i h1 h2 h k (by omega),h k (by omega)];omega
end
open Go.RowKit
section
variable {P:Program} {B:List Hp} {l:List Oper} {L D pi:List Nat} {n0:Option Nat} {z:List AV} {T0:List AV} {Q:XcB}
theorem XmE {listed:Array Bool} {i:Nat} (hi:i < listed.size) (j:Nat):(listed.setIfInBounds i true).getD j false=if j=i then true else listed.getD j false:=by
 by_cases e:j=i
 ·subst e;simp [hi]
 ·rw [if_neg e,getD_set_ne false (Ne.symm e)]
theorem Xhm {n:Nat} {D:List Nat} {j:Nat} (h:j < n):(XdL n D).getD j false=!D.contains j:=by
 simp [XdL,h]
theorem Evl.of_ev {o:Oper} {T1 T2:List AV} {H:List Hp} {e:AV} (h:Evl P o (ev T1) H e) (he:∀t∈looks l o,T2[t]?=T1[t]?):Evl P o (ev T2) H e:=fun V a w Kc Qc r hK=>
 h V a w Kc Qc ⟨r.hok,fun x hx=>by
  have:ev T1 x=ev T2 x:=XnG fun t ht=>(he t (Xmg (ht▸hx))).symm
  rw [this];exact r.ops x hx,r.vlt,r.gw⟩ hK
theorem Xob (ok:Xlx l pi L D n0) (hdst:∀(i:Nat) (o:Oper) (d:Nat),l[i]?=some o→o.dst=some d→d < T0.length)
  (hal:∀(i:Nat) (o:Oper),n0=some i→l[i]?=some o→∀(T:List AV) (H:List Hp),Stp P o T H (fun T' H'=>∃b,T'=XbW T o.dst (.x (.pointer (some ⟨b,0,none⟩)))∧H'=.box b z :: H))
  {k:Nat} (hk:cnt (fun j=>(XdL l.length D).getD j false) l.length=k) (Δ:List Deferred) (V O:Nat→Prop) (w0:World) :
  ∀(fuel:Nat) (listed:Array Bool) (a:Act) (w:World) (pd rest:List Nat) (es:Nat→AV) (T:List AV) (H eb:List Hp),
   listed.size=l.length→(∀(j:Nat) (q:Oper),l[j]?=some q→listed.getD j false=true→∀e∈q.after,listed.getD e.on false=true)→cnt (fun j=>listed.getD j false) l.length=fuel →
   DI P B l L pi T0 pd rest es T→dm P B l L rest T H (XoG P B l D n0 z Q k)→(rest=[]∨∃i r,rest=i :: r∧i∈L) →
   (∀j∈rest,listed.getD j false=false)→(∀j∈D,listed.getD j false=false)→(∀j∈pd,j∈L→listed.getD j false=true) →
   (∀i,n0=some i→(listed.getD i false=true→∃b,eb=[.box b z]∧es i=.x (.pointer (some ⟨b,0,none⟩)))∧(listed.getD i false=false→eb=[]))→(n0=none→eb=[]) →
   Rel Δ V O w0 (B++(eb++H)) (XcE l es T0 (fun j=>listed.getD j false) l.length) a w→wpAny P .any l.toArray (lift Δ V O w0 Q) fuel listed a w:=by
 -- all but D have come up
 have atEnd:∀(fuel:Nat) (listed:Array Bool) (a:Act) (w:World) (pd rest:List Nat) (es:Nat→AV) (T:List AV) (H eb:List Hp),
   listed.size=l.length→cnt (fun j=>listed.getD j false) l.length=fuel →
   DI P B l L pi T0 pd rest es T→dm P B l L rest T H (XoG P B l D n0 z Q k) →
   (∀j∈rest,listed.getD j false=false)→(∀j∈D,listed.getD j false=false) →
   (∀i,n0=some i→(listed.getD i false=true→∃b,eb=[.box b z]∧es i=.x (.pointer (some ⟨b,0,none⟩)))∧(listed.getD i false=false→eb=[]))→(n0=none→eb=[]) →
   Rel Δ V O w0 (B++(eb++H)) (XcE l es T0 (fun j=>listed.getD j false) l.length) a w→(∀j,j < l.length→j ∉ D→listed.getD j false=true)→wpAny P .any l.toArray (lift Δ V O w0 Q) fuel listed a w:=by
  intro fuel listed a w pd rest es T H eb hsz hcnt hDI hd hru hDu hn1 hn2 hrel hall
  have hrest:rest=[]:=by
   cases rest with
   | nil=>rfl
   | cons i r=>
     have hip:=ok.inpi i (by rw [hDI.split];simp)
     have:=hall i hip.1 hip.2.1
     rw [hru i (by simp)] at this;cases this
  subst hrest
  have hpi:pi=pd:=by rw [hDI.split,List.append_nil]
  have hget:∀j,j < l.length→listed.getD j false=!D.contains j:=fun j hj=>by
   by_cases hjD:j∈D
   ·rw [hDu j hjD];simp [hjD]
   ·rw [hall j hj hjD];simp [hjD]
  have hlist:listed=XdL l.length D:=by
   apply Array.ext
   ·simp [XdL,hsz]
   ·intro j h1 h2
    have e1:=hget j (by omega)
    have e2:=Xhm (D:=D) (show j < l.length by omega)
    simp [Array.getD,h1] at e1
    simp [Array.getD,h2] at e2
    rw [e1,e2]
  have hfk:fuel=k:=by rw [←hcnt,hlist,hk]
  subst hfk
  simp only [dm] at hd
  cases hn:n0 with
  | none=>
    have:=hn2 hn
    subst this
    rw [hn] at hd
    simp only [XoG] at hd
    rw [hlist]
    refine hd Δ V O w0 a w ?_
    rw [XqF] at hrel
    have e:XcE l es T0 (fun j=>listed.getD j false) l.length=T:=by
     rw [hDI.eq]
     refine XgY _ _ _ _ _ _ fun j hj=>?_
     rw [hget j hj]
     rcases ok.cover j hj with h|h|h
     ·have:=(ok.inpi j h).2.1
      rw [hpi] at h;simp [h,this]
     ·have:j ∉ pd:=fun hp=>(ok.inpi j (hpi▸hp)).2.1 h
      simp [h,this]
     ·rw [hn] at h;cases h
    rw [e] at hrel;exact hrel
  | some i=>
    obtain ⟨o,ho,-,-⟩:=ok.alloc i hn
    have hil:=(List.getElem?_eq_some_iff.1 ho).1
    have hiD:i ∉ D:=fun h=>(ok.dlt i h).2 hn
    obtain ⟨b,rfl,hb⟩:=(hn1 i hn).1 (hall i hil hiD)
    rw [hn] at hd
    simp only [XoG] at hd
    rw [hlist]
    refine hd b Δ V O w0 a w ?_
    have hip:i ∉ pd:=fun hp=>(ok.inpi i (hpi▸hp)).2.2 hn
    have e:XcE l es T0 (fun j=>listed.getD j false) l.length=XbW T ((XfN l i).bind (·.dst)) (.x (.pointer (some ⟨b,0,none⟩))):=by
     rw [XcK,ho,hDI.eq,←hb]
     refine ((Xe8 ok.reg es T0 (fun j=>pd.contains j) (fun j=>pd.contains j || j == i) i o ho (by simpa using hip) (by simp) (fun j hj=>by simp [hj])).trans ?_).symm
     refine XgY _ _ _ _ _ _ fun j hj=>?_
     rw [hget j hj]
     rcases ok.cover j hj with h|h|h
     ·have:=(ok.inpi j h).2.1
      rw [hpi] at h;simp [h,this]
     ·have h1:j ∉ pd:=fun hp=>(ok.inpi j (hpi▸hp)).2.1 h
      have h2:j≠i:=fun e=>hiD (e▸h)
      simp [h,h1,h2]
     ·rw [hn] at h;cases h;simp [hiD]
    rw [e] at hrel;exact hrel
 intro fuel
 induction fuel with
 | zero=>
   intro listed a w pd rest es T H eb hsz hcl hcnt hDI hd hhead hru hDu hLo hn1 hn2 hrel
   exact atEnd 0 listed a w pd rest es T H eb hsz hcnt hDI hd hru hDu hn1 hn2 hrel fun j hj _=>XeA _ _ hcnt j hj
 | succ fuel ih=>
   intro listed a w pd rest es T H eb hsz hcl hcnt hDI hd hhead hru hDu hLo hn1 hn2 hrel
   by_cases hall:∀j,j < l.length→j ∉ D→listed.getD j false=true
   ·exact atEnd (fuel+1) listed a w pd rest es T H eb hsz hcnt hDI hd hru hDu hn1 hn2 hrel hall
   refine ⟨fun hnil=>absurd (fun j hj _=>Xle ok.reg hsz hnil j hj) hall,fun i hi=>?_⟩
   obtain ⟨hi0,o,ho',haf⟩:=mem_ready.1 hi
   have ho:l[i]?=some o:=by simpa using ho'
   have hil:=(List.getElem?_eq_some_iff.1 ho).1
   have hiS:listed.getD i false=false:=by
    have hi':i < listed.size:=by omega
    simp [Array.getD,hi'] at hi0 ⊢;exact hi0
   have haf':∀e∈o.after,listed.getD e.on false=true:=fun e he=>haf e he (ok.reg.after i o ho e he).1
   have hiD:i ∉ D:=fun h=>hall fun j hj hjD=>Xh6 hcl l.length i j o ho haf' ((ok.dall i h j hj).resolve_left hjD)
   -- what is so behind this operation,whatever it is
   have hset:=XmE (listed:=listed) (i:=i) (by omega)
   have hcl':∀(j:Nat) (q:Oper),l[j]?=some q→(listed.setIfInBounds i true).getD j false=true→∀e∈q.after,(listed.setIfInBounds i true).getD e.on false=true:=by
    intro j q hj hs e he
    rw [hset] at hs ⊢
    split
    ·rfl
    ·split at hs
     ·rename_i e1;subst e1;rw [ho] at hj;cases hj;exact haf' e he
     ·exact hcl j q hj hs e he
   have hcnt':cnt (fun j=>(listed.setIfInBounds i true).getD j false) l.length=fuel:=by
    have:=Xkn (fun j=>listed.getD j false) (fun j=>(listed.setIfInBounds i true).getD j false) i hiS (by rw [hset];simp) (fun j hj=>by rw [hset];simp [hj]) l.length hil
    omega
   have hDu':∀j∈D,(listed.setIfInBounds i true).getD j false=false:=fun j hj=>by
    rw [hset,if_neg (by rintro rfl;exact hiD hj)];exact hDu j hj
   have hsz':(listed.setIfInBounds i true).size=l.length:=by simpa using hsz
   have hwant:∀{g:Option (Nat × Bool)},o.guard=none→Region.wanted o (yielded l.toArray a.tmps)=true:=fun hg=>by simp [Region.wanted,hg]
   have hput:∀es':Nat→AV,XbW (XcE l es' T0 (fun j=>listed.getD j false) l.length) o.dst (es' i)=XcE l es' T0 (fun j=>(listed.setIfInBounds i true).getD j false) l.length:=fun es'=>
    Xe8 ok.reg es' T0 _ _ i o ho hiS (by rw [hset];simp) (fun j hj=>by rw [hset];simp [hj])
   unfold wpOp
   simp only [ho']
   rcases ok.cover i hil with hip|h|hin
   case inr.inl=>exact absurd h hiD
   case inr.inr=>
    -- the alloc
    obtain ⟨o',ho2,-,hg⟩:=ok.alloc i hin
    rw [ho] at ho2;cases ho2
    rw [if_pos (hwant (g:=none) hg)]
    have heb:=(hn1 i hin).2 hiS
    subst heb
    refine .inl (hal i o hin ho _ _ Δ V O w0 a w _ _ hrel ?_)
    rintro T' H' a' w' ⟨b,rfl,rfl⟩ r'
    have hes:∀j,j≠i→upd es i (.x (.pointer (some ⟨b,0,none⟩))) j=es j:=fun j hj=>by unfold upd;rw [if_neg hj]
    have hesi:upd es i (.x (.pointer (some ⟨b,0,none⟩))) i=.x (.pointer (some ⟨b,0,none⟩)):=by simp [upd]
    have hnp:∀j∈pi,j≠i:=fun j hj e=>(ok.inpi j hj).2.2 (e▸hin)
    refine ih (listed.setIfInBounds i true) a' w' pd rest (upd es i (.x (.pointer (some ⟨b,0,none⟩)))) T H [.box b z] hsz' hcl' hcnt' (hDI.es fun j hj=>hes j (hnp j (by rw [hDI.split];simp [hj]))) hd hhead
     (fun j hj=>by rw [hset,if_neg (hnp j (by rw [hDI.split];simp [hj]))];exact hru j hj) hDu' (fun j hj hL=>by rw [hset];split;rfl;exact hLo j hj hL)
     (fun i' hi'=>?_) (fun h=>by rw [hin] at h;cases h) ?_
    ·rw [hin] at hi';cases hi'
     exact ⟨fun _=>⟨b,rfl,hesi⟩,fun h=>by rw [hset] at h;simp at h⟩
    ·rw [←hput,hesi,Xc0 l (upd es i (.x (.pointer (some ⟨b,0,none⟩)))) es T0 _ _ fun j _ hj=>hes j (fun e=>by subst e;rw [hiS] at hj;cases hj)]
     exact r'.perm (by simpa using (XqI (l₁:=B) (l₂:=H) (a:=Hp.box b z)).symm)
   case inl=>
    have hn0i:∀i',n0=some i'→i'≠i:=fun i' hi' e=>(ok.inpi i hip).2.2 (e▸hi')
    rw [hDI.split] at hip
    rcases List.mem_append.1 hip with hpd|hre
    ·-- a quiet one
     obtain ⟨m,hm⟩:=List.mem_iff_getElem?.1 hpd
     have hiL:i ∉ L:=fun hL=>by have:=hLo i hpd hL;rw [hiS] at this;cases this
     have hmp:pi[m]?=some i:=by rw [hDI.split,List.getElem?_append_left (List.getElem?_eq_some_iff.1 hm).1];exact hm
     obtain ⟨o',ho2,hg,hpre,-⟩:=ok.ops m i hmp
     rw [ho] at ho2;cases ho2
     have htk:pi.take m=pd.take m:=by rw [hDI.split,List.take_append_of_le_length (Nat.le_of_lt (List.getElem?_eq_some_iff.1 hm).1)]
     rw [htk] at hpre
     have hE:=hDI.quiet m i o hm hiL ho (eb++H)
     have hnm:i ∉ pd.take m:=fun h=>by
      have hn:=ok.nodup
      rw [hDI.split] at hn
      have hn:=(List.nodup_append.1 hn).1
      obtain ⟨m2,h2⟩:=List.mem_iff_getElem?.1 h
      rw [List.getElem?_take] at h2
      split at h2
      ·rename_i hlt
       have:=(List.getElem?_inj (List.getElem?_eq_some_iff.1 h2).1 hn).1 (h2.trans hm.symm)
       omega
      ·cases h2
     have hE2:Evl P o (ev (XcE l es T0 (fun j=>listed.getD j false) l.length)) (B++(eb++H)) (es i):=hE.of_ev (l:=l) fun t ht=>
      XkU ok.reg es T0 _ _ i o ho hiS (by simpa using hnm) haf' (fun e he=>by simpa using hpre e he) (fun j q hj hs e he e'=>by
       have:=hcl j q hj hs e he
       rw [e',hiS] at this;cases this) (fun j q hj hs e he e'=>by
       have hs':j∈pd.take m:=by simpa using hs
       obtain ⟨m2,h2⟩:=List.mem_iff_getElem?.1 hs'
       rw [List.getElem?_take] at h2
       split at h2
       ·rename_i hlt
        have h2p:pi[m2]?=some j:=by rw [hDI.split,List.getElem?_append_left (List.getElem?_eq_some_iff.1 h2).1];exact h2
        obtain ⟨q',hq',-,hpq,-⟩:=ok.ops m2 j h2p
        rw [hj] at hq';cases hq'
        have:=hpq e he
        rw [e'] at this
        exact hnm (by rw [←htk];exact (List.take_subset_take_left pi (Nat.le_of_lt hlt)) this)
       ·cases h2) t ht
     rw [if_pos (hwant (g:=none) hg)]
     refine .inl (hE2 V a w _ _ (hrel.oks o) fun v w' he hdv=>?_)
     refine ih (listed.setIfInBounds i true) _ w' pd rest es T H eb hsz' hcl' hcnt' hDI hd hhead (fun j hj=>?_) hDu' (fun j hj hL=>by rw [hset];split;rfl;exact hLo j hj hL) (fun i' hi'=>?_) hn2 ?_
     ·rw [hset,if_neg,hru j hj]
      rintro rfl
      have hn:=ok.nodup
      rw [hDI.split] at hn
      exact (List.nodup_append.1 hn).2.2 j hpd j hj rfl
     ·rw [hset,if_neg (hn0i i' hi')];exact hn1 i' hi'
     ·rw [←hput];exact (hrel.quiet he).put _ hdv
    ·-- one still to come: the next loud one
     obtain ⟨h,r,rfl,hL⟩:=hhead.resolve_left (fun e=>by subst e;cases hre)
     have hih:i=h:=by
      rcases List.mem_cons.1 hre with e|hir
      ·exact e
      ·exfalso
       obtain ⟨m,hm⟩:=List.mem_iff_getElem?.1 hir
       have hmp:pi[pd.length+1+m]?=some i:=by
        rw [hDI.split,List.getElem?_append_right (by omega),show pd.length+1+m - pd.length=m+1 by omega];exact hm
       obtain ⟨o',ho2,-,-,hq⟩:=ok.ops _ i hmp
       rw [ho] at ho2;cases ho2
       have hhin:h∈pi.take (pd.length+1+m):=by
        rw [hDI.split,List.take_append,List.take_of_length_le (by omega),show pd.length+1+m - pd.length=m+1 by omega]
        simp
       have:=Xh6 hcl l.length i h o ho haf' (hq h hhin hL)
       rw [hru h (by simp)] at this;cases this
     subst hih
     obtain ⟨o',ho2,hd2⟩:=hd
     rw [XcK,ho] at ho2;cases ho2
     have hLc:L.contains i=true:=by simpa using hL
     rcases hd2 with ⟨hLf,-⟩|⟨-,hst⟩
     ·rw [hLc] at hLf;cases hLf
     have hmp:pi[pd.length]?=some i:=by rw [hDI.split,List.getElem?_append_right (Nat.le_refl _)];simp
     obtain ⟨o',ho2,hg,hpre,-⟩:=ok.ops _ i hmp
     rw [ho] at ho2;cases ho2
     have htk:pi.take pd.length=pd:=by rw [hDI.split,List.take_left' rfl]
     rw [htk] at hpre
     have hnp:i ∉ pd:=fun h=>by
      have hn:=ok.nodup
      rw [hDI.split] at hn
      exact (List.nodup_append.1 hn).2.2 i h i (by simp) rfl
     rw [if_pos (hwant (g:=none) hg)]
     rw [←List.append_assoc] at hrel
     refine .inl (Xjz hst (by rw [Xci,hDI.eq,Xci]) (fun t ht=>?_) (fun d hd=>by rw [hDI.eq,Xci];exact hdst i o d ho hd) hrel _ _ fun e H' v w' hm hr'=>?_)
     ·rw [hDI.eq]
      exact XkU ok.reg es T0 _ _ i o ho hiS (by simpa using hnp) haf' (fun e he=>by simpa using hpre e he) (fun j q hj hs e he e'=>by
       have:=hcl j q hj hs e he
       rw [e',hiS] at this;cases this) (fun j q hj hs e he e'=>by
       have hs':j∈pd:=by simpa using hs
       obtain ⟨m2,h2⟩:=List.mem_iff_getElem?.1 hs'
       have h2p:pi[m2]?=some j:=by rw [hDI.split,List.getElem?_append_left (List.getElem?_eq_some_iff.1 h2).1];exact h2
       obtain ⟨q',hq',-,hpq,-⟩:=ok.ops m2 j h2p
       rw [hj] at hq';cases hq'
       have:=hpq e he
       rw [e',hDI.split,List.take_append_of_le_length (Nat.le_of_lt (List.getElem?_eq_some_iff.1 h2).1)] at this
       exact hnp (List.mem_of_mem_take this)) t (by simpa using ht)
     ·have hp1:=hDI.push ok ho e (fun hn=>absurd hL hn)
      obtain ⟨q,rest',es',T',g1,g2,g3,g4,g5,g6⟩:=XjI ok r (pd++[i]) (upd es i e) (XbW T o.dst e) H' hp1 hm
      have hnd:=ok.nodup
      rw [hDI.split] at hnd
      have hnr:=List.nodup_append.1 hnd
      have hri:i ∉ r:=(List.nodup_cons.1 hnr.2.1).1
      have hes:∀j,j ∉ q→j≠i→es' j=es j:=fun j hj hji=>by rw [g5 j hj];unfold upd;rw [if_neg hji]
      have hesi:es' i=e:=by rw [g5 i (fun h=>hri (by rw [g1];simp [h]))];simp [upd]
      have hrr:∀j∈r,(listed.setIfInBounds i true).getD j false=false:=fun j hj=>by
       rw [hset,if_neg (by rintro rfl;exact hri hj)];exact hru j (by simp [hj])
      have hqp:∀j∈q,j∈pi:=fun j hj=>by rw [hDI.split,g1];simp [hj]
      refine ih (listed.setIfInBounds i true) _ w' (pd++[i]++q) rest' es' T' H' eb hsz' hcl' hcnt' g2 g3 g4 (fun j hj=>hrr j (by rw [g1];simp [hj])) hDu' (fun j hj hjL=>?_) (fun i' hi'=>?_) hn2 ?_
      ·rw [hset]
       split
       ·rfl
       ·rename_i hji
        rcases List.mem_append.1 hj with hj|hj
        ·rcases List.mem_append.1 hj with hj|hj
         ·exact hLo j hj hjL
         ·simp at hj;exact absurd hj hji
        ·exact absurd hjL (g6 j hj)
      ·have h1:=hn0i i' hi'
       have h2:i' ∉ q:=fun h=>(ok.inpi i' (hqp i' h)).2.2 hi'
       rw [hset,if_neg h1,hes i' h2 h1];exact hn1 i' hi'
      ·rw [←List.append_assoc,←hput,hesi,Xc0 l es' es T0 _ _ fun j _ hj=>?_]
       ·exact hr'
       ·have h1:j≠i:=by rintro rfl;rw [hiS] at hj;cases hj
        refine hes j (fun h=>?_) h1
        rw [hru j (by rw [g1];simp [h])] at hj;cases hj
theorem Xnl {id:Nat} {T:List AV} {H R:List Hp} (hm:P.follows .mixedOrders=true) (pi L D:List Nat) (n0:Option Nat) (z:List AV) (k:Nat) (hp:H.Perm (B++R)) (hok:Xoa l pi L D n0=true) (hd:(l.all fun o=>match o.dst with|some d=>decide (d < T.length)|none=>true)=true)
  (hal:∀(i:Nat) (o:Oper),n0=some i→XfN l i=some o→∀(T:List AV) (H:List Hp),Stp P o T H (fun T' H'=>∃b,T'=XbW T o.dst (.x (.pointer (some ⟨b,0,none⟩)))∧H'=.box b z :: H))
  (hk:cnt (fun j=>(XdL l.length D).getD j false) l.length=k) (h:dm P B l L pi T R (XoG P B l D n0 z Q k)):awp P (.region id l.toArray true) Q T H:=by
 have ok:=Xmi hok
 refine XcV hm fun Δ V O w0 a w r=>?_
 obtain ⟨q,rest',es',T',g1,g2,g3,g4,g5,g6⟩:=XjI ok pi [] (fun _=>.top) T R ⟨rfl,by
  rw [XgY l _ T _ (fun _=>false) _ fun j _=>by simp]
  have:∀k,XcE l (fun _=>.top) T (fun _=>false) k=T:=fun k=>by
   induction k with
   | zero=>rfl
   | succ k ih=>simp [XcE,ih]
  rw [this],fun k i o hk=>by simp at hk⟩ h
 have hgd:∀j,(Array.replicate l.length false).getD j false=false:=fun j=>by
  by_cases hj:j < l.length<;>simp [hj]
 refine Xob ok (fun i o d ho hod=>?_) (fun i o hi ho=>hal i o hi (by rw [XcK];exact ho)) hk Δ V O w0 l.length _ a w q rest' es' T' R [] (by simp) (fun j q hj hs=>by rw [hgd] at hs;cases hs) ?_ (by simpa using g2) g3 g4 (fun j _=>hgd j) (fun j _=>hgd j) (fun j hj hL=>absurd hL (g6 j hj)) (fun i _=>⟨fun h=>(by rw [hgd] at h;cases h),fun _=>rfl⟩) (fun _=>rfl) ?_
 ·rw [List.all_eq_true] at hd
  have:=hd o (List.mem_of_getElem? ho)
  rw [hod] at this
  simpa using this
 ·rw [Xnt _ (fun _=>false) _ fun j _=>hgd j]
  have:∀k,cnt (fun _=>false) k=k:=fun k=>by
   induction k with
   | zero=>rfl
   | succ k ih=>simp [cnt,ih]
  exact this _
 ·rw [XgY l es' T _ (fun _=>false) _ fun j _=>hgd j]
  have:∀k,XcE l es' T (fun _=>false) k=T:=fun k=>by
   induction k with
   | zero=>rfl
   | succ k ih=>simp [XcE,ih]
  rw [this]
  simpa using r.perm hp
end
open Go.RowKit
section
variable {P:Program} {H:List Hp} {o:Oper} {ρ:Operand→AV}
theorem XjG (t e:TypeId) (len:Nat) (parts:Array (Nat × Operand)) (z:Value) (size bytes:Nat) (cells:List AV) (ho:o.op=.buildSlice t len parts) (hE:XcF P t e z size bytes)
  (hone:(parts.toList.all fun p=>(ρ p.2).cells.all AV.one)=true) (hz1:z.cells.toList.all (·.oneCell')=true) (hlen:len*size≤16777216)
  (hb:Xfj (fun i=>some (i*size,size)) ((List.replicate len (z.cells.toList.map .x)).flatten) (parts.toList.map fun p=>(p.1,ρ p.2))=some cells):Evl P o ρ H (.sq len cells):=by
 intro V a w Kc Q r hKc
 obtain ⟨i,hi,hz,hsize,hby⟩:=info_parts hE.info
 have hpos:=hE.pos
 have hzs:=hE.zs
 -- the zeros
 have hz2:z.cells.toList.length=size:=by rw [Array.length_toList];exact hzs
 have hzeros:((Array.range (len*size)).map (z.cells[· % z.cells.size]!)).toList=(List.replicate len z.cells.toList).flatten:=by
  apply List.ext_getElem?
  intro j
  simp only [Array.toList_map,Array.toList_range,List.getElem?_map]
  by_cases hj:j < len*size
  ·rw [List.getElem?_range hj]
   have hmod:j % size < size:=Nat.mod_lt _ hpos
   have key:∀(n:Nat) (j:Nat),j < n*size→((List.replicate n z.cells.toList).flatten)[j]?=z.cells.toList[j % size]?:=by
    intro n
    induction n with
    | zero=>intro j h;simp at h
    | succ n ih=>
      intro j h
      rw [XqC,List.flatten_cons]
      by_cases h1:j < size
      ·rw [List.getElem?_append_left (by simp;omega),Nat.mod_eq_of_lt h1]
      ·rw [List.getElem?_append_right (by simp;omega),Array.length_toList,hzs,ih (j - size) (by rw [Nat.succ_mul] at h;omega),Nat.mod_eq_sub_mod (Nat.le_of_not_lt h1)]
   rw [key len j hj]
   simp [hzs,getElem!_pos,hmod]
  ·rw [List.getElem?_eq_none (by simpa using hj),List.getElem?_eq_none (by simp [hzs];omega)];rfl
 obtain ⟨vr,hf,hd⟩:=Xez (F:=FB V H) (w:=w) _ _ _ ((Array.range (len*size)).map (z.cells[· % z.cells.size]!)) cells hb (by
  rw [hzeros]
  have:(List.replicate len (z.cells.toList.map AV.x)).flatten=((List.replicate len z.cells.toList).flatten).map AV.x:=by
   rw [List.map_flatten,List.map_replicate]
  rw [this];exact XaN.exact) (Xfa parts (fun p hp=>by simp [ho,Op.operands];exact ⟨p.1,by simpa using hp⟩) r (fun p hp=>List.all_eq_true.1 hone p (by simpa using hp)))
 have hrun:(execOp a.eval o).run P w=.ok (.value (.slice (some ⟨w.heap.size,0,none⟩) len len)) (w.alloc (.cells vr e)):=by
  have h24:¬(len*i.size > 16777216):=by rw [hsize];omega
  by_cases h0:len*i.size=0
  ·have hf':Instr.fill (fun j=>some (j*i.size,i.size)) #[] (parts.map fun (i,x)=>(i,a.eval x)).toList=some vr:=by
    rw [hsize] at h0 ⊢;rw [←hf,h0];simp [Array.range]
   have hl0:len=0:=by
    rw [hsize] at h0
    rcases Nat.mul_eq_zero.1 h0 with h|h
    ·exact h
    ·omega
   subst hl0
   have hf2:Instr.fill (fun j=>some (j*i.size,i.size)) #[] (List.map (fun x=>(x.1,a.eval x.2)) parts.toList)=some vr:=by rw [←hf',Array.toList_map]
   simp [execOp,ho,Instr.buildSlice,run_underlying hE.under,sizeOf,typeInfo,hi,newRow,show Array.range 0=#[] from rfl,hf2]
  ·have hf':Instr.fill (fun j=>some (j*i.size,i.size)) (Array.map (fun x=>z.cells[x % z.cells.size]!) (Array.range (len*i.size))) (parts.map fun (i,x)=>(i,a.eval x)).toList=some vr:=by
    rw [hsize];exact hf
   simp [execOp,ho,Instr.buildSlice,run_underlying hE.under,sizeOf,typeInfo,hi,h0,h24,zeroValue,hz,newRow] at hf' ⊢
   simp [hf']
 have hvlen:vr.size=len*size:=by
  have h1:=hd.len
  have:∀(ps:List (Nat × AV)) (cs r:List AV),Xfj (fun i=>some (i*size,size)) cs ps=some r→r.length=cs.length:=by
   intro ps
   induction ps with
   | nil=>intro cs r h;simp only [Xfj] at h;cases h;rfl
   | cons p ps ih=>
     intro cs r h
     obtain ⟨i,v⟩:=p
     simp only [Xfj] at h
     split at h
     ·cases h
     ·rename_i hn
      rw [ih _ _ h]
      simp [spl];omega
  have h2:=this _ _ _ hb
  rw [Array.length_toList] at h1
  rw [h1,h2];simp [hzs]
 unfold Oper.wp
 rw [hrun]
 have hE':Ext w (w.alloc (.cells vr e)):=Ext.al _ _
 have hones:cells.all AV.one=true:=by
  have:∀(ps:List (Nat × AV)) (cs r:List AV),(ps.all fun p=>p.2.cells.all AV.one)=true→cs.all AV.one=true→Xfj (fun i=>some (i*size,size)) cs ps=some r→r.all AV.one=true:=by
   intro ps
   induction ps with
   | nil=>intro cs r _ hc h;simp only [Xfj] at h;cases h;exact hc
   | cons p ps ih=>
     intro cs r hp hc h
     obtain ⟨i,v⟩:=p
     simp only [Xfj] at h
     simp only [List.all_cons,Bool.and_eq_true] at hp
     split at h
     ·cases h
     ·refine ih _ _ hp.2 ?_ h
      simp only [spl,List.all_append,Bool.and_eq_true]
      exact ⟨⟨List.all_eq_true.2 fun x hx=>List.all_eq_true.1 hc x (List.mem_of_mem_take hx),hp.1⟩,List.all_eq_true.2 fun x hx=>List.all_eq_true.1 hc x (List.mem_of_mem_drop hx)⟩
  refine this _ _ _ ?_ ?_ hb
  ·rw [List.all_map];exact hone
  ·rw [List.all_eq_true]
   intro x hx
   obtain ⟨l,hl,hx⟩:=List.mem_flatten.1 hx
   rw [List.eq_of_mem_replicate hl] at hx
   obtain ⟨v,hv,rfl⟩:=List.mem_map.1 hx
   exact List.all_eq_true.1 hz1 v hv
 have hF:∀k,FB V H k→k < w.heap.size:=fun k hk=>by
  rcases hk with hk|⟨x,hx,e⟩
  ·exact r.vlt k hk
  ·exact (r.hok.lt x hx k e).1
 refine hKc _ _ hE' ?_
 rw [Den]
 refine ⟨_,_,vr.toList,rfl,Nat.le_refl _,by unfold maxLen;have:len≤len*size:=Nat.le_mul_of_pos_right _ hpos;omega,fun h=>(by cases h),.inr ⟨_,_,rfl,fun hk=>by have:=hF _ hk;omega,fun j u hj=>⟨?_,hd.one hones u (List.mem_of_getElem? hj)⟩⟩,XaN.conv (fun k hk=>.inl hk) (fun k hk _=>hE'.block k hk) _ _ hd⟩
 rw [Nat.zero_add,World.cell?_alloc_new];simpa using hj
theorem XdK (src dst e:TypeId) (x:Operand) (l:List UInt8) (ho:o.op=.convert src dst x) (hs:P.underlying src=some .string) (ht:P.underlying dst=some (.slice e)) (he:P.elem dst=e) (hu:P.underlying e=some (.int .u8)) (hx:ρ x=.x (.string (bs l))) (hl:l.length≤1000000):Evl P o ρ H (.sq l.length (u8a l)):=by
 intro V a w Kc Q r hKc
 have hrun:=Xed (P:=P) w src dst e (bs l) hs (by rw [ht,he]) he hu
 have h1:=grownCap_ge w (bs l).size 0 e
 have h2:=grownCap_le_maxLen w (bs l).size 0 e (by rw [Xdf];unfold maxLen;omega)
 rw [Xdf] at h1 h2 hrun
 have hsl:=Xnm w 0 w.heap.size l.length e (bs l) l rfl (by simp) (by simp) (by simpa using hl) (Nat.zero_le _)
 obtain ⟨ad,cap,e1,_,_,_,_,hc⟩:=hsl
 simp only [Value.slice.injEq] at e1
 obtain ⟨rfl,-,-⟩:=e1
 have hE:Ext w (w.ext #[XfU w e (bs l)] (w.drawn+1)):=Ext.ext _ _ _
 have hF:∀k,FB V H k→k < w.heap.size:=fun k hk=>by
  rcases hk with hk|⟨x,hx,e⟩
  ·exact r.vlt k hk
  ·exact (r.hok.lt x hx k e).1
 unfold Oper.wp execOp
 simp only [ho,r.evx (x:=x) (by simp [ho,Op.operands]) hx,hrun,Sem.run_bind,Sem.run_pure,Result.andThen_ok,Oper.upon]
 refine hKc _ _ hE ?_
 rw [Den]
 refine ⟨_,_,u8s l,rfl,h1,h2,fun h=>(by cases h),.inr ⟨_,_,rfl,fun hk=>by have:=hF _ hk;omega,fun j u hj=>⟨?_,Xie l u (List.mem_of_getElem? hj)⟩⟩,XaN.exact⟩
 obtain ⟨x,hx,hu⟩:=hc j u hj
 cases hx
 rwa [Xcs] at hu
theorem XhM {P:Program} {B:List Hp} {l:List Oper} {L D:List Nat} {z:List AV} {Q:XcB} {k:Nat} {T:List AV} {H:List Hp} (h:XjC P l.toArray Q k (XdL l.length D) T (B++H)):dm P B l L [] T H (XoG P B l D none z Q k):=h
end
open Go.RowKit
section
variable {P:Program} {H:List Hp} {o:Oper} {ρ:Operand→AV} {T:List AV} {K:List AV→List Hp→Prop}
theorem Xii:∀(l:List (Nat × AV)) (done zs:List AV),l.map (·.1)=List.range' done.length l.length→zs.length=l.length→(l.all fun p=>p.2.one)=true→Xfj (fun i=>some (i*1,1)) (done++zs) l=some (done++l.map (·.2))
 | [],done,zs,_,hz,_=>by
   have:zs=[]:=List.eq_nil_of_length_eq_zero (by simpa using hz)
   subst this;rfl
 | (i,v) :: l,done,zs,hi,hz,h1=>by
   simp only [XqA,Xqy,List.range'_succ,List.cons.injEq] at hi
   obtain ⟨rfl,hi⟩:=hi
   simp only [List.all_cons,Bool.and_eq_true] at h1
   cases zs with
   | nil=>simp at hz
   | cons z zs=>
     have hc:=XfO h1.1
     rw [Xfj]
     simp only [hc,Xqy,XqB,Nat.mul_one]
     rw [if_neg (by simp),Xop _ _ _ (by simp)]
     have:(done++z :: zs).set done.length v=(done++[v])++zs:=by
      rw [List.set_append_right _ _ (Nat.le_refl _)];simp
     rw [this]
     have:=Xii l (done++[v]) zs (by rw [hi];simp) (by simpa using hz) h1.2
     simp only [Nat.mul_one] at this ⊢
     rw [this];simp
theorem XlG {len:Nat} {z:Value} {parts:List (Nat × Operand)} (hz:z.cells.toList.length=1) (hi:parts.map (·.1)=List.range len) (h1:(parts.all fun p=>(ρ p.2).one)=true):Xfj (fun i=>some (i*1,1)) ((List.replicate len (z.cells.toList.map .x)).flatten) (parts.map fun p=>(p.1,ρ p.2))=some (parts.map fun p=>ρ p.2):=by
 have hlen:parts.length=len:=by have:=congrArg List.length hi;simpa using this
 have:=Xii (parts.map fun p=>(p.1,ρ p.2)) [] ((List.replicate len (z.cells.toList.map .x)).flatten) (by
  rw [List.map_map]
  rw [List.length_map,hlen,XqB,←List.range_eq_range']
  exact hi) (by
  rw [List.length_map,hlen]
  clear hi h1 hlen
  induction len with
  | zero=>rfl
  | succ n ih=>rw [XqC,List.flatten_cons,XqH,ih,List.length_map,hz];omega) (by rw [List.all_map];exact h1)
 rw [XqF] at this
 rw [this,List.map_map];rfl
theorem Xod {parts:List (Nat × Operand)} (h1:(parts.all fun p=>(ρ p.2).one)=true):(parts.all fun p=>(ρ p.2).cells.all AV.one)=true:=by
 rw [List.all_eq_true] at h1 ⊢
 intro p hp
 have:=h1 p hp
 rw [XfO this];simp [this]
theorem Xfz (t e:TypeId) (len:Nat) (parts:Array (Nat × Operand)) (z:Value) (bytes:Nat) (ho:o.op=.buildSlice t len parts) (hE:XcF P t e z 1 bytes)
  (hi:parts.toList.map (·.1)=List.range len) (h1:(parts.toList.all fun p=>(ρ p.2).one)=true) (hz1:z.cells.toList.all (·.oneCell')=true) (hz:z.cells.toList.length=1) (hlen:len≤16777216):Evl P o ρ H (.sq len (parts.toList.map fun p=>ρ p.2)):=
 XjG t e len parts z 1 bytes _ ho hE (Xod h1) hz1 (by omega) (XlG hz hi h1)
end
open Go.RowKit
structure DK (l:List Int):Prop where
 len:l.length≤140737488355328
 vals:I64 l
def dk (b:Nat) (l:List Int) (k:Nat):List AV:=[.sq l.length (ia l),.x (.int .i64 k)]
def Xqr:List (List UInt8):=[[97],[98],[99],[100],[120]]
end Go.Proofs.YtdpobjakdplljaaGreatDoor

import Derived.Test.YtdlblokjfoggpaaGreatDoorW8
/- A walk over symbolic memory: a region that draws its order, in which the loud operations wait one for the other. No program in sight. -/
set_option linter.unusedSimpArgs false
set_option linter.unusedVariables false
set_option maxRecDepth 100000
set_option maxHeartbeats 8000000
namespace Go.Proofs.YtdlblokjfoggpaaGreatDoor
open Go.RowKit
section
variable {P:Program} {B:List Hp} {l:List Oper} {L D pi:List Nat} {n0:Option Nat} {z:List AV} {T0:List AV} {Q:Xb9}
theorem Xrm {listed:Array Bool} {i:Nat} (hi:i < listed.size) (j:Nat):(listed.setIfInBounds i true).getD j false=if j=i then true else listed.getD j false:=by
 by_cases e:j=i
 ·subst e;simp [hi]
 ·rw [if_neg e,getD_set_ne false (Ne.symm e)]
theorem Xjt {n:Nat} {D:List Nat} {j:Nat} (h:j < n):(XcQ n D).getD j false=!D.contains j:=by
 simp [XcQ,h]
theorem Evl.of_ev {o:Oper} {T1 T2:List AV} {H:List Hp} {e:AV} (h:Evl P o (ev T1) H e) (he:∀t∈looks l o,T2[t]?=T1[t]?):Evl P o (ev T2) H e:=fun V a w Kc Qc r hK=>
 h V a w Kc Qc ⟨r.hok,fun x hx=>by
  have:ev T1 x=ev T2 x:=Xtt fun t ht=>(he t (XqN (ht▸hx))).symm
  rw [this];exact r.ops x hx,r.vlt,r.gw⟩ hK
theorem Xov (ok:XpS l pi L D n0) (hdst:∀(i:Nat) (o:Oper) (d:Nat),l[i]?=some o→o.dst=some d→d < T0.length)
  (hal:∀(i:Nat) (o:Oper),n0=some i→l[i]?=some o→∀(T:List AV) (H:List Hp),Stp P o T H (fun T' H'=>∃b,T'=Xa9 T o.dst (.x (.pointer (some ⟨b,0,none⟩)))∧H'=.box b z :: H))
  {k:Nat} (hk:cnt (fun j=>(XcQ l.length D).getD j false) l.length=k) (Δ:List Deferred) (V O:Nat→Prop) (w0:World) :
  ∀(fuel:Nat) (listed:Array Bool) (a:Act) (w:World) (pd rest:List Nat) (es:Nat→AV) (T:List AV) (H eb:List Hp),
   listed.size=l.length→(∀(j:Nat) (q:Oper),l[j]?=some q→listed.getD j false=true→∀e∈q.after,listed.getD e.on false=true)→cnt (fun j=>listed.getD j false) l.length=fuel →
   DI P B l L pi T0 pd rest es T→dm P B l L rest T H (Xml P B l D n0 z Q k)→(rest=[]∨∃i r,rest=i :: r∧i∈L) →
   (∀j∈rest,listed.getD j false=false)→(∀j∈D,listed.getD j false=false)→(∀j∈pd,j∈L→listed.getD j false=true) →
   (∀i,n0=some i→(listed.getD i false=true→∃b,eb=[.box b z]∧es i=.x (.pointer (some ⟨b,0,none⟩)))∧(listed.getD i false=false→eb=[]))→(n0=none→eb=[]) →
   Rel Δ V O w0 (B++(eb++H)) (XcB l es T0 (fun j=>listed.getD j false) l.length) a w→wpAny P .any l.toArray (Xe9 Δ V O w0 Q) fuel listed a w:=by
 -- all but D have come up
 have atEnd:∀(fuel:Nat) (listed:Array Bool) (a:Act) (w:World) (pd rest:List Nat) (es:Nat→AV) (T:List AV) (H eb:List Hp),
   listed.size=l.length→cnt (fun j=>listed.getD j false) l.length=fuel →
   DI P B l L pi T0 pd rest es T→dm P B l L rest T H (Xml P B l D n0 z Q k) →
   (∀j∈rest,listed.getD j false=false)→(∀j∈D,listed.getD j false=false) →
   (∀i,n0=some i→(listed.getD i false=true→∃b,eb=[.box b z]∧es i=.x (.pointer (some ⟨b,0,none⟩)))∧(listed.getD i false=false→eb=[]))→(n0=none→eb=[]) →
   Rel Δ V O w0 (B++(eb++H)) (XcB l es T0 (fun j=>listed.getD j false) l.length) a w→(∀j,j < l.length→j ∉ D→listed.getD j false=true)→wpAny P .any l.toArray (Xe9 Δ V O w0 Q) fuel listed a w:=by
  intro fuel listed a w pd rest es T H eb hsz hcnt hDI hd hru hDu hn1 hn2 hrel hall
  have hrest:rest=[]:=by
   cases rest with
   | nil=>rfl
   | cons i r=>
     have hip:=ok.inpi i (by rw [hDI.split];simp)
     have:=hall i hip.1 hip.2.1
     rw [hru i (by simp)] at this;cases this
  subst hrest
  have hpi:pi=pd:=by rw [hDI.split,List.append_nil]
  have hget:∀j,j < l.length→listed.getD j false=!D.contains j:=fun j hj=>by
   by_cases hjD:j∈D
   ·rw [hDu j hjD];simp [hjD]
   ·rw [hall j hj hjD];simp [hjD]
  have hlist:listed=XcQ l.length D:=by
   apply Array.ext
   ·simp [XcQ,hsz]
   ·intro j h1 h2
    have e1:=hget j (by omega)
    have e2:=Xjt (D:=D) (show j < l.length by omega)
    simp [Array.getD,h1] at e1
    simp [Array.getD,h2] at e2
    rw [e1,e2]
  have hfk:fuel=k:=by rw [←hcnt,hlist,hk]
  subst hfk
  simp only [dm] at hd
  cases hn:n0 with
  | none=>
    have:=hn2 hn
    subst this
    rw [hn] at hd
    simp only [Xml] at hd
    rw [hlist]
    refine hd Δ V O w0 a w ?_
    rw [Xyy] at hrel
    have e:XcB l es T0 (fun j=>listed.getD j false) l.length=T:=by
     rw [hDI.eq]
     refine Xgv _ _ _ _ _ _ fun j hj=>?_
     rw [hget j hj]
     rcases ok.cover j hj with h|h|h
     ·have:=(ok.inpi j h).2.1
      rw [hpi] at h;simp [h,this]
     ·have:j ∉ pd:=fun hp=>(ok.inpi j (hpi▸hp)).2.1 h
      simp [h,this]
     ·rw [hn] at h;cases h
    rw [e] at hrel;exact hrel
  | some i=>
    obtain ⟨o,ho,-,-⟩:=ok.alloc i hn
    have hil:=(List.getElem?_eq_some_iff.1 ho).1
    have hiD:i ∉ D:=fun h=>(ok.dlt i h).2 hn
    obtain ⟨b,rfl,hb⟩:=(hn1 i hn).1 (hall i hil hiD)
    rw [hn] at hd
    simp only [Xml] at hd
    rw [hlist]
    refine hd b Δ V O w0 a w ?_
    have hip:i ∉ pd:=fun hp=>(ok.inpi i (hpi▸hp)).2.2 hn
    have e:XcB l es T0 (fun j=>listed.getD j false) l.length=Xa9 T ((Xc3 l i).bind (·.dst)) (.x (.pointer (some ⟨b,0,none⟩))):=by
     rw [Xbz,ho,hDI.eq,←hb]
     refine ((Xgw ok.reg es T0 (fun j=>pd.contains j) (fun j=>pd.contains j || j == i) i o ho (by simpa using hip) (by simp) (fun j hj=>by simp [hj])).trans ?_).symm
     refine Xgv _ _ _ _ _ _ fun j hj=>?_
     rw [hget j hj]
     rcases ok.cover j hj with h|h|h
     ·have:=(ok.inpi j h).2.1
      rw [hpi] at h;simp [h,this]
     ·have h1:j ∉ pd:=fun hp=>(ok.inpi j (hpi▸hp)).2.1 h
      have h2:j≠i:=fun e=>hiD (e▸h)
      simp [h,h1,h2]
     ·rw [hn] at h;cases h;simp [hiD]
    rw [e] at hrel;exact hrel
 intro fuel
 induction fuel with
 | zero=>
   intro listed a w pd rest es T H eb hsz hcl hcnt hDI hd hhead hru hDu hLo hn1 hn2 hrel
   exact atEnd 0 listed a w pd rest es T H eb hsz hcnt hDI hd hru hDu hn1 hn2 hrel fun j hj _=>XfQ _ _ hcnt j hj
 | succ fuel ih=>
   intro listed a w pd rest es T H eb hsz hcl hcnt hDI hd hhead hru hDu hLo hn1 hn2 hrel
   by_cases hall:∀j,j < l.length→j ∉ D→listed.getD j false=true
   ·exact atEnd (fuel+1) listed a w pd rest es T H eb hsz hcnt hDI hd hru hDu hn1 hn2 hrel hall
   refine ⟨fun hnil=>absurd (fun j hj _=>Xo2 ok.reg hsz hnil j hj) hall,fun i hi=>?_⟩
   obtain ⟨hi0,o,ho',haf⟩:=mem_ready.1 hi
   have ho:l[i]?=some o:=by simpa using ho'
   have hil:=(List.getElem?_eq_some_iff.1 ho).1
   have hiS:listed.getD i false=false:=by
    have hi':i < listed.size:=by omega
    simp [Array.getD,hi'] at hi0 ⊢;exact hi0
   have haf':∀e∈o.after,listed.getD e.on false=true:=fun e he=>haf e he (ok.reg.after i o ho e he).1
   have hiD:i ∉ D:=fun h=>hall fun j hj hjD=>Xkk hcl l.length i j o ho haf' ((ok.dall i h j hj).resolve_left hjD)
   -- what is so behind this operation,whatever it is
   have hset:=Xrm (listed:=listed) (i:=i) (by omega)
   have hcl':∀(j:Nat) (q:Oper),l[j]?=some q→(listed.setIfInBounds i true).getD j false=true→∀e∈q.after,(listed.setIfInBounds i true).getD e.on false=true:=by
    intro j q hj hs e he
    rw [hset] at hs ⊢
    split
    ·rfl
    ·split at hs
     ·rename_i e1;subst e1;rw [ho] at hj;cases hj;exact haf' e he
     ·exact hcl j q hj hs e he
   have hcnt':cnt (fun j=>(listed.setIfInBounds i true).getD j false) l.length=fuel:=by
    have:=XnK (fun j=>listed.getD j false) (fun j=>(listed.setIfInBounds i true).getD j false) i hiS (by rw [hset];simp) (fun j hj=>by rw [hset];simp [hj]) l.length hil
    omega
   have hDu':∀j∈D,(listed.setIfInBounds i true).getD j false=false:=fun j hj=>by
    rw [hset,if_neg (by rintro rfl;exact hiD hj)];exact hDu j hj
   have hsz':(listed.setIfInBounds i true).size=l.length:=by simpa using hsz
   have hwant:∀{g:Option (Nat × Bool)},o.guard=none→Region.wanted o (yielded l.toArray a.tmps)=true:=fun hg=>by simp [Region.wanted,hg]
   have hput:∀es':Nat→AV,Xa9 (XcB l es' T0 (fun j=>listed.getD j false) l.length) o.dst (es' i)=XcB l es' T0 (fun j=>(listed.setIfInBounds i true).getD j false) l.length:=fun es'=>
    Xgw ok.reg es' T0 _ _ i o ho hiS (by rw [hset];simp) (fun j hj=>by rw [hset];simp [hj])
   unfold wpOp
   simp only [ho']
   rcases ok.cover i hil with hip|h|hin
   case inr.inl=>exact absurd h hiD
   case inr.inr=>
    -- the alloc
    obtain ⟨o',ho2,-,hg⟩:=ok.alloc i hin
    rw [ho] at ho2;cases ho2
    rw [if_pos (hwant (g:=none) hg)]
    have heb:=(hn1 i hin).2 hiS
    subst heb
    refine .inl (hal i o hin ho _ _ Δ V O w0 a w _ _ hrel ?_)
    rintro T' H' a' w' ⟨b,rfl,rfl⟩ r'
    have hes:∀j,j≠i→upd es i (.x (.pointer (some ⟨b,0,none⟩))) j=es j:=fun j hj=>by unfold upd;rw [if_neg hj]
    have hesi:upd es i (.x (.pointer (some ⟨b,0,none⟩))) i=.x (.pointer (some ⟨b,0,none⟩)):=by simp [upd]
    have hnp:∀j∈pi,j≠i:=fun j hj e=>(ok.inpi j hj).2.2 (e▸hin)
    refine ih (listed.setIfInBounds i true) a' w' pd rest (upd es i (.x (.pointer (some ⟨b,0,none⟩)))) T H [.box b z] hsz' hcl' hcnt' (hDI.es fun j hj=>hes j (hnp j (by rw [hDI.split];simp [hj]))) hd hhead
     (fun j hj=>by rw [hset,if_neg (hnp j (by rw [hDI.split];simp [hj]))];exact hru j hj) hDu' (fun j hj hL=>by rw [hset];split;rfl;exact hLo j hj hL)
     (fun i' hi'=>?_) (fun h=>by rw [hin] at h;cases h) ?_
    ·rw [hin] at hi';cases hi'
     exact ⟨fun _=>⟨b,rfl,hesi⟩,fun h=>by rw [hset] at h;simp at h⟩
    ·rw [←hput,hesi,Xdo l (upd es i (.x (.pointer (some ⟨b,0,none⟩)))) es T0 _ _ fun j _ hj=>hes j (fun e=>by subst e;rw [hiS] at hj;cases hj)]
     exact r'.perm (by simpa using (XyB (l₁:=B) (l₂:=H) (a:=Hp.box b z)).symm)
   case inl=>
    have hn0i:∀i',n0=some i'→i'≠i:=fun i' hi' e=>(ok.inpi i hip).2.2 (e▸hi')
    rw [hDI.split] at hip
    rcases List.mem_append.1 hip with hpd|hre
    ·-- a quiet one
     obtain ⟨m,hm⟩:=List.mem_iff_getElem?.1 hpd
     have hiL:i ∉ L:=fun hL=>by have:=hLo i hpd hL;rw [hiS] at this;cases this
     have hmp:pi[m]?=some i:=by rw [hDI.split,List.getElem?_append_left (List.getElem?_eq_some_iff.1 hm).1];exact hm
     obtain ⟨o',ho2,hg,hpre,-⟩:=ok.ops m i hmp
     rw [ho] at ho2;cases ho2
     have htk:pi.take m=pd.take m:=by rw [hDI.split,List.take_append_of_le_length (Nat.le_of_lt (List.getElem?_eq_some_iff.1 hm).1)]
     rw [htk] at hpre
     have hE:=hDI.quiet m i o hm hiL ho (eb++H)
     have hnm:i ∉ pd.take m:=fun h=>by
      have hn:=ok.nodup
      rw [hDI.split] at hn
      have hn:=(List.nodup_append.1 hn).1
      obtain ⟨m2,h2⟩:=List.mem_iff_getElem?.1 h
      rw [List.getElem?_take] at h2
      split at h2
      ·rename_i hlt
       have:=(List.getElem?_inj (List.getElem?_eq_some_iff.1 h2).1 hn).1 (h2.trans hm.symm)
       omega
      ·cases h2
     have hE2:Evl P o (ev (XcB l es T0 (fun j=>listed.getD j false) l.length)) (B++(eb++H)) (es i):=hE.of_ev (l:=l) fun t ht=>
      Xor ok.reg es T0 _ _ i o ho hiS (by simpa using hnm) haf' (fun e he=>by simpa using hpre e he) (fun j q hj hs e he e'=>by
       have:=hcl j q hj hs e he
       rw [e',hiS] at this;cases this) (fun j q hj hs e he e'=>by
       have hs':j∈pd.take m:=by simpa using hs
       obtain ⟨m2,h2⟩:=List.mem_iff_getElem?.1 hs'
       rw [List.getElem?_take] at h2
       split at h2
       ·rename_i hlt
        have h2p:pi[m2]?=some j:=by rw [hDI.split,List.getElem?_append_left (List.getElem?_eq_some_iff.1 h2).1];exact h2
        obtain ⟨q',hq',-,hpq,-⟩:=ok.ops m2 j h2p
        rw [hj] at hq';cases hq'
        have:=hpq e he
        rw [e'] at this
        exact hnm (by rw [←htk];exact (List.take_subset_take_left pi (Nat.le_of_lt hlt)) this)
       ·cases h2) t ht
     rw [if_pos (hwant (g:=none) hg)]
     refine .inl (hE2 V a w _ _ (hrel.oks o) fun v w' he hdv=>?_)
     refine ih (listed.setIfInBounds i true) _ w' pd rest es T H eb hsz' hcl' hcnt' hDI hd hhead (fun j hj=>?_) hDu' (fun j hj hL=>by rw [hset];split;rfl;exact hLo j hj hL) (fun i' hi'=>?_) hn2 ?_
     ·rw [hset,if_neg,hru j hj]
      rintro rfl
      have hn:=ok.nodup
      rw [hDI.split] at hn
      exact (List.nodup_append.1 hn).2.2 j hpd j hj rfl
     ·rw [hset,if_neg (hn0i i' hi')];exact hn1 i' hi'
     ·rw [←hput];exact (hrel.quiet he).put _ hdv
    ·-- one still to come: the next loud one
     obtain ⟨h,r,rfl,hL⟩:=hhead.resolve_left (fun e=>by subst e;cases hre)
     have hih:i=h:=by
      rcases List.mem_cons.1 hre with e|hir
      ·exact e
      ·exfalso
       obtain ⟨m,hm⟩:=List.mem_iff_getElem?.1 hir
       have hmp:pi[pd.length+1+m]?=some i:=by
        rw [hDI.split,List.getElem?_append_right (by omega),show pd.length+1+m - pd.length=m+1 by omega];exact hm
       obtain ⟨o',ho2,-,-,hq⟩:=ok.ops _ i hmp
       rw [ho] at ho2;cases ho2
       have hhin:h∈pi.take (pd.length+1+m):=by
        rw [hDI.split,List.take_append,List.take_of_length_le (by omega),show pd.length+1+m - pd.length=m+1 by omega]
        simp
       have:=Xkk hcl l.length i h o ho haf' (hq h hhin hL)
       rw [hru h (by simp)] at this;cases this
     subst hih
     obtain ⟨o',ho2,hd2⟩:=hd
     rw [Xbz,ho] at ho2;cases ho2
     have hLc:L.contains i=true:=by simpa using hL
     rcases hd2 with ⟨hLf,-⟩|⟨-,hst⟩
     ·rw [hLc] at hLf;cases hLf
     have hmp:pi[pd.length]?=some i:=by rw [hDI.split,List.getElem?_append_right (Nat.le_refl _)];simp
     obtain ⟨o',ho2,hg,hpre,-⟩:=ok.ops _ i hmp
     rw [ho] at ho2;cases ho2
     have htk:pi.take pd.length=pd:=by rw [hDI.split,List.take_left' rfl]
     rw [htk] at hpre
     have hnp:i ∉ pd:=fun h=>by
      have hn:=ok.nodup
      rw [hDI.split] at hn
      exact (List.nodup_append.1 hn).2.2 i h i (by simp) rfl
     rw [if_pos (hwant (g:=none) hg)]
     rw [←List.append_assoc] at hrel
     refine .inl (XmP hst (by rw [Xco,hDI.eq,Xco]) (fun t ht=>?_) (fun d hd=>by rw [hDI.eq,Xco];exact hdst i o d ho hd) hrel _ _ fun e H' v w' hm hr'=>?_)
     ·rw [hDI.eq]
      exact Xor ok.reg es T0 _ _ i o ho hiS (by simpa using hnp) haf' (fun e he=>by simpa using hpre e he) (fun j q hj hs e he e'=>by
       have:=hcl j q hj hs e he
       rw [e',hiS] at this;cases this) (fun j q hj hs e he e'=>by
       have hs':j∈pd:=by simpa using hs
       obtain ⟨m2,h2⟩:=List.mem_iff_getElem?.1 hs'
       have h2p:pi[m2]?=some j:=by rw [hDI.split,List.getElem?_append_left (List.getElem?_eq_some_iff.1 h2).1];exact h2
       obtain ⟨q',hq',-,hpq,-⟩:=ok.ops m2 j h2p
       rw [hj] at hq';cases hq'
       have:=hpq e he
       rw [e',hDI.split,List.take_append_of_le_length (Nat.le_of_lt (List.getElem?_eq_some_iff.1 h2).1)] at this
       exact hnp (List.mem_of_mem_take this)) t (by simpa using ht)
     ·have hp1:=hDI.push ok ho e (fun hn=>absurd hL hn)
      obtain ⟨q,rest',es',T',g1,g2,g3,g4,g5,g6⟩:=XkM ok r (pd++[i]) (upd es i e) (Xa9 T o.dst e) H' hp1 hm
      have hnd:=ok.nodup
      rw [hDI.split] at hnd
      have hnr:=List.nodup_append.1 hnd
      have hri:i ∉ r:=(List.nodup_cons.1 hnr.2.1).1
      have hes:∀j,j ∉ q→j≠i→es' j=es j:=fun j hj hji=>by rw [g5 j hj];unfold upd;rw [if_neg hji]
      have hesi:es' i=e:=by rw [g5 i (fun h=>hri (by rw [g1];simp [h]))];simp [upd]
      have hrr:∀j∈r,(listed.setIfInBounds i true).getD j false=false:=fun j hj=>by
       rw [hset,if_neg (by rintro rfl;exact hri hj)];exact hru j (by simp [hj])
      have hqp:∀j∈q,j∈pi:=fun j hj=>by rw [hDI.split,g1];simp [hj]
      refine ih (listed.setIfInBounds i true) _ w' (pd++[i]++q) rest' es' T' H' eb hsz' hcl' hcnt' g2 g3 g4 (fun j hj=>hrr j (by rw [g1];simp [hj])) hDu' (fun j hj hjL=>?_) (fun i' hi'=>?_) hn2 ?_
      ·rw [hset]
       split
       ·rfl
       ·rename_i hji
        rcases List.mem_append.1 hj with hj|hj
        ·rcases List.mem_append.1 hj with hj|hj
         ·exact hLo j hj hjL
         ·simp at hj;exact absurd hj hji
        ·exact absurd hjL (g6 j hj)
      ·have h1:=hn0i i' hi'
       have h2:i' ∉ q:=fun h=>(ok.inpi i' (hqp i' h)).2.2 hi'
       rw [hset,if_neg h1,hes i' h2 h1];exact hn1 i' hi'
      ·rw [←List.append_assoc,←hput,hesi,Xdo l es' es T0 _ _ fun j _ hj=>?_]
       ·exact hr'
       ·have h1:j≠i:=by rintro rfl;rw [hiS] at hj;cases hj
        refine hes j (fun h=>?_) h1
        rw [hru j (by rw [g1];simp [h])] at hj;cases hj
theorem Xeq {id:Nat} {T:List AV} {H R:List Hp} (hm:P.follows .mixedOrders=true) (pi L D:List Nat) (n0:Option Nat) (z:List AV) (k:Nat) (hp:H.Perm (B++R)) (hok:Xou l pi L D n0=true) (hd:(l.all fun o=>match o.dst with|some d=>decide (d < T.length)|none=>true)=true)
  (hal:∀(i:Nat) (o:Oper),n0=some i→Xc3 l i=some o→∀(T:List AV) (H:List Hp),Stp P o T H (fun T' H'=>∃b,T'=Xa9 T o.dst (.x (.pointer (some ⟨b,0,none⟩)))∧H'=.box b z :: H))
  (hk:cnt (fun j=>(XcQ l.length D).getD j false) l.length=k) (h:dm P B l L pi T R (Xml P B l D n0 z Q k)):awp P (.region id l.toArray true) Q T H:=by
 have ok:=Xk8 hok
 refine Xbu hm fun Δ V O w0 a w r=>?_
 obtain ⟨q,rest',es',T',g1,g2,g3,g4,g5,g6⟩:=XkM ok pi [] (fun _=>.top) T R ⟨rfl,by
  rw [Xgv l _ T _ (fun _=>false) _ fun j _=>by simp]
  have:∀k,XcB l (fun _=>.top) T (fun _=>false) k=T:=fun k=>by
   induction k with
   | zero=>rfl
   | succ k ih=>simp [XcB,ih]
  rw [this],fun k i o hk=>by simp at hk⟩ h
 have hgd:∀j,(Array.replicate l.length false).getD j false=false:=fun j=>by
  by_cases hj:j < l.length<;>simp [hj]
 refine Xov ok (fun i o d ho hod=>?_) (fun i o hi ho=>hal i o hi (by rw [Xbz];exact ho)) hk Δ V O w0 l.length _ a w q rest' es' T' R [] (by simp) (fun j q hj hs=>by rw [hgd] at hs;cases hs) ?_ (by simpa using g2) g3 g4 (fun j _=>hgd j) (fun j _=>hgd j) (fun j hj hL=>absurd hL (g6 j hj)) (fun i _=>⟨fun h=>(by rw [hgd] at h;cases h),fun _=>rfl⟩) (fun _=>rfl) ?_
 ·rw [List.all_eq_true] at hd
  have:=hd o (List.mem_of_getElem? ho)
  rw [hod] at this
  simpa using this
 ·rw [Xql _ (fun _=>false) _ fun j _=>hgd j]
  have:∀k,cnt (fun _=>false) k=k:=fun k=>by
   induction k with
   | zero=>rfl
   | succ k ih=>simp [cnt,ih]
  exact this _
 ·rw [Xgv l es' T _ (fun _=>false) _ fun j _=>hgd j]
  have:∀k,XcB l es' T (fun _=>false) k=T:=fun k=>by
   induction k with
   | zero=>rfl
   | succ k ih=>simp [XcB,ih]
  rw [this]
  simpa using r.perm hp
end
open Go.RowKit
section
variable {P:Program} {H:List Hp} {o:Oper} {ρ:Operand→AV}
theorem Xil (t e:TypeId) (len:Nat) (parts:Array (Nat × Operand)) (z:Value) (size bytes:Nat) (cells:List AV) (ho:o.op=.buildSlice t len parts) (hE:Xee P t e z size bytes)
  (hone:(parts.toList.all fun p=>(ρ p.2).cells.all AV.one)=true) (hz1:z.cells.toList.all (·.oneCell')=true) (hlen:len*size≤16777216)
  (hb:XfG (fun i=>some (i*size,size)) ((List.replicate len (z.cells.toList.map .x)).flatten) (parts.toList.map fun p=>(p.1,ρ p.2))=some cells):Evl P o ρ H (.sq len cells):=by
 intro V a w Kc Q r hKc
 obtain ⟨i,hi,hz,hsize,hby⟩:=info_parts hE.info
 have hpos:=hE.pos
 have hzs:=hE.zs
 -- the zeros
 have hz2:z.cells.toList.length=size:=by rw [Array.length_toList];exact hzs
 have hzeros:((Array.range (len*size)).map (z.cells[· % z.cells.size]!)).toList=(List.replicate len z.cells.toList).flatten:=by
  apply List.ext_getElem?
  intro j
  simp only [Array.toList_map,Array.toList_range,List.getElem?_map]
  by_cases hj:j < len*size
  ·rw [List.getElem?_range hj]
   have hmod:j % size < size:=Nat.mod_lt _ hpos
   have key:∀(n:Nat) (j:Nat),j < n*size→((List.replicate n z.cells.toList).flatten)[j]?=z.cells.toList[j % size]?:=by
    intro n
    induction n with
    | zero=>intro j h;simp at h
    | succ n ih=>
      intro j h
      rw [Xyv,List.flatten_cons]
      by_cases h1:j < size
      ·rw [List.getElem?_append_left (by simp;omega),Nat.mod_eq_of_lt h1]
      ·rw [List.getElem?_append_right (by simp;omega),Array.length_toList,hzs,ih (j - size) (by rw [Nat.succ_mul] at h;omega),Nat.mod_eq_sub_mod (Nat.le_of_not_lt h1)]
   rw [key len j hj]
   simp [hzs,getElem!_pos,hmod]
  ·rw [List.getElem?_eq_none (by simpa using hj),List.getElem?_eq_none (by simp [hzs];omega)];rfl
 obtain ⟨vr,hf,hd⟩:=XfP (F:=FB V H) (w:=w) _ _ _ ((Array.range (len*size)).map (z.cells[· % z.cells.size]!)) cells hb (by
  rw [hzeros]
  have:(List.replicate len (z.cells.toList.map AV.x)).flatten=((List.replicate len z.cells.toList).flatten).map AV.x:=by
   rw [List.map_flatten,List.map_replicate]
  rw [this];exact DenL.exact) (XgC parts (fun p hp=>by simp [ho,Op.operands];exact ⟨p.1,by simpa using hp⟩) r (fun p hp=>List.all_eq_true.1 hone p (by simpa using hp)))
 have hrun:(execOp a.eval o).run P w=.ok (.value (.slice (some ⟨w.heap.size,0,none⟩) len len)) (w.alloc (.cells vr e)):=by
  have h24:¬(len*i.size > 16777216):=by rw [hsize];omega
  by_cases h0:len*i.size=0
  ·have hf':Instr.fill (fun j=>some (j*i.size,i.size)) #[] (parts.map fun (i,x)=>(i,a.eval x)).toList=some vr:=by
    rw [hsize] at h0 ⊢;rw [←hf,h0];simp [Array.range]
   have hl0:len=0:=by
    rw [hsize] at h0
    rcases Nat.mul_eq_zero.1 h0 with h|h
    ·exact h
    ·omega
   subst hl0
   have hf2:Instr.fill (fun j=>some (j*i.size,i.size)) #[] (List.map (fun x=>(x.1,a.eval x.2)) parts.toList)=some vr:=by rw [←hf',Array.toList_map]
   simp [execOp,ho,Instr.buildSlice,run_underlying hE.under,sizeOf,typeInfo,hi,newRow,show Array.range 0=#[] from rfl,hf2]
  ·have hf':Instr.fill (fun j=>some (j*i.size,i.size)) (Array.map (fun x=>z.cells[x % z.cells.size]!) (Array.range (len*i.size))) (parts.map fun (i,x)=>(i,a.eval x)).toList=some vr:=by
    rw [hsize];exact hf
   simp [execOp,ho,Instr.buildSlice,run_underlying hE.under,sizeOf,typeInfo,hi,h0,h24,zeroValue,hz,newRow] at hf' ⊢
   simp [hf']
 have hvlen:vr.size=len*size:=by
  have h1:=hd.len
  have:∀(ps:List (Nat × AV)) (cs r:List AV),XfG (fun i=>some (i*size,size)) cs ps=some r→r.length=cs.length:=by
   intro ps
   induction ps with
   | nil=>intro cs r h;simp only [XfG] at h;cases h;rfl
   | cons p ps ih=>
     intro cs r h
     obtain ⟨i,v⟩:=p
     simp only [XfG] at h
     split at h
     ·cases h
     ·rename_i hn
      rw [ih _ _ h]
      simp [spl];omega
  have h2:=this _ _ _ hb
  rw [Array.length_toList] at h1
  rw [h1,h2];simp [hzs]
 unfold Oper.wp
 rw [hrun]
 have hE':Ext w (w.alloc (.cells vr e)):=Ext.al _ _
 have hones:cells.all AV.one=true:=by
  have:∀(ps:List (Nat × AV)) (cs r:List AV),(ps.all fun p=>p.2.cells.all AV.one)=true→cs.all AV.one=true→XfG (fun i=>some (i*size,size)) cs ps=some r→r.all AV.one=true:=by
   intro ps
   induction ps with
   | nil=>intro cs r _ hc h;simp only [XfG] at h;cases h;exact hc
   | cons p ps ih=>
     intro cs r hp hc h
     obtain ⟨i,v⟩:=p
     simp only [XfG] at h
     simp only [List.all_cons,Bool.and_eq_true] at hp
     split at h
     ·cases h
     ·refine ih _ _ hp.2 ?_ h
      simp only [spl,List.all_append,Bool.and_eq_true]
      exact ⟨⟨List.all_eq_true.2 fun x hx=>List.all_eq_true.1 hc x (List.mem_of_mem_take hx),hp.1⟩,List.all_eq_true.2 fun x hx=>List.all_eq_true.1 hc x (List.mem_of_mem_drop hx)⟩
  refine this _ _ _ ?_ ?_ hb
  ·rw [List.all_map];exact hone
  ·rw [List.all_eq_true]
   intro x hx
   obtain ⟨l,hl,hx⟩:=List.mem_flatten.1 hx
   rw [List.eq_of_mem_replicate hl] at hx
   obtain ⟨v,hv,rfl⟩:=List.mem_map.1 hx
   exact List.all_eq_true.1 hz1 v hv
 have hF:∀k,FB V H k→k < w.heap.size:=fun k hk=>by
  rcases hk with hk|⟨x,hx,e⟩
  ·exact r.vlt k hk
  ·exact (r.hok.lt x hx k e).1
 refine hKc _ _ hE' ?_
 rw [Den]
 refine ⟨_,_,vr.toList,rfl,Nat.le_refl _,by unfold maxLen;have:len≤len*size:=Nat.le_mul_of_pos_right _ hpos;omega,fun h=>(by cases h),.inr ⟨_,_,rfl,fun hk=>by have:=hF _ hk;omega,fun j u hj=>⟨?_,hd.one hones u (List.mem_of_getElem? hj)⟩⟩,DenL.conv (fun k hk=>.inl hk) (fun k hk _=>hE'.block k hk) _ _ hd⟩
 rw [Nat.zero_add,World.cell?_alloc_new];simpa using hj
theorem XjS {P:Program} {B:List Hp} {l:List Oper} {L D:List Nat} {i:Nat} {z:List AV} {Q:Xb9} {k:Nat} {T:List AV} {H:List Hp} (h:∀b,Xfd P l.toArray Q k (XcQ l.length D) (Xa9 T ((Xc3 l i).bind (·.dst)) (.x (.pointer (some ⟨b,0,none⟩)))) (B++(.box b z :: H))):dm P B l L [] T H (Xml P B l D (some i) z Q k):=h
theorem XjR {P:Program} {B:List Hp} {l:List Oper} {L D:List Nat} {z:List AV} {Q:Xb9} {k:Nat} {T:List AV} {H:List Hp} (h:Xfd P l.toArray Q k (XcQ l.length D) T (B++H)):dm P B l L [] T H (Xml P B l D none z Q k):=h
theorem XeU {l:List Oper} {n:Nat} {t:TypeId} {o':Oper} {d:Nat} (ho':Xc3 l n=some o') (hop:o'.op=.alloc t) (hd:o'.dst=some d) {zv:Value} (hz:(P.info? t).bind (·.zero)=some zv) (h1:zv.cells.toList.all (·.oneCell')=true) {z:List AV} (hzz:zv.cells.toList.map AV.x=z) :
  ∀(i:Nat) (o:Oper),some n=some i→Xc3 l i=some o→∀(T:List AV) (H:List Hp),Stp P o T H (fun T' H'=>∃b,T'=Xa9 T o.dst (.x (.pointer (some ⟨b,0,none⟩)))∧H'=.box b z :: H):=by
 intro i o hi ho T H
 cases hi
 rw [ho'] at ho;cases ho
 subst hzz
 exact Xbf t zv hop hz h1 fun b=>⟨b,rfl,rfl⟩
end
open Go.RowKit
section
variable {P:Program} {H:List Hp} {o:Oper} {ρ:Operand→AV} {T:List AV} {K:List AV→List Hp→Prop}
theorem XkQ:∀(l:List (Nat × AV)) (done zs:List AV),l.map (·.1)=List.range' done.length l.length→zs.length=l.length→(l.all fun p=>p.2.one)=true→XfG (fun i=>some (i*1,1)) (done++zs) l=some (done++l.map (·.2))
 | [],done,zs,_,hz,_=>by
   have:zs=[]:=List.eq_nil_of_length_eq_zero (by simpa using hz)
   subst this;rfl
 | (i,v) :: l,done,zs,hi,hz,h1=>by
   simp only [Xyt,Xyr,List.range'_succ,List.cons.injEq] at hi
   obtain ⟨rfl,hi⟩:=hi
   simp only [List.all_cons,Bool.and_eq_true] at h1
   cases zs with
   | nil=>simp at hz
   | cons z zs=>
     have hc:=Xd1 h1.1
     rw [XfG]
     simp only [hc,Xyr,Xyu,Nat.mul_one]
     rw [if_neg (by simp),Xpm _ _ _ (by simp)]
     have:(done++z :: zs).set done.length v=(done++[v])++zs:=by
      rw [List.set_append_right _ _ (Nat.le_refl _)];simp
     rw [this]
     have:=XkQ l (done++[v]) zs (by rw [hi];simp) (by simpa using hz) h1.2
     simp only [Nat.mul_one] at this ⊢
     rw [this];simp
theorem Xqg {len:Nat} {z:Value} {parts:List (Nat × Operand)} (hz:z.cells.toList.length=1) (hi:parts.map (·.1)=List.range len) (h1:(parts.all fun p=>(ρ p.2).one)=true):XfG (fun i=>some (i*1,1)) ((List.replicate len (z.cells.toList.map .x)).flatten) (parts.map fun p=>(p.1,ρ p.2))=some (parts.map fun p=>ρ p.2):=by
 have hlen:parts.length=len:=by have:=congrArg List.length hi;simpa using this
 have:=XkQ (parts.map fun p=>(p.1,ρ p.2)) [] ((List.replicate len (z.cells.toList.map .x)).flatten) (by
  rw [List.map_map]
  rw [List.length_map,hlen,Xyu,←List.range_eq_range']
  exact hi) (by
  rw [List.length_map,hlen]
  clear hi h1 hlen
  induction len with
  | zero=>rfl
  | succ n ih=>rw [Xyv,List.flatten_cons,XyA,ih,List.length_map,hz];omega) (by rw [List.all_map];exact h1)
 rw [Xyy] at this
 rw [this,List.map_map];rfl
theorem Xt7 {parts:List (Nat × Operand)} (h1:(parts.all fun p=>(ρ p.2).one)=true):(parts.all fun p=>(ρ p.2).cells.all AV.one)=true:=by
 rw [List.all_eq_true] at h1 ⊢
 intro p hp
 have:=h1 p hp
 rw [Xd1 this];simp [this]
theorem XlP (t e:TypeId) (len:Nat) (parts:Array (Nat × Operand)) (z:Value) (bytes:Nat) (ho:o.op=.buildSlice t len parts) (hE:Xee P t e z 1 bytes)
  (hi:parts.toList.map (·.1)=List.range len) (h1:(parts.toList.all fun p=>(ρ p.2).one)=true) (hz1:z.cells.toList.all (·.oneCell')=true) (hz:z.cells.toList.length=1) (hlen:len≤16777216):Evl P o ρ H (.sq len (parts.toList.map fun p=>ρ p.2)):=
 Xil t e len parts z 1 bytes _ ho hE (Xt7 h1) hz1 (by omega) (Xqg hz hi h1)
end
open Go.RowKit
theorem XiH {P:Program} {B:List Hp} {l:List Oper} {L D:List Nat} {i d:Nat} {z:List AV} {Q:Xb9} {k:Nat} {T:List AV} {H:List Hp} (hd:(Xc3 l i).bind (·.dst)=some d) (h:∀b,Xfd P l.toArray Q k (XcQ l.length D) (T.set d (.x (.pointer (some ⟨b,0,none⟩)))) (B++(.box b z :: H))):dm P B l L [] T H (Xml P B l D (some i) z Q k):=
 XjS fun b=>by rw [hd];exact h b
open Go.RowKit Go.Lib
section
variable {P:Program} {o:Oper} {H:List Hp} {T:List AV} {K:List AV→List Hp→Prop}
end
open Go.RowKit
section
variable {P:Program} {Δ:List Deferred} {V O:Nat→Prop} {w0 w w':World} {B H H' R:List Hp} {T T':List AV} {a a':Act} {o:Oper} {ops:Array Oper} {Q:Xb9} {listed:Array Bool} {fuel:Nat}
def Xhp (wr:World) (R:List Hp) (w:World):Prop:=∀k,k < wr.heap.size→¬Xch R k→w.heap[k]?=wr.heap[k]?
def XrM (P:Program) (ops:Array Oper) (Q:Xb9) (fuel:Nat) (listed:Array Bool) (T:List AV) (H:List Hp):Prop:=
 ∀Δ V O w0 a w,Rel Δ V O w0 H T a w→Xcg P .any ops (Xe9 Δ V O w0 Q) [] (Xhp w H) fuel listed a w
def Xs7 (P:Program) (ops:Array Oper) (Q:Xb9) (R:List Hp) (fuel:Nat) (listed:Array Bool) (T:List AV) (H:List Hp):Prop:=
 ∀Δ V O w0 wr a w,Rel Δ V O w0 H T a w→Xhp wr R w→wr.heap.size≤w.heap.size→(∀h∈H,∀k,h.blk=some k→Xch R k∨wr.heap.size≤k)→Xcg P .any ops (Xe9 Δ V O w0 Q) [] (Xhp wr R) fuel listed a w
theorem Xfe {id:Nat} {l:List Oper} (hm:P.follows .mixedOrders=true) (h:XrM P l.toArray Q l.length (Array.replicate l.length false) T H):awp P (.region id l.toArray true) Q T H:=
 Xbu hm fun Δ V O w0 a w r=>(h Δ V O w0 a w r).any
theorem Xb5 {T':List AV} {H':List Hp} (hT:T=T') (hH:H=H') (h:XrM P ops Q fuel listed T' H'):XrM P ops Q fuel listed T H:=hT▸hH▸h
theorem Xl4 (i:Nat) {o:Oper} {l:List Oper} (hi:Xc3 l i=some o) (hg:o.guard=none) (hc:Xel l.toArray listed i=true) (hpan:∀c T H,¬Q (.panic c) T H) (av:AV)
  (h:∀V a w,OK V H (ev T) o a w→∃v,(∀w',Xhp w H w'→(execOp a.eval o).run P w'=.ok (.value v) w')∧Den (FB V H) w av v) (hK:XrM P l.toArray Q fuel (listed.setIfInBounds i true) (Xa9 T o.dst av) H):XrM P l.toArray Q (fuel+1) listed T H:=by
 have hi:l.toArray[i]?=some o:=by rw [List.getElem?_toArray,←Xbz];exact hi
 intro Δ V O w0 a w r
 obtain ⟨v,hv,hd⟩:=h V a w (r.oks o)
 unfold Xel at hc
 simp only [Bool.and_eq_true] at hc
 exact Xcg.first hi hc.1.1 (fun c a w ⟨T,H,_,hq⟩=>absurd hq (hpan c T H)) (fun j o hj=>by simp at hj) (Region.free_spec hi hc.1.2) (by simpa using hc.2) (.inl ⟨by simp [Region.wanted,hg],hv⟩) (fun _ _ _=>rfl) (hK Δ V O w0 _ w (r.put _ hd))
theorem Xb6 (i:Nat) {o:Oper} {l:List Oper} (hi:Xc3 l i=some o) (hg:o.guard=none) (hc:Xel l.toArray listed i=true) (hpan:∀c T H,¬Q (.panic c) T H) (av:AV) (h:XeE P o (ev T) H av) (hK:XrM P l.toArray Q fuel (listed.setIfInBounds i true) (Xa9 T o.dst av) H):XrM P l.toArray Q (fuel+1) listed T H:=
 Xl4 i hi hg hc hpan av (fun V a w ok=>by obtain ⟨v,hv,hd⟩:=h V a w ok;exact ⟨v,fun w' _=>hv w',hd⟩) hK
theorem XjF {l:List Oper} (h:Xs7 P l.toArray Q H fuel listed T H):XrM P l.toArray Q fuel listed T H:=fun Δ V O w0 a w r=>
 h Δ V O w0 w a w r (fun _ _ _=>rfl) (Nat.le_refl _) fun x hx k hk=>.inl ⟨x,hx,hk⟩
theorem Xf9 (hr:Region.ready .any ops listed=[]) (h:Q .normal T H):Xs7 P ops Q R fuel listed T H:=fun Δ V O w0 wr a w r _ _ _=>by
 cases fuel with
 | zero=>exact ⟨hr,⟨T,H,r,h⟩⟩
 | succ n=>exact ⟨fun _=>⟨T,H,r,h⟩,fun j hj=>by rw [hr] at hj;cases hj⟩
theorem Xjf {j:Nat} (hi:ops[j]?=some o) (hg:o.guard=none) (h:Stp P o T H (Xs7 P ops Q R fuel (listed.setIfInBounds j true))) (Δ:List Deferred) (V O:Nat→Prop) (w0 wr:World) (r:Rel Δ V O w0 H T a w) (hS:Xhp wr R w) (hz:wr.heap.size≤w.heap.size) (hown:∀h∈H,∀k,h.blk=some k→Xch R k∨wr.heap.size≤k) :
  wpOp P ops (Xe9 Δ V O w0 Q) j (fun a' w'=>(([]:List Nat).contains j=false→Xhp wr R w→Xhp wr R w')∧Xcg P .any ops (Xe9 Δ V O w0 Q) [] (Xhp wr R) fuel (listed.setIfInBounds j true) a' w') a w:=by
 unfold wpOp
 simp only [hi]
 rw [if_pos (by simp [Region.wanted,hg])]
 have r0:Rel Δ V O w0 ([]++H) T a w:=r
 refine .inl (h _ _ _ _ a w _ _ r0.aside fun T' H' a' w' hk hr=>?_)
 obtain ⟨r',_⟩:=r0.rejoin hr
 have hS':Xhp wr R w':=fun k hk hn=>by
  refine (hr.fr.block k (Nat.lt_of_lt_of_le hk hz) fun ⟨y,hy,e⟩=>?_).trans (hS k hk hn)
  rcases hown y hy k e with h1|h1
  ·exact hn h1
  ·omega
 refine ⟨fun _ _=>hS',hk Δ V O w0 wr a' w' r' hS' (Nat.le_trans hz hr.fr.size) fun x hx k e=>?_⟩
 rcases hr.own x hx k e with ⟨y,hy,e'⟩|h1
 ·exact hown y hy k e'
 ·exact .inr (Nat.le_trans hz h1)
theorem Xvb (i:Nat) {o:Oper} {l:List Oper} (hr:Region.ready .any l.toArray listed=[i]) (hi:Xc3 l i=some o) (hg:o.guard=none) (h:Stp P o T H (Xs7 P l.toArray Q R fuel (listed.setIfInBounds i true))):Xs7 P l.toArray Q R (fuel+1) listed T H:=fun Δ V O w0 wr a w r hS hz hown=>
 ⟨fun h0=>(by rw [hr] at h0;cases h0),fun j hj=>by
  rw [hr,List.mem_singleton] at hj;subst hj
  exact Xjf (by rw [List.getElem?_toArray,←Xbz];exact hi) hg h Δ V O w0 wr r hS hz hown⟩
end
end Go.Proofs.YtdlblokjfoggpaaGreatDoor

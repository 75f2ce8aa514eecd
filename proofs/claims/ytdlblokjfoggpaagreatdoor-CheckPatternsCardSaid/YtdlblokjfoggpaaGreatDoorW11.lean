import Derived.Test.YtdlblokjfoggpaaGreatDoorW6
import Derived.Maps.Keyed
import Derived.Carry
import Derived.Test.YtdlblokjfoggpaaGreatDoorW10
/- Maps of the call's own, in walks: made, looked up, a new key put in. No program in sight. -/
set_option linter.unusedSimpArgs false
set_option linter.unusedVariables false
set_option maxRecDepth 100000
set_option maxHeartbeats 8000000
namespace Go.Proofs.YtdlblokjfoggpaaGreatDoor
open Go.RowKit
open Go.Maps (Keyed)
open Go.ChangeMaps (setBlock heap_setBlock_same heap_setBlock_other)
section
variable {P:Program} {Δ:List Deferred} {V O:Nat→Prop} {w0 w w':World} {H H' D:List Hp} {T T':List AV} {a:Act} {o:Oper} {K:List AV→List Hp→Prop} {ρ:Operand→AV}
def Xft (P:Program) (k:TypeId) (l:List (Value × Value)):Prop:=∀x∈l,∃q,keyOf P k x.1=some q
def Hit (P:Program) (e:TypeId) (l:List (Value × Value)) (key v:Value) (f:Bool):Prop:=
 (f=true∧(key,v)∈l∧∀y∈l,y.1=key→y.2=v)∨(f=false∧(∀y∈l,y.1≠key)∧(P.info? e).bind (·.zero)=some v)
theorem XhJ {k:TypeId} (Kd:Keyed P k) {es:Array MapEntry} {l:List (Value × Value)} (hes:es.toList.map (fun x=>(x.key,x.val))=l) (hk:Xft P k l) {key:Value} {q:Lit} (hq:keyOf P k key=some q) (w:World) :
  ((Instr.findKey k key es.toList).run P w=.ok none w∧∀y∈l,y.1≠key)∨∃j e,(Instr.findKey k key es.toList).run P w=.ok (some (j,e.val)) w∧es.toList[j]?=some e∧e.key=key∧(key,e.val)∈l:=by
 subst hes
 rcases Kd.find w hq es.toList (fun e he=>hk (e.key,e.val) (List.mem_map.2 ⟨e,he,rfl⟩)) with ⟨h1,h2⟩|⟨j,e,h1,h2,h3⟩
 ·refine .inl ⟨h1,fun y hy=>?_⟩
  obtain ⟨e,he,rfl⟩:=List.mem_map.1 hy
  exact h2 e he
 ·exact .inr ⟨j,e,h1,h2,h3,List.mem_map.2 ⟨e,List.mem_of_getElem? h2,by rw [h3]⟩⟩
theorem XlO (i:Nat) (t:TypeId) (x ix:Operand) (c:Bool) (k e:TypeId) (b:Nat) (l:List (Value × Value)) (key v:Value) (f:Bool) (ho:o.op=.lookup t x ix c) (ht:P.underlying t=some (.map k e))
  (hx:ρ x=.x (.map (some b))) (hi:H[i]?=some (.map b l)) (hkx:ρ ix=.x key) (Kd:Keyed P k) (hk:Xft P k l) (hq:∃q,keyOf P k key=some q) (hh:Hit P e l key v f) :
  Evl P o ρ H (.x (if c then .tuple #[v,.bool f] else v)):=by
 intro V a w Kc Q r hKc
 obtain ⟨es,clock,hb,hes⟩:=r.hp i _ hi
 obtain ⟨q,hq⟩:=hq
 have e1:=r.evx (by simp [ho,Op.operands]) hx
 have e2:=r.evx (by simp [ho,Op.operands]) hkx
 have hrun:(execOp a.eval o).run P w=.ok (.value (if c then .tuple #[v,.bool f] else v)) w:=by
  rcases XhJ Kd hes hk hq w with ⟨h1,h2⟩|⟨j,y,h1,h2,h3,h4⟩
  ·rcases hh with ⟨_,hm,_⟩|⟨rfl,_,hz⟩
   ·exact absurd rfl (h2 _ hm)
   ·obtain ⟨inf,hi1,hz1⟩:=Option.bind_eq_some_iff.1 hz
    simp [execOp,ho,Instr.lookup,run_underlying ht,MapKept.run_getObj_map hb,e1,e2,Kd.check w _ hq,h1,zeroValue,typeInfo,hi1,hz1,Result.andThen]
  ·rcases hh with ⟨rfl,hm,hu⟩|⟨rfl,hn,_⟩
   ·have:=hu _ h4 rfl
    simp [execOp,ho,Instr.lookup,run_underlying ht,MapKept.run_getObj_map hb,e1,e2,Kd.check w _ hq,h1,Result.andThen,←this]
   ·exact absurd rfl (hn _ h4)
 unfold Oper.wp
 rw [hrun]
 exact hKc _ _ (Below.refl _ _) (by rw [Den])
theorem Xjm (t:TypeId) (ho:o.op=.makeMap t none)
  (hK:∀b,K (Xa9 T o.dst (.x (.map (some b)))) (.map b [] :: H)):Stp P o T H K:=by
 intro Δ V O w0 a w Kc Q r hKc
 have hrun:(execOp a.eval o).run P w=.ok (.value (.map (some w.heap.size))) (w.alloc (.map #[] 0)):=by
  have h0:=run_makeMap (P:=P) t w
  simp [execOp,ho,h0,Result.andThen]
 unfold Oper.wp
 rw [hrun]
 refine hKc _ _ _ _ (hK w.heap.size) (Rel.put (Rel.new r (Ext.al _ _) _ ?_ ?_) _ (by rw [Den]))
 ·intro k hk;cases hk;simp
 ·exact ⟨#[],0,(MapKept.heap_alloc w _).1,rfl⟩
theorem XlR (i:Nat) (t:TypeId) (m x y:Operand) (k e:TypeId) (b:Nat) (l:List (Value × Value)) (key v:Value) (ho:o.op=.mapUpdate t m x y) (ht:P.underlying t=some (.map k e))
  (hm:ev T m=.x (.map (some b))) (hi:H[i]?=some (.map b l)) (hx:ev T x=.x key) (hy:ev T y=.x v) (Kd:Keyed P k) (hk:Xft P k l) (hq:∃q,keyOf P k key=some q) (hn:∀y∈l,y.1≠key)
  (hK:K (Xa9 T o.dst (.x undef)) (H.set i (.map b (l++[(key,v)])))):Stp P o T H K:=by
 intro Δ V O w0 a w Kc Q r hKc
 obtain ⟨es,clock,hb,hes⟩:=r.hp i _ hi
 obtain ⟨q,hq⟩:=hq
 have e1:=r.evx hm
 have e2:=r.evx hx
 have e3:=r.evx hy
 have hrun:(execOp a.eval o).run P w=.ok .skip (setBlock w b (.map (es.push ⟨key,v,clock⟩) (clock+1))):=by
  rcases XhJ Kd hes hk hq w with ⟨h1,h2⟩|⟨j,y,h1,h2,h3,h4⟩
  ·simp [execOp,ho,Instr.mapUpdate,run_underlying ht,MapKept.run_getObj_map hb,e1,e2,e3,Kd.check w false hq,h1,MapKept.run_setObj_map _ hb,Result.andThen,setBlock]
  ·exact absurd rfl (hn _ h4)
 have hlt:b < w.heap.size:=(Array.getElem?_eq_some_iff.1 hb).1
 unfold Oper.wp
 rw [hrun]
 have hoth:∀k,k≠b→(setBlock w b (.map (es.push ⟨key,v,clock⟩) (clock+1))).heap[k]?=w.heap[k]?:=fun k hk=>heap_setBlock_other hb _ hk
 refine hKc _ _ _ _ hK (Rel.put (Rel.turnAt (w':=setBlock w b (.map (es.push ⟨key,v,clock⟩) (clock+1))) (y:=.map b (l++[(key,v)])) r i hi rfl rfl rfl (by simp [setBlock]) (fun k _ hk=>hoth k (fun e=>hk (by rw [e];rfl))) (fun k hk=>⟨by cases hk;simpa [setBlock] using hlt,.inl hk⟩) ?_) _ (by rw [Den]))
 exact ⟨_,_,heap_setBlock_same hb _,by simp [hes]⟩
end
open Go.RowKit
open Go.Maps (Keyed)
class XuX (H:List Hp) (b:Nat) (p:outParam Nat) (l:outParam (List (Value × Value))):Prop where out:H[p]?=some (.map b l)
instance {x:Hp} {H:List Hp} {b p:Nat} {l:List (Value × Value)} [h:XuX H b p l]:XuX (x :: H) b (p+1) l:=⟨by simpa using h.out⟩
instance {H:List Hp} {b:Nat} {l:List (Value × Value)}:XuX (.map b l :: H) b 0 l:=⟨rfl⟩
section
variable {P:Program} {Δ:List Deferred} {V O:Nat→Prop} {w0 w w':World} {H H' B:List Hp} {D:List Nat} {T T':List AV} {a:Act} {o:Oper} {l:List Oper} {Q:Xb9} {fuel:Nat} {listed:Array Bool} {K:List AV→List Hp→Prop} {ρ:Operand→AV} {t e k:TypeId} {x ix m y:Operand} {c:Bool} {b p:Nat} {L:List (Value × Value)}
theorem XmC {w:World} {es:Array MapEntry} {clock:Nat} {key v:Value} {f:Bool} {ev0:Operand→Value} (ho:o.op=.lookup t x ix c) (ht:P.underlying t=some (.map k e)) (hb:w.heap[b]?=some (.map es clock)) (hes:es.toList.map (fun x=>(x.key,x.val))=L)
  (e1:ev0 x=.map (some b)) (e2:ev0 ix=key) (Kd:Keyed P k) (hk:Xft P k L) (hq:∃q,keyOf P k key=some q) (hh:Hit P e L key v f):(execOp ev0 o).run P w=.ok (.value (if c then .tuple #[v,.bool f] else v)) w:=by
 obtain ⟨q,hq⟩:=hq
 rcases XhJ Kd hes hk hq w with ⟨h1,h2⟩|⟨j,y,h1,h2,h3,h4⟩
 ·rcases hh with ⟨_,hm,_⟩|⟨rfl,_,hz⟩
  ·exact absurd rfl (h2 _ hm)
  ·obtain ⟨inf,hi1,hz1⟩:=Option.bind_eq_some_iff.1 hz
   simp [execOp,ho,Instr.lookup,run_underlying ht,MapKept.run_getObj_map hb,e1,e2,Kd.check w _ hq,h1,zeroValue,typeInfo,hi1,hz1,Result.andThen]
 ·rcases hh with ⟨rfl,hm,hu⟩|⟨rfl,hn,_⟩
  ·have:=hu _ h4 rfl
   simp [execOp,ho,Instr.lookup,run_underlying ht,MapKept.run_getObj_map hb,e1,e2,Kd.check w _ hq,h1,Result.andThen,←this]
  ·exact absurd rfl (hn _ h4)
theorem Xx8 (i:Nat) (key v:Value) (f:Bool) (Kd:Keyed P k) (hk:Xft P k L) (hq:∃q,keyOf P k key=some q) (hh:Hit P e L key v f) (hK:Xds P l.toArray Q D B fuel (listed.setIfInBounds i true) T' H) (hi:Xc3 l i=some o:=by rfl) (hg:o.guard=none:=by rfl) (hc:XbM l.toArray listed i D=true:=by kernel_rfl) (hpan:∀c T H,¬Q (.panic c) T H:=by intro c T H hp;simp [XbH,XaA,XbP,Xdx] at hp)
  (ho:o.op=.lookup t x ix c:=by rfl) (ht:P.underlying t=some (.map k e):=by kernel_rfl) (hx:ev T x=.x (.map (some b)):=by rfl) (hb:B[p]?=some (.map b L):=by first|exact XuX.out|fail) (hkx:ev T ix=.x key:=by rfl) (hT:Xa9 T o.dst (.x (if c then .tuple #[v,.bool f] else v))=T':=by first|((try simp (disch:=first|assumption|omega) only [wtn,wtf,wx,Nat.reduceAdd,Nat.reduceMul,Nat.reduceSub,↓reduceIte,Nat.reduceEqDiff]);rfl)|fail):Xds P l.toArray Q D B (fuel+1) listed T H:=by
 refine Xff i hi hg hc hpan (.x (if c then .tuple #[v,.bool f] else v)) (fun V wr a w ok hS=>?_) (by rw [hT];exact hK)
 obtain ⟨es,clock,hb1,hes⟩:=ok.hok.ok (.map b L) (List.mem_append_left _ (List.mem_of_getElem? hb))
 have hbk:Xch B b:=⟨_,List.mem_of_getElem? hb,rfl⟩
 refine ⟨_,fun w' hS'=>?_,by rw [Den]⟩
 have hsame:w'.heap[b]?=w.heap[b]?:=(hS' b hbk).trans (hS b hbk).symm
 exact XmC ho ht (by rw [hsame];exact hb1) hes (ok.evx (x:=x) (by simp [ho,Op.operands]) hx) (ok.evx (x:=ix) (by simp [ho,Op.operands]) hkx) Kd hk hq hh
theorem Xyj {key v:Value} (Kd:Keyed P k) (hk:Xft P k L) (hq:∃q,keyOf P k key=some q) (hn:∀y∈L,y.1≠key) (hK:K T' H') (ho:o.op=.mapUpdate t m x y:=by rfl) (ht:P.underlying t=some (.map k e):=by kernel_rfl) (hm:ev T m=.x (.map (some b)):=by rfl) (hi:H[p]?=some (.map b L):=by first|exact XuX.out|fail) (hx:ev T x=.x key:=by rfl) (hy:ev T y=.x v:=by rfl)
  (hT:Xa9 T o.dst (.x undef)=T':=by first|((try simp (disch:=first|assumption|omega) only [wtn,wtf,wx,Nat.reduceAdd,Nat.reduceMul,Nat.reduceSub,↓reduceIte,Nat.reduceEqDiff]);rfl)|fail) (hH:H.set p (.map b (L++[(key,v)]))=H':=by first|((try simp (disch:=first|assumption|omega) only [wtn,wtf,wx,Nat.reduceAdd,Nat.reduceMul,Nat.reduceSub,↓reduceIte,Nat.reduceEqDiff]);rfl)|fail):Stp P o T H K:=XlR p t m x y k e b L key v ho ht hm hi hx hy Kd hk hq hn (by rw [hT,hH];exact hK)
theorem Xxj {key v:Value} {f:Bool} (Kd:Keyed P k) (hk:Xft P k L) (hq:∃q,keyOf P k key=some q) (hh:Hit P e L key v f) (ho:o.op=.lookup t x ix c:=by rfl) (ht:P.underlying t=some (.map k e):=by kernel_rfl) (hx:ρ x=.x (.map (some b)):=by rfl) (hi:H[p]?=some (.map b L):=by first|exact XuX.out|fail) (hkx:ρ ix=.x key:=by rfl):Evl P o ρ H (.x (if c then .tuple #[v,.bool f] else v)):=XlO p t x ix c k e b L key v f ho ht hx hi hkx Kd hk hq hh
end
end Go.Proofs.YtdlblokjfoggpaaGreatDoor

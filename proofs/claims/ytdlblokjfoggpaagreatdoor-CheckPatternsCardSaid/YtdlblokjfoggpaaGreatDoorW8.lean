import Derived.Test.YtdlblokjfoggpaaGreatDoorW7
import Derived.OrdersHeld
/- A walk over symbolic memory: in a region that draws its order, loads out of the call's own variables may be taken first, if what writes them waits for these loads. No program in sight. -/
set_option linter.unusedSimpArgs false
set_option linter.unusedVariables false
set_option maxRecDepth 100000
set_option maxHeartbeats 8000000
namespace Go.Proofs.YtdlblokjfoggpaaGreatDoor
open Go.RowKit
section
variable {P:Program} {md:Region.Mode} {ops:Array Oper} {Q:Exit→Act→World→Prop} {S:World→Prop} {D:List Nat}
def Xcg (P:Program) (md:Region.Mode) (ops:Array Oper) (Q:Exit→Act→World→Prop) (D:List Nat) (S:World→Prop):Nat→Array Bool→Act→World→Prop
 | 0,listed,a,w=>Region.ready md ops listed=[]∧Q .normal a w
 | n+1,listed,a,w=>(Region.ready md ops listed=[]→Q .normal a w) ∧
   ∀j∈Region.ready md ops listed,wpOp P ops Q j (fun a' w'=>(D.contains j=false→S w→S w')∧Xcg P md ops Q D S n (listed.setIfInBounds j true) a' w') a w
theorem Xcg.any:∀{n:Nat} {listed:Array Bool} {a:Act} {w:World},Xcg P md ops Q D S n listed a w→wpAny P md ops Q n listed a w
 | 0,_,_,_,h=>h
 | _+1,_,_,_,h=>⟨h.1,fun j hj=>wpOp_mono (fun _ _ k=>Xcg.any k.2) (h.2 j hj)⟩
theorem Xcg.rest:∀{n:Nat} {listed:Array Bool} {a:Act} {w:World},(∀j,j < ops.size→listed.getD j true=false→D.contains j=true)→wpAny P md ops Q n listed a w→Xcg P md ops Q D S n listed a w
 | 0,_,_,_,_,h=>h
 | n+1,listed,a,w,hD,h=>⟨h.1,fun j hj=>wpOp_mono (fun a' w' k=>by
   obtain ⟨h0,o,ho,_⟩:=mem_ready.1 hj
   have hlt:j < ops.size:=(Array.getElem?_eq_some_iff.1 ho).1
   refine ⟨fun hn=>(by rw [hD j hlt h0] at hn;cases hn),Xcg.rest (fun i hi h1=>hD i hi ?_) k⟩
   by_cases e:j=i
   ·subst e;exact h0
   ·rwa [getD_set_ne true e] at h1) (h.2 j hj)⟩
theorem Xcg.first {i:Nat} {oi:Oper} {v:Value} (hi:ops[i]?=some oi) (hsel:Region.noSelect ops=true) (hpan:∀c a w,Q (.panic c) (a.put oi.dst v) w→Q (.panic c) a w)
  (hD:∀j o,D.contains j=true→ops[j]?=some o→∃e∈o.after,Region.binds md e=true∧e.on=i):∀{n:Nat} {listed:Array Bool} {a:Act} {w:World},
  (∀j o,ops[j]?=some o→j≠i→listed.getD j true=false→(∀e∈o.after,Region.binds md e=true→e.on≠i)→oi.apart ops o=true) →
  i∈Region.ready md ops listed→YieldsIf P ops S oi v a→S w→Xcg P md ops Q D S n (listed.setIfInBounds i true) (a.put oi.dst v) w→Xcg P md ops Q D S (n+1) listed a w:=by
 have hns:=Region.noSelect_spec hsel
 have waits:∀{listed:Array Bool} {j:Nat},i∈Region.ready md ops listed→j∈Region.ready md ops listed→∃o,ops[j]?=some o∧listed.getD j true=false∧∀e∈o.after,Region.binds md e=true→e.on≠i:=by
  intro listed j hr hj
  obtain ⟨h0,o,ho,hall⟩:=mem_ready.1 hj
  have hn:=(mem_ready.1 hr).1
  refine ⟨o,ho,h0,fun e he hb heq=>?_⟩
  have hl:=heq▸hall e he hb
  by_cases hs:i < listed.size
  ·simp [hs] at hn hl;simp [hn] at hl
  ·simp [Array.getElem?_eq_none (Nat.le_of_not_lt hs)] at hl
 intro n
 induction n with
 | zero=>
   intro listed a w _ hr hy hS H
   refine ⟨fun h=>by simp [h] at hr,fun j hj=>?_⟩
   by_cases e:j=i
   ·subst e;exact hy.wpOp hi hS ⟨fun _ _=>hS,H⟩
   ·have:=ready_mono hj e
    rw [H.1] at this;cases this
 | succ n ih=>
   intro listed a w hap hr hy hS H
   refine ⟨fun h=>by simp [h] at hr,fun j hj=>?_⟩
   by_cases e:j=i
   ·subst e;exact hy.wpOp hi hS ⟨fun _ _=>hS,H⟩
   ·obtain ⟨o,ho,h0,hw⟩:=waits hr hj
    have hjD:D.contains j=false:=by
     cases hc:D.contains j with
     | false=>rfl
     | true=>obtain ⟨e',he',hb,heq⟩:=hD j o hc ho;exact absurd heq (hw e' he' hb)
    refine wpOp_mono (fun a' w' k=>?_) (wpOp_putIf ho (hap j o ho e h0 hw) (fun cs b=>hns i oi cs b hi) (fun cs b=>hns j o cs b ho) hpan hy (H.2 j (ready_mono hj e)))
    obtain ⟨hy',hk,hrest⟩:=k
    have hS':=hk hjD hS
    refine ⟨fun _ _=>hS',ih (fun k ok hk hki hun hno=>hap k ok hk hki ?_ hno) (ready_mono hr (Ne.symm e)) hy' hS' ?_⟩
    ·by_cases ejk:j=k
     ·subst ejk;exact h0
     ·rwa [getD_set_ne true ejk] at hun
    ·rw [Array.setIfInBounds_comm _ _ e];exact hrest
end
section
variable {P:Program} {Δ:List Deferred} {V O:Nat→Prop} {w0 w w':World} {B H H':List Hp} {T T':List AV} {a a':Act} {o:Oper} {ops:Array Oper} {Q:Xb9} {listed:Array Bool} {fuel:Nat} {D:List Nat}
def Xeb (wr:World) (B:List Hp) (w:World):Prop:=∀k,Xch B k→w.heap[k]?=wr.heap[k]?
theorem Xef (B H:List Hp) (k:Nat):FB (fun k=>V k∨Xch B k) H k↔FB V (B++H) k:=by
 simp only [FB,Xch,List.mem_append]
 constructor
 ·rintro ((h|⟨x,hx,e⟩)|⟨x,hx,e⟩)
  ·exact .inl h
  ·exact .inr ⟨x,.inl hx,e⟩
  ·exact .inr ⟨x,.inr hx,e⟩
 ·rintro (h|⟨x,hx|hx,e⟩)
  ·exact .inl (.inl h)
  ·exact .inl (.inr ⟨x,hx,e⟩)
  ·exact .inr ⟨x,hx,e⟩
theorem Rel.aside (r:Rel Δ V O w0 (B++H) T a w):Rel Δ (fun k=>V k∨Xch B k) (Xch H) w H T a w where
 tmps:=r.tmps.weak fun k hk=>(Xef B H k).1 hk
 hok:=⟨fun x hx=>(r.hok.ok x (by simp [hx])).weak fun k hk=>(Xef B H k).1 hk,(List.pairwise_append.1 r.hok.apart).2.1,fun x hx k hk=>⟨(r.hok.lt x (by simp [hx]) k hk).1,fun hv=>by
  rcases hv with hv|⟨y,hy,e⟩
  ·exact (r.hok.lt x (by simp [hx]) k hk).2 hv
  ·exact (List.pairwise_append.1 r.hok.apart).2.2 y hy x hx k e hk⟩⟩
 fr:=Fr.refl _ _
 own:=fun x hx k hk=>.inl ⟨x,hx,hk⟩
 defers:=r.defers
 vlt:=fun k hk=>by
  rcases hk with hk|⟨y,hy,e⟩
  ·exact Nat.lt_of_lt_of_le (r.vlt k hk) r.fr.size
  ·exact (r.hok.lt y (by simp [hy]) k e).1
 gl:=r.gb.mono fun k ⟨x,hx,e⟩=>⟨x,by simp [hx],e⟩
theorem Rel.rejoin (r:Rel Δ V O w0 (B++H) T a w) (r':Rel Δ (fun k=>V k∨Xch B k) (Xch H) w H' T' a' w'):Rel Δ V O w0 (B++H') T' a' w'∧Xeb w B w':=by
 have hap:=List.pairwise_append.1 r.hok.apart
 have hsame:Xeb w B w':=fun k ⟨y,hy,e⟩=>r'.fr.block k (r.hok.lt y (by simp [hy]) k e).1 fun ⟨x,hx,e'⟩=>hap.2.2 y hy x hx k e e'
 have hF:∀k,FB V (B++H') k→FB V (B++H) k∨w.heap.size≤k:=fun k hk=>by
  rcases (Xef B H' k).2 hk with hk|⟨x,hx,e⟩
  ·exact .inl ((Xef B H k).1 (.inl hk))
  ·rcases r'.own x hx k e with ⟨y,hy,e'⟩|h
   ·exact .inl ((Xef B H k).1 (.inr ⟨y,hy,e'⟩))
   ·exact .inr h
 have hw:∀k,k < w.heap.size→¬FB V (B++H) k→w'.heap[k]?=w.heap[k]?:=fun k hk hn=>r'.fr.block k hk fun ⟨y,hy,e⟩=>hn (.inr ⟨y,by simp [hy],e⟩)
 refine ⟨⟨r'.tmps.weak (fun k hk=>(Xef B H' k).2 hk),⟨fun x hx=>?_,List.pairwise_append.2 ⟨hap.1,r'.hok.apart,fun x hx y hy k hk e=>(r'.hok.lt y hy k e).2 (.inr ⟨x,hx,hk⟩)⟩,fun x hx k hk=>?_⟩,?_,fun x hx k hk=>?_,r'.defers,r.vlt,r.gl⟩,hsame⟩
 ·rcases List.mem_append.1 hx with hx|hx
  ·exact (r.hok.ok x (by simp [hx])).conv hF hw r'.fr.size fun k hk=>hsame k ⟨x,hx,hk⟩
  ·exact (r'.hok.ok x hx).weak fun k hk=>(Xef B H' k).2 hk
 ·rcases List.mem_append.1 hx with hx|hx
  ·exact ⟨Nat.lt_of_lt_of_le (r.hok.lt x (by simp [hx]) k hk).1 r'.fr.size,(r.hok.lt x (by simp [hx]) k hk).2⟩
  ·exact ⟨(r'.hok.lt x hx k hk).1,fun hv=>(r'.hok.lt x hx k hk).2 (.inl hv)⟩
 ·exact r.fr.trans r'.fr fun i hi ⟨y,hy,e⟩=>(r.own y (by simp [hy]) i e).resolve_right (by omega)
 ·rcases List.mem_append.1 hx with hx|hx
  ·exact r.own x (by simp [hx]) k hk
  ·rcases r'.own x hx k hk with ⟨y,hy,e⟩|h
   ·exact r.own y (by simp [hy]) k e
   ·exact .inr (Nat.le_trans r.fr.size h)
def Xds (P:Program) (ops:Array Oper) (Q:Xb9) (D:List Nat) (B:List Hp) (fuel:Nat) (listed:Array Bool) (T:List AV) (H:List Hp):Prop:=
 ∀Δ V O w0 wr a w,Rel Δ V O w0 (B++H) T a w→Xeb wr B w→Xcg P .any ops (Xe9 Δ V O w0 Q) D (Xeb wr B) fuel listed a w
theorem XaE {id:Nat} {l:List Oper} (hm:P.follows .mixedOrders=true) (D:List Nat) (B R:List Hp) (hp:H.Perm (B++R)) (h:Xds P l.toArray Q D B l.length (Array.replicate l.length false) T R):awp P (.region id l.toArray true) Q T H:=
 Xbu hm fun Δ V O w0 a w r=>(h Δ V O w0 w a w (r.perm hp) (fun _ _=>rfl)).any
theorem Xhz {id:Nat} {l:List Oper} (hm:P.follows .mixedOrders=true) (D:List Nat) (h:Xds P l.toArray Q D H l.length (Array.replicate l.length false) T []):awp P (.region id l.toArray true) Q T H:=XaE hm D H [] (by rw [List.append_nil]) h
theorem Xaf {T':List AV} {H':List Hp} (hT:T=T') (hH:H=H') (h:Xds P ops Q D B fuel listed T' H'):Xds P ops Q D B fuel listed T H:=hT▸hH▸h
def XbM (ops:Array Oper) (listed:Array Bool) (i:Nat) (D:List Nat):Bool:=Xel ops listed i && D.all fun j=>match ops[j]? with|some o=>o.after.any fun e=>Region.binds .any e && e.on == i|none=>false
theorem XgN {i:Nat} (h:XbM ops listed i D=true):∀j o,D.contains j=true→ops[j]?=some o→∃e∈o.after,Region.binds .any e=true∧e.on=i:=fun j o hj ho=>by
 unfold XbM at h
 rw [Bool.and_eq_true,List.all_eq_true] at h
 have:=h.2 j (by simpa using hj)
 rw [ho] at this
 obtain ⟨e,he,hb⟩:=Array.any_eq_true'.1 this
 rw [Bool.and_eq_true,beq_iff_eq] at hb
 exact ⟨e,he,hb⟩
theorem Xff (i:Nat) {o:Oper} {l:List Oper} (hi:Xc3 l i=some o) (hg:o.guard=none) (hc:XbM l.toArray listed i D=true) (hpan:∀c T H,¬Q (.panic c) T H) (av:AV)
  (h:∀V wr a w,OK V (B++H) (ev T) o a w→Xeb wr B w→∃v,(∀w',Xeb wr B w'→(execOp a.eval o).run P w'=.ok (.value v) w')∧Den (FB V (B++H)) w av v) (hK:Xds P l.toArray Q D B fuel (listed.setIfInBounds i true) (Xa9 T o.dst av) H):Xds P l.toArray Q D B (fuel+1) listed T H:=by
 have hi:l.toArray[i]?=some o:=by rw [List.getElem?_toArray,←Xbz];exact hi
 intro Δ V O w0 wr a w r hS
 obtain ⟨v,hv,hd⟩:=h V wr a w (r.oks o) hS
 have hD:=XgN hc
 unfold XbM Xel at hc
 simp only [Bool.and_eq_true] at hc
 exact Xcg.first hi hc.1.1.1 (fun c a w ⟨T,H,_,hq⟩=>absurd hq (hpan c T H)) hD (Region.free_spec hi hc.1.1.2) (by simpa using hc.1.2) (.inl ⟨by simp [Region.wanted,hg],hv⟩) hS (hK Δ V O w0 wr _ w (r.put _ hd) hS)
theorem XiB (i:Nat) {o:Oper} {l:List Oper} (hi:Xc3 l i=some o) (hg:o.guard=none) (hc:XbM l.toArray listed i D=true) (hpan:∀c T H,¬Q (.panic c) T H) (av:AV) (h:XeE P o (ev T) (B++H) av) (hK:Xds P l.toArray Q D B fuel (listed.setIfInBounds i true) (Xa9 T o.dst av) H):Xds P l.toArray Q D B (fuel+1) listed T H:=
 Xff i hi hg hc hpan av (fun V wr a w ok _=>by obtain ⟨v,hv,hd⟩:=h V a w ok;exact ⟨v,fun w' _=>hv w',hd⟩) hK
theorem Xca (t:TypeId) (b:Bool) (n:Nat) (h:Xis P t=some (b,n)) (w:World) (F:Nat→Prop) (g off:Nat) (cells:List AV) (vals:List Value) (hd:DenL F w cells vals) (hn:n≤cells.length) (hn0:b=false→0 < cells.length) :
  ∃v,(∀w',(∀j u,vals[j]?=some u→w'.cell? ⟨g,off+j,none⟩=some u)→(loadVar t ⟨g,off,none⟩).run P w'=.ok v w')∧Den F w (ldA b n cells) v:=by
 have hadd:∀j,(⟨g,off,none⟩:Addr).add j=⟨g,off+j,none⟩:=fun j=>by unfold Addr.add;split<;>simp_all
 cases b with
 | true=>
   refine ⟨.agg (vals.take n).toArray,fun w' hc=>?_,?_⟩
   ·obtain ⟨h1,h2⟩:=Xe4 t true n h w'
    have hl:(loadCells ⟨g,off,none⟩ (vals.take n).length).run P w'=.ok (vals.take n).toArray w':=run_loadCells_list (P:=P) w' _ _ fun j v hj=>by
     rw [hadd]
     rw [List.getElem?_take] at hj
     split at hj
     ·exact hc j v hj
     ·cases hj
    have hlen:(vals.take n).length=n:=by rw [List.length_take,hd.len];omega
    rw [hlen] at hl
    simp [loadVar,h1,h2,hl]
   ·simp only [ldA,if_true];exact Den.mkA (hd.take n)
 | false=>
   have h0:=hn0 rfl
   obtain ⟨u,hu,hdu⟩:=hd.get 0 cells[0] (by simp [h0])
   refine ⟨u,fun w' hc=>?_,?_⟩
   ·obtain ⟨h1,h2⟩:=Xe4 t false n h w'
    have:=hc 0 u hu
    rw [Nat.add_zero] at this
    simp [loadVar,h1,run_load,this]
   ·simp only [ldA,Bool.false_eq_true,if_false]
    rwa [List.getD_eq_getElem?_getD,List.getElem?_eq_getElem h0]
theorem Xns (i:Nat) {o:Oper} {l:List Oper} (hi:Xc3 l i=some o) (hg:o.guard=none) (hc:XbM l.toArray listed i D=true) (hpan:∀c T H,¬Q (.panic c) T H) (p:Nat) (t:TypeId) (x:Operand) (b off:Nat) (cells:List AV) (agg:Bool) (n:Nat)
  (ho:o.op=.load t x) (hx:ev T x=.x (.pointer (some ⟨b,off,none⟩))) (hb:B[p]?=some (.box b cells)) (ht:Xis P t=some (agg,n)) (hn:off+n≤cells.length) (hn0:off < cells.length)
  (hK:Xds P l.toArray Q D B fuel (listed.setIfInBounds i true) (Xa9 T o.dst (ldA agg n (cells.drop off))) H):Xds P l.toArray Q D B (fuel+1) listed T H:=
 Xff i hi hg hc hpan _ (fun V wr a w ok hS=>by
  obtain ⟨vals,hd,hl,hcl⟩:=ok.hok.ok (.box b cells) (List.mem_append_left _ (List.mem_of_getElem? hb))
  obtain ⟨v,hr,hdv⟩:=Xca (P:=P) t agg n ht w _ b off (cells.drop off) (vals.drop off) (hd.drop off) (by simp;omega) (fun _=>by simp;omega)
  refine ⟨v,fun w' hS'=>?_,hdv⟩
  have hbk:Xch B b:=⟨_,List.mem_of_getElem? hb,rfl⟩
  have hsame:w'.heap[b]?=w.heap[b]?:=(hS' b hbk).trans (hS b hbk).symm
  have:=hr w' fun j u hj=>by
   rw [World.cell?_of_block (a:=⟨b,off+j,none⟩) hsame];exact (hcl (off+j) u (by rwa [List.getElem?_drop] at hj)).1
  simp [execOp,ho,ok.evx (x:=x) (by simp [ho,Op.operands]) hx,Instr.loadAt,Instr.sureAddr,this]) hK
theorem Xjg {j:Nat} (hi:ops[j]?=some o) (hg:o.guard=none) (h:Stp P o T H (Xds P ops Q D B fuel (listed.setIfInBounds j true))) (Δ:List Deferred) (V O:Nat→Prop) (w0 wr:World) (r:Rel Δ V O w0 (B++H) T a w) (hS:Xeb wr B w) :
  wpOp P ops (Xe9 Δ V O w0 Q) j (fun a' w'=>(D.contains j=false→Xeb wr B w→Xeb wr B w')∧Xcg P .any ops (Xe9 Δ V O w0 Q) D (Xeb wr B) fuel (listed.setIfInBounds j true) a' w') a w:=by
 unfold wpOp
 simp only [hi]
 rw [if_pos (by simp [Region.wanted,hg])]
 refine .inl (h _ _ _ _ a w _ _ r.aside fun T' H' a' w' hk hr=>?_)
 obtain ⟨r',hs⟩:=r.rejoin hr
 have hS':Xeb wr B w':=fun k hk=>(hs k hk).trans (hS k hk)
 exact ⟨fun _ _=>hS',hk Δ V O w0 wr a' w' r' hS'⟩
theorem Xba (i:Nat) {o:Oper} {l:List Oper} (hr:Region.ready .any l.toArray listed=[i]) (hi:Xc3 l i=some o) (hg:o.guard=none) (h:Stp P o T H (Xds P l.toArray Q D B fuel (listed.setIfInBounds i true))):Xds P l.toArray Q D B (fuel+1) listed T H:=fun Δ V O w0 wr a w r hS=>
 ⟨fun h0=>(by rw [hr] at h0;cases h0),fun j hj=>by
  rw [hr,List.mem_singleton] at hj;subst hj
  exact Xjg (by rw [List.getElem?_toArray,←Xbz];exact hi) hg h Δ V O w0 wr r hS⟩
theorem XaG {l:List Oper} (hr:((List.range l.toArray.size).all fun j=>listed.getD j true || D.contains j)=true) (h:Xfd P l.toArray Q fuel listed T (B++H)):Xds P l.toArray Q D B fuel listed T H:=fun Δ V O w0 wr a w r _=>
 Xcg.rest (fun j hj h0=>by
  rw [List.all_eq_true] at hr
  have:=hr j (List.mem_range.2 hj)
  rwa [h0,Bool.false_or] at this) (h Δ V O w0 a w r)
end
open Go.RowKit
def fvT (P:Program) (s:TypeId) (f:Nat):Option (Nat × Bool × Nat):=do
 match P.underlying s with
 | some (.struct fs)=>
   let f ←fs[f]?
   let r ←Xis P f.type
   some (f.offset,r.1,r.2)
 | _=>none
class HFv (P:Program) (s:TypeId) (f:Nat) (off:outParam Nat) (agg:outParam Bool) (n:outParam Nat):Prop where out:fvT P s f=some (off,agg,n)
section
variable {P:Program} {H:List Hp} {o:Oper}
theorem Xo5 (s:TypeId) (f off:Nat) (agg:Bool) (n:Nat) (h:fvT P s f=some (off,agg,n)) (w:World) (F:Nat→Prop) (cells:List AV) (vals:List Value) (hd:DenL F w cells vals) (hn:off+n≤cells.length) (hn0:off < cells.length) :
  ∃v,(Instr.field s (.agg vals.toArray) f).run P w=.ok v w∧Den F w (ldA agg n (cells.drop off)) v:=by
 unfold fvT at h
 split at h
 ·rename_i fs hu
  cases hf:fs[f]? with
  | none=>simp [hf] at h
  | some fd=>
    cases hi:Xis P fd.type with
    | none=>simp [hf,hi] at h
    | some i=>
      obtain ⟨b,m⟩:=i
      simp [hf,hi] at h
      obtain ⟨rfl,rfl,rfl⟩:=h
      obtain ⟨h1,h2⟩:=Xe4 fd.type b m hi w
      have hl:=hd.len
      cases b with
      | true=>
        refine ⟨.agg ((vals.drop fd.offset).take m).toArray,?_,?_⟩
        ·simp [Instr.field,run_underlying hu,hf,asAgg,part,h1,h2]
        ·simp only [ldA,if_true];exact Den.mkA ((hd.drop fd.offset).take m)
      | false=>
        obtain ⟨u,hu',hdu⟩:=hd.get fd.offset cells[fd.offset] (by simp [hn0])
        refine ⟨u,?_,?_⟩
        ·simp [Instr.field,run_underlying hu,hf,asAgg,part,h1,hu']
        ·simp only [ldA,Bool.false_eq_true,if_false]
         rw [List.getD_eq_getElem?_getD,List.getElem?_drop]
         simpa [List.getElem?_eq_getElem hn0] using hdu
 ·cases h
theorem XpR {ρ:Operand→AV} (s:TypeId) (x:Operand) (f off:Nat) (agg:Bool) (n:Nat) (cells:List AV) (ho:o.op=.field s x f) (hx:∀F w v,Den F w (ρ x) v→∃vals:List Value,v=.agg vals.toArray∧DenL F w cells vals) (ht:fvT P s f=some (off,agg,n)) (hn:off+n≤cells.length) (hn0:off < cells.length) :
  Evl P o ρ H (ldA agg n (cells.drop off)):=by
 intro V a w Kc Q r hKc
 obtain ⟨vals,hv,hd⟩:=hx _ _ _ (r.ops x (by simp [ho,Op.operands]))
 obtain ⟨v,hr,hdv⟩:=Xo5 (P:=P) s f off agg n ht w _ cells vals hd hn hn0
 unfold Oper.wp execOp
 simp only [ho,hv,Sem.run_bind,Sem.run_pure,Result.andThen_ok,hr]
 exact hKc _ _ (Below.refl _ _) hdv
theorem XsT {ρ:Operand→AV} (s:TypeId) (x:Operand) (f off:Nat) (agg:Bool) (n:Nat) (l:List Value) (ho:o.op=.field s x f) (hx:ρ x=.x (.agg ⟨l⟩)) (ht:fvT P s f=some (off,agg,n)) (hn:off+n≤l.length) (hn0:off < l.length) :
  Evl P o ρ H (ldA agg n ((l.drop off).map AV.x)):=by
 rw [List.map_drop]
 exact XpR s x f off agg n (l.map AV.x) ho (fun F w v h=>by rw [hx,Den] at h;exact ⟨l,h,DenL.exact⟩) ht (by simpa using hn) (by simpa using hn0)
end
open Go.RowKit
section
variable {P:Program} {H:List Hp} {o:Oper}
theorem Xd1 {av:AV} (h:av.one=true):av.cells=[av]:=by
 cases av with
 | x v=>
   simp only [AV.one] at h
   cases v<;>first|rfl|(simp [Value.oneCell'] at h)
 | sq=>rfl
 | at_=>rfl
 | ifc=>rfl
 | _=>simp [AV.one] at h
theorem Xpm (cells:List AV) (k:Nat) (v:AV) (h:k < cells.length):spl cells k [v]=cells.set k v:=by
 unfold spl
 rw [List.set_eq_take_append_cons_drop,if_pos h];simp
theorem XkP (n:Nat) (place:Nat→Option (Nat × Nat)) (hp:∀i,i < n→place i=some (i,1)):∀(l:List (Nat × AV)) (cells:List AV),cells.length=n→(l.all fun p=>p.2.one && decide (p.1 < n))=true→XfG place cells l=some (l.foldl (fun c p=>c.set p.1 p.2) cells)
 | [],cells,_,_=>rfl
 | (i,v) :: l,cells,hn,h=>by
   simp only [List.all_cons,Bool.and_eq_true,decide_eq_true_eq] at h
   obtain ⟨⟨h1,h2⟩,h3⟩:=h
   have hc:=Xd1 h1
   rw [XfG,hp i h2]
   simp only [hc,Xyr,Xyu]
   rw [if_neg (by omega),Xpm cells i v (by omega),XkP n place hp l _ (by simpa using hn) h3]
   rfl
def Xv9 (places:List (Nat × Nat)):Bool:=places == (List.range places.length).map fun i=>(i,1)
theorem XlN {ρ:Operand→AV} (t:TypeId) (parts:Array (Nat × Operand)) (places:List (Nat × Nat)) (z:List Value) (ho:o.op=.build t parts) (hpl:plT P t=some (places,z)) (h1:Xv9 places=true) (hz:places.length=z.length)
  (hone:((parts.toList.map fun p=>(p.1,ρ p.2)).all fun p=>p.2.one && decide (p.1 < z.length))=true):Evl P o ρ H (mkA ((parts.toList.map fun p=>(p.1,ρ p.2)).foldl (fun c p=>c.set p.1 p.2) (z.map .x))):=by
 refine XbS t parts places z _ ho hpl ?_ (XkP z.length _ (fun i hi=>?_) _ _ (by simp) hone)
 ·rw [List.all_eq_true] at hone ⊢
  intro p hp
  have:=hone (p.1,ρ p.2) (List.mem_map.2 ⟨p,hp,rfl⟩)
  rw [Bool.and_eq_true] at this
  rw [Xd1 this.1];simp [this.1]
 ·have h1:=eq_of_beq h1
  rw [h1,List.getElem?_toArray,List.getElem?_map,List.getElem?_range (by omega)]
  rfl
end
open Go.RowKit
section
variable {P:Program} {Δ:List Deferred} {V O:Nat→Prop} {w0 w w':World} {B H H' D:List Hp} {T T':List AV} {a a':Act} {o:Oper} {Q:Xb9}
theorem XwK {Kc:Act→World→Prop} {Qc:Exit→Act→World→Prop} (h:o.wp P a w (fun a' w'=>((∃v,a'=a.put o.dst v)∨a'.defers≠a.defers)→Kc a' w') Qc):o.wp P a w Kc Qc:=by
 unfold Oper.wp at *
 generalize (execOp a.eval o).run P w=r at *
 cases r with
 | ok n w1=>
   cases n<;>simp only [Oper.upon] at h ⊢
   case value u=>exact h (.inl ⟨u,rfl⟩)
   case skip=>exact h (.inl ⟨_,rfl⟩)
   case defer d=>exact h (.inr (by cases hd:o.dst<;>simp [Act.put]))
   case enter f args=>
    refine Calls.mono h fun e w2 he=>?_
    cases e with
    | returned u=>exact he (.inl ⟨u,rfl⟩)
    | panicked c=>exact he
    | outgrown=>exact he
   case row row args=>exact Rows.mono h fun u w2 he=>he (.inl ⟨u,rfl⟩)
 | halt x w1=>cases x<;>simp only [Oper.upon] at h ⊢;exact h
def msk (ks:List Nat):Nat→List AV→List AV
 | _,[]=>[]
 | n,v :: T=>(if ks.contains n then v else .top) :: msk ks (n+1) T
theorem Xox (ks:List Nat):∀(T:List AV) (n t:Nat),(msk ks n T)[t]?=(T[t]?).map fun v=>if ks.contains (n+t) then v else .top
 | [],n,t=>by simp [msk]
 | v :: T,n,0=>by simp [msk]
 | v :: T,n,t+1=>by
   simp only [msk,List.getElem?_cons_succ]
   rw [Xox ks T (n+1) t,show n+1+t=n+(t+1) by omega]
theorem Xoy (ks:List Nat) (n:Nat) (T:List AV):(msk ks n T).length=T.length:=by
 induction T generalizing n with
 | nil=>rfl
 | cons v T ih=>simp [msk,ih]
theorem XmP {ks:List Nat} {M:AV→List Hp→Prop} {TS:List AV} (h:Stp P o (msk ks 0 T) H (fun T' H'=>∃e,T'=Xa9 (msk ks 0 T) o.dst e∧M e H')) (hl:TS.length=T.length) (hk:∀t,ks.contains t=true→TS[t]?=T[t]?) (hdst:∀d,o.dst=some d→d < T.length)
  (r:Rel Δ V O w0 (B++H) TS a w) (Kc:Act→World→Prop) (Qc:Exit→Act→World→Prop) (hK:∀e H' v w',M e H'→Rel Δ V O w0 (B++H') (Xa9 TS o.dst e) (a.put o.dst v) w'→Kc (a.put o.dst v) w'):o.wp P a w Kc Qc:=by
 have ra:=r.aside
 have rm:Rel Δ (fun k=>V k∨Xch B k) (Xch H) w H (msk ks 0 T) a w:={ ra with
  tmps:=DenL.of (by rw [Xoy,←hl];exact ra.tmps.len) fun t av u h1 h2=>by
   rw [Xox,Nat.zero_add] at h1
   cases hT:T[t]? with
   | none=>rw [hT] at h1;cases h1
   | some v=>
     rw [hT] at h1
     simp only [Option.map_some,Option.some.injEq] at h1
     subst h1
     split
     ·rename_i hc;exact ra.tmps.get' t v u (by rw [hk t hc];exact hT) h2
     ·rw [Den];trivial }
 refine XwK (h _ _ _ _ a w _ Qc rm ?_)
 rintro T' H' a' w' ⟨e,rfl,hm⟩ r' hput
 rcases hput with ⟨v,rfl⟩|hd
 case inr=>exact absurd (r'.defers.trans r.defers.symm) hd
 obtain ⟨rj,hs⟩:=r.rejoin r'
 have hF:∀k,FB V (B++H') k→FB V (B++H) k∨w.heap.size≤k:=fun k hk=>by
  rcases (Xef B H' k).2 hk with hk|⟨x,hx,e⟩
  ·exact .inl ((Xef B H k).1 (.inl hk))
  ·rcases r'.own x hx k e with ⟨y,hy,e'⟩|h
   ·exact .inl ((Xef B H k).1 (.inr ⟨y,hy,e'⟩))
   ·exact .inr h
 have hw:∀k,k < w.heap.size→¬FB V (B++H) k→w'.heap[k]?=w.heap[k]?:=fun k hk hn=>r'.fr.block k hk fun ⟨y,hy,e⟩=>hn (.inr ⟨y,by simp [hy],e⟩)
 have r2:Rel Δ V O w0 (B++H') TS a w':={ rj with tmps:=DenL.conv hF hw _ _ r.tmps,defers:=r.defers }
 refine hK e H' v w' hm ?_
 cases hd:o.dst with
 | none=>simp only [Act.put,Xa9];exact r2
 | some d=>
   rw [hd] at rj
   have hlt:=hdst d hd
   have h1:(Xa9 (msk ks 0 T) (some d) e)[d]?=some e:=Xkg (by rw [Xoy];exact hlt)
   have h2:(a.put (some d) v).tmps.toList[d]?=some v:=by
    have hal:d < a.tmps.size:=by have e:=r.tmps.len;rw [Array.length_toList] at e;rw [e,hl];exact hlt
    simp [Act.put,hal]
   exact r2.put (some d) (rj.tmps.get' d e v h1 h2)
end
/-! ### One order for all -/
def Xek (l:List Oper):Nat→Nat→Nat→Bool
 | 0,_,_=>false
 | n+1,x,y=>match l[x]? with
   | some o=>o.after.toList.any fun e=>e.on == y || Xek l n e.on y
   | none=>false
theorem Xkk {l:List Oper} {S:Nat→Bool} (hcl:∀(j:Nat) (q:Oper),l[j]?=some q→S j=true→∀e∈q.after,S e.on=true):∀(n x y:Nat) (o:Oper),l[x]?=some o→(∀e∈o.after,S e.on=true)→Xek l n x y=true→S y=true
 | 0,_,_,_,_,_,h=>by simp [Xek] at h
 | n+1,x,y,o,hx,ha,h=>by
   simp only [Xek,hx,List.any_eq_true,Bool.or_eq_true,beq_iff_eq] at h
   obtain ⟨e,he,h⟩:=h
   have he':e∈o.after:=by simpa using he
   rcases h with rfl|h
   ·exact ha e he'
   ·have hS:=ha e he'
    cases n with
    | zero=>simp [Xek] at h
    | succ n=>
      cases hq:l[e.on]? with
      | none=>simp [Xek,hq] at h
      | some q=>exact Xkk hcl (n+1) e.on y q hq (hcl e.on q hq hS) h
def Xou (l:List Oper) (pi L D:List Nat) (n0:Option Nat):Bool:=
 Xkl l && (List.range l.length).all (fun i=>pi.contains i || D.contains i || n0 == some i) &&
 pi.all (fun i=>decide (i < l.length) && !D.contains i && n0 != some i) && decide pi.Nodup &&
 D.all (fun d=>decide (d < l.length) && n0 != some d && (List.range l.length).all fun i=>D.contains i || Xek l l.length d i) &&
 (match n0 with|some i=>(match l[i]? with|some o=>o.after.isEmpty && o.guard.isNone|none=>false)|none=>true) &&
 (List.range pi.length).all (fun k=>match pi[k]? with
  | some i=>(match l[i]? with
    | some o=>o.guard.isNone && (o.after.toList.all fun e=>(pi.take k).contains e.on) && (pi.take k).all fun q=>!L.contains q || Xek l l.length i q
    | none=>false)
  | none=>false)
structure XpS (l:List Oper) (pi L D:List Nat) (n0:Option Nat):Prop where
 reg:XlQ l
 cover:∀i,i < l.length→i∈pi∨i∈D∨n0=some i
 inpi:∀i∈pi,i < l.length∧i ∉ D∧n0≠some i
 nodup:pi.Nodup
 dlt:∀d∈D,d < l.length∧n0≠some d
 dall:∀d∈D,∀i,i < l.length→i∈D∨Xek l l.length d i=true
 alloc:∀i,n0=some i→∃o,l[i]?=some o∧(∀e,e ∉ o.after)∧o.guard=none
 ops:∀k i,pi[k]?=some i→∃o,l[i]?=some o∧o.guard=none∧(∀e∈o.after,e.on∈pi.take k)∧∀q∈pi.take k,q∈L→Xek l l.length i q=true
theorem Xk8 {l:List Oper} {pi L D:List Nat} {n0:Option Nat} (h:Xou l pi L D n0=true):XpS l pi L D n0:=by
 unfold Xou at h
 simp only [Bool.and_eq_true] at h
 obtain ⟨⟨⟨⟨⟨⟨h1,h2⟩,h3⟩,h4⟩,h5⟩,h6⟩,h7⟩:=h
 refine ⟨XhY h1,fun i hi=>?_,fun i hi=>?_,of_decide_eq_true h4,fun d hd=>?_,fun d hd i hi=>?_,fun i hi=>?_,fun k i hk=>?_⟩
 ·have:=List.all_eq_true.1 h2 i (List.mem_range.2 hi)
  simpa [or_assoc] using this
 ·have:=List.all_eq_true.1 h3 i hi
  simp at this
  exact ⟨this.1.1,this.1.2,this.2⟩
 ·have:=List.all_eq_true.1 h5 d hd
  simp only [Bool.and_eq_true,decide_eq_true_eq,bne_iff_ne] at this
  exact this.1
 ·have:=List.all_eq_true.1 h5 d hd
  simp only [Bool.and_eq_true] at this
  have:=List.all_eq_true.1 this.2 i (List.mem_range.2 hi)
  simpa using this
 ·subst hi
  simp only at h6
  cases ho:l[i]? with
  | none=>simp [ho] at h6
  | some o=>
    simp only [ho,Bool.and_eq_true,Option.isNone_iff_eq_none] at h6
    refine ⟨o,rfl,fun e he=>?_,h6.2⟩
    have:=h6.1
    rw [Array.isEmpty_iff] at this
    rw [this] at he;simp at he
 ·have hkl:k < pi.length:=(List.getElem?_eq_some_iff.1 hk).1
  have:=List.all_eq_true.1 h7 k (List.mem_range.2 hkl)
  rw [hk] at this
  simp only at this
  cases ho:l[i]? with
  | none=>simp [ho] at this
  | some o=>
    simp only [ho,Bool.and_eq_true,Option.isNone_iff_eq_none,List.all_eq_true] at this
    obtain ⟨⟨g1,g2⟩,g3⟩:=this
    refine ⟨o,rfl,g1,fun e he=>?_,fun q hq hL=>?_⟩
    ·have:=g2 e (by simpa using he)
     simpa using this
    ·have:=g3 q hq
     simpa [hL] using this
def dm (P:Program) (B:List Hp) (l:List Oper) (L:List Nat):List Nat→List AV→List Hp→(List AV→List Hp→Prop)→Prop
 | [],T,H,fin=>fin T H
 | i :: pi,T,H,fin=>∃o,Xc3 l i=some o∧((L.contains i=false∧∃e,(∀H1,Evl P o (ev T) (B++H1) e)∧dm P B l L pi (Xa9 T o.dst e) H fin) ∨
   (L.contains i=true∧Stp P o (msk (looks l o) 0 T) H (fun T' H'=>∃e,T'=Xa9 (msk (looks l o) 0 T) o.dst e∧dm P B l L pi (Xa9 T o.dst e) H' fin)))
section
variable {P:Program} {B:List Hp} {l:List Oper} {L:List Nat} {fin:List AV→List Hp→Prop} {T:List AV} {H:List Hp}
theorem Xqp {i:Nat} {pi:List Nat} {o:Oper} {T':List AV} (hi:Xc3 l i=some o) (hL:L.contains i=false) (e:AV) (h:∀H1,Evl P o (ev T) (B++H1) e) (hT:Xa9 T o.dst e=T') (hK:dm P B l L pi T' H fin):dm P B l L (i :: pi) T H fin:=⟨o,hi,.inl ⟨hL,e,h,hT▸hK⟩⟩
theorem Xtm {i:Nat} {pi:List Nat} {o:Oper} (hi:Xc3 l i=some o) (hL:L.contains i=true) (h:Stp P o (msk (looks l o) 0 T) H (fun T' H'=>∃e,T'=Xa9 (msk (looks l o) 0 T) o.dst e∧dm P B l L pi (Xa9 T o.dst e) H' fin)):dm P B l L (i :: pi) T H fin:=⟨o,hi,.inr ⟨hL,h⟩⟩
theorem Xtl {pi:List Nat} {T':List AV} {H':List Hp} (hT:T=T') (hH:H=H') (h:dm P B l L pi T' H' fin):dm P B l L pi T H fin:=hT▸hH▸h
theorem Xdo (l:List Oper) (es es':Nat→AV) (T:List AV) (S:Nat→Bool):∀k,(∀j,j < k→S j=true→es j=es' j)→XcB l es T S k=XcB l es' T S k
 | 0,_=>rfl
 | k+1,h=>by
   simp only [XcB]
   rw [Xdo l es es' T S k fun j hj=>h j (by omega)]
   split
   ·rename_i hs;rw [h k (by omega) hs]
   ·rfl
theorem Xor {l:List Oper} (hr:XlQ l) (es:Nat→AV) (T0:List AV) (S S':Nat→Bool) (i:Nat) (o:Oper) (hi:l[i]?=some o) (h1:S i=false) (h2:S' i=false) (a1:∀e∈o.after,S e.on=true) (a2:∀e∈o.after,S' e.on=true)
  (c1:∀(j:Nat) (q:Oper),l[j]?=some q→S j=true→∀e∈q.after,e.on≠i) (c2:∀(j:Nat) (q:Oper),l[j]?=some q→S' j=true→∀e∈q.after,e.on≠i) (t:Nat) (ht:t∈looks l o) :
  (XcB l es T0 S l.length)[t]?=(XcB l es T0 S' l.length)[t]?:=by
 by_cases hlt:t < T0.length
 ·by_cases hw:∃(j:Nat) (q:Oper),l[j]?=some q∧q.dst=some t
  ·obtain ⟨j,q,hj,hq⟩:=hw
   have hjl:=(List.getElem?_eq_some_iff.1 hj).1
   have huniq:∀k,k≠j→(l[k]?).bind (·.dst)≠some t:=fun k hk hb=>by
    obtain ⟨q',hk',hq'⟩:=Xdu hb
    exact hk (hr.one k j q' q t hk' hj hq' hq)
   have hdj:(l[j]?).bind (·.dst)=some t:=by rw [hj];exact hq
   have off:∀X:Nat→Bool,X j=false→(XcB l es T0 X l.length)[t]?=T0[t]?:=fun X hX=>Xbw l es T0 X t _ fun k hk hs hb=>by
    by_cases hkj:k=j
    ·subst hkj;rw [hX] at hs;cases hs
    ·exact huniq k hkj hb
   rcases hr.look i j o q t hi hj ht hq with rfl|⟨e,he,rfl⟩|⟨e,he,rfl⟩
   ·rw [off S h1,off S' h2]
   ·rw [Xc7 l es T0 S t hlt _ (a1 e he) hdj huniq _ hjl,Xc7 l es T0 S' t hlt _ (a2 e he) hdj huniq _ hjl]
   ·have n1:S j=false:=by
     cases hs:S j with
     | false=>rfl
     | true=>exact absurd rfl (c1 j q hj hs e he)
    have n2:S' j=false:=by
     cases hs:S' j with
     | false=>rfl
     | true=>exact absurd rfl (c2 j q hj hs e he)
    rw [off S n1,off S' n2]
  ·have hn:∀k:Nat,(l[k]?).bind (·.dst)≠some t:=fun k hb=>by
    obtain ⟨q',hk',hq'⟩:=Xdu hb
    exact hw ⟨k,q',hk',hq'⟩
   rw [Xbw _ _ _ _ _ _ fun k _ _=>hn k,Xbw _ _ _ _ _ _ fun k _ _=>hn k]
 ·rw [List.getElem?_eq_none (by rw [Xco];omega),List.getElem?_eq_none (by rw [Xco];omega)]
theorem XqN {l:List Oper} {o:Oper} {t:Nat} (h:Operand.tmp t∈o.op.operands):t∈looks l o:=by
 unfold looks
 exact List.mem_append_left _ (List.mem_filterMap.2 ⟨.tmp t,by simpa using h,rfl⟩)
end
open Go.RowKit
section
variable {P:Program} {B:List Hp} {l:List Oper} {L D pi:List Nat} {n0:Option Nat} {z:List AV} {T0:List AV} {Q:Xb9} {fin:List AV→List Hp→Prop}
theorem Xgv (l:List Oper) (es:Nat→AV) (T:List AV) (S S':Nat→Bool):∀k,(∀j,j < k→S j=S' j)→XcB l es T S k=XcB l es T S' k
 | 0,_=>rfl
 | k+1,h=>by
   simp only [XcB]
   rw [Xgv l es T S S' k fun j hj=>h j (by omega),h k (by omega)]
structure DI (P:Program) (B:List Hp) (l:List Oper) (L pi:List Nat) (T0:List AV) (pd rest:List Nat) (es:Nat→AV) (T:List AV):Prop where
 split:pi=pd++rest
 eq:T=XcB l es T0 (fun j=>pd.contains j) l.length
 quiet:∀(k i:Nat) (o:Oper),pd[k]?=some i→i ∉ L→l[i]?=some o→∀H1,Evl P o (ev (XcB l es T0 (fun j=>(pd.take k).contains j) l.length)) (B++H1) (es i)
def upd (es:Nat→AV) (i:Nat) (e:AV):Nat→AV:=fun j=>if j=i then e else es j
theorem DI.es {pd rest:List Nat} {es es':Nat→AV} {T:List AV} (h:DI P B l L pi T0 pd rest es T) (he:∀j∈pd,es' j=es j):DI P B l L pi T0 pd rest es' T where
 split:=h.split
 eq:=by rw [h.eq];exact Xdo l _ _ _ _ _ fun j _ hj=>(he j (by simpa using hj)).symm
 quiet:=fun k i o hk hL ho H1=>by
  have:=h.quiet k i o hk hL ho H1
  rw [he i (List.mem_of_getElem? hk)]
  rwa [Xdo l es' es T0 _ _ fun j _ hj=>he j (List.mem_of_mem_take (by simpa using hj))]
theorem DI.push (ok:XpS l pi L D n0) {pd rest:List Nat} {es:Nat→AV} {T:List AV} {i:Nat} {o:Oper} (h:DI P B l L pi T0 pd (i :: rest) es T) (ho:l[i]?=some o) (e:AV) (hq:i ∉ L→∀H1,Evl P o (ev T) (B++H1) e) :
  DI P B l L pi T0 (pd++[i]) rest (upd es i e) (Xa9 T o.dst e):=by
 have hn:=ok.nodup
 rw [h.split] at hn
 have hip:i ∉ pd:=fun hm=>(List.nodup_append.1 hn).2.2 i hm i (by simp) rfl
 have hes:∀j∈pd,upd es i e j=es j:=fun j hj=>by unfold upd;rw [if_neg (by rintro rfl;exact hip hj)]
 have h':=h.es hes
 refine ⟨by rw [h.split];simp,?_,fun k j q hk hL hj H1=>?_⟩
 ·rw [h'.eq]
  have hp:=Xgw ok.reg (upd es i e) T0 (fun j=>pd.contains j) (fun j=>(pd++[i]).contains j) i o ho (by simpa using hip) (by simp) (fun j hj=>by simp [hj])
  rw [show upd es i e i=e by simp [upd]] at hp
  exact hp
 ·by_cases hlt:k < pd.length
  ·rw [List.getElem?_append_left hlt] at hk
   have:=h'.quiet k j q hk hL hj H1
   rwa [List.take_append_of_le_length (by omega)]
  ·have hlen:=(List.getElem?_eq_some_iff.1 hk).1
   simp only [XyA,Xyr,Xyu] at hlen
   have hkk:k=pd.length:=by omega
   subst hkk
   rw [List.getElem?_append_right (Nat.le_refl _)] at hk
   simp at hk
   subst hk
   rw [ho] at hj;cases hj
   have:=hq hL H1
   rw [h'.eq] at this
   rw [List.take_left' rfl]
   simpa [upd] using this
theorem XkM (ok:XpS l pi L D n0):∀(rest pd:List Nat) (es:Nat→AV) (T:List AV) (H:List Hp),DI P B l L pi T0 pd rest es T→dm P B l L rest T H fin →
  ∃q rest' es' T',rest=q++rest'∧DI P B l L pi T0 (pd++q) rest' es' T'∧dm P B l L rest' T' H fin∧(rest'=[]∨∃i r,rest'=i :: r∧i∈L)∧(∀j,j ∉ q→es' j=es j)∧∀j∈q,j ∉ L
 | [],pd,es,T,H,h,d=>⟨[],[],es,T,rfl,by simpa using h,d,.inl rfl,fun _ _=>rfl,by simp⟩
 | i :: rest,pd,es,T,H,h,d=>by
   have d0:=d
   obtain ⟨o,ho,hh⟩:=d
   rw [Xbz] at ho
   rcases hh with ⟨hL,e,hE,hd⟩|⟨hL,_⟩
   ·have hL':i ∉ L:=by simpa using hL
    obtain ⟨q,rest',es',T',h1,h2,h3,h4,h5,h6⟩:=XkM ok rest (pd++[i]) _ _ H (h.push ok ho e fun _=>hE) hd
    refine ⟨i :: q,rest',es',T',by rw [h1];rfl,by simpa using h2,h3,h4,fun j hj=>?_,fun j hj=>?_⟩
    ·simp only [List.mem_cons,not_or] at hj
     rw [h5 j hj.2];unfold upd;rw [if_neg hj.1]
    ·rcases List.mem_cons.1 hj with rfl|hj
     ·exact hL'
     ·exact h6 j hj
   ·exact ⟨[],i :: rest,es,T,rfl,by simpa using h,d0,.inr ⟨i,rest,rfl,by simpa using hL⟩,fun _ _=>rfl,by simp⟩
theorem Xo2 {listed:Array Bool} (hr:XlQ l) (hsz:listed.size=l.length) (hnil:Region.ready .any l.toArray listed=[]):∀j,j < l.length→listed.getD j false=true:=by
 intro j
 induction j using Nat.strongRecOn with
 | _ j ihj=>
   intro hj
   cases hs:listed.getD j false with
   | true=>rfl
   | false=>
     exfalso
     have hget:listed.getD j true=listed.getD j false:=by
      have hi':j < listed.size:=by omega
      simp [Array.getD,hi']
     have hlj:l[j]?=some l[j]:=by simp [hj]
     have:j∈Region.ready .any l.toArray listed:=by
      rw [mem_ready]
      exact ⟨by rw [hget,hs],l[j],by simp [hj],fun e he hb=>ihj e.on (hr.after j _ hlj e he).2 (by have:=(hr.after j _ hlj e he).2;omega)⟩
     rw [hnil] at this;cases this
def XcQ (n:Nat) (D:List Nat):Array Bool:=((List.range n).map fun i=>!D.contains i).toArray
def Xml (P:Program) (B:List Hp) (l:List Oper) (D:List Nat) (n0:Option Nat) (z:List AV) (Q:Xb9) (k:Nat) (T:List AV) (H:List Hp):Prop:=
 match n0 with
 | none=>Xfd P l.toArray Q k (XcQ l.length D) T (B++H)
 | some i=>∀b,Xfd P l.toArray Q k (XcQ l.length D) (Xa9 T ((Xc3 l i).bind (·.dst)) (.x (.pointer (some ⟨b,0,none⟩)))) (B++(.box b z :: H))
theorem Xql (S S':Nat→Bool):∀k,(∀j,j < k→S j=S' j)→cnt S k=cnt S' k
 | 0,_=>rfl
 | k+1,h=>by simp only [cnt];rw [Xql S S' k fun j hj=>h j (by omega),h k (by omega)]
theorem XnK (S S':Nat→Bool) (i:Nat) (h1:S i=false) (h2:S' i=true) (h:∀j,j≠i→S' j=S j):∀k,i < k→cnt S k=cnt S' k+1
 | 0,hk=>by omega
 | k+1,hk=>by
   simp only [cnt]
   by_cases hik:i=k
   ·subst hik
    rw [Xql S S' i fun j hj=>(h j (by omega)).symm];simp [h1,h2]
   ·rw [XnK S S' i h1 h2 h k (by omega),h k (by omega)];omega
end
end Go.Proofs.YtdlblokjfoggpaaGreatDoor

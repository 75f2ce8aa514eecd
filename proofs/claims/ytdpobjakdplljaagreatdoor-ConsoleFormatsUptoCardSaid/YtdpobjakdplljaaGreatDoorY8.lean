import Derived.Test.YtdpobjakdplljaaGreatDoorY7
import Derived.Test.YtdpobjakdplljaaGreatDoorRows
import Derived.Test.YtdpobjakdplljaaGreatDoorY6
/- A walk over symbolic memory: new rows that nobody writes later, quiet. No program in sight. -/
set_option linter.unusedSimpArgs false
set_option linter.unusedVariables false
set_option maxRecDepth 100000
set_option maxHeartbeats 8000000
namespace Go.Proofs.YtdpobjakdplljaaGreatDoor
open Go.RowKit
section
variable {P:Program} {H:List Hp} {o:Oper} {ρ:Operand→AV}
theorem Xdp (t e:TypeId) (len:Nat) (parts:Array (Nat × Operand)) (z:Value) (size bytes:Nat) (cells:List AV) (ho:o.op=.buildSlice t len parts) (hE:Xde P t e z size bytes)
  (hone:(parts.toList.all fun p=>(ρ p.2).cells.all AV.one)=true) (hz1:z.cells.toList.all (·.oneCell')=true) (hlen:len*size≤16777216)
  (hb:XfT (fun i=>some (i*size,size)) ((List.replicate len (z.cells.toList.map .x)).flatten) (parts.toList.map fun p=>(p.1,ρ p.2))=some cells):Evl P o ρ H (.sq len cells):=by
 intro V a w Kc Q r hKc
 obtain ⟨i,hi,hz,hsize,hby⟩:=info_parts hE.info
 have hpos:=hE.pos
 have hzs:=hE.zs
 -- the zeros
 have hz2:z.cells.toList.length=size:=by rw [Array.length_toList];exact hzs
 have hzeros:((Array.range (len*size)).map (z.cells[· % z.cells.size]!)).toList=(List.replicate len z.cells.toList).flatten:=by
  apply List.ext_getElem?
  intro j
  simp only [Array.toList_map,Array.toList_range,List.getElem?_map]
  by_cases hj:j < len*size
  ·rw [List.getElem?_range hj]
   have hmod:j % size < size:=Nat.mod_lt _ hpos
   have key:∀(n:Nat) (j:Nat),j < n*size→((List.replicate n z.cells.toList).flatten)[j]?=z.cells.toList[j % size]?:=by
    intro n
    induction n with
    | zero=>intro j h;simp at h
    | succ n ih=>
      intro j h
      rw [XvC,List.flatten_cons]
      by_cases h1:j < size
      ·rw [List.getElem?_append_left (by simp;omega),Nat.mod_eq_of_lt h1]
      ·rw [List.getElem?_append_right (by simp;omega),Array.length_toList,hzs,ih (j - size) (by rw [Nat.succ_mul] at h;omega),Nat.mod_eq_sub_mod (Nat.le_of_not_lt h1)]
   rw [key len j hj]
   simp [hzs,getElem!_pos,hmod]
  ·rw [List.getElem?_eq_none (by simpa using hj),List.getElem?_eq_none (by simp [hzs];omega)];rfl
 obtain ⟨vr,hf,hd⟩:=XfU (F:=FB V H) (w:=w) _ _ _ ((Array.range (len*size)).map (z.cells[· % z.cells.size]!)) cells hb (by
  rw [hzeros]
  have:(List.replicate len (z.cells.toList.map AV.x)).flatten=((List.replicate len z.cells.toList).flatten).map AV.x:=by
   rw [List.map_flatten,List.map_replicate]
  rw [this];exact XaV.exact) (XgB parts (fun p hp=>by simp [ho,Op.operands];exact ⟨p.1,by simpa using hp⟩) r (fun p hp=>List.all_eq_true.1 hone p (by simpa using hp)))
 have hrun:(execOp a.eval o).run P w=.ok (.value (.slice (some ⟨w.heap.size,0,none⟩) len len)) (w.alloc (.cells vr e)):=by
  have h24:¬(len*i.size > 16777216):=by rw [hsize];omega
  by_cases h0:len*i.size=0
  ·have hf':Instr.fill (fun j=>some (j*i.size,i.size)) #[] (parts.map fun (i,x)=>(i,a.eval x)).toList=some vr:=by
    rw [hsize] at h0 ⊢;rw [←hf,h0];simp [Array.range]
   have hl0:len=0:=by
    rw [hsize] at h0
    rcases Nat.mul_eq_zero.1 h0 with h|h
    ·exact h
    ·omega
   subst hl0
   have hf2:Instr.fill (fun j=>some (j*i.size,i.size)) #[] (List.map (fun x=>(x.1,a.eval x.2)) parts.toList)=some vr:=by rw [←hf',Array.toList_map]
   simp [execOp,ho,Instr.buildSlice,run_underlying hE.under,sizeOf,typeInfo,hi,newRow,show Array.range 0=#[] from rfl,hf2]
  ·have hf':Instr.fill (fun j=>some (j*i.size,i.size)) (Array.map (fun x=>z.cells[x % z.cells.size]!) (Array.range (len*i.size))) (parts.map fun (i,x)=>(i,a.eval x)).toList=some vr:=by
    rw [hsize];exact hf
   simp [execOp,ho,Instr.buildSlice,run_underlying hE.under,sizeOf,typeInfo,hi,h0,h24,zeroValue,hz,newRow] at hf' ⊢
   simp [hf']
 have hvlen:vr.size=len*size:=by
  have h1:=hd.len
  have:∀(ps:List (Nat × AV)) (cs r:List AV),XfT (fun i=>some (i*size,size)) cs ps=some r→r.length=cs.length:=by
   intro ps
   induction ps with
   | nil=>intro cs r h;simp only [XfT] at h;cases h;rfl
   | cons p ps ih=>
     intro cs r h
     obtain ⟨i,v⟩:=p
     simp only [XfT] at h
     split at h
     ·cases h
     ·rename_i hn
      rw [ih _ _ h]
      simp [spl];omega
  have h2:=this _ _ _ hb
  rw [Array.length_toList] at h1
  rw [h1,h2];simp [hzs]
 unfold Oper.wp
 rw [hrun]
 have hE':Ext w (w.alloc (.cells vr e)):=Ext.al _ _
 have hones:cells.all AV.one=true:=by
  have:∀(ps:List (Nat × AV)) (cs r:List AV),(ps.all fun p=>p.2.cells.all AV.one)=true→cs.all AV.one=true→XfT (fun i=>some (i*size,size)) cs ps=some r→r.all AV.one=true:=by
   intro ps
   induction ps with
   | nil=>intro cs r _ hc h;simp only [XfT] at h;cases h;exact hc
   | cons p ps ih=>
     intro cs r hp hc h
     obtain ⟨i,v⟩:=p
     simp only [XfT] at h
     simp only [List.all_cons,Bool.and_eq_true] at hp
     split at h
     ·cases h
     ·refine ih _ _ hp.2 ?_ h
      simp only [spl,List.all_append,Bool.and_eq_true]
      exact ⟨⟨List.all_eq_true.2 fun x hx=>List.all_eq_true.1 hc x (List.mem_of_mem_take hx),hp.1⟩,List.all_eq_true.2 fun x hx=>List.all_eq_true.1 hc x (List.mem_of_mem_drop hx)⟩
  refine this _ _ _ ?_ ?_ hb
  ·rw [List.all_map];exact hone
  ·rw [List.all_eq_true]
   intro x hx
   obtain ⟨l,hl,hx⟩:=List.mem_flatten.1 hx
   rw [List.eq_of_mem_replicate hl] at hx
   obtain ⟨v,hv,rfl⟩:=List.mem_map.1 hx
   exact List.all_eq_true.1 hz1 v hv
 have hF:∀k,FB V H k→k < w.heap.size:=fun k hk=>by
  rcases hk with hk|⟨x,hx,e⟩
  ·exact r.vlt k hk
  ·exact (r.hok.lt x hx k e).1
 refine hKc _ _ hE' ?_
 rw [Den]
 refine ⟨_,_,vr.toList,rfl,Nat.le_refl _,by unfold maxLen;have:len≤len*size:=Nat.le_mul_of_pos_right _ hpos;omega,fun h=>(by cases h),.inr ⟨_,_,rfl,fun hk=>by have:=hF _ hk;omega,fun j u hj=>⟨?_,hd.one hones u (List.mem_of_getElem? hj)⟩⟩,XaV.conv (fun k hk=>.inl hk) (fun k hk _=>hE'.block k hk) _ _ hd⟩
 rw [Nat.zero_add,World.cell?_alloc_new];simpa using hj
theorem XcP (src dst e:TypeId) (x:Operand) (l:List UInt8) (ho:o.op=.convert src dst x) (hs:P.underlying src=some .string) (ht:P.underlying dst=some (.slice e)) (he:P.elem dst=e) (hu:P.underlying e=some (.int .u8)) (hx:ρ x=.x (.string (bs l))) (hl:l.length≤1000000):Evl P o ρ H (.sq l.length (u8a l)):=by
 intro V a w Kc Q r hKc
 have hrun:=Xfh (P:=P) w src dst e (bs l) hs (by rw [ht,he]) he hu
 have h1:=grownCap_ge w (bs l).size 0 e
 have h2:=grownCap_le_maxLen w (bs l).size 0 e (by rw [XdW];unfold maxLen;omega)
 rw [XdW] at h1 h2 hrun
 have hsl:=XrO w 0 w.heap.size l.length e (bs l) l rfl (by simp) (by simp) (by simpa using hl) (Nat.zero_le _)
 obtain ⟨ad,cap,e1,_,_,_,_,hc⟩:=hsl
 simp only [Value.slice.injEq] at e1
 obtain ⟨rfl,-,-⟩:=e1
 have hE:Ext w (w.ext #[XhD w e (bs l)] (w.drawn+1)):=Ext.ext _ _ _
 have hF:∀k,FB V H k→k < w.heap.size:=fun k hk=>by
  rcases hk with hk|⟨x,hx,e⟩
  ·exact r.vlt k hk
  ·exact (r.hok.lt x hx k e).1
 unfold Oper.wp execOp
 simp only [ho,r.evx (x:=x) (by simp [ho,Op.operands]) hx,hrun,Sem.run_bind,Sem.run_pure,Result.andThen_ok,Oper.upon]
 refine hKc _ _ hE ?_
 rw [Den]
 refine ⟨_,_,u8s l,rfl,h1,h2,fun h=>(by cases h),.inr ⟨_,_,rfl,fun hk=>by have:=hF _ hk;omega,fun j u hj=>⟨?_,XkW l u (List.mem_of_getElem? hj)⟩⟩,XaV.exact⟩
 obtain ⟨x,hx,hu⟩:=hc j u hj
 cases hx
 rwa [XcX] at hu
theorem Xke {P:Program} {B:List Hp} {l:List Oper} {L D:List Nat} {i:Nat} {z:List AV} {Q:XcR} {k:Nat} {T:List AV} {H:List Hp} (h:∀b,XiK P l.toArray Q k (XdT l.length D) (Xb7 T ((Xe9 l i).bind (·.dst)) (.x (.pointer (some ⟨b,0,none⟩)))) (B++(.box b z :: H))):dm P B l L [] T H (Xrr P B l D (some i) z Q k):=h
theorem XbY {P:Program} {B:List Hp} {l:List Oper} {L D:List Nat} {z:List AV} {Q:XcR} {k:Nat} {T:List AV} {H:List Hp} (h:XiK P l.toArray Q k (XdT l.length D) T (B++H)):dm P B l L [] T H (Xrr P B l D none z Q k):=h
theorem Xjg {l:List Oper} {n:Nat} {t:TypeId} {o':Oper} {d:Nat} (ho':Xe9 l n=some o') (hop:o'.op=.alloc t) (hd:o'.dst=some d) {zv:Value} (hz:(P.info? t).bind (·.zero)=some zv) (h1:zv.cells.toList.all (·.oneCell')=true) {z:List AV} (hzz:zv.cells.toList.map AV.x=z) :
  ∀(i:Nat) (o:Oper),some n=some i→Xe9 l i=some o→∀(T:List AV) (H:List Hp),Stp P o T H (fun T' H'=>∃b,T'=Xb7 T o.dst (.x (.pointer (some ⟨b,0,none⟩)))∧H'=.box b z :: H):=by
 intro i o hi ho T H
 cases hi
 rw [ho'] at ho;cases ho
 subst hzz
 exact XaK t zv hop hz h1 fun b=>⟨b,rfl,rfl⟩
end
open Go.RowKit
section
variable {P:Program} {H:List Hp} {o:Oper} {ρ:Operand→AV} {T:List AV} {K:List AV→List Hp→Prop}
theorem Xk2:∀(l:List (Nat × AV)) (done zs:List AV),l.map (·.1)=List.range' done.length l.length→zs.length=l.length→(l.all fun p=>p.2.one)=true→XfT (fun i=>some (i*1,1)) (done++zs) l=some (done++l.map (·.2))
 | [],done,zs,_,hz,_=>by
   have:zs=[]:=List.eq_nil_of_length_eq_zero (by simpa using hz)
   subst this;rfl
 | (i,v) :: l,done,zs,hi,hz,h1=>by
   simp only [XvA,Xvy,List.range'_succ,List.cons.injEq] at hi
   obtain ⟨rfl,hi⟩:=hi
   simp only [List.all_cons,Bool.and_eq_true] at h1
   cases zs with
   | nil=>simp at hz
   | cons z zs=>
     have hc:=Xef h1.1
     rw [XfT]
     simp only [hc,Xvy,XvB,Nat.mul_one]
     rw [if_neg (by simp),Xpd _ _ _ (by simp)]
     have:(done++z :: zs).set done.length v=(done++[v])++zs:=by
      rw [List.set_append_right _ _ (Nat.le_refl _)];simp
     rw [this]
     have:=Xk2 l (done++[v]) zs (by rw [hi];simp) (by simpa using hz) h1.2
     simp only [Nat.mul_one] at this ⊢
     rw [this];simp
theorem XpF {len:Nat} {z:Value} {parts:List (Nat × Operand)} (hz:z.cells.toList.length=1) (hi:parts.map (·.1)=List.range len) (h1:(parts.all fun p=>(ρ p.2).one)=true):XfT (fun i=>some (i*1,1)) ((List.replicate len (z.cells.toList.map .x)).flatten) (parts.map fun p=>(p.1,ρ p.2))=some (parts.map fun p=>ρ p.2):=by
 have hlen:parts.length=len:=by have:=congrArg List.length hi;simpa using this
 have:=Xk2 (parts.map fun p=>(p.1,ρ p.2)) [] ((List.replicate len (z.cells.toList.map .x)).flatten) (by
  rw [List.map_map]
  rw [List.length_map,hlen,XvB,←List.range_eq_range']
  exact hi) (by
  rw [List.length_map,hlen]
  clear hi h1 hlen
  induction len with
  | zero=>rfl
  | succ n ih=>rw [XvC,List.flatten_cons,XvH,ih,List.length_map,hz];omega) (by rw [List.all_map];exact h1)
 rw [XvF] at this
 rw [this,List.map_map];rfl
theorem XsI {parts:List (Nat × Operand)} (h1:(parts.all fun p=>(ρ p.2).one)=true):(parts.all fun p=>(ρ p.2).cells.all AV.one)=true:=by
 rw [List.all_eq_true] at h1 ⊢
 intro p hp
 have:=h1 p hp
 rw [Xef this];simp [this]
theorem XbI (t e:TypeId) (len:Nat) (parts:Array (Nat × Operand)) (z:Value) (bytes:Nat) (ho:o.op=.buildSlice t len parts) (hE:Xde P t e z 1 bytes)
  (hi:parts.toList.map (·.1)=List.range len) (h1:(parts.toList.all fun p=>(ρ p.2).one)=true) (hz1:z.cells.toList.all (·.oneCell')=true) (hz:z.cells.toList.length=1) (hlen:len≤16777216):Evl P o ρ H (.sq len (parts.toList.map fun p=>ρ p.2)):=
 Xdp t e len parts z 1 bytes _ ho hE (XsI h1) hz1 (by omega) (XpF hz hi h1)
end
open Go.RowKit
theorem XfC {P:Program} {B:List Hp} {l:List Oper} {L D:List Nat} {i d:Nat} {z:List AV} {Q:XcR} {k:Nat} {T:List AV} {H:List Hp} (hd:(Xe9 l i).bind (·.dst)=some d) (h:∀b,XiK P l.toArray Q k (XdT l.length D) (T.set d (.x (.pointer (some ⟨b,0,none⟩)))) (B++(.box b z :: H))):dm P B l L [] T H (Xrr P B l D (some i) z Q k):=
 Xke fun b=>by rw [hd];exact h b
open Go.RowKit Go.Lib
section
variable {P:Program} {o:Oper} {H:List Hp} {T:List AV} {K:List AV→List Hp→Prop}
theorem XjD (l:List UInt8):strCells (bs l)=u8s l:=by simp [strCells,u8s,bs]
theorem XfJ (w:World) (t u ty e:TypeId) (hE:Xde P t e (.int .u8 0) 1 1) (hu:P.underlying u=some .string) (ad:Option Addr) (n cap0:Nat) (xs:List Value) (hown:w.ownsRow 0 e 1 (.slice ad n cap0) n xs) (s:ByteArray) (hf:n+s.size≤10000000) :
  ∃ad' cap' w',(Builtin.append_ #[t,u] ty #[.slice ad n cap0,.string s]).run P w=.ok (.slice ad' (n+s.size) cap') w'∧w'.ownsRow 0 e 1 (.slice ad' (n+s.size) cap') (n+s.size) (xs++strCells s)∧w.grownBy w' (Value.slice ad n cap0).ownBlock∧∀x,ad'=some x→ad=some x∨x.block=w.heap.size:=by
 obtain ⟨i,hi,hz,hsize,hby⟩:=info_parts hE.info
 obtain ⟨v',w',hrun,g1,g2,g3⟩:=run_append_own_string (P:=P) (w:=w) 0 t u ty e i hE.under hu hi hz hsize hby (.slice ad n cap0) n xs hown s (by unfold maxLen;omega) (by omega) (Nat.zero_le _)
 obtain ⟨ad',cap',rfl,_⟩:=(Sl.own g1).shape
 refine ⟨ad',cap',w',hrun,g1,g2,fun x hx=>?_⟩
 subst hx
 have hxl:xs.length=n:=by simpa using hown.1
 rcases hown.2 with ⟨e1,rfl⟩|⟨g,cap1,cur,e1,hbg,hg,hnc,hcm,hcs,htake⟩
 ·cases e1
  by_cases hm:s.size=0
  ·have:=g3.2 ⟨rfl,hm⟩;cases this
  ·have hr:=run_append_nil_string (P:=P) w t u ty e i (.int .u8 0) hE.under hu hi hz s (by omega) (by omega) (by rw [hby];omega)
   simp only [Nat.zero_add] at hrun
   rw [hr] at hrun
   simp only [Result.ok.injEq,Value.slice.injEq,Option.some.injEq] at hrun
   exact .inr (by rw [←hrun.1.1])
 ·simp only [Value.slice.injEq] at e1
  obtain ⟨rfl,-,rfl⟩:=e1
  by_cases hroom:n+s.size≤cap0
  ·have hcs':cur.size=cap0:=by simpa using hcs
   have hr:=run_append_room_string (P:=P) w t u ty e i hE.under hu hi hsize g n cap0 cur hg s hroom (by omega)
   rw [hr] at hrun
   simp only [Result.ok.injEq,Value.slice.injEq,Option.some.injEq] at hrun
   exact .inl (by rw [←hrun.1.1])
  ·have hr:=run_append_grow_string (P:=P) w t u ty e i (.int .u8 0) hE.under hu hi hz ⟨g,0,none⟩ n cap0 xs (by rw [hsize];simpa using hxl) (hown.cells (g:=g) rfl) s (by omega) (by omega) (by rw [hby];exact growslice_fits (by omega) (by omega))
   rw [hr] at hrun
   simp only [Result.ok.injEq,Value.slice.injEq,Option.some.injEq] at hrun
   exact .inr (by rw [←hrun.1.1])
theorem XcK (p:Nat) (s x:Operand) (t u e:TypeId) (ad:Option Addr) (n cap:Nat) (cells:List AV) (l:List UInt8) (ho:o.op=.call { callee:=.builtin .append,args:=#[s,x],argTypes:=#[t,u] }) (hs:ev T s=.x (.slice ad n cap)) (hp:H[p]?=some (.row ad n cap e 1 cells))
  (hx:ev T x=.x (.string (bs l))) (hE:Xde P t e (.int .u8 0) 1 1) (hu:P.underlying u=some .string) (hf:n+l.length≤10000000)
  (hK:∀ad' cap',K (Xb7 T o.dst (.x (.slice ad' (n+l.length) cap'))) (H.set p (.row ad' (n+l.length) cap' e 1 (cells++u8a l)))):Stp P o T H K:=by
 intro Δ V O w0 a w Kc Q r hKc
 obtain ⟨vals,hd,hown,h1⟩:=r.hp p _ hp
 obtain ⟨ad',cap',w',hrun,g1,g2,g3⟩:=XfJ (P:=P) w t u o.type e hE hu ad n cap vals hown (bs l) (by rw [XdW];exact hf)
 rw [XdW] at hrun g1
 rw [XjD] at g1
 unfold Oper.wp execOp
 simp only [ho,resolve,invoke,builtin,Sem.run_bind,Sem.run_pure,Result.andThen_ok,List.map_toArray,XvA,XvE,r.evx hs,r.evx hx,hrun,Oper.upon]
 have hob:(Value.slice ad n cap).ownBlock=ad.map (·.block):=by cases ad<;>rfl
 have hw:∀k,k < w.heap.size→(Hp.row ad n cap e 1 cells).blk≠some k→w'.heap[k]?=w.heap[k]?:=fun k hk hn=>g2.block k hk fun e=>hn (by rw [hob] at e;exact e.symm)
 have hlt:∀k,(Hp.row ad' (n+l.length) cap' e 1 (cells++u8a l)).blk=some k→k < w'.heap.size∧((Hp.row ad n cap e 1 cells).blk=some k∨w.heap.size≤k):=by
  intro k hk
  refine ⟨(g1.lt k (by simp only [Hp.blk] at hk;cases ad' with|none=>simp at hk|some y=>simpa [Value.ownBlock] using hk)).2,?_⟩
  cases ad' with
  | none=>simp [Hp.blk] at hk
  | some y=>
    simp [Hp.blk] at hk
    subst hk
    rcases g3 y rfl with rfl|e
    ·exact .inl rfl
    ·exact .inr (by omega)
 refine hKc _ _ _ _ (hK ad' cap') (Rel.put (Rel.turnAt (y:=.row ad' (n+l.length) cap' e 1 (cells++u8a l)) r p hp g2.os g2.tape g2.output g2.size hw hlt ?_) _ (by rw [Den]))
 have hF:∀k,FB V (H.set p (.row ad' (n+l.length) cap' e 1 (cells++u8a l))) k→FB V H k∨w.heap.size≤k:=by
  intro k hk
  rcases hk with hk|⟨y,hy,e⟩
  ·exact .inl (.inl hk)
  ·rcases List.mem_or_eq_of_mem_set hy with hy|rfl
   ·exact .inl (.inr ⟨y,hy,e⟩)
   ·rcases (hlt k e).2 with h|h
    ·exact .inl (.inr ⟨_,List.mem_of_getElem? hp,h⟩)
    ·exact .inr h
 have hw':∀k,k < w.heap.size→¬FB V H k→w'.heap[k]?=w.heap[k]?:=fun k hk hn=>hw k hk fun e=>hn (.inr ⟨_,List.mem_of_getElem? hp,e⟩)
 exact ⟨vals++u8s l,(XaV.conv hF hw' _ _ hd).app XaV.exact,g1,fun u hu=>by
  rcases List.mem_append.1 hu with h|h
  ·exact h1 u h
  ·exact XkW l u h⟩
end
set_option maxRecDepth 100000
instance:XaN Tryz.prog 3 false 1:=⟨by kernel_rfl⟩
instance:XaR Tryz.prog 3 1:=⟨by kernel_rfl⟩
instance:Xbk Tryz.prog 3 (Value.int IntKind.i64 0):=⟨by kernel_rfl⟩
instance:XaN Tryz.prog 4 false 1:=⟨by kernel_rfl⟩
instance:XaR Tryz.prog 4 1:=⟨by kernel_rfl⟩
instance:XaN Tryz.prog 5 false 1:=⟨by kernel_rfl⟩
instance:XaN Tryz.prog 9 false 1:=⟨by kernel_rfl⟩
instance:XaR Tryz.prog 9 1:=⟨by kernel_rfl⟩
instance:XaN Tryz.prog 22 false 1:=⟨by kernel_rfl⟩
instance:HEl Tryz.prog 22 3 1:=⟨by kernel_rfl⟩
instance:XaY Tryz.prog 22 3 (Value.int IntKind.i64 0) 1 8:=⟨⟨by kernel_rfl,by kernel_rfl,rfl,by decide⟩⟩
instance:XaN Tryz.prog 25 false 1:=⟨by kernel_rfl⟩
instance:XaR Tryz.prog 25 1:=⟨by kernel_rfl⟩
instance:HEl Tryz.prog 25 9 1:=⟨by kernel_rfl⟩
instance:XaY Tryz.prog 25 9 (Value.string ⟨#[]⟩) 1 16:=⟨⟨by kernel_rfl,by kernel_rfl,rfl,by decide⟩⟩
instance:XaN Tryz.prog 26 false 1:=⟨by kernel_rfl⟩
instance:XaR Tryz.prog 26 1:=⟨by kernel_rfl⟩
instance:HEl Tryz.prog 26 41 8:=⟨by kernel_rfl⟩
instance:XaY Tryz.prog 26 41 (Value.agg #[Value.int IntKind.i64 0,Value.string ⟨#[]⟩,Value.bool false,Value.int IntKind.i64 0,Value.slice none 0 0,Value.int IntKind.u64 0,Value.int IntKind.i64 0,Value.int IntKind.i64 0]) 8 88:=⟨⟨by kernel_rfl,by kernel_rfl,rfl,by decide⟩⟩
instance:Xbk Tryz.prog 26 (Value.slice none 0 0):=⟨by kernel_rfl⟩
instance:XaN Tryz.prog 27 false 1:=⟨by kernel_rfl⟩
instance:XaR Tryz.prog 27 1:=⟨by kernel_rfl⟩
instance:Xbk Tryz.prog 27 (Value.int IntKind.i64 0):=⟨by kernel_rfl⟩
instance:HEl Tryz.prog 33 26 1:=⟨by kernel_rfl⟩
instance:XaY Tryz.prog 33 26 (Value.slice none 0 0) 1 24:=⟨⟨by kernel_rfl,by kernel_rfl,rfl,by decide⟩⟩
instance:XaN Tryz.prog 38 false 1:=⟨by kernel_rfl⟩
instance:XaR Tryz.prog 38 1:=⟨by kernel_rfl⟩
instance:Xbk Tryz.prog 38 (Value.int IntKind.u64 0):=⟨by kernel_rfl⟩
instance:XaN Tryz.prog 39 false 1:=⟨by kernel_rfl⟩
instance:XaR Tryz.prog 39 1:=⟨by kernel_rfl⟩
instance:HEl Tryz.prog 39 5 1:=⟨by kernel_rfl⟩
instance:XaY Tryz.prog 39 5 (Value.int IntKind.u8 0) 1 1:=⟨⟨by kernel_rfl,by kernel_rfl,rfl,by decide⟩⟩
instance:XaN Tryz.prog 41 true 8:=⟨by kernel_rfl⟩
instance:XaR Tryz.prog 41 8:=⟨by kernel_rfl⟩
instance:HPl Tryz.prog 41 [(0,1),(1,1),(2,1),(3,1),(4,1),(5,1),(6,1),(7,1)] [Value.int IntKind.i64 0,Value.string ⟨#[]⟩,Value.bool false,Value.int IntKind.i64 0,Value.slice none 0 0,Value.int IntKind.u64 0,Value.int IntKind.i64 0,Value.int IntKind.i64 0]:=⟨by kernel_rfl⟩
instance:Xbk Tryz.prog 41 (Value.agg #[Value.int IntKind.i64 0,Value.string ⟨#[]⟩,Value.bool false,Value.int IntKind.i64 0,Value.slice none 0 0,Value.int IntKind.u64 0,Value.int IntKind.i64 0,Value.int IntKind.i64 0]):=⟨by kernel_rfl⟩
instance:Xa5 Tryz.prog 41 0 0:=⟨by kernel_rfl⟩
instance:Xa5 Tryz.prog 41 1 1:=⟨by kernel_rfl⟩
instance:Xa5 Tryz.prog 41 2 2:=⟨by kernel_rfl⟩
instance:Xa5 Tryz.prog 41 3 3:=⟨by kernel_rfl⟩
instance:Xa5 Tryz.prog 41 4 4:=⟨by kernel_rfl⟩
instance:Xa5 Tryz.prog 41 5 5:=⟨by kernel_rfl⟩
instance:Xa5 Tryz.prog 41 6 6:=⟨by kernel_rfl⟩
instance:Xa5 Tryz.prog 41 7 7:=⟨by kernel_rfl⟩
instance:HEl Tryz.prog 43 51 15:=⟨by kernel_rfl⟩
instance:XaY Tryz.prog 43 51 (Value.agg #[Value.string ⟨#[]⟩,Value.string ⟨#[]⟩,Value.slice none 0 0,Value.slice none 0 0,Value.bool false,Value.string ⟨#[]⟩,Value.int IntKind.i64 0,Value.int IntKind.u64 0,Value.int IntKind.u64 0,Value.int IntKind.u64 0,Value.int IntKind.i64 0,Value.int IntKind.u64 0,Value.slice none 0 0,Value.int IntKind.i64 0,Value.int IntKind.i64 0]) 15 192:=⟨⟨by kernel_rfl,by kernel_rfl,rfl,by decide⟩⟩
instance:XaN Tryz.prog 48 false 1:=⟨by kernel_rfl⟩
instance:XaR Tryz.prog 48 1:=⟨by kernel_rfl⟩
instance:HEl Tryz.prog 48 55 2:=⟨by kernel_rfl⟩
instance:XaY Tryz.prog 48 55 (Value.agg #[Value.string ⟨#[]⟩,Value.string ⟨#[]⟩]) 2 32:=⟨⟨by kernel_rfl,by kernel_rfl,rfl,by decide⟩⟩
instance:XaN Tryz.prog 49 false 1:=⟨by kernel_rfl⟩
instance:XaR Tryz.prog 49 1:=⟨by kernel_rfl⟩
instance:HEl Tryz.prog 49 53 2:=⟨by kernel_rfl⟩
instance:XaY Tryz.prog 49 53 (Value.agg #[Value.int IntKind.i64 0,Value.int IntKind.u64 0]) 2 16:=⟨⟨by kernel_rfl,by kernel_rfl,rfl,by decide⟩⟩
instance:XaN Tryz.prog 51 true 15:=⟨by kernel_rfl⟩
instance:XaR Tryz.prog 51 15:=⟨by kernel_rfl⟩
instance:HPl Tryz.prog 51 [(0,1),(1,1),(2,1),(3,1),(4,1),(5,1),(6,1),(7,1),(8,1),(9,1),(10,1),(11,1),(12,1),(13,1),(14,1)] [Value.string ⟨#[]⟩,Value.string ⟨#[]⟩,Value.slice none 0 0,Value.slice none 0 0,Value.bool false,Value.string ⟨#[]⟩,Value.int IntKind.i64 0,Value.int IntKind.u64 0,Value.int IntKind.u64 0,Value.int IntKind.u64 0,Value.int IntKind.i64 0,Value.int IntKind.u64 0,Value.slice none 0 0,Value.int IntKind.i64 0,Value.int IntKind.i64 0]:=⟨by kernel_rfl⟩
instance:Xbk Tryz.prog 51 (Value.agg #[Value.string ⟨#[]⟩,Value.string ⟨#[]⟩,Value.slice none 0 0,Value.slice none 0 0,Value.bool false,Value.string ⟨#[]⟩,Value.int IntKind.i64 0,Value.int IntKind.u64 0,Value.int IntKind.u64 0,Value.int IntKind.u64 0,Value.int IntKind.i64 0,Value.int IntKind.u64 0,Value.slice none 0 0,Value.int IntKind.i64 0,Value.int IntKind.i64 0]):=⟨by kernel_rfl⟩
instance:Xa5 Tryz.prog 51 0 0:=⟨by kernel_rfl⟩
instance:Xa5 Tryz.prog 51 1 1:=⟨by kernel_rfl⟩
instance:Xa5 Tryz.prog 51 2 2:=⟨by kernel_rfl⟩
instance:Xa5 Tryz.prog 51 3 3:=⟨by kernel_rfl⟩
instance:Xa5 Tryz.prog 51 4 4:=⟨by kernel_rfl⟩
instance:Xa5 Tryz.prog 51 5 5:=⟨by kernel_rfl⟩
instance:Xa5 Tryz.prog 51 6 6:=⟨by kernel_rfl⟩
instance:Xa5 Tryz.prog 51 7 7:=⟨by kernel_rfl⟩
instance:Xa5 Tryz.prog 51 8 8:=⟨by kernel_rfl⟩
instance:Xa5 Tryz.prog 51 9 9:=⟨by kernel_rfl⟩
instance:Xa5 Tryz.prog 51 10 10:=⟨by kernel_rfl⟩
instance:Xa5 Tryz.prog 51 11 11:=⟨by kernel_rfl⟩
instance:Xa5 Tryz.prog 51 12 12:=⟨by kernel_rfl⟩
instance:XaN Tryz.prog 53 true 2:=⟨by kernel_rfl⟩
instance:HPl Tryz.prog 53 [(0,1),(1,1)] [Value.int IntKind.i64 0,Value.int IntKind.u64 0]:=⟨by kernel_rfl⟩
instance:Xa5 Tryz.prog 53 0 0:=⟨by kernel_rfl⟩
instance:Xa5 Tryz.prog 53 1 1:=⟨by kernel_rfl⟩
instance:XaN Tryz.prog 55 true 2:=⟨by kernel_rfl⟩
instance:HPl Tryz.prog 55 [(0,1),(1,1)] [Value.string ⟨#[]⟩,Value.string ⟨#[]⟩]:=⟨by kernel_rfl⟩
instance:Xa5 Tryz.prog 55 0 0:=⟨by kernel_rfl⟩
instance:Xa5 Tryz.prog 55 1 1:=⟨by kernel_rfl⟩
instance:XaN Tryz.prog 62 false 1:=⟨by kernel_rfl⟩
instance:HEl Tryz.prog 62 111 4:=⟨by kernel_rfl⟩
instance:XaY Tryz.prog 62 111 (Value.agg #[Value.int IntKind.i64 0,Value.string ⟨#[]⟩,Value.int IntKind.i64 0,Value.int IntKind.i64 0]) 4 40:=⟨⟨by kernel_rfl,by kernel_rfl,rfl,by decide⟩⟩
instance:XaN Tryz.prog 64 true 3:=⟨by kernel_rfl⟩
instance:XaR Tryz.prog 64 3:=⟨by kernel_rfl⟩
instance:HPl Tryz.prog 64 [(0,1),(1,1),(2,1)] [Value.int IntKind.i64 0,Value.int IntKind.i64 0,Value.int IntKind.i64 0]:=⟨by kernel_rfl⟩
instance:Xbk Tryz.prog 64 (Value.agg #[Value.int IntKind.i64 0,Value.int IntKind.i64 0,Value.int IntKind.i64 0]):=⟨by kernel_rfl⟩
instance:Xa5 Tryz.prog 64 0 0:=⟨by kernel_rfl⟩
instance:Xa5 Tryz.prog 64 1 1:=⟨by kernel_rfl⟩
instance:Xa5 Tryz.prog 64 2 2:=⟨by kernel_rfl⟩
instance:Xbk Tryz.prog 74 (Value.agg #[Value.pointer none,Value.slice none 0 0]):=⟨by kernel_rfl⟩
instance:Xa5 Tryz.prog 74 1 1:=⟨by kernel_rfl⟩
instance:XaN Tryz.prog 76 true 3:=⟨by kernel_rfl⟩
instance:XaR Tryz.prog 76 3:=⟨by kernel_rfl⟩
instance:HPl Tryz.prog 76 [(0,1),(1,1),(2,1)] [Value.string ⟨#[]⟩,Value.int IntKind.i64 0,Value.string ⟨#[]⟩]:=⟨by kernel_rfl⟩
instance:Xbk Tryz.prog 76 (Value.agg #[Value.string ⟨#[]⟩,Value.int IntKind.i64 0,Value.string ⟨#[]⟩]):=⟨by kernel_rfl⟩
instance:Xa5 Tryz.prog 76 0 0:=⟨by kernel_rfl⟩
instance:Xa5 Tryz.prog 76 1 1:=⟨by kernel_rfl⟩
instance:Xa5 Tryz.prog 76 2 2:=⟨by kernel_rfl⟩
instance:HPl Tryz.prog 95 [(0,1),(1,1)] [Value.slice none 0 0,Value.int IntKind.i64 0]:=⟨by kernel_rfl⟩
instance:Xa5 Tryz.prog 95 0 0:=⟨by kernel_rfl⟩
instance:Xa5 Tryz.prog 95 1 1:=⟨by kernel_rfl⟩
instance:XaN Tryz.prog 103 false 1:=⟨by kernel_rfl⟩
instance:Xbk Tryz.prog 103 (Value.int IntKind.i64 0):=⟨by kernel_rfl⟩
instance:XaN Tryz.prog 106 false 1:=⟨by kernel_rfl⟩
instance:Xbk Tryz.prog 106 (Value.pointer none):=⟨by kernel_rfl⟩
instance:HPl Tryz.prog 109 [(0,1),(1,1),(2,1)] [Value.int IntKind.i64 0,Value.int IntKind.i64 0,Value.nilIface]:=⟨by kernel_rfl⟩
instance:Xa5 Tryz.prog 109 0 0:=⟨by kernel_rfl⟩
instance:Xa5 Tryz.prog 109 1 1:=⟨by kernel_rfl⟩
instance:XaN Tryz.prog 111 true 4:=⟨by kernel_rfl⟩
instance:XaR Tryz.prog 111 4:=⟨by kernel_rfl⟩
instance:HPl Tryz.prog 111 [(0,1),(1,1),(2,1),(3,1)] [Value.int IntKind.i64 0,Value.string ⟨#[]⟩,Value.int IntKind.i64 0,Value.int IntKind.i64 0]:=⟨by kernel_rfl⟩
instance:Xbk Tryz.prog 111 (Value.agg #[Value.int IntKind.i64 0,Value.string ⟨#[]⟩,Value.int IntKind.i64 0,Value.int IntKind.i64 0]):=⟨by kernel_rfl⟩
instance:Xa5 Tryz.prog 111 0 0:=⟨by kernel_rfl⟩
instance:Xa5 Tryz.prog 111 1 1:=⟨by kernel_rfl⟩
instance:Xa5 Tryz.prog 111 2 2:=⟨by kernel_rfl⟩
instance:Xa5 Tryz.prog 111 3 3:=⟨by kernel_rfl⟩
instance:XaN Tryz.prog 124 true 5:=⟨by kernel_rfl⟩
instance:XaR Tryz.prog 124 5:=⟨by kernel_rfl⟩
instance:HPl Tryz.prog 124 [(0,1),(1,1),(2,1),(3,1),(4,1)] [Value.int IntKind.i64 0,Value.int IntKind.i64 0,Value.int IntKind.i64 0,Value.string ⟨#[]⟩,Value.slice none 0 0]:=⟨by kernel_rfl⟩
instance:Xbk Tryz.prog 124 (Value.agg #[Value.int IntKind.i64 0,Value.int IntKind.i64 0,Value.int IntKind.i64 0,Value.string ⟨#[]⟩,Value.slice none 0 0]):=⟨by kernel_rfl⟩
instance:Xa5 Tryz.prog 124 0 0:=⟨by kernel_rfl⟩
instance:Xa5 Tryz.prog 124 1 1:=⟨by kernel_rfl⟩
instance:Xa5 Tryz.prog 124 2 2:=⟨by kernel_rfl⟩
instance:Xa5 Tryz.prog 124 3 3:=⟨by kernel_rfl⟩
instance:Xa5 Tryz.prog 124 4 4:=⟨by kernel_rfl⟩
instance:HPl Tryz.prog 149 [(0,1),(1,1),(2,1),(3,1)] [Value.string ⟨#[]⟩,Value.int IntKind.i64 0,Value.int IntKind.i64 0,Value.int IntKind.i64 0]:=⟨by kernel_rfl⟩
instance:Xa5 Tryz.prog 149 0 0:=⟨by kernel_rfl⟩
instance:Xa5 Tryz.prog 149 1 1:=⟨by kernel_rfl⟩
instance:Xa5 Tryz.prog 149 2 2:=⟨by kernel_rfl⟩
instance:Xa5 Tryz.prog 149 3 3:=⟨by kernel_rfl⟩
instance:HPl Tryz.prog 253 [(0,1),(1,1),(2,3),(5,1)] [Value.slice none 0 0,Value.int IntKind.i64 0,Value.int IntKind.i64 0,Value.int IntKind.i64 0,Value.int IntKind.i64 0,Value.slice none 0 0]:=⟨by kernel_rfl⟩
instance:Xa5 Tryz.prog 253 0 0:=⟨by kernel_rfl⟩
instance:Xa5 Tryz.prog 253 1 1:=⟨by kernel_rfl⟩
instance:Xa5 Tryz.prog 253 2 2:=⟨by kernel_rfl⟩
instance:Xa5 Tryz.prog 253 3 5:=⟨by kernel_rfl⟩
theorem mixed:Tryz.prog.follows .mixedOrders=true:=by kernel_rfl
set_option maxRecDepth 100000
instance:HFv Tryz.prog 111 0 0 false 1:=⟨by kernel_rfl⟩
instance:HFv Tryz.prog 111 1 1 false 1:=⟨by kernel_rfl⟩
open Go.RowKit
theorem Xa0 {α:Type} (l:List α) (k:Nat) (h:k < l.length):l.take (k+1)=l.take k++[l[k]]:=by
 rw [List.take_succ_eq_append_getElem h]
def sa (l:List (List UInt8)):List AV:=l.map fun s=>.x (.string (bs s))
@[simp] theorem Xvm (l:List (List UInt8)):(sa l).length=l.length:=by simp [sa]
theorem XdF (l:List (List UInt8)) (k:Nat) (h:k < l.length):(sa l).drop k=.x (.string (bs l[k])) :: sa (l.drop (k+1)):=by
 rw [sa,←List.map_drop,List.drop_eq_getElem_cons h];rfl
theorem Xjz (l m:List (List UInt8)):sa (l++m)=sa l++sa m:=by simp [sa]
theorem Xti (v:Int) (h0:0≤v) (h1:v < 256):u8a [UInt8.ofNat v.toNat]=[.x (.int .u8 v)]:=by
 have e:(UInt8.ofNat v.toNat).toNat=v.toNat:=by
  rw [UInt8.toNat_ofNat']
  exact Nat.mod_eq_of_lt (by omega)
 simp [u8a,u8s,e]
 omega
theorem Src.chr {ρ:Operand→AV} {H:List Hp} {x:Operand} (q:Nat) {ad:Option Addr} {cap:Nat} {e:TypeId} {size:Nat} (v:Int) (h0:0≤v) (h1:v < 256) (hx:ρ x=.x (.slice ad 1 cap)) (hq:H[q]?=some (.row ad 1 cap e size [.x (.int .u8 v)])) :
  Src ρ H x [UInt8.ofNat v.toNat].length (u8a [UInt8.ofNat v.toNat]):=by
 rw [Xti v h0 h1];exact Src.row q hx hq
theorem Xcz (l m:List UInt8):u8a (l++m)=u8a l++u8a m:=by simp [u8a,u8s]
theorem Xcl (b:UInt8) (l:List UInt8):u8a (b :: l)=.x (.int .u8 (b.toNat:Nat)) :: u8a l:=by simp [u8a,u8s]
theorem Xdn:u8a []=[]:=rfl
theorem XcL {P:Program} {o:Oper} {ρ:Operand→AV} {H:List Hp} (t:TypeId) (x y:Operand) (k:IntKind) (i:Int) (j:Nat) (l:List UInt8) (ho:o.op=.index t x y) (hx:ρ x=.x (.string (bs l))) (hy:ρ y=.x (.int k i)) (ht:P.underlying t=some .string) (hi:i=(j:Int)) (h1:j < l.length):XlT P o ρ H (.x (.int .u8 (l.getD j 0).toNat)):=by
 subst hi
 intro V a w r
 have hg:(bs l)[j]?=some l[j]:=by rw [getElem?_pos (bs l) j (by simpa using h1)];simp
 refine ⟨.int .u8 (l.getD j 0).toNat,fun w'=>?_,by rw [Den]⟩
 have hrun:(Instr.index t (.string (bs l)) (.int k (j:Int))).run P w'=.ok (.int .u8 (l.getD j 0).toNat) w':=by simp [Instr.index,asIntOf,run_underlying ht,hg,h1,List.getD]
 simp [execOp,ho,r.evx (x:=x) (by simp [ho,Op.operands]) hx,r.evx (x:=y) (by simp [ho,Op.operands]) hy,hrun]
theorem Xet {α:Type} (s:List α) (k:Nat) (d:α) (h:k < s.length):s.getD k d=s[k]:=by simp [List.getD,h]
theorem Xfk {α:Type} (s:List α) (k:Nat) (d:α) (h:k < s.length):s[k]?.getD d=s[k]:=by simp [h]
structure CF where
 kind:Int
 rows:Int
 cols:Int
 name:List UInt8
 data:List UInt8
def CF.cells (c:CF):List AV:=[.x (.int .i64 c.kind),.x (.int .i64 c.rows),.x (.int .i64 c.cols),.x (.string (bs c.name)),.sq c.data.length (u8a c.data)]
structure Xrc (c:CF):Prop where
 kind:1≤c.kind∧c.kind≤9
 size:if c.kind=1 then (1≤c.rows∧c.rows≤8)∧1≤c.cols∧c.cols≤24 else c.rows=0∧c.cols=0
 name:if c.kind=2∨c.kind=4∨c.kind=5∨c.kind=6 then c.name.length=1 else c.name=[]
 data:if c.kind=3∨c.kind=7 then c.data.length≤1101 else c.data=[]
end Go.Proofs.YtdpobjakdplljaaGreatDoor

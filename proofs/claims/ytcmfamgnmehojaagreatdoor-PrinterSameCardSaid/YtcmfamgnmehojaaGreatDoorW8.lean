import Derived.Test.YtcmfamgnmehojaaGreatDoorW7
import Derived.Test.YtcmfamgnmehojaaGreatDoorW6
import Derived.Test.YtcmfamgnmehojaaGreatDoorRows
import Derived.Test.YtcmfamgnmehojaaGreatDoorW1
import Derived.Lib.UnsafeStr
import Derived.RangeFuncIn
import Derived.RangeFuncRecord
import Derived.RangeFuncCalls
import Derived.TacticsIn
import Derived.CallsIn
import Derived.OrdersIn
/- A walk over symbolic memory: new rows that nobody writes later, quiet. No program in sight. -/
set_option linter.unusedSimpArgs false
set_option linter.unusedVariables false
set_option maxRecDepth 100000
set_option maxHeartbeats 8000000
namespace Go.Proofs.YtcmfamgnmehojaaGreatDoor
open Go.RowKit
section
variable {P:Program} {H:List Hp} {o:Oper} {ρ:Operand→AV}
theorem Xet (t e:TypeId) (len:Nat) (parts:Array (Nat × Operand)) (z:Value) (size bytes:Nat) (cells:List AV) (ho:o.op=.buildSlice t len parts) (hE:Xd9 P t e z size bytes)
  (hone:(parts.toList.all fun p=>(ρ p.2).cells.all AV.one)=true) (hz1:z.cells.toList.all (·.oneCell')=true) (hlen:len*size≤16777216)
  (hb:Xen (fun i=>some (i*size,size)) ((List.replicate len (z.cells.toList.map .x)).flatten) (parts.toList.map fun p=>(p.1,ρ p.2))=some cells):Evl P o ρ H (.sq len cells):=by
 intro V a w Kc Q r hKc
 obtain ⟨i,hi,hz,hsize,hby⟩:=info_parts hE.info
 have hpos:=hE.pos
 have hzs:=hE.zs
 -- the zeros
 have hz2:z.cells.toList.length=size:=by rw [Array.length_toList];exact hzs
 have hzeros:((Array.range (len*size)).map (z.cells[· % z.cells.size]!)).toList=(List.replicate len z.cells.toList).flatten:=by
  apply List.ext_getElem?
  intro j
  simp only [Array.toList_map,Array.toList_range,List.getElem?_map]
  by_cases hj:j < len*size
  ·rw [List.getElem?_range hj]
   have hmod:j % size < size:=Nat.mod_lt _ hpos
   have key:∀(n:Nat) (j:Nat),j < n*size→((List.replicate n z.cells.toList).flatten)[j]?=z.cells.toList[j % size]?:=by
    intro n
    induction n with
    | zero=>intro j h;simp at h
    | succ n ih=>
      intro j h
      rw [Xpu,List.flatten_cons]
      by_cases h1:j < size
      ·rw [List.getElem?_append_left (by simp;omega),Nat.mod_eq_of_lt h1]
      ·rw [List.getElem?_append_right (by simp;omega),Array.length_toList,hzs,ih (j - size) (by rw [Nat.succ_mul] at h;omega),Nat.mod_eq_sub_mod (Nat.le_of_not_lt h1)]
   rw [key len j hj]
   simp [hzs,getElem!_pos,hmod]
  ·rw [List.getElem?_eq_none (by simpa using hj),List.getElem?_eq_none (by simp [hzs];omega)];rfl
 obtain ⟨vr,hf,hd⟩:=Xeo (F:=FB V H) (w:=w) _ _ _ ((Array.range (len*size)).map (z.cells[· % z.cells.size]!)) cells hb (by
  rw [hzeros]
  have:(List.replicate len (z.cells.toList.map AV.x)).flatten=((List.replicate len z.cells.toList).flatten).map AV.x:=by
   rw [List.map_flatten,List.map_replicate]
  rw [this];exact DenL.exact) (XeX parts (fun p hp=>by simp [ho,Op.operands];exact ⟨p.1,by simpa using hp⟩) r (fun p hp=>List.all_eq_true.1 hone p (by simpa using hp)))
 have hrun:(execOp a.eval o).run P w=.ok (.value (.slice (some ⟨w.heap.size,0,none⟩) len len)) (w.alloc (.cells vr e)):=by
  have h24:¬(len*i.size > 16777216):=by rw [hsize];omega
  by_cases h0:len*i.size=0
  ·have hf':Instr.fill (fun j=>some (j*i.size,i.size)) #[] (parts.map fun (i,x)=>(i,a.eval x)).toList=some vr:=by
    rw [hsize] at h0 ⊢;rw [←hf,h0];simp [Array.range]
   have hl0:len=0:=by
    rw [hsize] at h0
    rcases Nat.mul_eq_zero.1 h0 with h|h
    ·exact h
    ·omega
   subst hl0
   have hf2:Instr.fill (fun j=>some (j*i.size,i.size)) #[] (List.map (fun x=>(x.1,a.eval x.2)) parts.toList)=some vr:=by rw [←hf',Array.toList_map]
   simp [execOp,ho,Instr.buildSlice,run_underlying hE.under,sizeOf,typeInfo,hi,newRow,show Array.range 0=#[] from rfl,hf2]
  ·have hf':Instr.fill (fun j=>some (j*i.size,i.size)) (Array.map (fun x=>z.cells[x % z.cells.size]!) (Array.range (len*i.size))) (parts.map fun (i,x)=>(i,a.eval x)).toList=some vr:=by
    rw [hsize];exact hf
   simp [execOp,ho,Instr.buildSlice,run_underlying hE.under,sizeOf,typeInfo,hi,h0,h24,zeroValue,hz,newRow] at hf' ⊢
   simp [hf']
 have hvlen:vr.size=len*size:=by
  have h1:=hd.len
  have:∀(ps:List (Nat × AV)) (cs r:List AV),Xen (fun i=>some (i*size,size)) cs ps=some r→r.length=cs.length:=by
   intro ps
   induction ps with
   | nil=>intro cs r h;simp only [Xen] at h;cases h;rfl
   | cons p ps ih=>
     intro cs r h
     obtain ⟨i,v⟩:=p
     simp only [Xen] at h
     split at h
     ·cases h
     ·rename_i hn
      rw [ih _ _ h]
      simp [spl];omega
  have h2:=this _ _ _ hb
  rw [Array.length_toList] at h1
  rw [h1,h2];simp [hzs]
 unfold Oper.wp
 rw [hrun]
 have hE':Ext w (w.alloc (.cells vr e)):=Ext.al _ _
 have hones:cells.all AV.one=true:=by
  have:∀(ps:List (Nat × AV)) (cs r:List AV),(ps.all fun p=>p.2.cells.all AV.one)=true→cs.all AV.one=true→Xen (fun i=>some (i*size,size)) cs ps=some r→r.all AV.one=true:=by
   intro ps
   induction ps with
   | nil=>intro cs r _ hc h;simp only [Xen] at h;cases h;exact hc
   | cons p ps ih=>
     intro cs r hp hc h
     obtain ⟨i,v⟩:=p
     simp only [Xen] at h
     simp only [List.all_cons,Bool.and_eq_true] at hp
     split at h
     ·cases h
     ·refine ih _ _ hp.2 ?_ h
      simp only [spl,List.all_append,Bool.and_eq_true]
      exact ⟨⟨List.all_eq_true.2 fun x hx=>List.all_eq_true.1 hc x (List.mem_of_mem_take hx),hp.1⟩,List.all_eq_true.2 fun x hx=>List.all_eq_true.1 hc x (List.mem_of_mem_drop hx)⟩
  refine this _ _ _ ?_ ?_ hb
  ·rw [List.all_map];exact hone
  ·rw [List.all_eq_true]
   intro x hx
   obtain ⟨l,hl,hx⟩:=List.mem_flatten.1 hx
   rw [List.eq_of_mem_replicate hl] at hx
   obtain ⟨v,hv,rfl⟩:=List.mem_map.1 hx
   exact List.all_eq_true.1 hz1 v hv
 have hF:∀k,FB V H k→k < w.heap.size:=fun k hk=>by
  rcases hk with hk|⟨x,hx,e⟩
  ·exact r.vlt k hk
  ·exact (r.hok.lt x hx k e).1
 refine hKc _ _ hE' ?_
 rw [Den]
 refine ⟨_,_,vr.toList,rfl,Nat.le_refl _,by unfold maxLen;have:len≤len*size:=Nat.le_mul_of_pos_right _ hpos;omega,fun h=>(by cases h),.inr ⟨_,_,rfl,fun hk=>by have:=hF _ hk;omega,fun j u hj=>⟨?_,hd.one hones u (List.mem_of_getElem? hj)⟩⟩,DenL.conv (fun k hk=>.inl hk) (fun k hk _=>hE'.block k hk) _ _ hd⟩
 rw [Nat.zero_add,World.cell?_alloc_new];simpa using hj
theorem XgZ {P:Program} {B:List Hp} {l:List Oper} {L D:List Nat} {i:Nat} {z:List AV} {Q:Xb9} {k:Nat} {T:List AV} {H:List Hp} (h:∀b,Xf1 P l.toArray Q k (Xc5 l.length D) (XbH T ((Xdp l i).bind (·.dst)) (.x (.pointer (some ⟨b,0,none⟩)))) (B++(.box b z :: H))):dm P B l L [] T H (XlK P B l D (some i) z Q k):=h
theorem Xci {P:Program} {B:List Hp} {l:List Oper} {L D:List Nat} {z:List AV} {Q:Xb9} {k:Nat} {T:List AV} {H:List Hp} (h:Xf1 P l.toArray Q k (Xc5 l.length D) T (B++H)):dm P B l L [] T H (XlK P B l D none z Q k):=h
theorem Xgm {l:List Oper} {n:Nat} {t:TypeId} {o':Oper} {d:Nat} (ho':Xdp l n=some o') (hop:o'.op=.alloc t) (hd:o'.dst=some d) {zv:Value} (hz:(P.info? t).bind (·.zero)=some zv) (h1:zv.cells.toList.all (·.oneCell')=true) {z:List AV} (hzz:zv.cells.toList.map AV.x=z) :
  ∀(i:Nat) (o:Oper),some n=some i→Xdp l i=some o→∀(T:List AV) (H:List Hp),Stp P o T H (fun T' H'=>∃b,T'=XbH T o.dst (.x (.pointer (some ⟨b,0,none⟩)))∧H'=.box b z :: H):=by
 intro i o hi ho T H
 cases hi
 rw [ho'] at ho;cases ho
 subst hzz
 exact XaQ t zv hop hz h1 fun b=>⟨b,rfl,rfl⟩
end
open Go.RowKit
section
variable {P:Program} {H:List Hp} {o:Oper} {ρ:Operand→AV} {T:List AV} {K:List AV→List Hp→Prop}
theorem XhA:∀(l:List (Nat × AV)) (done zs:List AV),l.map (·.1)=List.range' done.length l.length→zs.length=l.length→(l.all fun p=>p.2.one)=true→Xen (fun i=>some (i*1,1)) (done++zs) l=some (done++l.map (·.2))
 | [],done,zs,_,hz,_=>by
   have:zs=[]:=List.eq_nil_of_length_eq_zero (by simpa using hz)
   subst this;rfl
 | (i,v) :: l,done,zs,hi,hz,h1=>by
   simp only [Xps,Xpq,List.range'_succ,List.cons.injEq] at hi
   obtain ⟨rfl,hi⟩:=hi
   simp only [List.all_cons,Bool.and_eq_true] at h1
   cases zs with
   | nil=>simp at hz
   | cons z zs=>
     have hc:=Xdl h1.1
     rw [Xen]
     simp only [hc,Xpq,Xpt,Nat.mul_one]
     rw [if_neg (by simp),Xkj _ _ _ (by simp)]
     have:(done++z :: zs).set done.length v=(done++[v])++zs:=by
      rw [List.set_append_right _ _ (Nat.le_refl _)];simp
     rw [this]
     have:=XhA l (done++[v]) zs (by rw [hi];simp) (by simpa using hz) h1.2
     simp only [Nat.mul_one] at this ⊢
     rw [this];simp
theorem XkF {len:Nat} {z:Value} {parts:List (Nat × Operand)} (hz:z.cells.toList.length=1) (hi:parts.map (·.1)=List.range len) (h1:(parts.all fun p=>(ρ p.2).one)=true):Xen (fun i=>some (i*1,1)) ((List.replicate len (z.cells.toList.map .x)).flatten) (parts.map fun p=>(p.1,ρ p.2))=some (parts.map fun p=>ρ p.2):=by
 have hlen:parts.length=len:=by have:=congrArg List.length hi;simpa using this
 have:=XhA (parts.map fun p=>(p.1,ρ p.2)) [] ((List.replicate len (z.cells.toList.map .x)).flatten) (by
  rw [List.map_map]
  rw [List.length_map,hlen,Xpt,←List.range_eq_range']
  exact hi) (by
  rw [List.length_map,hlen]
  clear hi h1 hlen
  induction len with
  | zero=>rfl
  | succ n ih=>rw [Xpu,List.flatten_cons,Xpz,ih,List.length_map,hz];omega) (by rw [List.all_map];exact h1)
 rw [Xpx] at this
 rw [this,List.map_map];rfl
theorem XmK {parts:List (Nat × Operand)} (h1:(parts.all fun p=>(ρ p.2).one)=true):(parts.all fun p=>(ρ p.2).cells.all AV.one)=true:=by
 rw [List.all_eq_true] at h1 ⊢
 intro p hp
 have:=h1 p hp
 rw [Xdl this];simp [this]
theorem XbD (t e:TypeId) (len:Nat) (parts:Array (Nat × Operand)) (z:Value) (bytes:Nat) (ho:o.op=.buildSlice t len parts) (hE:Xd9 P t e z 1 bytes)
  (hi:parts.toList.map (·.1)=List.range len) (h1:(parts.toList.all fun p=>(ρ p.2).one)=true) (hz1:z.cells.toList.all (·.oneCell')=true) (hz:z.cells.toList.length=1) (hlen:len≤16777216):Evl P o ρ H (.sq len (parts.toList.map fun p=>ρ p.2)):=
 Xet t e len parts z 1 bytes _ ho hE (XmK h1) hz1 (by omega) (XkF hz hi h1)
end
open Go.RowKit
theorem Xeb {P:Program} {B:List Hp} {l:List Oper} {L D:List Nat} {i d:Nat} {z:List AV} {Q:Xb9} {k:Nat} {T:List AV} {H:List Hp} (hd:(Xdp l i).bind (·.dst)=some d) (h:∀b,Xf1 P l.toArray Q k (Xc5 l.length D) (T.set d (.x (.pointer (some ⟨b,0,none⟩)))) (B++(.box b z :: H))):dm P B l L [] T H (XlK P B l D (some i) z Q k):=
 XgZ fun b=>by rw [hd];exact h b
open Go.RowKit Go.Lib
section
variable {P:Program} {o:Oper} {H:List Hp} {T:List AV} {K:List AV→List Hp→Prop}
theorem Xgu (l:List UInt8):strCells (bs l)=u8s l:=by simp [strCells,u8s,bs]
theorem Xei (w:World) (t u ty e:TypeId) (hE:Xd9 P t e (.int .u8 0) 1 1) (hu:P.underlying u=some .string) (ad:Option Addr) (n cap0:Nat) (xs:List Value) (hown:w.ownsRow 0 e 1 (.slice ad n cap0) n xs) (s:ByteArray) (hf:n+s.size≤10000000) :
  ∃ad' cap' w',(Builtin.append_ #[t,u] ty #[.slice ad n cap0,.string s]).run P w=.ok (.slice ad' (n+s.size) cap') w'∧w'.ownsRow 0 e 1 (.slice ad' (n+s.size) cap') (n+s.size) (xs++strCells s)∧w.grownBy w' (Value.slice ad n cap0).ownBlock∧∀x,ad'=some x→ad=some x∨x.block=w.heap.size:=by
 obtain ⟨i,hi,hz,hsize,hby⟩:=info_parts hE.info
 obtain ⟨v',w',hrun,g1,g2,g3⟩:=run_append_own_string (P:=P) (w:=w) 0 t u ty e i hE.under hu hi hz hsize hby (.slice ad n cap0) n xs hown s (by unfold maxLen;omega) (by omega) (Nat.zero_le _)
 obtain ⟨ad',cap',rfl,_⟩:=(Sl.own g1).shape
 refine ⟨ad',cap',w',hrun,g1,g2,fun x hx=>?_⟩
 subst hx
 have hxl:xs.length=n:=by simpa using hown.1
 rcases hown.2 with ⟨e1,rfl⟩|⟨g,cap1,cur,e1,hbg,hg,hnc,hcm,hcs,htake⟩
 ·cases e1
  by_cases hm:s.size=0
  ·have:=g3.2 ⟨rfl,hm⟩;cases this
  ·have hr:=run_append_nil_string (P:=P) w t u ty e i (.int .u8 0) hE.under hu hi hz s (by omega) (by omega) (by rw [hby];omega)
   simp only [Nat.zero_add] at hrun
   rw [hr] at hrun
   simp only [Result.ok.injEq,Value.slice.injEq,Option.some.injEq] at hrun
   exact .inr (by rw [←hrun.1.1])
 ·simp only [Value.slice.injEq] at e1
  obtain ⟨rfl,-,rfl⟩:=e1
  by_cases hroom:n+s.size≤cap0
  ·have hcs':cur.size=cap0:=by simpa using hcs
   have hr:=run_append_room_string (P:=P) w t u ty e i hE.under hu hi hsize g n cap0 cur hg s hroom (by omega)
   rw [hr] at hrun
   simp only [Result.ok.injEq,Value.slice.injEq,Option.some.injEq] at hrun
   exact .inl (by rw [←hrun.1.1])
  ·have hr:=run_append_grow_string (P:=P) w t u ty e i (.int .u8 0) hE.under hu hi hz ⟨g,0,none⟩ n cap0 xs (by rw [hsize];simpa using hxl) (hown.cells (g:=g) rfl) s (by omega) (by omega) (by rw [hby];exact growslice_fits (by omega) (by omega))
   rw [hr] at hrun
   simp only [Result.ok.injEq,Value.slice.injEq,Option.some.injEq] at hrun
   exact .inr (by rw [←hrun.1.1])
theorem Xfa (p:Nat) (s x:Operand) (t u e:TypeId) (ad:Option Addr) (n cap:Nat) (cells:List AV) (l:List UInt8) (ho:o.op=.call { callee:=.builtin .append,args:=#[s,x],argTypes:=#[t,u] }) (hs:ev T s=.x (.slice ad n cap)) (hp:H[p]?=some (.row ad n cap e 1 cells))
  (hx:ev T x=.x (.string (bs l))) (hE:Xd9 P t e (.int .u8 0) 1 1) (hu:P.underlying u=some .string) (hf:n+l.length≤10000000)
  (hK:∀ad' cap',K (XbH T o.dst (.x (.slice ad' (n+l.length) cap'))) (H.set p (.row ad' (n+l.length) cap' e 1 (cells++u8a l)))):Stp P o T H K:=by
 intro Δ V O w0 a w Kc Q r hKc
 obtain ⟨vals,hd,hown,h1⟩:=r.hp p _ hp
 obtain ⟨ad',cap',w',hrun,g1,g2,g3⟩:=Xei (P:=P) w t u o.type e hE hu ad n cap vals hown (bs l) (by rw [Xd1];exact hf)
 rw [Xd1] at hrun g1
 rw [Xgu] at g1
 unfold Oper.wp execOp
 simp only [ho,resolve,invoke,builtin,Sem.run_bind,Sem.run_pure,Result.andThen_ok,List.map_toArray,Xps,Xpw,r.evx hs,r.evx hx,hrun,Oper.upon]
 have hob:(Value.slice ad n cap).ownBlock=ad.map (·.block):=by cases ad<;>rfl
 have hw:∀k,k < w.heap.size→(Hp.row ad n cap e 1 cells).blk≠some k→w'.heap[k]?=w.heap[k]?:=fun k hk hn=>g2.block k hk fun e=>hn (by rw [hob] at e;exact e.symm)
 have hlt:∀k,(Hp.row ad' (n+l.length) cap' e 1 (cells++u8a l)).blk=some k→k < w'.heap.size∧((Hp.row ad n cap e 1 cells).blk=some k∨w.heap.size≤k):=by
  intro k hk
  refine ⟨(g1.lt k (by simp only [Hp.blk] at hk;cases ad' with|none=>simp at hk|some y=>simpa [Value.ownBlock] using hk)).2,?_⟩
  cases ad' with
  | none=>simp [Hp.blk] at hk
  | some y=>
    simp [Hp.blk] at hk
    subst hk
    rcases g3 y rfl with rfl|e
    ·exact .inl rfl
    ·exact .inr (by omega)
 refine hKc _ _ _ _ (hK ad' cap') (Rel.put (Rel.turnAt (y:=.row ad' (n+l.length) cap' e 1 (cells++u8a l)) r p hp g2.os g2.tape g2.output g2.size hw hlt ?_) _ (by rw [Den]))
 have hF:∀k,FB V (H.set p (.row ad' (n+l.length) cap' e 1 (cells++u8a l))) k→FB V H k∨w.heap.size≤k:=by
  intro k hk
  rcases hk with hk|⟨y,hy,e⟩
  ·exact .inl (.inl hk)
  ·rcases List.mem_or_eq_of_mem_set hy with hy|rfl
   ·exact .inl (.inr ⟨y,hy,e⟩)
   ·rcases (hlt k e).2 with h|h
    ·exact .inl (.inr ⟨_,List.mem_of_getElem? hp,h⟩)
    ·exact .inr h
 have hw':∀k,k < w.heap.size→¬FB V H k→w'.heap[k]?=w.heap[k]?:=fun k hk hn=>hw k hk fun e=>hn (.inr ⟨_,List.mem_of_getElem? hp,e⟩)
 exact ⟨vals++u8s l,(DenL.conv hF hw' _ _ hd).app DenL.exact,g1,fun u hu=>by
  rcases List.mem_append.1 hu with h|h
  ·exact h1 u h
  ·exact Xm9 l u h⟩
end
open Go.RowKit
theorem Xbg {α:Type} (l:List α) (k:Nat) (h:k < l.length):l.take (k+1)=l.take k++[l[k]]:=by
 rw [List.take_succ_eq_append_getElem h]
def sa (l:List (List UInt8)):List AV:=l.map fun s=>.x (.string (bs s))
@[simp] theorem Xo5 (l:List (List UInt8)):(sa l).length=l.length:=by simp [sa]
theorem XdB (l:List (List UInt8)) (k:Nat) (h:k < l.length):(sa l).drop k=.x (.string (bs l[k])) :: sa (l.drop (k+1)):=by
 rw [sa,←List.map_drop,List.drop_eq_getElem_cons h];rfl
theorem Xkc (l m:List (List UInt8)):sa (l++m)=sa l++sa m:=by simp [sa]
theorem Xkn (l m:List UInt8):u8a (l++m)=u8a l++u8a m:=by simp [u8a,u8s]
set_option maxRecDepth 100000
instance:XaT Tryz.prog 3 false 1:=⟨by kernel_rfl⟩
instance:XaS Tryz.prog 3 1:=⟨by kernel_rfl⟩
instance:XaT Tryz.prog 4 false 1:=⟨by kernel_rfl⟩
instance:XaS Tryz.prog 4 1:=⟨by kernel_rfl⟩
instance:XaT Tryz.prog 9 false 1:=⟨by kernel_rfl⟩
instance:XaS Tryz.prog 9 1:=⟨by kernel_rfl⟩
instance:XaT Tryz.prog 22 false 1:=⟨by kernel_rfl⟩
instance:HEl Tryz.prog 22 3 1:=⟨by kernel_rfl⟩
instance:Xa6 Tryz.prog 22 3 (Value.int IntKind.i64 0) 1 8:=⟨⟨by kernel_rfl,by kernel_rfl,rfl,by decide⟩⟩
instance:XaT Tryz.prog 23 false 1:=⟨by kernel_rfl⟩
instance:XaS Tryz.prog 23 1:=⟨by kernel_rfl⟩
instance:HEl Tryz.prog 23 34 15:=⟨by kernel_rfl⟩
instance:Xa6 Tryz.prog 23 34 (Value.agg #[Value.string ⟨#[]⟩,Value.string ⟨#[]⟩,Value.slice none 0 0,Value.slice none 0 0,Value.bool false,Value.string ⟨#[]⟩,Value.int IntKind.i64 0,Value.int IntKind.u64 0,Value.int IntKind.u64 0,Value.int IntKind.u64 0,Value.int IntKind.i64 0,Value.int IntKind.u64 0,Value.slice none 0 0,Value.int IntKind.i64 0,Value.int IntKind.i64 0]) 15 192:=⟨⟨by kernel_rfl,by kernel_rfl,rfl,by decide⟩⟩
instance:XbK Tryz.prog 23 (Value.slice none 0 0):=⟨by kernel_rfl⟩
instance:XaT Tryz.prog 28 false 1:=⟨by kernel_rfl⟩
instance:XaT Tryz.prog 29 false 1:=⟨by kernel_rfl⟩
instance:XaS Tryz.prog 29 1:=⟨by kernel_rfl⟩
instance:HEl Tryz.prog 29 39 2:=⟨by kernel_rfl⟩
instance:Xa6 Tryz.prog 29 39 (Value.agg #[Value.string ⟨#[]⟩,Value.string ⟨#[]⟩]) 2 32:=⟨⟨by kernel_rfl,by kernel_rfl,rfl,by decide⟩⟩
instance:XaT Tryz.prog 30 false 1:=⟨by kernel_rfl⟩
instance:XaS Tryz.prog 30 1:=⟨by kernel_rfl⟩
instance:HEl Tryz.prog 30 9 1:=⟨by kernel_rfl⟩
instance:Xa6 Tryz.prog 30 9 (Value.string ⟨#[]⟩) 1 16:=⟨⟨by kernel_rfl,by kernel_rfl,rfl,by decide⟩⟩
instance:XaT Tryz.prog 31 false 1:=⟨by kernel_rfl⟩
instance:XaS Tryz.prog 31 1:=⟨by kernel_rfl⟩
instance:XaT Tryz.prog 32 false 1:=⟨by kernel_rfl⟩
instance:XaS Tryz.prog 32 1:=⟨by kernel_rfl⟩
instance:HEl Tryz.prog 32 37 2:=⟨by kernel_rfl⟩
instance:Xa6 Tryz.prog 32 37 (Value.agg #[Value.int IntKind.i64 0,Value.int IntKind.u64 0]) 2 16:=⟨⟨by kernel_rfl,by kernel_rfl,rfl,by decide⟩⟩
instance:XaT Tryz.prog 34 true 15:=⟨by kernel_rfl⟩
instance:XaS Tryz.prog 34 15:=⟨by kernel_rfl⟩
instance:HPl Tryz.prog 34 [(0,1),(1,1),(2,1),(3,1),(4,1),(5,1),(6,1),(7,1),(8,1),(9,1),(10,1),(11,1),(12,1),(13,1),(14,1)] [Value.string ⟨#[]⟩,Value.string ⟨#[]⟩,Value.slice none 0 0,Value.slice none 0 0,Value.bool false,Value.string ⟨#[]⟩,Value.int IntKind.i64 0,Value.int IntKind.u64 0,Value.int IntKind.u64 0,Value.int IntKind.u64 0,Value.int IntKind.i64 0,Value.int IntKind.u64 0,Value.slice none 0 0,Value.int IntKind.i64 0,Value.int IntKind.i64 0]:=⟨by kernel_rfl⟩
instance:XbK Tryz.prog 34 (Value.agg #[Value.string ⟨#[]⟩,Value.string ⟨#[]⟩,Value.slice none 0 0,Value.slice none 0 0,Value.bool false,Value.string ⟨#[]⟩,Value.int IntKind.i64 0,Value.int IntKind.u64 0,Value.int IntKind.u64 0,Value.int IntKind.u64 0,Value.int IntKind.i64 0,Value.int IntKind.u64 0,Value.slice none 0 0,Value.int IntKind.i64 0,Value.int IntKind.i64 0]):=⟨by kernel_rfl⟩
instance:Xbb Tryz.prog 34 0 0:=⟨by kernel_rfl⟩
instance:Xbb Tryz.prog 34 1 1:=⟨by kernel_rfl⟩
instance:Xbb Tryz.prog 34 2 2:=⟨by kernel_rfl⟩
instance:Xbb Tryz.prog 34 3 3:=⟨by kernel_rfl⟩
instance:Xbb Tryz.prog 34 4 4:=⟨by kernel_rfl⟩
instance:Xbb Tryz.prog 34 5 5:=⟨by kernel_rfl⟩
instance:Xbb Tryz.prog 34 6 6:=⟨by kernel_rfl⟩
instance:Xbb Tryz.prog 34 7 7:=⟨by kernel_rfl⟩
instance:Xbb Tryz.prog 34 8 8:=⟨by kernel_rfl⟩
instance:Xbb Tryz.prog 34 9 9:=⟨by kernel_rfl⟩
instance:Xbb Tryz.prog 34 10 10:=⟨by kernel_rfl⟩
instance:Xbb Tryz.prog 34 11 11:=⟨by kernel_rfl⟩
instance:Xbb Tryz.prog 34 12 12:=⟨by kernel_rfl⟩
instance:Xbb Tryz.prog 34 13 13:=⟨by kernel_rfl⟩
instance:Xbb Tryz.prog 34 14 14:=⟨by kernel_rfl⟩
instance:XaT Tryz.prog 37 true 2:=⟨by kernel_rfl⟩
instance:XaS Tryz.prog 37 2:=⟨by kernel_rfl⟩
instance:HPl Tryz.prog 37 [(0,1),(1,1)] [Value.int IntKind.i64 0,Value.int IntKind.u64 0]:=⟨by kernel_rfl⟩
instance:XbK Tryz.prog 37 (Value.agg #[Value.int IntKind.i64 0,Value.int IntKind.u64 0]):=⟨by kernel_rfl⟩
instance:Xbb Tryz.prog 37 0 0:=⟨by kernel_rfl⟩
instance:Xbb Tryz.prog 37 1 1:=⟨by kernel_rfl⟩
instance:XaT Tryz.prog 39 true 2:=⟨by kernel_rfl⟩
instance:HPl Tryz.prog 39 [(0,1),(1,1)] [Value.string ⟨#[]⟩,Value.string ⟨#[]⟩]:=⟨by kernel_rfl⟩
instance:Xbb Tryz.prog 39 0 0:=⟨by kernel_rfl⟩
instance:XaT Tryz.prog 42 false 1:=⟨by kernel_rfl⟩
instance:XaS Tryz.prog 42 1:=⟨by kernel_rfl⟩
instance:XaT Tryz.prog 44 true 3:=⟨by kernel_rfl⟩
instance:XaS Tryz.prog 44 3:=⟨by kernel_rfl⟩
instance:HPl Tryz.prog 44 [(0,1),(1,1),(2,1)] [Value.int IntKind.i64 0,Value.int IntKind.i64 0,Value.int IntKind.i64 0]:=⟨by kernel_rfl⟩
instance:XbK Tryz.prog 44 (Value.agg #[Value.int IntKind.i64 0,Value.int IntKind.i64 0,Value.int IntKind.i64 0]):=⟨by kernel_rfl⟩
instance:Xbb Tryz.prog 44 0 0:=⟨by kernel_rfl⟩
instance:Xbb Tryz.prog 44 1 1:=⟨by kernel_rfl⟩
instance:Xbb Tryz.prog 44 2 2:=⟨by kernel_rfl⟩
instance:HPl Tryz.prog 52 [(0,1),(1,1)] [Value.slice none 0 0,Value.int IntKind.i64 0]:=⟨by kernel_rfl⟩
instance:Xbb Tryz.prog 52 0 0:=⟨by kernel_rfl⟩
instance:Xbb Tryz.prog 52 1 1:=⟨by kernel_rfl⟩
instance:XaT Tryz.prog 55 false 1:=⟨by kernel_rfl⟩
instance:HEl Tryz.prog 55 63 4:=⟨by kernel_rfl⟩
instance:Xa6 Tryz.prog 55 63 (Value.agg #[Value.int IntKind.i64 0,Value.string ⟨#[]⟩,Value.int IntKind.i64 0,Value.int IntKind.i64 0]) 4 40:=⟨⟨by kernel_rfl,by kernel_rfl,rfl,by decide⟩⟩
instance:XaT Tryz.prog 59 false 1:=⟨by kernel_rfl⟩
instance:HPl Tryz.prog 61 [(0,1),(1,1)] [Value.slice none 0 0,Value.int IntKind.i64 0]:=⟨by kernel_rfl⟩
instance:Xbb Tryz.prog 61 0 0:=⟨by kernel_rfl⟩
instance:Xbb Tryz.prog 61 1 1:=⟨by kernel_rfl⟩
instance:XaT Tryz.prog 63 true 4:=⟨by kernel_rfl⟩
instance:XaS Tryz.prog 63 4:=⟨by kernel_rfl⟩
instance:HPl Tryz.prog 63 [(0,1),(1,1),(2,1),(3,1)] [Value.int IntKind.i64 0,Value.string ⟨#[]⟩,Value.int IntKind.i64 0,Value.int IntKind.i64 0]:=⟨by kernel_rfl⟩
instance:XbK Tryz.prog 63 (Value.agg #[Value.int IntKind.i64 0,Value.string ⟨#[]⟩,Value.int IntKind.i64 0,Value.int IntKind.i64 0]):=⟨by kernel_rfl⟩
instance:Xbb Tryz.prog 63 0 0:=⟨by kernel_rfl⟩
instance:Xbb Tryz.prog 63 1 1:=⟨by kernel_rfl⟩
instance:Xbb Tryz.prog 63 2 2:=⟨by kernel_rfl⟩
instance:Xbb Tryz.prog 63 3 3:=⟨by kernel_rfl⟩
instance:XaT Tryz.prog 67 false 1:=⟨by kernel_rfl⟩
instance:XaS Tryz.prog 67 1:=⟨by kernel_rfl⟩
instance:Xa6 Tryz.prog 67 5 (Value.int IntKind.u8 0) 1 1:=⟨⟨by kernel_rfl,by kernel_rfl,rfl,by decide⟩⟩
instance:XbK Tryz.prog 69 (Value.agg #[Value.pointer none,Value.slice none 0 0]):=⟨by kernel_rfl⟩
instance:Xbb Tryz.prog 69 1 1:=⟨by kernel_rfl⟩
instance:XaT Tryz.prog 80 false 1:=⟨by kernel_rfl⟩
instance:XbK Tryz.prog 80 (Value.int IntKind.i64 0):=⟨by kernel_rfl⟩
instance:XaT Tryz.prog 83 false 1:=⟨by kernel_rfl⟩
instance:XbK Tryz.prog 83 (Value.pointer none):=⟨by kernel_rfl⟩
instance:HPl Tryz.prog 86 [(0,1),(1,1),(2,1)] [Value.int IntKind.i64 0,Value.int IntKind.i64 0,Value.nilIface]:=⟨by kernel_rfl⟩
instance:Xbb Tryz.prog 86 0 0:=⟨by kernel_rfl⟩
instance:Xbb Tryz.prog 86 1 1:=⟨by kernel_rfl⟩
instance:HPl Tryz.prog 104 [(0,1),(1,1),(2,1),(3,1)] [Value.string ⟨#[]⟩,Value.int IntKind.i64 0,Value.int IntKind.i64 0,Value.int IntKind.i64 0]:=⟨by kernel_rfl⟩
instance:Xbb Tryz.prog 104 0 0:=⟨by kernel_rfl⟩
instance:Xbb Tryz.prog 104 1 1:=⟨by kernel_rfl⟩
instance:Xbb Tryz.prog 104 2 2:=⟨by kernel_rfl⟩
instance:Xbb Tryz.prog 104 3 3:=⟨by kernel_rfl⟩
theorem mixed:Tryz.prog.follows .mixedOrders=true:=by kernel_rfl
open Go.RowKit Go.Shelf
section
variable {P:Program} {Δ:List Deferred} {V O:Nat→Prop} {w0 w w':World} {H:List Hp} {T:List AV} {a:Act} {o:Oper} {K:List AV→List Hp→Prop}
theorem Xia (e:TypeId) (z:Value) (n:Nat) (ho:o.op=.alloc e) (hz:(P.info? e).bind (·.zero)=some z) (hn:z.cells.size=n) (h1:z.cells.toList.all (·.oneCell')=true)
  (hK:∀b,K (XbH T o.dst (.x (.pointer (some ⟨b,0,none⟩)))) (.row (some ⟨b,0,none⟩) 1 1 e n (z.cells.toList.map .x) :: H)):Stp P o T H K:=by
 intro Δ V O w0 a w Kc Q r hKc
 obtain ⟨i,hi,hz⟩:=Option.bind_eq_some_iff.1 hz
 have hrun:(execOp a.eval o).run P w=.ok (.value (.pointer (some ⟨w.heap.size,0,none⟩))) (w.alloc (.cells z.cells e)):=by
  simp [execOp,ho,Instr.alloc,zeroValue,typeInfo,hi,hz,newVar,newRow]
 unfold Oper.wp
 rw [hrun]
 refine hKc _ _ _ _ (hK w.heap.size) (Rel.put (Rel.new r (Ext.al _ _) _ ?_ ?_) _ (by rw [Den]))
 ·intro k hk;cases hk;simp
 ·refine ⟨z.cells.toList,DenL.exact,⟨by simp [hn],.inr ⟨w.heap.size,1,z.cells,rfl,Nat.zero_le _,by unfold World.alloc;exact Array.getElem?_push_size,Nat.le_refl _,by unfold maxLen;omega,by omega,by rw [List.take_of_length_le (by simp;omega)]⟩⟩,fun u hu=>List.all_eq_true.1 h1 u hu⟩
end
theorem Xo4 {F:Nat→Prop} {w:World} {b:Nat} {e:TypeId} {c0 c1:AV} (h:XdY F w (.row (some ⟨b,0,none⟩) 1 1 e 2 [c0,c1])):∃u0 u1,w.heap[b]?=some (.cells #[u0,u1] e (0,0))∧Den F w c0 u0∧Den F w c1 u1∧u0.oneCell'=true∧u1.oneCell'=true:=by
 obtain ⟨vals,hd,hown,h1⟩:=h
 rw [DenL] at hd
 obtain ⟨u0,us,rfl,d0,hd⟩:=hd
 rw [DenL] at hd
 obtain ⟨u1,us,rfl,d1,hd⟩:=hd
 rw [DenL] at hd
 subst hd
 obtain ⟨-,h|⟨g,cap,cur,e0,-,hg,-,-,hcs,ht⟩⟩:=hown
 ·cases h.1
 ·simp only [Value.slice.injEq,Option.some.injEq,Addr.mk.injEq] at e0
  obtain ⟨⟨rfl,-,-⟩,-,rfl⟩:=e0
  have hc:cur=#[u0,u1]:=by
   apply Array.toList_inj.1
   rw [←ht,List.take_of_length_le (by simp;omega)]
  subst hc
  exact ⟨u0,u1,hg,d0,d1,h1 u0 (by simp),h1 u1 (by simp)⟩
theorem XmY {F:Nat→Prop} {w:World} {b:Nat} {e:TypeId} {c0 c1:AV} {u0 u1:Value} (h:w.heap[b]?=some (.cells #[u0,u1] e (0,0))) (d0:Den F w c0 u0) (d1:Den F w c1 u1) (h0:u0.oneCell'=true) (h1:u1.oneCell'=true):XdY F w (.row (some ⟨b,0,none⟩) 1 1 e 2 [c0,c1]):=
 ⟨[u0,u1],DenL.cons' d0 (DenL.cons' d1 DenL.nil'),⟨rfl,.inr ⟨b,1,_,rfl,Nat.zero_le _,h,Nat.le_refl _,by unfold maxLen;omega,rfl,rfl⟩⟩,fun u hu=>by
  rcases List.mem_cons.1 hu with rfl|hu
  ·exact h0
  ·rcases List.mem_cons.1 hu with rfl|hu
   ·exact h1
   ·cases hu⟩
def XdE (b:Nat) (ad:Option Addr) (cap:Nat) (s:List UInt8):List Hp:=[.row (some ⟨b,0,none⟩) 1 1 69 2 [.x (.pointer (some ⟨b,0,none⟩)),.x (.slice ad s.length cap)],.row ad s.length cap 5 1 (u8a s)]
theorem XoY (b:Nat) (p:Option Addr) (hp:p=none∨p=some ⟨b,0,none⟩) (sl:Value):Xbv Tryz.prog 86 [.row (some ⟨b,0,none⟩) 1 1 69 2 [.x (.pointer p),.x sl]] [.x (.pointer (some ⟨b,0,none⟩))] (fun r H'=>r=.x (.tuple #[])∧H'=[.row (some ⟨b,0,none⟩) 1 1 69 2 [.x (.pointer (some ⟨b,0,none⟩)),.x sl]]):=by
 intro V w vs hV hH hd hgl
 have hd':vs=[.pointer (some ⟨b,0,none⟩)]:=hd.exact' (l:=[_])
 subst hd'
 obtain ⟨u0,u1,hbk,d0,d1,o0,o1⟩:=Xo4 (hH.ok _ (List.mem_cons_self ..))
 rw [Den] at d0 d1
 subst d0 d1
 have hlt:b < w.heap.size:=(Array.getElem?_eq_some_iff.1 hbk).1
 have r:Rel [] V (XbO [.row (some ⟨b,0,none⟩) 1 1 69 2 [.x (.pointer p),.x u1]]) w [.row (some ⟨b,0,none⟩) 1 1 69 2 [.x (.pointer p),.x u1]] [] { tmps:=#[],defers:=[] } w:=⟨DenL.nil',hH,Fr.refl _ _,fun x hx k hk=>.inl ⟨x,hx,hk⟩,rfl,hV,hgl⟩
 rcases hp with rfl|rfl
 ·refine (XhB b w (by rw [Lib.cell_of_heap hbk];rfl) (by simp [World.shape?,hbk]) (by simp [World.frozen?,hbk])).mono ?_
  rintro e w' ⟨rfl,rfl⟩
  have hbk2:(w.setCell ⟨b,0,none⟩ (.pointer (some ⟨b,0,none⟩))).heap[b]?=some (.cells #[.pointer (some ⟨b,0,none⟩),u1] 69 (0,0)):=by simp [World.setCell,Array.getElem?_modify,hbk]
  have r2:Rel [] V (XbO [.row (some ⟨b,0,none⟩) 1 1 69 2 [.x (.pointer none),.x u1]]) w [.row (some ⟨b,0,none⟩) 1 1 69 2 [.x (.pointer (some ⟨b,0,none⟩)),.x u1]] [] { tmps:=#[],defers:=[] } (w.setCell ⟨b,0,none⟩ (.pointer (some ⟨b,0,none⟩))):=by
   refine Rel.turn r rfl rfl rfl (by simp) (fun k _ hk=>?_) (fun k hk=>?_) (XmY hbk2 (Xcu _) (Xcu _) rfl o1) (fun _ _ _=>trivial)
   ·exact Below.heap_setCell _ _ _ _ fun e=>hk (by simp [Hp.blk,e])
   ·exact ⟨by rw [World.size_setCell];cases hk;exact hlt,.inl hk⟩
  exact ⟨.x (.tuple #[]),_,.tuple #[],⟨rfl,rfl⟩,rfl,Xcu _,r2.hok,r2.fr,r2.own⟩
 ·refine (Xjg b w (by rw [Lib.cell_of_heap hbk];rfl)).mono ?_
  rintro e w' ⟨rfl,rfl⟩
  exact ⟨.x (.tuple #[]),_,.tuple #[],⟨rfl,rfl⟩,rfl,Xcu _,r.hok,r.fr,r.own⟩
theorem Xok (bx:Nat) (p:Option Addr) (hp:p=none∨p=some ⟨bx,0,none⟩) (ad:Option Addr) (cap:Nat) (l s:List UInt8) (hl:l.length+s.length≤10000000):Xbv Tryz.prog 67 [.row (some ⟨bx,0,none⟩) 1 1 69 2 [.x (.pointer p),.x (.slice ad l.length cap)],.row ad l.length cap 5 1 (u8a l)] [.x (.pointer (some ⟨bx,0,none⟩)),.x (.string (bs s))]
  (fun r H'=>∃ad' cap',r=.tup [.x (.int .i64 s.length),.x .nilIface]∧H'=XdE bx ad' cap' (l++s)):=by
 have hcc:=XoY bx p hp (.slice ad l.length cap)
 refine XaP Tryz.func67 rfl ?_
 simp only [Tryz.ntmps67,Xpq,Xpt,Xpu,Xpv,Xpy,Xpx,Nat.reduceAdd,Nat.reduceSub]
 (repeat' (first|with_reducible (first|refine Xaj ?_|refine Xac ?_|refine Xaw ?_|refine Xaf ?_|refine Xaa ?_)|((apply Xad rfl);(case h=>((try (intro (hp:(_:Bool)=true);((try simp only [Bool.and_eq_true,Bool.not_eq_true',Bool.not_eq_true] at hp);(try simp only [hp,wte]);(try simp only [whn] at hp))));(first|(apply Xab 0 rfl;(first|exact Xar _ rfl|exact Xav _ rfl))|(apply Xab 4 rfl;(exact XaR _ rfl (by first|exact .inl ⟨_,rfl⟩|fail)))|(apply Xab 5 rfl;(exact Xag _ _ _ _ _ _ rfl rfl Xbb.out))|(apply Xab 6 rfl;(exact Xbe _ _ _ _ _ _ _ _ _ _ _ _ rfl rfl XbA.out XaT.out (by first|exact Xpm rfl|fail) (by first|exact Xpm rfl|fail)))|(apply XaJ;(case hs=>(intro _ _ h;cases h));(case hx=>rfl);(case hrun=>(intro w;simp [wtb,AV.val,go_sem];(try go_bits);rfl))))));(case hT=>((try simp only [wtn,Xpr,Xpo,Xpp,Xps,Xpw,Nat.reduceAdd,Nat.reduceMul,Nat.reduceSub,↓reduceIte,Nat.reduceEqDiff]);rfl)))|(refine Xak rfl ?_;((first|(refine Xap 11 rfl ?_;(refine Xax 86 Tryz.f86 [_] _ _ _ rfl rfl Tryz.func86 (by decide) rfl (Xpn _) (VwL.refl _ _) (hcc) ?_;rintro _ _ ⟨rfl,rfl⟩))|(refine Xap 13 rfl ?_;(refine Xfa _ _ _ _ _ _ _ _ _ _ s rfl rfl XbA.out rfl Xa6.out (by kernel_rfl) (by first|omega|fail) (fun ad' cap'=>?_)))|(refine Xap 16 rfl ?_;(refine XaX _ _ _ _ _ _ _ _ _ _ _ rfl rfl XbA.out XaS.out (by first|rfl|fail) (by first|exact Xpm rfl|fail) ?_)));apply Xai;(case hT=>((try simp only [wtn,Xpr,Xpo,Xpp,Xps,Xpw,Nat.reduceAdd,Nat.reduceMul,Nat.reduceSub,↓reduceIte,Nat.reduceEqDiff]);rfl));(case hH=>((try simp only [wtn,Xpr,Xpo,Xpp,Xps,Xpw,Nat.reduceAdd,Nat.reduceMul,Nat.reduceSub,↓reduceIte,Nat.reduceEqDiff]);rfl))))|fail))
 refine Xan _ _ (Xe9 rfl (RV.tmp _) (RV.tmp _) (XaK.mk' [] [_,_] (Xpn _) (XaI.refl _ _) (VwL.refl _ _))) ?_
 refine ⟨ad',cap',rfl,?_⟩
 simp only [XdE,Xpz,Xkn]
theorem Xnd (bx:Nat) (p:Option Addr) (hp:p=none∨p=some ⟨bx,0,none⟩) (ad:Option Addr) (cap:Nat) (l:List UInt8) (c:UInt8) (hl:l.length≤9999990):Xbv Tryz.prog 68 [.row (some ⟨bx,0,none⟩) 1 1 69 2 [.x (.pointer p),.x (.slice ad l.length cap)],.row ad l.length cap 5 1 (u8a l)] [.x (.pointer (some ⟨bx,0,none⟩)),.x (.int .u8 (c.toNat:Nat))]
  (fun r H'=>∃ad' cap',r=.x .nilIface∧H'=XdE bx ad' cap' (l++[c])):=by
 have hcc:=XoY bx p hp (.slice ad l.length cap)
 refine XaP Tryz.func68 rfl ?_
 simp only [Tryz.ntmps68,Xpq,Xpt,Xpu,Xpv,Xpy,Xpx,Nat.reduceAdd,Nat.reduceSub]
 (repeat' (first|with_reducible (first|refine Xaj ?_|refine Xac ?_|refine Xaw ?_|refine Xaf ?_|refine Xaa ?_)|((apply Xad rfl);(case h=>((try (intro (hp:(_:Bool)=true);((try simp only [Bool.and_eq_true,Bool.not_eq_true',Bool.not_eq_true] at hp);(try simp only [hp,wte]);(try simp only [whn] at hp))));(first|(apply Xab 0 rfl;(first|exact Xar _ rfl|exact Xav _ rfl))|(apply Xab 4 rfl;(exact XaR _ rfl (by first|exact .inl ⟨_,rfl⟩|fail)))|(apply Xab 5 rfl;(exact Xag _ _ _ _ _ _ rfl rfl Xbb.out))|(apply Xab 6 rfl;(exact Xbe _ _ _ _ _ _ _ _ _ _ _ _ rfl rfl XbA.out XaT.out (by first|exact Xpm rfl|fail) (by first|exact Xpm rfl|fail))))));(case hT=>((try simp only [wtn,Xpr,Xpo,Xpp,Xps,Xpw,Nat.reduceAdd,Nat.reduceMul,Nat.reduceSub,↓reduceIte,Nat.reduceEqDiff]);rfl)))|(refine Xak rfl ?_;((first|(refine Xap 11 rfl ?_;(refine Xax 86 Tryz.f86 [_] _ _ _ rfl rfl Tryz.func86 (by decide) rfl (Xpn _) (VwL.refl _ _) (hcc) ?_;rintro _ _ ⟨rfl,rfl⟩))|(refine Xap 13 rfl ?_;(refine XaL _ _ _ _ _ _ _ _ _ _ _ _ _ _ rfl rfl XbA.out (Src.row _ rfl XbA.out) Xa6.out (by first|rfl|fail) (Xdj _ _ (by omega) (by decide)) (fun ad' cap'=>?_)))|(refine Xap 16 rfl ?_;(refine XaX _ _ _ _ _ _ _ _ _ _ _ rfl rfl XbA.out XaS.out (by first|rfl|fail) (by first|exact Xpm rfl|fail) ?_))|(refine Xap 17 rfl ?_;(refine XaF _ _ _ _ _ _ _ _ rfl Xa6.out (by first|rfl|fail) rfl (by decide) rfl (fun b=>?_))));apply Xai;(case hT=>((try simp only [wtn,Xpr,Xpo,Xpp,Xps,Xpw,Nat.reduceAdd,Nat.reduceMul,Nat.reduceSub,↓reduceIte,Nat.reduceEqDiff]);rfl));(case hH=>((try simp only [wtn,Xpr,Xpo,Xpp,Xps,Xpw,Nat.reduceAdd,Nat.reduceMul,Nat.reduceSub,↓reduceIte,Nat.reduceEqDiff]);rfl))))|fail))
 refine Xan _ _ (Xb2 rfl (RV.tmp _) (XaK.mk' [_] [_,_] (Xpn _) (XaI.refl _ _) (VwL.refl _ _))) ?_
 refine ⟨ad',cap',rfl,?_⟩
 simp only [XdE,Xpz,Xkn,Xpq,Xpt]
 rfl
theorem XoP (b g cap:Nat) (p:Value) (l:List UInt8) (h0:l≠[]) (cur:Array Value) (fr:Nat × Nat) (w:World) (hbk:w.heap[b]?=some (.cells #[p,.slice (some ⟨g,0,none⟩) l.length cap] 69 (0,0))) (hg:w.heap[g]?=some (.cells cur 5 fr))
  (hn:l.length≤cur.size) (hcap:l.length≤cap) (hm:l.length≤1000000) (hc:∀j x,l[j]?=some x→w.cell? ⟨g,j,none⟩=some (.int .u8 (x.toNat:Nat))) :
  Calls Tryz.prog 23 #[.pointer (some ⟨b,0,none⟩)] w fun e w'=>e=.returned (.string (bs l))∧∃w1,Ext w w1∧w'=w1.freeze ⟨g,0,none⟩ l.length:=by
 have hl0:l.length≠0:=by simpa using h0
 have c1:w.drew.cell? ⟨b,1,none⟩=some (.slice (some ⟨g,0,none⟩) l.length cap):=by
  have:w.drew.heap[b]?=some (.cells #[p,.slice (some ⟨g,0,none⟩) l.length cap] 69 (0,0)):=hbk
  rw [Lib.cell_of_heap this];rfl
 have hSD:(Builtin.unsafeSliceData_ #[67] 100 #[.slice (some ⟨g,0,none⟩) l.length cap]).run Tryz.prog w.drew=.ok (.pointer (some ⟨g,0,none⟩)) w.drew:=
  Lib.run_unsafeSliceData_row _ _ _ _ _ _ (by omega)
 have hUS:(Builtin.unsafeString_ #[100,3] 9 #[.pointer (some ⟨g,0,none⟩),.int .i64 l.length]).run Tryz.prog w.drew=.ok (.string (bs l)) (w.drew.freeze ⟨g,0,none⟩ l.length):=by
  refine Lib.run_unsafeString_row w.drew 100 3 9 5 XfE.t127 Xa3.cellsByte g cur.size (by have hg':w.drew.heap[g]?=some (.cells cur 5 fr):=hg;simp [World.shape?,hg']) l h0 hn (by omega) ?_
  intro j x hx
  rw [show (⟨g,0,none⟩:Addr).add j=⟨g,j,none⟩ from by unfold Addr.add;split<;>simp_all]
  exact hc j x hx
 have hmx:=mixed
 go_enter Tryz.func23,Tryz.ntmps23
 go_wp2
 go_region_o
 all_goals (go_wp2;go_ret;exact ⟨rfl,_,(show Ext w w.drew from Below.drew (Below.refl _ w)),rfl⟩)
theorem Xed (w:World) (a:Addr) (n k:Nat) (h:k≠a.block):(w.freeze a n).heap[k]?=w.heap[k]?:=by
 unfold World.freeze
 split
 ·rfl
 ·simp only [Array.getElem?_modify]
  rw [if_neg (Ne.symm h)]
theorem Xg1 (w:World) (a:Addr) (n:Nat):(w.freeze a n).heap.size=w.heap.size:=by
 unfold World.freeze
 split
 ·rfl
 ·simp
open Go.RowKit
section
variable {P:Program} {Δ:List Deferred} {V O:Nat→Prop} {w0 w w':World} {B H H' D:List Hp} {T T':List AV} {a a':Act} {o:Oper} {ops:Array Oper} {n:Nat}
variable {Q:Xb9} {x y:Code} {K:List AV→List Hp→Prop}
end
end Go.Proofs.YtcmfamgnmehojaaGreatDoor

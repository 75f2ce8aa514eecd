import Derived.Test.YtdlblokjfoggpaaGreatDoorW4
import Derived.Test.YtdlblokjfoggpaaGreatDoorW2
import Derived.ScopeJumps
/- A walk over symbolic memory: structs and rows that are made, conversions, stores into rows. No program in sight. -/
set_option linter.unusedSimpArgs false
set_option linter.unusedVariables false
set_option maxRecDepth 100000
set_option maxHeartbeats 8000000
namespace Go.Proofs.YtdlblokjfoggpaaGreatDoor
open Go.RowKit
def XfG (place:Nat→Option (Nat × Nat)) (cells:List AV):List (Nat × AV)→Option (List AV)
 | []=>some cells
 | (i,v) :: rest=>
   match place i with
   | none=>none
   | some (off,size)=>if v.cells.length≠size∨off+v.cells.length > cells.length then none else XfG place (spl cells off v.cells) rest
def plT (P:Program) (t:TypeId):Option (List (Nat × Nat) × List Value):=
 match P.info? t,P.underlying t with
 | some it,some (.struct fields)=>
   match it.zero,fields.toList.mapM (fun f=>(P.info? f.type).map fun i=>(f.offset,i.size)) with
   | some z,some places=>some (places,z.cells.toList)
   | _,_=>none
 | _,_=>none
section
variable {P:Program} {Δ:List Deferred} {V O:Nat→Prop} {w0 w w':World} {H H' D:List Hp} {T T':List AV} {a:Act} {o:Oper} {K:List AV→List Hp→Prop} {ρ:Operand→AV} {ops:Array Oper} {Q:Xb9} {F:Nat→Prop}
theorem Xk0 (off:Nat):∀(new:List Value) (k:Nat) (cells:Array Value),off+k+new.length≤cells.size →
  ((new.zipIdx k).foldl (fun (cs:Array Value) (x:Value × Nat)=>cs.setIfInBounds (off+x.2) x.1) cells).toList=cells.toList.take (off+k)++new++cells.toList.drop (off+k+new.length)
 | [],k,cells,_=>by simp
 | v :: new,k,cells,h=>by
   simp only [Xyr] at h
   simp only [List.zipIdx_cons,Xyp]
   rw [Xk0 off new (k+1) _ (by simp;omega)]
   have hlen:cells.toList.length=cells.size:=Array.length_toList
   have e1:(cells.toList.set (off+k) v).take (off+k+1)=cells.toList.take (off+k)++[v]:=by
    rw [List.take_succ_eq_append_getElem (by simp;omega),List.take_set_of_le (Nat.le_refl _)]
    simp
   have e2:(cells.toList.set (off+k) v).drop (off+k+1+new.length)=cells.toList.drop (off+k+1+new.length):=by
    rw [List.drop_set_of_lt (by omega)]
   simp only [Array.toList_setIfInBounds,Xyr,←Nat.add_assoc]
   rw [e1,e2,show off+k+new.length+1=off+k+1+new.length from by omega]
   simp
theorem XfP {place:Nat→Option (Nat × Nat)}:∀(parts:List (Nat × AV)) (vparts:List (Nat × Value)) (cells:List AV) (vcells:Array Value) (r:List AV),XfG place cells parts=some r→DenL F w cells vcells.toList →
  (vparts.length=parts.length∧∀(j:Nat) (p:Nat × AV) (q:Nat × Value),parts[j]?=some p→vparts[j]?=some q→p.1=q.1∧DenL F w p.2.cells q.2.cells.toList)→∃vr,Instr.fill place vcells vparts=some vr∧DenL F w r vr.toList
 | [],vparts,cells,vcells,r,h,hd,hp=>by
   have:vparts=[]:=List.eq_nil_of_length_eq_zero (by simpa using hp.1)
   subst this
   simp only [XfG] at h;cases h
   exact ⟨vcells,rfl,hd⟩
 | (i,v) :: rest,[],cells,vcells,r,h,hd,hp=>by have:=hp.1;simp at this
 | (i,v) :: rest,(i',v') :: vrest,cells,vcells,r,h,hd,hp=>by
   obtain ⟨e,hv⟩:=hp.2 0 (i,v) (i',v') rfl rfl
   simp only at e hv
   subst e
   simp only [XfG] at h
   simp only [Instr.fill]
   cases hpl:place i with
   | none=>rw [hpl] at h;cases h
   | some x=>
     obtain ⟨off,size⟩:=x
     rw [hpl] at h
     simp only at h
     split at h
     ·cases h
     ·rename_i hn
      have hl:=hv.len
      have hlc:=hd.len
      rw [Array.length_toList] at hl hlc
      have hn1:v.cells.length=size:=by
       by_cases h1:v.cells.length=size
       ·exact h1
       ·exact absurd (.inl h1) hn
      have hn2:¬off+v.cells.length > cells.length:=fun h1=>hn (.inr h1)
      have hcond:¬(v'.cells.size≠size∨off+v'.cells.size > vcells.size):=by omega
      simp only
      rw [if_neg (by simpa using hcond)]
      refine XfP rest vrest _ _ r h ?_ ⟨by simpa using hp.1,fun j p q h1 h2=>hp.2 (j+1) p q (by simpa using h1) (by simpa using h2)⟩
      have hf:=Xk0 off v'.cells.toList 0 vcells (by simp;omega)
      simp only [Nat.add_zero] at hf
      have:(Array.foldl (fun (cs:Array Value) (x:Value × Nat)=>cs.setIfInBounds (off+x.2) x.1) vcells v'.cells.zipIdx)=((v'.cells.toList.zipIdx 0).foldl (fun (cs:Array Value) (x:Value × Nat)=>cs.setIfInBounds (off+x.2) x.1) vcells):=by
       rw [←Array.foldl_toList,Array.toList_zipIdx]
      show DenL F w (spl cells off v.cells) (Array.foldl (fun (cs:Array Value) (x:Value × Nat)=>cs.setIfInBounds (off+x.2) x.1) vcells v'.cells.zipIdx).toList
      rw [this,hf]
      exact hd.spl hv off
theorem XgC (parts:Array (Nat × Operand)) (hmem:∀p∈parts,p.2∈o.op.operands) (r:OK V H ρ o a w) (hone:∀p∈parts,(ρ p.2).cells.all AV.one=true) :
  ((parts.map fun (i,x)=>(i,a.eval x)).toList.length=(parts.toList.map fun p=>(p.1,ρ p.2)).length∧∀(j:Nat) (p:Nat × AV) (q:Nat × Value),(parts.toList.map fun p=>(p.1,ρ p.2))[j]?=some p→(parts.map fun (i,x)=>(i,a.eval x)).toList[j]?=some q→p.1=q.1∧DenL (FB V H) w p.2.cells q.2.cells.toList):=by
 refine ⟨by simp,fun j p q h1 h2=>?_⟩
 rw [List.getElem?_map] at h1
 rw [Array.toList_map,List.getElem?_map] at h2
 cases hj:parts.toList[j]? with
 | none=>rw [hj] at h1;cases h1
 | some x=>
   rw [hj] at h1 h2
   cases h1;cases h2
   have hx:x∈parts:=by simpa using List.mem_of_getElem? hj
   exact ⟨rfl,(r.ops x.2 (hmem x hx)).cells (hone x hx)⟩
theorem XbS (t:TypeId) (parts:Array (Nat × Operand)) (places:List (Nat × Nat)) (z:List Value) (cells:List AV) (ho:o.op=.build t parts) (hpl:plT P t=some (places,z))
  (hone:(parts.toList.all fun p=>(ρ p.2).cells.all AV.one)=true) (hb:XfG (places.toArray[·]?) (z.map .x) (parts.toList.map fun p=>(p.1,ρ p.2))=some cells):Evl P o ρ H (mkA cells):=by
 intro V a w Kc Q r hKc
 unfold plT at hpl
 cases hit:P.info? t with
 | none=>simp [hit] at hpl
 | some it=>
   cases hu:P.underlying t with
   | none=>simp [hit,hu] at hpl
   | some d=>
     cases d<;>simp [hit,hu] at hpl
     rename_i fields
     cases hz0:it.zero with
     | none=>simp [hz0] at hpl
     | some z0=>
     cases hm:fields.toList.mapM (fun f=>(P.info? f.type).map fun i=>(f.offset,i.size)) with
     | none=>simp [hz0,hm] at hpl
     | some places0=>
     simp [hz0,hm] at hpl
     obtain ⟨rfl,hz⟩:=hpl
     obtain ⟨vr,hf,hd⟩:=XfP (F:=FB V H) (w:=w) _ _ _ z0.cells cells hb (by rw [←hz];exact DenL.exact) (XgC parts (fun p hp=>by simp [ho,Op.operands];exact ⟨p.1,by simpa using hp⟩) r (fun p hp=>List.all_eq_true.1 hone p (by simpa using hp)))
     have hbt:P.built t (parts.map fun (i,x)=>(i,a.eval x)).toList=some vr:=by
      unfold Program.built
      simp only [hit,hu,hz0,hm]
      exact hf
     unfold Oper.wp execOp
     simp only [ho,Sem.run_bind,run_build w t _ vr hbt,Result.andThen_ok,Sem.run_pure,Oper.upon]
     refine hKc _ _ (Below.refl _ _) ?_
     have:=Den.mkA hd
     simpa using this
theorem Xbx (t e:TypeId) (len:Nat) (parts:Array (Nat × Operand)) (z:Value) (size bytes:Nat) (cells:List AV) (ho:o.op=.buildSlice t len parts) (hE:Xee P t e z size bytes)
  (hone:(parts.toList.all fun p=>(ev T p.2).cells.all AV.one)=true) (hz1:z.cells.toList.all (·.oneCell')=true) (hlen:len*size≤16777216)
  (hb:XfG (fun i=>some (i*size,size)) ((List.replicate len (z.cells.toList.map .x)).flatten) (parts.toList.map fun p=>(p.1,ev T p.2))=some cells)
  (hK:∀b,K (Xa9 T o.dst (.x (.slice (some ⟨b,0,none⟩) len len))) (.row (some ⟨b,0,none⟩) len len e size cells :: H)):Stp P o T H K:=by
 intro Δ V O w0 a w Kc Q r hKc
 obtain ⟨i,hi,hz,hsize,hby⟩:=info_parts hE.info
 have hpos:=hE.pos
 have hzs:=hE.zs
 -- the zeros
 have hz2:z.cells.toList.length=size:=by rw [Array.length_toList];exact hzs
 have hzeros:((Array.range (len*size)).map (z.cells[· % z.cells.size]!)).toList=(List.replicate len z.cells.toList).flatten:=by
  apply List.ext_getElem?
  intro j
  simp only [Array.toList_map,Array.toList_range,List.getElem?_map]
  by_cases hj:j < len*size
  ·rw [List.getElem?_range hj]
   have hmod:j % size < size:=Nat.mod_lt _ hpos
   have key:∀(n:Nat) (j:Nat),j < n*size→((List.replicate n z.cells.toList).flatten)[j]?=z.cells.toList[j % size]?:=by
    intro n
    induction n with
    | zero=>intro j h;simp at h
    | succ n ih=>
      intro j h
      rw [Xyv,List.flatten_cons]
      by_cases h1:j < size
      ·rw [List.getElem?_append_left (by simp;omega),Nat.mod_eq_of_lt h1]
      ·rw [List.getElem?_append_right (by simp;omega),Array.length_toList,hzs,ih (j - size) (by rw [Nat.succ_mul] at h;omega),Nat.mod_eq_sub_mod (Nat.le_of_not_lt h1)]
   rw [key len j hj]
   simp [hzs,getElem!_pos,hmod]
  ·rw [List.getElem?_eq_none (by simpa using hj),List.getElem?_eq_none (by simp [hzs];omega)];rfl
 obtain ⟨vr,hf,hd⟩:=XfP (F:=FB V H) (w:=w) _ _ _ ((Array.range (len*size)).map (z.cells[· % z.cells.size]!)) cells hb (by
  rw [hzeros]
  have:(List.replicate len (z.cells.toList.map AV.x)).flatten=((List.replicate len z.cells.toList).flatten).map AV.x:=by
   rw [List.map_flatten,List.map_replicate]
  rw [this];exact DenL.exact) (XgC parts (fun p hp=>by simp [ho,Op.operands];exact ⟨p.1,by simpa using hp⟩) (r.oks o) (fun p hp=>List.all_eq_true.1 hone p (by simpa using hp)))
 have hrun:(execOp a.eval o).run P w=.ok (.value (.slice (some ⟨w.heap.size,0,none⟩) len len)) (w.alloc (.cells vr e)):=by
  have h24:¬(len*i.size > 16777216):=by rw [hsize];omega
  by_cases h0:len*i.size=0
  ·have hf':Instr.fill (fun j=>some (j*i.size,i.size)) #[] (parts.map fun (i,x)=>(i,a.eval x)).toList=some vr:=by
    rw [hsize] at h0 ⊢;rw [←hf,h0];simp [Array.range]
   have hl0:len=0:=by
    rw [hsize] at h0
    rcases Nat.mul_eq_zero.1 h0 with h|h
    ·exact h
    ·omega
   subst hl0
   have hf2:Instr.fill (fun j=>some (j*i.size,i.size)) #[] (List.map (fun x=>(x.1,a.eval x.2)) parts.toList)=some vr:=by rw [←hf',Array.toList_map]
   simp [execOp,ho,Instr.buildSlice,run_underlying hE.under,sizeOf,typeInfo,hi,newRow,show Array.range 0=#[] from rfl,hf2]
  ·have hf':Instr.fill (fun j=>some (j*i.size,i.size)) (Array.map (fun x=>z.cells[x % z.cells.size]!) (Array.range (len*i.size))) (parts.map fun (i,x)=>(i,a.eval x)).toList=some vr:=by
    rw [hsize];exact hf
   simp [execOp,ho,Instr.buildSlice,run_underlying hE.under,sizeOf,typeInfo,hi,h0,h24,zeroValue,hz,newRow] at hf' ⊢
   simp [hf']
 have hvlen:vr.size=len*size:=by
  have h1:=hd.len
  have:∀(ps:List (Nat × AV)) (cs r:List AV),XfG (fun i=>some (i*size,size)) cs ps=some r→r.length=cs.length:=by
   intro ps
   induction ps with
   | nil=>intro cs r h;simp only [XfG] at h;cases h;rfl
   | cons p ps ih=>
     intro cs r h
     obtain ⟨i,v⟩:=p
     simp only [XfG] at h
     split at h
     ·cases h
     ·rename_i hn
      rw [ih _ _ h]
      simp [spl];omega
  have h2:=this _ _ _ hb
  rw [Array.length_toList] at h1
  rw [h1,h2];simp [hzs]
 unfold Oper.wp
 rw [hrun]
 have hE':Ext w (w.alloc (.cells vr e)):=Ext.al _ _
 have hones:cells.all AV.one=true:=by
  have:∀(ps:List (Nat × AV)) (cs r:List AV),(ps.all fun p=>p.2.cells.all AV.one)=true→cs.all AV.one=true→XfG (fun i=>some (i*size,size)) cs ps=some r→r.all AV.one=true:=by
   intro ps
   induction ps with
   | nil=>intro cs r _ hc h;simp only [XfG] at h;cases h;exact hc
   | cons p ps ih=>
     intro cs r hp hc h
     obtain ⟨i,v⟩:=p
     simp only [XfG] at h
     simp only [List.all_cons,Bool.and_eq_true] at hp
     split at h
     ·cases h
     ·refine ih _ _ hp.2 ?_ h
      simp only [spl,List.all_append,Bool.and_eq_true]
      exact ⟨⟨List.all_eq_true.2 fun x hx=>List.all_eq_true.1 hc x (List.mem_of_mem_take hx),hp.1⟩,List.all_eq_true.2 fun x hx=>List.all_eq_true.1 hc x (List.mem_of_mem_drop hx)⟩
  refine this _ _ _ ?_ ?_ hb
  ·rw [List.all_map];exact hone
  ·rw [List.all_eq_true]
   intro x hx
   obtain ⟨l,hl,hx⟩:=List.mem_flatten.1 hx
   rw [List.eq_of_mem_replicate hl] at hx
   obtain ⟨v,hv,rfl⟩:=List.mem_map.1 hx
   exact List.all_eq_true.1 hz1 v hv
 refine hKc _ _ _ _ (hK w.heap.size) (Rel.put (Rel.new r hE' _ (fun k hk=>by cases hk;simp) ?_) _ (by rw [Den]))
 refine ⟨vr.toList,?_,?_,hd.one hones⟩
 ·refine DenL.conv (fun k hk=>?_) (fun k hk _=>hE'.block k hk) _ _ hd
  rcases hk with hk|⟨y,hy,e⟩
  ·exact .inl (.inl hk)
  ·rcases List.mem_cons.1 hy with rfl|hy
   ·cases e;exact .inr (Nat.le_refl _)
   ·exact .inl (.inr ⟨y,hy,e⟩)
 ·have hm:len≤maxLen:=by
   have:len*1≤len*size:=Nat.mul_le_mul_left _ hpos
   unfold maxLen;omega
  have:=World.ownsRow_lit (base:=0) (size:=size) (e:=e) w vr len (Nat.zero_le _) hm hvlen
  exact this
end
open Go.RowKit
/-! What a program's table says of its types. -/
class XaI (P:Program) (t:TypeId) (b:outParam Bool) (n:outParam Nat):Prop where out:Xis P t=some (b,n)
class Xa1 (P:Program) (t:TypeId) (n:outParam Nat):Prop where out:(P.info? t).map (·.size)=some n
class Xbc (P:Program) (t:TypeId) (f:Nat) (k:outParam Nat):Prop where out:XrX P t f=some k
class HEl (P:Program) (t:TypeId) (e:outParam TypeId) (n:outParam Nat):Prop where out:elT P t=some (e,n)
class XbY (P:Program) (t:TypeId) (e:outParam TypeId) (z:outParam Value) (size bytes:outParam Nat):Prop where out:Xee P t e z size bytes
class HPl (P:Program) (t:TypeId) (pl:outParam (List (Nat × Nat))) (z:outParam (List Value)):Prop where out:plT P t=some (pl,z)
class XbT (P:Program) (t:TypeId) (z:outParam Value):Prop where out:(P.info? t).bind (·.zero)=some z
def frm (n:Nat) (l:List (Nat × AV)):List AV:=l.foldl (fun T p=>T.set p.1 p.2) (List.replicate n .top)
theorem Vw.eq {D:List Hp} {a b:AV} (h:a=b):Vw D a b:=h▸Vw.refl a
section
variable {P:Program} {Δ:List Deferred} {V O:Nat→Prop} {w0 w w':World} {H H' D:List Hp} {T T':List AV} {a:Act} {o:Oper} {K:List AV→List Hp→Prop} {ρ:Operand→AV} {ops:Array Oper} {Q:Xb9} {F:Nat→Prop}
def opk:Op→Nat
 | .move _=>0
 | .assign _=>0
 | .pick ..=>1
 | .extract ..=>2
 | .call { callee:=.builtin .len,.. }=>3
 | .nilCheck _=>4
 | .fieldAddr ..=>5
 | .load ..=>6
 | .indexAddr ..=>7
 | .index ..=>8
 | .slice ..=>9
 | .build ..=>10
 | .call { callee:=.value _,.. }=>11
 | .call { callee:=.builtin .append,.. }=>13
 | .alloc _=>14
 | .box ..=>15
 | .store ..=>16
 | .buildSlice ..=>17
 | .makeSlice ..=>18
 | .call { callee:=.invoke ..,.. }=>19
 | .call { callee:=.builtin _,.. }=>20
 | _=>12
theorem Xag (n:Nat) {av:AV} (hk:opk o.op=n) (h:Evl P o ρ H av):Evl P o ρ H av:=h
theorem XaQ (n:Nat) (hk:opk o.op=n) (h:Stp P o T H K):Stp P o T H K:=h
theorem Xap {rest:List Oper} {T':List AV} {H':List Hp} (hT:T=T') (hH:H=H') (h:Xe8 P ops Q rest T' H'):Xe8 P ops Q rest T H:=hT▸hH▸h
theorem Xar {rest:List Oper} {T':List AV} (hg:o.guard=none) (av:AV) (h:Evl P o (ev T) H av) (hT:Xa9 T o.dst av=T') (hK:Xe8 P ops Q rest T' H):Xe8 P ops Q (o :: rest) T H:=Xp9 hg av h (hT▸hK)
theorem XnP {rest:List Oper} {fin:List AV→Prop} {T':List AV} (hg:o.guard=none) (av:AV) (h:Evl P o (ev T) H av) (hT:Xa9 T o.dst av=T') (hK:dr P H ops rest T' fin):dr P H ops (o :: rest) T fin:=Xvq hg av h (hT▸hK)
theorem Xeo {rest:List Oper} {T':List AV} {j:Nat} {want:Bool} {t:Nat} (p:Bool) (av:AV) (hg:o.guard=some (j,want)) (hd:(ops[j]?).bind (·.dst)=some t) (hp:gdc want (T.getD t .top)=some p)
  (h:p=true→Evl P o (evs T) H av) (hT:Xa9 T o.dst (.g p av)=T') (hK:Xe8 P ops Q rest T' H):Xe8 P ops Q (o :: rest) T H:=Xvc p av hg hd hp h (hT▸hK)
theorem Xxh {rest:List Oper} {fin:List AV→Prop} {T':List AV} {j:Nat} {want:Bool} {t:Nat} (p:Bool) (av:AV) (hg:o.guard=some (j,want)) (hd:(ops[j]?).bind (·.dst)=some t) (hp:gdc want (T.getD t .top)=some p)
  (h:p=true→Evl P o (evs T) H av) (hT:Xa9 T o.dst (.g p av)=T') (hK:dr P H ops rest T' fin):dr P H ops (o :: rest) T fin:=XxZ p av hg hd hp h (hT▸hK)
theorem Xac {K:List AV→List Hp→Prop} (h:K T H):XbH K Q .normal T H:=h
theorem XcU {K:List AV→List Hp→Prop} {id:Nat} (h:Q (.exit id) T H):XbH K Q (.exit id) T H:=h
theorem XbB {K:List AV→List Hp→Prop} (h:Q .ret T H):XbH K Q .ret T H:=h
theorem XmQ {K:List AV→List Hp→Prop} {id:Nat} (h:Q (.goto id) T H):XbH K Q (.goto id) T H:=h
theorem Xcz {id:Nat} (h:Q .normal T H):XaA id Q (.exit id) T H:=by simp only [XaA,if_true];exact h
theorem XjY {id id':Nat} (hne:id'≠id) (h:Q (.exit id') T H):XaA id Q (.exit id') T H:=by simp only [XaA,if_neg hne];exact h
theorem Xax {id:Nat} (h:Q .normal T H):XaA id Q .normal T H:=h
theorem Xbs {id:Nat} (h:Q .ret T H):XaA id Q .ret T H:=h
theorem XhL {id l:Nat} (h:Q (.goto l) T H):XaA id Q (.goto l) T H:=h
theorem Xyg (v:Value):AV.ex (.x v)=true:=rfl
theorem Xxl (n:Nat) (l:List AV):AV.ex (.sq n l)=false:=rfl
theorem Xxk (l:List AV):AV.ex (.at_ l)=false:=rfl
theorem XvB (t:TypeId) (a:AV):AV.ex (.ifc t a)=false:=rfl
theorem Xlv (a:AV) (l:List AV) (o:Nat) (new:List AV):spl (a :: l) (o+1) new=a :: spl l o new:=by simp [spl,Nat.succ_add]
theorem Xru (l new:List AV):spl l 0 new=new++l.drop new.length:=by simp [spl]
theorem XwF (k:IntKind) (n:Int):(Value.int k n).cells.toList=[.int k n]:=rfl
theorem XuR (b:Bool):(Value.bool b).cells.toList=[.bool b]:=rfl
theorem XpF (b:ByteArray):(Value.string b).cells.toList=[.string b]:=rfl
theorem XrD (a:Option Addr) (n c:Nat):(Value.slice a n c).cells.toList=[.slice a n c]:=rfl
theorem XwE (l:List Value):(Value.agg l.toArray).cells.toList=l:=rfl
theorem XxA (v:Value):AV.one (.x v)=v.oneCell':=rfl
theorem Xv5 (n:Nat) (l:List AV):AV.one (.sq n l)=true:=rfl
theorem Xv4 (l:List AV):AV.one (.at_ l)=true:=rfl
theorem Xub (t:TypeId) (a:AV):AV.one (.ifc t a)=true:=rfl
theorem XnA (k:IntKind) (n:Int):AV.cells (.x (.int k n))=[.x (.int k n)]:=rfl
theorem Xmc (b:Bool):AV.cells (.x (.bool b))=[.x (.bool b)]:=rfl
theorem XiE (b:ByteArray):AV.cells (.x (.string b))=[.x (.string b)]:=rfl
theorem XjL (a:Option Addr) (n c:Nat):AV.cells (.x (.slice a n c))=[.x (.slice a n c)]:=rfl
theorem XhD (a:Option Addr):AV.cells (.x (.pointer a))=[.x (.pointer a)]:=rfl
theorem XgX:AV.cells (.x .nilIface)=[.x .nilIface]:=rfl
theorem XjK (t:TypeId) (v:Value):AV.cells (.x (.iface t v))=[.x (.iface t v)]:=rfl
theorem Xmd (f:Fn) (a b:Array Value):AV.cells (.x (.func f a b))=[.x (.func f a b)]:=rfl
theorem Xqk (n:Nat) (l:List AV):AV.cells (.sq n l)=[.sq n l]:=rfl
theorem Xqj (l:List AV):AV.cells (.at_ l)=[.at_ l]:=rfl
theorem Xnz (t:TypeId) (a:AV):AV.cells (.ifc t a)=[.ifc t a]:=rfl
theorem Xny (l:List AV):AV.cells (.agg l)=l:=rfl
theorem Xmb (l:List Value):AV.cells (.x (.agg l.toArray))=l.map .x:=rfl
def u8a (l:List UInt8):List AV:=(u8s l).map .x
theorem XkB (l:List UInt8):(u8a l).length=l.length:=by simp [u8a,XkC]
theorem Xhr (t e:TypeId) (x y:Operand) (z:Value) (bytes:Nat) (kl kc:IntKind) (n c:Nat) (ho:o.op=.makeSlice t x y) (hE:Xee P t e z 1 bytes) (hz:z.cells=#[z]) (hz1:z.oneCell'=true) (hx:ev T x=.x (.int kl n)) (hy:ev T y=.x (.int kc c)) (hnc:n≤c) (hf:XsU c bytes)
  (hK:∀b,K (Xa9 T o.dst (.x (.slice (some ⟨b,0,none⟩) n c))) (.row (some ⟨b,0,none⟩) n c e 1 (List.replicate n (.x z)) :: H)):Stp P o T H K:=by
 intro Δ V O w0 a w Kc Q r hKc
 obtain ⟨i,hi,hzi,hsize,hby⟩:=info_parts hE.info
 have hF:=hf
 unfold XsU at hF
 have hm:c≤9223372036854775807:=by have:=hF.2;unfold maxLen at this;omega
 have hrun:=run_make (P:=P) w t e i z hE.under hi hzi kl kc n c (by omega) (by omega) (by rw [hby];have:=hF.1;rw [Nat.mul_comm] at this;have h2:((bytes*c:Nat):Int)≤281474976710656:=by omega
                                                                                          rwa [Int.natCast_mul] at h2) (by omega)
 simp only [Int.toNat_natCast,hsize,Nat.mul_one] at hrun
 unfold Oper.wp execOp
 simp only [ho,r.evx hx,r.evx hy,hrun,Sem.run_bind,Sem.run_pure,Result.andThen_ok,Oper.upon]
 have hmade:madeCells z.cells c=(List.replicate c z).toArray:=by
  apply Array.toList_inj.1
  simp only [madeCells,hz]
  apply List.ext_getElem?
  intro j
  simp only [Array.toList_map,Array.toList_range,List.getElem?_map]
  by_cases hj:j < c
  ·rw [List.getElem?_range hj];simp [List.getElem?_replicate,hj,Nat.mod_one]
  ·rw [List.getElem?_eq_none (by simpa using hj),List.getElem?_eq_none (by simpa using hj)];rfl
 refine hKc _ _ _ _ (hK w.heap.size) (Rel.put (Rel.new r (Ext.al w _) _ (fun k hk=>by cases hk;simp) ?_) _ (by rw [Den]))
 refine ⟨List.replicate n z,?_,⟨by simp,.inr ⟨w.heap.size,c,_,rfl,Nat.zero_le _,heap_alloc_new w _,hnc,hF.2,by rw [hmade];simp,?_⟩⟩,fun u hu=>by rw [List.eq_of_mem_replicate hu];exact hz1⟩
 ·have:List.replicate n (AV.x z)=(List.replicate n z).map AV.x:=by simp
  rw [this];exact DenL.exact
 ·rw [hmade];simp [hnc]
theorem Xd4 {α:Type} (A N:List α) (off j:Nat) (h:off+N.length≤A.length):(A.take off++N++A.drop (off+N.length))[j]?=if j < off then A[j]? else if j < off+N.length then N[j - off]? else A[j]?:=by
 by_cases h3:j < off
 ·rw [List.append_assoc,List.getElem?_append_left (by simp;omega),List.getElem?_take,if_pos h3,if_pos h3]
 ·rw [if_neg h3]
  by_cases h4:j < off+N.length
  ·rw [if_pos h4,List.append_assoc,List.getElem?_append_right (by simp;omega),List.length_take,show min off A.length=off from by omega,List.getElem?_append_left (by omega)]
  ·rw [if_neg h4,List.getElem?_append_right (by simp;omega)]
   simp only [XyA,List.length_take,List.getElem?_drop]
   congr 1
   omega
theorem Xhs (i:Nat) (t:TypeId) (x y:Operand) (b off:Nat) (n cap:Nat) (e:TypeId) (size:Nat) (cells:List AV) (ho:o.op=.store t x y) (hx:ev T x=.x (.pointer (some ⟨b,off,none⟩))) (hi:H[i]?=some (.row (some ⟨b,0,none⟩) n cap e size cells))
  (ht:(P.info? t).map (·.size)=some (ev T y).cells.length) (h1:(ev T y).cells.all AV.one=true) (hn:off+(ev T y).cells.length≤cells.length)
  (hK:K (Xa9 T o.dst (.x undef)) (H.set i (.row (some ⟨b,0,none⟩) n cap e size (spl cells off (ev T y).cells)))):Stp P o T H K:=by
 intro Δ V O w0 a w Kc Q r hKc
 obtain ⟨vals,hd,hown,hones⟩:=r.hp i _ hi
 have hy:=(r.ev y).cells h1
 have hlen:(a.eval y).cells.size=(ev T y).cells.length:=by have:=hy.len;simpa using this
 have hvl:=hd.len
 obtain ⟨hvn,hcase⟩:=hown
 rcases hcase with ⟨e0,_⟩|⟨g,cap',cur,e0,hbg,hg,hnc,hcm,hcs,htake⟩
 ·cases e0
 simp only [Value.slice.injEq,Option.some.injEq,Addr.mk.injEq] at e0
 obtain ⟨⟨rfl,-,-⟩,-,rfl⟩:=e0
 have hcurlen:vals.length≤cur.size:=by rw [hcs,hvn];exact Nat.mul_le_mul_right _ hnc
 have hst:=run_storeCells_at P b off e (a.eval y).cells.toList 0 cur w hg (by simp;omega) (hy.one h1)
 simp only [Nat.add_zero] at hst
 have hrun:(storeVar t ⟨b,off,none⟩ (a.eval y)).run P w=.ok () (w.setRow b (cur.toList.take off++(a.eval y).cells.toList++cur.toList.drop (off+(a.eval y).cells.toList.length)).toArray):=by
  cases hq:P.info? t with
  | none=>simp [hq] at ht
  | some i=>
    have:(a.eval y).cells.size=i.size:=by simp [hq] at ht;omega
    simp [storeVar,sizeOf,typeInfo,hq,this] at hst ⊢
    exact hst
 have hset:=setRow_heap w b cur (cur.toList.take off++(a.eval y).cells.toList++cur.toList.drop (off+(a.eval y).cells.toList.length)).toArray e (0,0) hg
 have hF:∀k,FB V (H.set i (.row (some ⟨b,0,none⟩) n cap e size (spl cells off (ev T y).cells))) k→FB V H k:=by
  intro k hk
  rcases hk with hk|⟨z,hz,e⟩
  ·exact .inl hk
  ·rcases List.mem_or_eq_of_mem_set hz with hz|rfl
   ·exact .inr ⟨z,hz,e⟩
   ·exact .inr ⟨_,List.mem_of_getElem? hi,e⟩
 have hother:∀k,k≠b→(w.setRow b (cur.toList.take off++(a.eval y).cells.toList++cur.toList.drop (off+(a.eval y).cells.toList.length)).toArray).heap[k]?=w.heap[k]?:=fun k hk=>setRow_other w b k _ hk
 have hsz:(w.setRow b (cur.toList.take off++(a.eval y).cells.toList++cur.toList.drop (off+(a.eval y).cells.toList.length)).toArray).heap.size=w.heap.size:=by simp [World.setRow]
 have hbl:b < w.heap.size:=(Array.getElem?_eq_some_iff.1 hg).1
 refine XgR ho (r.evx hx) hrun (hKc _ _ _ _ hK (Rel.put (Rel.turnAt (w':=w.setRow b (cur.toList.take off++(a.eval y).cells.toList++cur.toList.drop (off+(a.eval y).cells.toList.length)).toArray) (y:=.row (some ⟨b,0,none⟩) n cap e size (spl cells off (ev T y).cells)) r i hi rfl rfl rfl (by omega) (fun k _ hk=>hother k (fun e=>hk (by rw [e];rfl))) (fun k hk=>⟨by simp [Hp.blk] at hk;omega,.inl hk⟩) ?_) _ (v:=undef) (by rw [Den])))
 have hw:∀k,k < w.heap.size→¬FB V H k→(w.setRow b (cur.toList.take off++(a.eval y).cells.toList++cur.toList.drop (off+(a.eval y).cells.toList.length)).toArray).heap[k]?=w.heap[k]?:=fun k _ hn=>hother k fun e=>hn (.inr ⟨_,List.mem_of_getElem? hi,by rw [e];rfl⟩)
 refine ⟨vals.take off++(a.eval y).cells.toList++vals.drop (off+(a.eval y).cells.toList.length),DenL.conv (fun k hk=>.inl (hF k hk)) hw _ _ (hd.spl hy off),⟨?_,.inr ⟨b,cap,_,rfl,Nat.zero_le _,hset,hnc,hcm,?_,?_⟩⟩,fun u hu=>?_⟩
 ·simp;omega
 ·simp;omega
 ·have hvt:vals=cur.toList.take vals.length:=by rw [hvn];exact htake.symm
  have hcl:cur.toList.length=cur.size:=Array.length_toList
  rw [←hvn]
  apply List.ext_getElem?
  intro j
  have hnl:(a.eval y).cells.toList.length=(a.eval y).cells.size:=Array.length_toList
  have hvj:∀j,j < vals.length→vals[j]?=cur.toList[j]?:=fun j hj=>by
   conv=>lhs;rw [hvt]
   rw [List.getElem?_take,if_pos hj]
  rw [List.getElem?_take]
  split
  ·rename_i hj
   rw [Xd4 _ _ _ _ (by omega),Xd4 _ _ _ _ (by omega)]
   split
   ·exact (hvj j hj).symm
   ·split
    ·rfl
    ·exact (hvj j hj).symm
  ·rename_i hj
   rw [List.getElem?_eq_none]
   simp;omega
 ·simp only [List.mem_append] at hu
  rcases hu with (hu|hu)|hu
  ·exact hones u (List.mem_of_mem_take hu)
  ·exact hy.one h1 u hu
  ·exact hones u (List.mem_of_mem_drop hu)
theorem XbD (t e:TypeId) (x y:Operand) (size b off n cap:Nat) (k:IntKind) (i:Int) (j:Nat) (ho:o.op=.indexAddr t x y) (hx:ρ x=.x (.slice (some ⟨b,off,none⟩) n cap)) (hy:ρ y=.x (.int k i)) (ht:elT P t=some (e,size)) (hi:i=(j:Int)) (h1:j < n):Evl P o ρ H (.x (.pointer (some ⟨b,off+j*size,none⟩))):=by
 subst hi
 intro V a w Kc Q r hKc
 exact XgQ ho ht (r.evx (by simp [ho,Op.operands]) hx) (r.evx (by simp [ho,Op.operands]) hy) (by omega) (by omega) (hKc _ _ (Below.refl _ _) (by simp [Den]))
theorem Xci (t e:TypeId) (x:Operand) (lo hi:Option Operand) (size b off n cap l h:Nat) (ho:o.op=.slice t x lo hi none) (hx:ρ x=.x (.slice (some ⟨b,off,none⟩) n cap)) (ht:elT P t=some (e,size))
  (hlo:(lo=none∧l=0)∨∃y k,lo=some y∧ρ y=.x (.int k l)) (hhi:(hi=none∧h=n)∨∃y k,hi=some y∧ρ y=.x (.int k h)) (h1:l≤h) (h2:h≤cap):Evl P o ρ H (.x (.slice (if cap=l then some ⟨b,off,none⟩ else some ⟨b,off+l*size,none⟩) (h - l) (cap - l))):=by
 intro V a w Kc Q r hKc
 have hrun:=XgG (P:=P) t e size ht (some ⟨b,off,none⟩) n cap (lo.map a.eval) (hi.map a.eval) l h (by
  rcases hlo with ⟨rfl,rfl⟩|⟨y,k,rfl,hy⟩
  ·exact .inl ⟨rfl,rfl⟩
  ·exact .inr ⟨k,by rw [Option.map_some,r.evx (by simp [ho,Op.operands]) hy]⟩) (by
  rcases hhi with ⟨rfl,rfl⟩|⟨y,k,rfl,hy⟩
  ·exact .inl ⟨rfl,rfl⟩
  ·exact .inr ⟨k,by rw [Option.map_some,r.evx (by simp [ho,Op.operands]) hy]⟩) h1 h2 w
 unfold Oper.wp execOp
 simp only [ho,r.evx (by simp [ho,Op.operands]) hx,Option.map_none,hrun,Sem.run_bind,Sem.run_pure,Result.andThen_ok,Oper.upon]
 refine hKc _ _ (Below.refl _ _) ?_
 rw [Den];simp [Xck]
theorem Xg8 {c:Code} (i k:Nat) {ad:Option Addr} {n cap:Nat} {e:TypeId} {size:Nat} {cells:List AV} (hi:H[i]?=some (.row ad n cap e size cells)) (hk:k≤n) (h0:k=0→n=0∨True) (hne:ad≠none)
  (h:awp P c Q T (H.set i (.row ad k cap e size (cells.take (k*size))))):awp P c Q T H:=fun Δ V O w0 a w r=>by
 refine h Δ V O w0 a w (Rel.turnAt (y:=.row ad k cap e size (cells.take (k*size))) r i hi rfl rfl rfl (Nat.le_refl _) (fun _ _ _=>rfl) (fun k' hk'=>⟨(r.hok.lt _ (List.mem_of_getElem? hi) k' hk').1,.inl hk'⟩) ?_)
 have hF:∀k',FB V (H.set i (.row ad k cap e size (cells.take (k*size)))) k'→FB V H k':=by
  intro k' hk'
  rcases hk' with hk'|⟨z,hz,e⟩
  ·exact .inl hk'
  ·rcases List.mem_or_eq_of_mem_set hz with hz|rfl
   ·exact .inr ⟨z,hz,e⟩
   ·exact .inr ⟨_,List.mem_of_getElem? hi,e⟩
 obtain ⟨vals,hd,hown,h1⟩:=r.hp i _ hi
 refine ⟨vals.take (k*size),(hd.take _).weak hF,?_,fun u hu=>h1 u (List.mem_of_mem_take hu)⟩
 obtain ⟨hl,⟨e0,rfl⟩|⟨g,cap',cur,e0,hbg,hg,hnc,hcm,hcs,htake⟩⟩:=hown
 ·cases e0;exact absurd rfl hne
 ·simp only [Value.slice.injEq] at e0
  obtain ⟨rfl,-,rfl⟩:=e0
  refine ⟨by rw [List.length_take,hl];have:=Nat.mul_le_mul_right size hk;omega,.inr ⟨g,cap,cur,rfl,hbg,hg,by omega,hcm,hcs,?_⟩⟩
  rw [←htake,List.take_take];congr 1;have:=Nat.mul_le_mul_right size hk;omega
end
open Go.RowKit
section
variable {P:Program} {Δ:List Deferred} {V O:Nat→Prop} {w0 w w':World} {H H' D:List Hp} {T T':List AV} {a:Act} {o:Oper} {K:List AV→List Hp→Prop} {ρ:Operand→AV} {ops:Array Oper} {Q:Xb9} {F:Nat→Prop} {listed:Array Bool} {fuel:Nat}
def Xc3:List Oper→Nat→Option Oper
 | [],_=>none
 | o :: _,0=>some o
 | _ :: l,n+1=>Xc3 l n
theorem Xbz:∀(l:List Oper) (i:Nat),Xc3 l i=l[i]?
 | [],i=>by simp [Xc3]
 | o :: l,0=>by simp [Xc3]
 | o :: l,i+1=>by simp [Xc3,Xbz l i]
def Xfd (P:Program) (ops:Array Oper) (Q:Xb9) (fuel:Nat) (listed:Array Bool) (T:List AV) (H:List Hp):Prop:=
 ∀Δ V O w0 a w,Rel Δ V O w0 H T a w→wpAny P .any ops (Xe9 Δ V O w0 Q) fuel listed a w
theorem Xbu {id:Nat} {l:List Oper} (hm:P.follows .mixedOrders=true) (h:Xfd P l.toArray Q l.length (Array.replicate l.length false) T H):awp P (.region id l.toArray true) Q T H:=
 Xgc hm fun Δ V O w0 a w r=>by have:=h Δ V O w0 a w r;simpa using this
theorem Xai {T':List AV} {H':List Hp} (hT:T=T') (hH:H=H') (h:Xfd P ops Q fuel listed T' H'):Xfd P ops Q fuel listed T H:=hT▸hH▸h
theorem Xao (hr:Region.ready .any ops listed=[]) (h:Q .normal T H):Xfd P ops Q fuel listed T H:=fun Δ V O w0 a w r=>wpAny_done hr ⟨T,H,r,h⟩ fuel
def XeE (P:Program) (o:Oper) (ρ:Operand→AV) (H:List Hp) (av:AV):Prop:=
 ∀(V:Nat→Prop) (a:Act) (w:World),OK V H ρ o a w→∃v,(∀w',(execOp a.eval o).run P w'=.ok (.value v) w')∧Den (FB V H) w av v
def Xel (ops:Array Oper) (listed:Array Bool) (i:Nat):Bool:=Region.noSelect ops && Region.free .any ops listed i && (Region.ready .any ops listed).contains i
theorem XbJ (i:Nat) {o:Oper} {l:List Oper} (hi:Xc3 l i=some o) (hg:o.guard=none) (hc:Xel l.toArray listed i=true) (hpan:∀c T H,¬Q (.panic c) T H) (av:AV) (h:XeE P o (ev T) H av) (hK:Xfd P l.toArray Q fuel (listed.setIfInBounds i true) (Xa9 T o.dst av) H):Xfd P l.toArray Q (fuel+1) listed T H:=by
 have hi:l.toArray[i]?=some o:=by rw [List.getElem?_toArray,←Xbz];exact hi
 intro Δ V O w0 a w r
 unfold Xel at hc
 simp only [Bool.and_eq_true] at hc
 obtain ⟨v,hv,hd⟩:=h V a w (r.oks o)
 refine wpAny_take hi hc.1.1 hc.1.2 hc.2 (fun c a w ⟨T,H,_,hq⟩=>absurd hq (hpan c T H)) (.inl ⟨by simp [Region.wanted,hg],hv⟩) (hK Δ V O w0 _ w (r.put _ hd))
theorem Xez {i:Nat} (hi:ops[i]?=some o) (hg:o.guard=none) (h:Stp P o T H K) (Δ:List Deferred) (V O:Nat→Prop) (w0:World) (r:Rel Δ V O w0 H T a w) (Kc:Act→World→Prop) (Qc:Exit→Act→World→Prop) (hK:∀T' H' a' w',K T' H'→Rel Δ V O w0 H' T' a' w'→Kc a' w'):wpOp P ops Qc i Kc a w:=by
 unfold wpOp
 simp only [hi]
 rw [if_pos (by simp [Region.wanted,hg])]
 exact .inl (h Δ V O w0 a w Kc Qc r hK)
theorem XbN (i:Nat) {o:Oper} {l:List Oper} (hr:Region.ready .any l.toArray listed=[i]) (hi:Xc3 l i=some o) (hg:o.guard=none) (h:Stp P o T H (Xfd P l.toArray Q fuel (listed.setIfInBounds i true))):Xfd P l.toArray Q (fuel+1) listed T H:=fun Δ V O w0 a w r=>
 wpAny_all hr (by simp) fun j hj=>by
  rw [List.mem_singleton] at hj;subst hj
  have hi:l.toArray[j]?=some o:=by rw [List.getElem?_toArray,←Xbz];exact hi
  exact Xez hi hg h Δ V O w0 r _ _ fun T' H' a' w' hk hr=>hk Δ V O w0 a' w' hr
theorem Xnq (i j:Nat) {o q:Oper} {l:List Oper} (hr:Region.ready .any l.toArray listed=[i,j]) (hi:Xc3 l i=some o) (hg:o.guard=none) (hj:Xc3 l j=some q) (hgj:q.guard=none) (h:Stp P o T H (Xfd P l.toArray Q fuel (listed.setIfInBounds i true))) (h2:Stp P q T H (Xfd P l.toArray Q fuel (listed.setIfInBounds j true))):Xfd P l.toArray Q (fuel+1) listed T H:=fun Δ V O w0 a w r=>
 wpAny_all hr (by simp) fun k hk=>by
  have hi:l.toArray[i]?=some o:=by rw [List.getElem?_toArray,←Xbz];exact hi
  have hj:l.toArray[j]?=some q:=by rw [List.getElem?_toArray,←Xbz];exact hj
  rcases List.mem_cons.1 hk with rfl|hk
  ·exact Xez hi hg h Δ V O w0 r _ _ fun T' H' a' w' hk hr=>hk Δ V O w0 a' w' hr
  ·rw [List.mem_singleton] at hk;subst hk
   exact Xez hj hgj h2 Δ V O w0 r _ _ fun T' H' a' w' hk hr=>hk Δ V O w0 a' w' hr
theorem Xbq (x:Operand) (ho:o.op=.move x):XeE P o ρ H (ρ x):=fun V a w r=>⟨a.eval x,fun w'=>by simp [execOp,ho],r.ops x (by simp [ho,Op.operands])⟩
theorem Xjn (x:Operand) (ho:o.op=.assign x):XeE P o ρ H (ρ x):=fun V a w r=>⟨a.eval x,fun w'=>by simp [execOp,ho],r.ops x (by simp [ho,Op.operands])⟩
theorem Xiq (v:Value) (hs:∀cs b,o.op≠.select cs b) (hx:(o.op.operands.toList.all fun x=>(ρ x).ex)=true)
  (hrun:∀w,(execOp (fun x=>(ρ x).val) o).run P w=.ok (.value v) w):XeE P o ρ H (.x v):=fun V a w r=>⟨v,fun w'=>by
 have he:execOp a.eval o=execOp (fun x=>(ρ x).val) o:=execOp_congr o hs fun x h=>by
  have hex:=List.all_eq_true.1 hx x (by simpa using h)
  have hd:=r.ops x h
  cases hv:ρ x with
  | x v=>rw [hv,Den] at hd;rw [hd];rfl
  | _=>rw [hv] at hex;cases hex
 rw [he];exact hrun w',by rw [Den]⟩
theorem XdU (x:Operand) (b off:Nat) (ho:o.op=.nilCheck x) (hx:ρ x=.x (.pointer (some ⟨b,off,none⟩))):XeE P o ρ H (.x (.pointer (some ⟨b,off,none⟩))):=fun V a w r=>
 ⟨.pointer (some ⟨b,off,none⟩),fun w'=>by simp [execOp,ho,r.evx (by simp [ho,Op.operands]) hx],by rw [Den]⟩
theorem XbC (s:TypeId) (x:Operand) (f k b off:Nat) (ho:o.op=.fieldAddr s x f) (hx:ρ x=.x (.pointer (some ⟨b,off,none⟩))) (hk:XrX P s f=some k):XeE P o ρ H (.x (.pointer (some ⟨b,off+k,none⟩))):=fun V a w r=>
 ⟨.pointer (some ⟨b,off+k,none⟩),fun w'=>by simp [execOp,ho,r.evx (by simp [ho,Op.operands]) hx,Xev s f k hk],by rw [Den]⟩
theorem Xdc (t e:TypeId) (x y:Operand) (size b off n cap:Nat) (k:IntKind) (i:Int) (j:Nat) (ho:o.op=.indexAddr t x y) (hx:ρ x=.x (.slice (some ⟨b,off,none⟩) n cap)) (hy:ρ y=.x (.int k i)) (ht:elT P t=some (e,size)) (hi:i=(j:Int)) (h1:j < n):XeE P o ρ H (.x (.pointer (some ⟨b,off+j*size,none⟩))):=by
 subst hi
 exact fun V a w r=>⟨.pointer (some ⟨b,off+j*size,none⟩),fun w'=>by simp [execOp,ho,r.evx (x:=x) (by simp [ho,Op.operands]) hx,r.evx (x:=y) (by simp [ho,Op.operands]) hy,Xew t e size ht b off n cap k j (by omega) (by omega)],by rw [Den]⟩
theorem Xnr {rest:List Oper} {j:Nat} {want:Bool} {t:Nat} {T':List AV} (hg:o.guard=some (j,want)) (hd:(ops[j]?).bind (·.dst)=some t) (hp:gdc want (T.getD t .top)=some false) (hT:Xa9 T o.dst (.x undef)=T') (hK:Xe8 P ops Q rest T' H):Xe8 P ops Q (o :: rest) T H:=fun Δ V O w0 a w r=>
 wpList_step fun K hKc=>by
  rw [XdR r hg hd hp]
  simp only [Bool.false_eq_true,if_false]
  exact hKc _ _ ((hT▸hK) Δ V O w0 _ _ (r.put _ (by rw [Den])))
theorem Xxi {rest:List Oper} {fin:List AV→Prop} {j:Nat} {want:Bool} {t:Nat} {T':List AV} (hg:o.guard=some (j,want)) (hd:(ops[j]?).bind (·.dst)=some t) (hp:gdc want (T.getD t .top)=some false) (hT:Xa9 T o.dst (.g false .top)=T') (hK:dr P H ops rest T' fin):dr P H ops (o :: rest) T fin:=
 XxZ false .top hg hd hp (fun h=>by cases h) (hT▸hK)
/-! ### Jumps -/
def XbP (l:Nat) (J:List AV→List Hp→Prop) (Q:Xb9):Xb9
 | .goto l',T,H=>l'=l∧J T H
 | e,T,H=>Q e T H
theorem Xoj {l:Nat} {J:List AV→List Hp→Prop} (h:Q .ret T H):XbP l J Q .ret T H:=h
theorem Xmv {l:Nat} {J:List AV→List Hp→Prop} (h:J T H):XbP l J Q (.goto l) T H:=⟨rfl,h⟩
theorem Xnt {l:Nat} (h:Q .normal T H):awp P (.label l) Q T H:=fun Δ V O w0 a w r=>wp_label ⟨T,H,r,h⟩
theorem Xqa {l:Nat} (h:Q (.goto l) T H):awp P (.goto l) Q T H:=fun Δ V O w0 a w r=>wp_goto ⟨T,H,r,h⟩
theorem Xl7 {S:Type} {c rest:Code} (l:Nat) (Tf:S→List AV) (Hf:S→List Hp) (Inv:S→Prop) (m:S→Nat) (hf:findLabel c l=some rest)
  (first:awp P c (XbP l (fun T' H'=>∃s',Inv s'∧Xaj H' T' (Hf s') (Tf s')) Q) T H)
  (pass:∀s,Inv s→awp P rest (XbP l (fun T' H'=>∃s',m s' < m s∧Inv s'∧Xaj H' T' (Hf s') (Tf s')) Q) (Tf s) (Hf s)):awp P (.scope c) Q T H:=by
 intro Δ V O w0 a w r b k cs
 have hg:gotoIn l (.inScope c :: k)=some (.code rest :: .inScope c :: k):=by simp [gotoIn,hf]
 have key:∀n s a w,m s=n→Inv s→Rel Δ V O w0 (Hf s) (Tf s) a w→∃e a' w',Xe9 Δ V O w0 Q e a' w'∧Arrives P (lone (b.at a (.code rest :: .inScope c :: k)) cs w) b k cs e a' w':=by
  intro n
  induction n using Nat.strongRecOn with
  | _ n ih=>
    intro s a w hn hI hr
    obtain ⟨e,a₁,w₁,⟨T1,H1,r1,q1⟩,harr⟩:=pass s hI Δ V O w0 a w hr b (.inScope c :: k) cs
    cases e with
    | normal=>exact ⟨.normal,a₁,w₁,⟨T1,H1,r1,q1⟩,Steps.trans harr (.one step_inScope)⟩
    | exit id=>exact ⟨.exit id,a₁,w₁,⟨T1,H1,r1,q1⟩,fun k' hk=>harr k' (by simp [exitTo,hk])⟩
    | goto l'=>
      obtain ⟨rfl,s',hlt,hI',hw⟩:=q1
      obtain ⟨e₂,a₂,w₂,hq₂,harr₂⟩:=ih (m s') (by omega) s' a₁ w₁ rfl hI' (r1.weaken hw)
      exact ⟨e₂,a₂,w₂,hq₂,.of_steps (harr _ hg) harr₂⟩
    | ret=>exact ⟨_,a₁,w₁,⟨T1,H1,r1,q1⟩,harr⟩
    | panic ch=>exact ⟨_,a₁,w₁,⟨T1,H1,r1,q1⟩,harr⟩
    | outgrown=>exact ⟨_,a₁,w₁,⟨T1,H1,r1,q1⟩,harr⟩
 obtain ⟨e,a₁,w₁,⟨T1,H1,r1,q1⟩,harr⟩:=first Δ V O w0 a w r b (.inScope c :: k) cs
 cases e with
 | normal=>exact ⟨.normal,a₁,w₁,⟨T1,H1,r1,q1⟩,.head step_scope (Steps.trans harr (.one step_inScope))⟩
 | exit id=>exact ⟨.exit id,a₁,w₁,⟨T1,H1,r1,q1⟩,fun k' hk=>.head step_scope (harr k' (by simp [exitTo,hk]))⟩
 | goto l'=>
   obtain ⟨rfl,s',hI',hw⟩:=q1
   obtain ⟨e₂,a₂,w₂,hq₂,harr₂⟩:=key _ s' a₁ w₁ rfl hI' (r1.weaken hw)
   exact ⟨e₂,a₂,w₂,hq₂,.of_steps (.head step_scope (harr _ hg)) harr₂⟩
 | ret=>exact ⟨_,a₁,w₁,⟨T1,H1,r1,q1⟩,.of_steps (.one step_scope) harr⟩
 | panic ch=>exact ⟨_,a₁,w₁,⟨T1,H1,r1,q1⟩,.of_steps (.one step_scope) harr⟩
 | outgrown=>exact ⟨_,a₁,w₁,⟨T1,H1,r1,q1⟩,.of_steps (.one step_scope) harr⟩
end
end Go.Proofs.YtdlblokjfoggpaaGreatDoor

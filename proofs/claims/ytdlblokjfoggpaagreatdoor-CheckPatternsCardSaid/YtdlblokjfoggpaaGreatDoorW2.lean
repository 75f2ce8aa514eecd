import Derived.Test.YtdlblokjfoggpaaGreatDoorW1
import Derived.Test.YtdlblokjfoggpaaGreatDoorW0
import Derived.Lib.ConvBytes
/- A walk over symbolic memory: the rules of memory. No program in sight. -/
set_option linter.unusedSimpArgs false
set_option linter.unusedVariables false
set_option maxRecDepth 100000
set_option maxHeartbeats 8000000
namespace Go.Proofs.YtdlblokjfoggpaaGreatDoor
open Go.RowKit
def AV.one:AV→Bool
 | .x v=>v.oneCell'
 | .sq ..=>true
 | .at_ ..=>true
 | .ifc ..=>true
 | _=>false
def AV.cells:AV→List AV
 | .x v=>v.cells.toList.map .x
 | .agg l=>l
 | av=>[av]
def mkA (l:List AV):AV:=if l.all AV.ex then .x (.agg (l.map AV.val).toArray) else .agg l
def spl (cells:List AV) (o:Nat) (new:List AV):List AV:=cells.take o++new++cells.drop (o+new.length)
section
variable {F:Nat→Prop} {w:World}
theorem XvC {l:List AV} (h:l.all AV.ex=true):l=(l.map AV.val).map AV.x:=by
 rw [List.map_map]
 conv=>lhs;rw [←List.map_id l]
 apply List.map_congr_left
 intro x hx
 have:=List.all_eq_true.1 h x hx
 cases x<;>first|rfl|(simp [AV.ex] at this)|fail
theorem Den.mkA {l:List AV} {vals:List Value} (h:DenL F w l vals):Den F w (mkA l) (.agg vals.toArray):=by
 unfold Go.Proofs.YtdlblokjfoggpaaGreatDoor.mkA
 split
 ·rename_i hx
  rw [Den]
  rw [XvC hx] at h
  rw [h.exact']
 ·rw [Den];exact ⟨vals,rfl,h⟩
theorem Den.cells {av:AV} {v:Value} (h:Den F w av v) (h1:av.cells.all AV.one=true):DenL F w av.cells v.cells.toList:=by
 cases av with
 | x u=>rw [Den] at h;subst h;simp only [AV.cells];exact DenL.exact
 | top=>simp [AV.cells,AV.one] at h1
 | sq n l=>
   have h':=h
   rw [Den] at h;obtain ⟨ad,cap,vals,rfl,_⟩:=h
   exact DenL.of (by simp [AV.cells,Value.cells]) fun j a u h1 h2=>by
    cases j<;>simp [AV.cells,Value.cells] at h1 h2
    subst h1 h2;exact h'
 | at_ l=>
   have h':=h
   rw [Den] at h;obtain ⟨b,o,vals,rfl,_⟩:=h
   exact DenL.of (by simp [AV.cells,Value.cells]) fun j a u h1 h2=>by
    cases j<;>simp [AV.cells,Value.cells] at h1 h2
    subst h1 h2;exact h'
 | agg l=>rw [Den] at h;obtain ⟨vals,rfl,h⟩:=h;simpa [AV.cells,Value.cells] using h
 | tup l=>simp [AV.cells,AV.one] at h1
 | ifc t a=>
   have h':=h
   rw [Den] at h;obtain ⟨u,rfl,_⟩:=h
   exact DenL.of (by simp [AV.cells,Value.cells]) fun j a u h1 h2=>by
    cases j<;>simp [AV.cells,Value.cells] at h1 h2
    subst h1 h2;exact h'
 | g p l=>simp [AV.cells,AV.one] at h1
theorem Den.one {av:AV} {v:Value} (h:Den F w av v) (h1:av.one=true):v.oneCell'=true:=by
 cases av with
 | x u=>rw [Den] at h;subst h;exact h1
 | sq n l=>rw [Den] at h;obtain ⟨ad,cap,vals,rfl,_⟩:=h;rfl
 | at_ l=>rw [Den] at h;obtain ⟨b,o,vals,rfl,_⟩:=h;rfl
 | ifc t a=>rw [Den] at h;obtain ⟨u,rfl,_⟩:=h;rfl
 | top=>cases h1
 | agg l=>cases h1
 | tup l=>cases h1
 | g p l=>cases h1
theorem DenL.one {l:List AV} {vs:List Value} (h:DenL F w l vs) (h1:l.all AV.one=true):∀u∈vs,u.oneCell'=true:=by
 intro u hu
 obtain ⟨j,hj,rfl⟩:=List.getElem_of_mem hu
 have hj':j < l.length:=by rw [←h.len];exact hj
 exact (h.get' j l[j] vs[j] (by simp [hj']) (by simp [hj])).one (List.all_eq_true.1 h1 _ (List.getElem_mem hj'))
theorem DenL.spl {l m:List AV} {vs us:List Value} (h:DenL F w l vs) (k:DenL F w m us) (o:Nat):DenL F w (spl l o m) (vs.take o++us++vs.drop (o+us.length)):=by
 unfold Go.Proofs.YtdlblokjfoggpaaGreatDoor.spl
 rw [k.len]
 exact ((h.take o).app k).app (h.drop _)
end
theorem XoT {α:Type}:∀(l:List α) (i:Nat) (x:α),l[i]?=some x→l.Perm (x :: l.eraseIdx i)
 | [],i,x,h=>by simp at h
 | y :: l,0,x,h=>by simp at h;subst h;exact Xyo _
 | y :: l,i+1,x,h=>by
   have:=XoT l i x (by simpa using h)
   exact (this.cons y).trans (List.Perm.swap x y _)
theorem XhW {α:Type}:∀(l:List α) (i:Nat) (x y:α),l[i]?=some x→(l.set i y).Perm (y :: l.eraseIdx i)
 | [],i,x,y,h=>by simp at h
 | z :: l,0,x,y,h=>Xyo _
 | z :: l,i+1,x,y,h=>by
   have:=XhW l i x y (by simpa using h)
   exact (this.cons z).trans (List.Perm.swap y z _)
section
variable {P:Program} {Δ:List Deferred} {V O:Nat→Prop} {w0 w w':World} {H H':List Hp} {T:List AV} {a:Act} {o:Oper} {K:List AV→List Hp→Prop}
theorem Rel.at (h:Rel Δ V O w0 H T a w) (i:Nat) (x:Hp) (hi:H[i]?=some x):Rel Δ V O w0 (x :: H.eraseIdx i) T a w:=by
 exact h.perm (XoT H i x hi)
theorem Rel.back (i:Nat) (x y:Hp) (hi:H[i]?=some x) (h:Rel Δ V O w0 (y :: H.eraseIdx i) T a w):Rel Δ V O w0 (H.set i y) T a w:=by
 exact h.perm (XhW H i x y hi).symm
theorem Rel.turnAt {x y:Hp} (h:Rel Δ V O w0 H T a w) (i:Nat) (hi:H[i]?=some x) (hos:w'.os=w.os) (htp:w'.tape=w.tape) (hout:w'.output=w.output) (hs:w.heap.size≤w'.heap.size)
  (hw:∀k,k < w.heap.size→x.blk≠some k→w'.heap[k]?=w.heap[k]?) (hxy:∀k,y.blk=some k→k < w'.heap.size∧(x.blk=some k∨w.heap.size≤k))
  (hok:XgS (FB V (H.set i y)) w' y):Rel Δ V O w0 (H.set i y) T a w':=by
 exact (Rel.turn (h.at i x hi) hos htp hout hs hw hxy (hok.weak (FB.perm (XhW H i x y hi))) (fun _ _ _=>trivial)).back i x y hi
theorem Rel.hp (h:Rel Δ V O w0 H T a w) (i:Nat) (x:Hp) (hi:H[i]?=some x):XgS (FB V H) w x:=h.hok.ok x (List.mem_of_getElem? hi)
theorem Xbf (e:TypeId) (z:Value) (ho:o.op=.alloc e) (hz:(P.info? e).bind (·.zero)=some z) (h1:z.cells.toList.all (·.oneCell')=true)
  (hK:∀b,K (Xa9 T o.dst (.x (.pointer (some ⟨b,0,none⟩)))) (.box b (z.cells.toList.map .x) :: H)):Stp P o T H K:=by
 intro Δ V O w0 a w Kc Q r hKc
 obtain ⟨i,hi,hz⟩:=Option.bind_eq_some_iff.1 hz
 have hrun:(execOp a.eval o).run P w=.ok (.value (.pointer (some ⟨w.heap.size,0,none⟩))) (w.alloc (.cells z.cells e)):=by
  simp [execOp,ho,Instr.alloc,zeroValue,typeInfo,hi,hz,newVar,newRow]
 unfold Oper.wp
 rw [hrun]
 refine hKc _ _ _ _ (hK w.heap.size) (Rel.put (Rel.new r (Ext.al _ _) _ ?_ ?_) _ (by rw [Den]))
 ·intro k hk;cases hk;simp
 ·refine ⟨z.cells.toList,DenL.exact,by simp,fun j u hj=>⟨?_,?_,by simp [World.frozen?_alloc_new]⟩⟩
  ·rw [World.cell?_alloc_new];simpa using hj
  ·exact List.all_eq_true.1 h1 u (List.mem_of_getElem? hj)
theorem Xfc (e:TypeId) (x:Operand) (ho:o.op=.box e x) (h1:(ev T x).cells.all AV.one=true)
  (hK:∀b,K (Xa9 T o.dst (.x (.pointer (some ⟨b,0,none⟩)))) (.box b (ev T x).cells :: H)):Stp P o T H K:=by
 intro Δ V O w0 a w Kc Q r hKc
 have hd:=(r.ev x).cells h1
 have hrun:(execOp a.eval o).run P w=.ok (.value (.pointer (some ⟨w.heap.size,0,none⟩))) (w.alloc (.cells (a.eval x).cells e)):=by
  simp [execOp,ho,Instr.box,newVar,newRow]
 unfold Oper.wp
 rw [hrun]
 have hE:Ext w (w.alloc (.cells (a.eval x).cells e)):=Ext.al _ _
 refine hKc _ _ _ _ (hK w.heap.size) (Rel.put (Rel.new r hE _ ?_ ?_) _ (by rw [Den]))
 ·intro k hk;cases hk;simp
 ·refine ⟨(a.eval x).cells.toList,?_,by simp,fun j u hj=>⟨?_,?_,by simp [World.frozen?_alloc_new]⟩⟩
  ·refine DenL.conv (fun k hk=>?_) (fun k hk _=>hE.block k hk) _ _ hd
   rcases hk with hk|⟨y,hy,e⟩
   ·exact .inl (.inl hk)
   ·rcases List.mem_cons.1 hy with rfl|hy
    ·cases e;exact .inr (Nat.le_refl _)
    ·exact .inl (.inr ⟨y,hy,e⟩)
  ·rw [World.cell?_alloc_new];simpa using hj
  ·exact hd.one h1 u (List.mem_of_getElem? hj)
def Xis (P:Program) (t:TypeId):Option (Bool × Nat):=do
 let d ←P.underlying t
 let i ←P.info? t
 pure (match d with|.struct _|.array _ _=>(true,i.size)|_=>(false,i.size))
theorem Xe4 (t:TypeId) (b:Bool) (n:Nat) (h:Xis P t=some (b,n)) (w:World):(isAgg t).run P w=.ok b w∧(sizeOf t).run P w=.ok n w:=by
 unfold Xis at h
 cases hd:P.underlying t with
 | none=>simp [hd] at h
 | some d=>
   cases hi:P.info? t with
   | none=>simp [hd,hi] at h
   | some i=>
     simp [hd,hi] at h
     constructor
     ·unfold isAgg
      rw [Sem.run_bind,run_underlying hd w]
      cases d<;>simp_all
     ·simp [sizeOf,typeInfo,hi];cases d<;>simp_all
def ldA (agg:Bool) (n:Nat) (cells:List AV):AV:=if agg then mkA (cells.take n) else cells.getD 0 .top
theorem Xb2 (t:TypeId) (b:Bool) (n:Nat) (h:Xis P t=some (b,n)) (w:World) (F:Nat→Prop) (g off:Nat) (cells:List AV) (vals:List Value) (hd:DenL F w cells vals)
  (hc:∀j u,vals[j]?=some u→w.cell? ⟨g,off+j,none⟩=some u) (hn:n≤cells.length) (hn0:b=false→0 < cells.length):∃v,(loadVar t ⟨g,off,none⟩).run P w=.ok v w∧Den F w (ldA b n cells) v:=by
 have hadd:∀j,(⟨g,off,none⟩:Addr).add j=⟨g,off+j,none⟩:=fun j=>by unfold Addr.add;split<;>simp_all
 obtain ⟨h1,h2⟩:=Xe4 t b n h w
 cases b with
 | true=>
   have hl:(loadCells ⟨g,off,none⟩ (vals.take n).length).run P w=.ok (vals.take n).toArray w:=run_loadCells_list (P:=P) w _ _ fun j v hj=>by
    rw [hadd]
    rw [List.getElem?_take] at hj
    split at hj
    ·exact hc j v hj
    ·cases hj
   have hlen:(vals.take n).length=n:=by rw [List.length_take,hd.len];omega
   rw [hlen] at hl
   refine ⟨.agg (vals.take n).toArray,?_,?_⟩
   ·simp [loadVar,h1,h2,hl]
   ·simp only [ldA,if_true];exact Den.mkA (hd.take n)
 | false=>
   have h0:=hn0 rfl
   obtain ⟨u,hu,hdu⟩:=hd.get 0 cells[0] (by simp [h0])
   have:=hc 0 u hu
   rw [Nat.add_zero] at this
   refine ⟨u,?_,?_⟩
   ·simp [loadVar,h1,run_load,this]
   ·simp only [ldA,Bool.false_eq_true,if_false]
    rw [show cells.getD 0 .top=cells[0] from by simp [List.getD,h0]];exact hdu
theorem Xfs {Kc:Act→World→Prop} {Q:Exit→Act→World→Prop} {t:TypeId} {x:Operand} {ad:Addr} {v:Value} (ho:o.op=.load t x) (hx:a.eval x=.pointer (some ad)) (hr:(loadVar t ad).run P w=.ok v w) (h:Kc (a.put o.dst v) w):o.wp P a w Kc Q:=by
 unfold Oper.wp execOp
 simp only [ho,hx,Instr.loadAt,Instr.sureAddr,Sem.run_bind,Sem.run_pure,Result.andThen_ok,hr]
 exact h
theorem XaK {ρ:Operand→AV} (i:Nat) (t:TypeId) (x:Operand) (b off:Nat) (cells:List AV) (agg:Bool) (n:Nat) (ho:o.op=.load t x) (hx:ρ x=.x (.pointer (some ⟨b,off,none⟩))) (hi:H[i]?=some (.box b cells))
  (ht:Xis P t=some (agg,n)) (hn:off+n≤cells.length) (hn0:off < cells.length):Evl P o ρ H (ldA agg n (cells.drop off)):=by
 intro V a w Kc Q r hKc
 obtain ⟨vals,hd,hl,hc⟩:=r.hp i _ hi
 obtain ⟨v,hr,hdv⟩:=Xb2 (P:=P) t agg n ht w _ b off (cells.drop off) (vals.drop off) (hd.drop off) (fun j u hj=>(hc (off+j) u (by rwa [List.getElem?_drop] at hj)).1) (by simp;omega) (fun _=>by simp;omega)
 exact Xfs ho (r.evx (by simp [ho,Op.operands]) hx) hr (hKc _ _ (Below.refl _ _) hdv)
theorem XcF {ρ:Operand→AV} (i:Nat) (t:TypeId) (x:Operand) (b off:Nat) (m cap:Nat) (e:TypeId) (size:Nat) (cells:List AV) (agg:Bool) (n:Nat) (ho:o.op=.load t x) (hx:ρ x=.x (.pointer (some ⟨b,off,none⟩))) (hi:H[i]?=some (.row (some ⟨b,0,none⟩) m cap e size cells))
  (ht:Xis P t=some (agg,n)) (hn:off+n≤cells.length) (hn0:off < cells.length):Evl P o ρ H (ldA agg n (cells.drop off)):=by
 intro V a w Kc Q r hKc
 obtain ⟨vals,hd,hown,_⟩:=r.hp i _ hi
 have hc:=hown.cells (g:=b) rfl
 have hadd:∀j,(⟨b,0,none⟩:Addr).add j=⟨b,j,none⟩:=fun j=>by unfold Addr.add;split<;>simp_all
 obtain ⟨v,hr,hdv⟩:=Xb2 (P:=P) t agg n ht w _ b off (cells.drop off) (vals.drop off) (hd.drop off) (fun j u hj=>by rw [List.getElem?_drop] at hj;have:=hc _ u hj;rwa [hadd] at this) (by simp;omega) (fun _=>by simp;omega)
 exact Xfs ho (r.evx (by simp [ho,Op.operands]) hx) hr (hKc _ _ (Below.refl _ _) hdv)
theorem Xbg {ρ:Operand→AV} (t:TypeId) (x:Operand) (cells:List AV) (agg:Bool) (n:Nat) (ho:o.op=.load t x) (hx:ρ x=.at_ cells)
  (ht:Xis P t=some (agg,n)) (hn:n≤cells.length) (hn0:0 < cells.length):Evl P o ρ H (ldA agg n cells):=by
 intro V a w Kc Q r hKc
 have hd:=r.ops x (by simp [ho,Op.operands,Call.operands])
 rw [hx,Den] at hd
 obtain ⟨b,off,vals,hv,hm,hl⟩:=hd
 rcases hm with rfl|⟨b',o',e,hb,hc⟩
 ·have:=hl.len;simp at this;omega
 ·cases e
  obtain ⟨v,hr,hdv⟩:=Xb2 (P:=P) t agg n ht w _ b off cells vals hl (fun j u hj=>(hc j u hj).1) hn (fun _=>hn0)
  exact Xfs ho hv hr (hKc _ _ (Below.refl _ _) hdv)
/-! ### Stores -/
theorem Xcq (b:Nat):∀(vs:List Value) (off i:Nat) (w:World),(∀u∈vs,u.oneCell'=true)→(∀j,j < vs.length→(w.cell? ⟨b,off+i+j,none⟩).isSome=true∧w.frozen? ⟨b,off+i+j,none⟩=false) →
  ∃w',(storeCells ⟨b,off,none⟩ vs i).run P w=.ok () w'∧w'.os=w.os∧w'.tape=w.tape∧w'.output=w.output∧w'.heap.size=w.heap.size∧(∀k,k≠b→w'.heap[k]?=w.heap[k]?) ∧
   (∀j,j < vs.length→w'.cell? ⟨b,off+i+j,none⟩=vs[j]?)∧(∀j,(j < off+i∨off+i+vs.length≤j)→w'.cell? ⟨b,j,none⟩=w.cell? ⟨b,j,none⟩)∧(∀j,w'.frozen? ⟨b,j,none⟩=w.frozen? ⟨b,j,none⟩)
 | [],off,i,w,_,_=>⟨w,by simp [storeCells],rfl,rfl,rfl,rfl,fun _ _=>rfl,fun j hj=>(by simp at hj),fun _ _=>rfl,fun _=>rfl⟩
 | v :: vs,off,i,w,h1,h2=>by
   have hadd:(⟨b,off,none⟩:Addr).add i=⟨b,off+i,none⟩:=by unfold Addr.add;split<;>simp_all
   obtain ⟨hc,hf⟩:=h2 0 (by simp)
   rw [Nat.add_zero] at hc hf
   obtain ⟨u,hu⟩:=Option.isSome_iff_exists.1 hc
   have hlt:b < w.heap.size:=World.block_lt_of_cell? w _ hu
   -- the block's cells
   obtain ⟨C,e,fr,hg⟩:∃C e fr,w.heap[b]?=some (.cells C e fr):=by
    unfold World.cell? at hu
    cases hh:w.heap[b]? with
    | none=>simp [hh] at hu
    | some ob=>cases ob<;>simp [hh] at hu;exact ⟨_,_,_,rfl⟩
   have hset:(w.setCell ⟨b,off+i,none⟩ v).heap[b]?=some (.cells (C.setIfInBounds (off+i) v) e fr):=by
    simp [World.setCell,Array.getElem?_modify,hg]
   have hcell:∀j,(w.setCell ⟨b,off+i,none⟩ v).cell? ⟨b,j,none⟩=if j=off+i then some v else w.cell? ⟨b,j,none⟩:=by
    intro j
    have hC:C[off+i]?=some u:=by unfold World.cell? at hu;simp [hg] at hu;exact hu
    have hCl:=(Array.getElem?_eq_some_iff.1 hC).1
    unfold World.cell?
    simp only [hset,hg]
    simp only [Option.isSome_none,Bool.false_eq_true,if_false]
    by_cases hj:j=off+i
    ·subst hj;simp [hCl]
    ·rw [if_neg hj,Array.getElem?_setIfInBounds_ne (by omega)]
   have hfro:∀j,(w.setCell ⟨b,off+i,none⟩ v).frozen? ⟨b,j,none⟩=w.frozen? ⟨b,j,none⟩:=by
    intro j
    unfold World.frozen?
    simp only [hset,hg]
   have hsz:(w.setCell ⟨b,off+i,none⟩ v).heap.size=w.heap.size:=by simp [World.setCell]
   obtain ⟨w',hr,g1,g2,g3,g4,g5,g6,g7,g8⟩:=Xcq b vs off (i+1) (w.setCell ⟨b,off+i,none⟩ v) (fun u hu=>h1 u (by simp [hu])) fun j hj=>by
    have:=h2 (j+1) (by simp;omega)
    rw [show off+i+(j+1)=off+(i+1)+j from by omega] at this
    refine ⟨?_,by rw [hfro];exact this.2⟩
    rw [hcell,if_neg (by omega)];exact this.1
   refine ⟨w',?_,g1,g2,g3,g4.trans hsz,fun k hk=>(g5 k hk).trans (Below.heap_setCell _ _ _ _ hk),fun j hj=>?_,fun j hj=>?_,fun j=>(g8 j).trans (hfro j)⟩
   ·simp only [storeCells,Sem.run_bind,hadd]
    rw [run_store P w _ v _ (h1 v (by simp)),hu]
    simp only [hf,Bool.false_eq_true,if_false,Result.andThen_ok]
    exact hr
   ·cases j with
    | zero=>
      rw [Nat.add_zero,g7 _ (by omega),hcell,if_pos rfl];rfl
    | succ j=>
      rw [show off+i+(j+1)=off+(i+1)+j from by omega,g6 j (by simpa using hj)];simp
   ·rw [g7 j (by simp at hj;omega),hcell,if_neg (by simp at hj;omega)]
theorem XfJ (t:TypeId) (b off:Nat) (v:Value) (w:World) (hs:(P.info? t).map (·.size)=some v.cells.size) (h1:∀u∈v.cells.toList,u.oneCell'=true)
  (h2:∀j,j < v.cells.size→(w.cell? ⟨b,off+j,none⟩).isSome=true∧w.frozen? ⟨b,off+j,none⟩=false) :
  ∃w',(storeVar t ⟨b,off,none⟩ v).run P w=.ok () w'∧w'.os=w.os∧w'.tape=w.tape∧w'.output=w.output∧w'.heap.size=w.heap.size∧(∀k,k≠b→w'.heap[k]?=w.heap[k]?) ∧
   (∀j,j < v.cells.size→w'.cell? ⟨b,off+j,none⟩=v.cells[j]?)∧(∀j,(j < off∨off+v.cells.size≤j)→w'.cell? ⟨b,j,none⟩=w.cell? ⟨b,j,none⟩)∧(∀j,w'.frozen? ⟨b,j,none⟩=w.frozen? ⟨b,j,none⟩):=by
 obtain ⟨w',hr,g1,g2,g3,g4,g5,g6,g7,g8⟩:=Xcq (P:=P) b v.cells.toList off 0 w h1 (fun j hj=>by simpa using h2 j (by simpa using hj))
 refine ⟨w',?_,g1,g2,g3,g4,g5,fun j hj=>?_,fun j hj=>?_,g8⟩
 ·cases hq:P.info? t with
  | none=>simp [hq] at hs
  | some i=>
    have:v.cells.size=i.size:=by simp [hq] at hs;omega
    simp [storeVar,sizeOf,typeInfo,hq,this,hr]
 ·have:=g6 j (by simpa using hj);simpa using this
 ·exact g7 j (by simpa using hj)
theorem XgR {Kc:Act→World→Prop} {Q:Exit→Act→World→Prop} {t:TypeId} {x y:Operand} {ad:Addr} (ho:o.op=.store t x y) (hx:a.eval x=.pointer (some ad)) (hr:(storeVar t ad (a.eval y)).run P w=.ok () w') (h:Kc (a.put o.dst undef) w'):o.wp P a w Kc Q:=by
 unfold Oper.wp execOp
 simp only [ho,hx,Instr.storeAt,Instr.sureAddr,Sem.run_bind,Sem.run_pure,Result.andThen_ok,hr]
 exact h
theorem Xaw (i:Nat) (t:TypeId) (x y:Operand) (b off:Nat) (cells:List AV) (ho:o.op=.store t x y) (hx:ev T x=.x (.pointer (some ⟨b,off,none⟩))) (hi:H[i]?=some (.box b cells))
  (ht:(P.info? t).map (·.size)=some (ev T y).cells.length) (h1:(ev T y).cells.all AV.one=true) (hn:off+(ev T y).cells.length≤cells.length)
  (hK:K (Xa9 T o.dst (.x undef)) (H.set i (.box b (spl cells off (ev T y).cells)))):Stp P o T H K:=by
 intro Δ V O w0 a w Kc Q r hKc
 obtain ⟨vals,hd,hl,hc⟩:=r.hp i _ hi
 have hy:=(r.ev y).cells h1
 have hlen:(a.eval y).cells.size=(ev T y).cells.length:=by have:=hy.len;simpa using this
 have hvl:=hd.len
 obtain ⟨w',hr,g1,g2,g3,g4,g5,g6,g7,g8⟩:=XfJ (P:=P) t b off (a.eval y) w (by rw [ht,hlen]) (hy.one h1) (fun j hj=>by
  have hj':off+j < vals.length:=by omega
  obtain ⟨c1,_,c3⟩:=hc (off+j) vals[off+j] (by simp [hj'])
  exact ⟨by rw [c1];rfl,c3⟩)
 refine XgR ho (r.evx hx) hr (hKc _ _ _ _ hK (Rel.put (Rel.turnAt (y:=.box b (spl cells off (ev T y).cells)) r i hi g1 g2 g3 (by omega) (fun k _ hk=>g5 k (fun e=>hk (by rw [e];rfl))) (fun k hk=>⟨by cases hk;omega,.inl hk⟩) ?_) _ (by rw [Den])))
 have hF:∀k,FB V (H.set i (.box b (spl cells off (ev T y).cells))) k→FB V H k:=by
  intro k hk
  rcases hk with hk|⟨z,hz,e⟩
  ·exact .inl hk
  ·rcases List.mem_or_eq_of_mem_set hz with hz|rfl
   ·exact .inr ⟨z,hz,e⟩
   ·exact .inr ⟨_,List.mem_of_getElem? hi,e⟩
 have hw:∀k,k < w.heap.size→¬FB V H k→w'.heap[k]?=w.heap[k]?:=fun k _ hn=>g5 k fun e=>hn (.inr ⟨_,List.mem_of_getElem? hi,by rw [e];rfl⟩)
 refine ⟨vals.take off++(a.eval y).cells.toList++vals.drop (off+(a.eval y).cells.toList.length),DenL.conv (fun k hk=>.inl (hF k hk)) hw _ _ (hd.spl hy off),by omega,fun j u hj=>?_⟩
 rw [Array.length_toList] at hj
 have htl:(vals.take off).length=off:=by rw [List.length_take];omega
 refine (?_:(w'.cell? ⟨b,j,none⟩=some u∧u.oneCell'=true)∧w'.frozen? ⟨b,j,none⟩=false) |> fun h=>⟨h.1.1,h.1.2,h.2⟩
 by_cases h3:j < off
 ·rw [List.append_assoc,List.getElem?_append_left (by omega),List.getElem?_take,if_pos h3] at hj
  obtain ⟨c1,c2,c3⟩:=hc j u hj
  exact ⟨⟨by rw [g7 j (.inl h3)];exact c1,c2⟩,by rw [g8];exact c3⟩
 ·by_cases h4:j < off+(a.eval y).cells.size
  ·rw [List.append_assoc,List.getElem?_append_right (by omega),htl,List.getElem?_append_left (by simp;omega)] at hj
   have e:=g6 (j - off) (by omega)
   rw [show off+(j - off)=j from by omega] at e
   refine ⟨⟨?_,hy.one h1 u (List.mem_of_getElem? hj)⟩,?_⟩
   ·rw [e];simpa using hj
   ·rw [g8]
    have hj':j < vals.length:=by omega
    exact (hc j vals[j] (by simp [hj'])).2.2
  ·rw [List.getElem?_append_right (by simp;omega),List.getElem?_drop] at hj
   have e:off+(a.eval y).cells.size+(j - ((vals.take off)++(a.eval y).cells.toList).length)=j:=by simp;omega
   rw [e] at hj
   obtain ⟨c1,c2,c3⟩:=hc j u hj
   exact ⟨⟨by rw [g7 j (.inr (by omega))];exact c1,c2⟩,by rw [g8];exact c3⟩
end
open Go.RowKit
@[simp,go_sem] theorem XxX (l:List UInt8) (i:Nat) (h:i < (bs l).size):(bs l)[i]=l[i]'(by simpa using h):=by
 simp [bs,ByteArray.getElem_eq_getElem_data]
@[simp,go_sem] theorem Xxe (l:List UInt8) (i:Nat):(bs l).extract i l.length=bs (l.drop i):=by
 apply ByteArray.ext;apply Array.toList_inj.1;simp [bs,ByteArray.data_extract,List.take_of_length_le]
@[simp,go_sem] theorem Xyd (l:List UInt8) (k:Nat):(bs l).extract 0 k=bs (l.take k):=by
 apply ByteArray.ext;apply Array.toList_inj.1;simp [bs,ByteArray.data_extract,List.take_of_length_le]
theorem Xgd:bs []=⟨#[]⟩:=rfl
theorem Xgg {l:List UInt8} {k:Nat} (h:k < l.length):l.drop k=l[k] :: l.drop (k+1):=List.drop_eq_getElem_cons h
section
variable {P:Program} {ops:Array Oper} {rest:List Oper} {o:Oper} {a:Act} {Q:Exit→Act→World→Prop}
def Ow (lo:Nat) (e:TypeId) (size:Nat) (w:World) (v:Value) (n:Nat) (xs:List Value):Prop:=w.ownsRow lo e size v n xs
end
section
variable {lo:Nat} {e:TypeId} {size n:Nat} {w w':World} {v:Value} {xs:List Value}
theorem Ow.mono (h:Ow lo e size w v n xs) (hb:Ext w w'):Ow lo e size w' v n xs:=Xle h hb
theorem Ow.agree (h:Ow lo e size w v n xs) (hb:XbX lo w.heap.size w w'):Ow lo e size w' v n xs:=XgB h hb
theorem Ow.weak {lo':Nat} (h:Ow lo e size w v n xs) (hl:lo'≤lo):Ow lo' e size w v n xs:=Xlf h hl
theorem Ow.nil (lo:Nat) (e:TypeId) (size:Nat) (w:World):Ow lo e size w (.slice none 0 0) 0 []:=World.ownsRow_nil _ _ _ _
theorem Ow.shape (h:Ow lo e size w v n xs):∃ad cap,v=.slice ad n cap∧n≤cap:=(Sl.own h).shape
end
def XlB (w:World) (e:TypeId) (s:ByteArray):Obj:=.cells (Lib.bytesCells w e s) e ((Lib.bytesCells w e s).size,(Lib.bytesCells w e s).size+1)
theorem Xeh (w:World) (e:TypeId) (s:ByteArray):Lib.bytesWorld w e s=w.ext #[XlB w e s] (w.drawn+1):=by
 have h1:(Lib.bytesWorld w e s).heap=w.heap++#[XlB w e s]:=by
  apply Array.ext_getElem?
  intro j
  by_cases hj:j < w.heap.size
  ·rw [Lib.bytesWorld_at_old w e s j hj,Array.getElem?_append_left hj]
  ·rw [Array.getElem?_append_right (by omega)]
   by_cases he:j=w.heap.size
   ·subst he;rw [Lib.bytesWorld_at_new,Nat.sub_self];rfl
   ·have h1:(#[XlB w e s]:Array Obj).size=1:=rfl
    rw [Array.getElem?_eq_none (by rw [Lib.bytesWorld_size];omega),Array.getElem?_eq_none (by rw [h1];omega)]
 have h2:Lib.bytesWorld w e s={ w with heap:=(Lib.bytesWorld w e s).heap,drawn:=w.drawn+1 }:=rfl
 rw [h2,h1];rfl
@[go_sem] theorem Xmj {P:Program} (w:World) (src t e:TypeId) (s:ByteArray) (hs:P.underlying src=some .string) (ht:P.underlying t=some (.slice (P.elem t))) (he:P.elem t=e) (hu:P.underlying e=some (.int .u8)) :
  (convert src t (.string s)).run P w=.ok (.slice (some ⟨w.heap.size,0,none⟩) s.size (grownCap w s.size 0 e)) (w.ext #[XlB w e s] (w.drawn+1)):=by
 subst he;rw [Lib.run_convert_string_bytes w src t _ s hs ht hu,Xeh]
open Go.RowKit
section
variable {P:Program}
end
section
variable {P:Program} {ops:Array Oper} {rest:List Oper} {o:Oper} {a:Act} {Q:Exit→Act→World→Prop}
end
theorem Bs.blk {lo:Nat} {w w':World} {ad:Option Addr} {m cap:Nat} {l:List UInt8} (h:Bs lo w (.slice ad m cap) l) (hk:l≠[]→∀x,ad=some x→w'.heap[x.block]?=w.heap[x.block]?):Bs lo w' (.slice ad m cap) l:=by
 obtain ⟨ad',cap',e,h1,h2,h3,h5,h4⟩:=h
 refine ⟨ad',cap',e,h1,h2,h3,h5,fun j u hj=>?_⟩
 obtain ⟨x,hx,hu⟩:=h4 j u hj
 refine ⟨x,hx,?_⟩
 cases e
 rw [World.cell?_of_block (w:=w) (by rw [Addr.add_block];exact hk (by intro e;subst e;simp [u8s] at hj) x hx)];exact hu
theorem Bs.lt {lo:Nat} {w:World} {ad:Option Addr} {m cap:Nat} {l:List UInt8} (h:Bs lo w (.slice ad m cap) l) (hl:l≠[]):∀x,ad=some x→lo≤x.block∧x.block < w.heap.size:=by
 obtain ⟨ad',cap',e,h1,h2,h3,h5,h4⟩:=h
 intro x hx
 cases e
 cases l with
 | nil=>exact absurd rfl hl
 | cons c l=>
   obtain ⟨y,hy,hu⟩:=h4 0 _ rfl
   rw [hx] at hy;cases hy
   have:=World.block_lt_of_cell? w _ hu
   rw [Addr.add_block] at this
   exact ⟨h5 x hx,this⟩
theorem Ob.blk {lo:Nat} {e:TypeId} {w w':World} {ad:Option Addr} {m cap:Nat} {l:List UInt8} (h:Ob lo e w (.slice ad m cap) l) (hk:∀x,ad=some x→w'.heap[x.block]?=w.heap[x.block]?):Ob lo e w' (.slice ad m cap) l:=by
 obtain ⟨hl,hn|⟨g,c,cur,he,hbg,hg,r⟩⟩:=h
 ·exact ⟨hl,.inl hn⟩
 ·refine ⟨hl,.inr ⟨g,c,cur,he,hbg,?_,r⟩⟩
  cases he
  exact (hk _ rfl).trans hg
theorem Ob.lt {lo:Nat} {e:TypeId} {w:World} {ad:Option Addr} {m cap:Nat} {l:List UInt8} (h:Ob lo e w (.slice ad m cap) l):∀x,ad=some x→x.block < w.heap.size:=fun x hx=>(World.ownsRow.lt h x.block (by rw [hx];rfl)).2
section
variable {P:Program} {ops:Array Oper} {rest:List Oper} {o:Oper} {a:Act} {Q:Exit→Act→World→Prop}
end
end Go.Proofs.YtdlblokjfoggpaaGreatDoor

import Derived.Test.YtdpobjakdplljaaGreatDoorU28
import Derived.Test.YtdpobjakdplljaaGreatDoorU24
/- strings.Builder: its text taken, and taken again. -/
set_option linter.unusedSimpArgs false
set_option linter.unusedVariables false
set_option maxRecDepth 100000
set_option maxHeartbeats 8000000
namespace Go.Proofs.YtdpobjakdplljaaGreatDoor
open Go.RowKit Go.Shelf Go.Lib
section
variable {Δ:List Deferred} {V O:Nat→Prop} {w0 w w':World} {H:List Hp} {T:List AV} {a:Act} {o:Oper} {ops:Array Oper} {Θ:List (Nat × Obj)} {Q:Xd8}
theorem XhC (w:World) (a:Addr) (n:Nat) (x:Addr):(w.freeze a n).cell? x=w.cell? x:=by
 unfold World.freeze
 split
 ·rfl
 ·simp only [World.cell?,Array.getElem?_modify]
  by_cases h:a.block=x.block
  ·rw [if_pos h]
   cases w.heap[x.block]? with
   | none=>rfl
   | some ob=>cases ob<;>rfl
  ·rw [if_neg h]
theorem Xjl {g n:Nat} {cur:Array Value} {e:TypeId} (h:w.heap[g]?=some (.cells cur e (0,0))) (hn:n≠0):(w.freeze ⟨g,0,none⟩ n).heap[g]?=some (.cells cur e (0,n)):=by
 unfold World.freeze
 rw [if_neg hn]
 simp [Array.getElem?_modify,h]
theorem XhP {g n:Nat} {cur:Array Value} {e:TypeId} (h:w.heap[g]?=some (.cells cur e (0,n))) (hn:n≠0):w.freeze ⟨g,0,none⟩ n=w:=by
 have e1:(w.freeze ⟨g,0,none⟩ n).heap=w.heap:=by
  unfold World.freeze
  rw [if_neg hn]
  apply Array.ext_getElem?
  intro k
  simp only [Array.getElem?_modify]
  split
  ·rename_i hk
   have hk':g=k:=hk
   subst hk'
   rw [h]
   simp [Ne.symm hn]
  ·rfl
 have e2:w.freeze ⟨g,0,none⟩ n={ w with heap:=(w.freeze ⟨g,0,none⟩ n).heap }:=by unfold World.freeze;split<;>rfl
 rw [e2,e1]
theorem Rel.frz (r:Rel Δ V O w0 H T a w) (g n:Nat) (hb:¬Xcw H g) (ho:O g∨w0.heap.size≤g):Rel Δ V O w0 H T a (w.freeze ⟨g,0,none⟩ n):=by
 have hsz:=XhQ w ⟨g,0,none⟩ n
 have hk:∀b o v,¬FB V H b→w.cell? ⟨b,o,none⟩=some v→¬FB V H b∧(w.freeze ⟨g,0,none⟩ n).cell? ⟨b,o,none⟩=some v:=fun b o v hF hv=>⟨hF,by rw [XhC];exact hv⟩
 refine ⟨XaN.cw hk _ _ r.tmps,⟨fun x hx=>(r.hok.ok x hx).cw hk (by omega) fun k e=>Xem _ _ _ _ fun e'=>hb ⟨x,hx,by have h5:k=g:=e';rw [←h5];exact e⟩,r.hok.apart,fun x hx k e=>by rw [hsz];exact r.hok.lt x hx k e⟩,?_,r.own,r.defers,r.vlt,r.gl⟩
 refine r.fr.trans (O':=fun k=>k=g) ⟨by unfold World.freeze;split<;>rfl,by unfold World.freeze;split<;>rfl,by unfold World.freeze;split<;>rfl,by omega,fun k _ hn=>Xem _ _ _ _ hn⟩ fun i hi e=>?_
 subst e
 exact ho.resolve_right (by omega)
def Xqb (Θ:List (Nat × Obj)) (ad:Option Addr) (cap:Nat) (l:List UInt8):Prop:=
 (l=[]∧ad=none)∨∃(g:Nat) (cur:Array Value),ad=some ⟨g,0,none⟩∧(g,Obj.cells cur 5 (0,l.length))∈Θ∧l≠[]∧l.length≤cur.size∧l.length≤cap∧∀(j:Nat) (x:UInt8),l[j]?=some x→cur[j]?=some (Value.int .u8 (x.toNat:Nat))
theorem Xpr (b cap:Nat) (p:Value) (w:World) (hbk:w.heap[b]?=some (.cells #[p,.slice none 0 cap] 74 (0,0))) :
  Calls Tryz.prog 37 #[.pointer (some ⟨b,0,none⟩)] w fun e w'=>e=.returned (.string (bs []))∧Ext w w':=by
 have c1:w.drew.cell? ⟨b,1,none⟩=some (.slice none 0 cap):=by
  have:w.drew.heap[b]?=some (.cells #[p,.slice none 0 cap] 74 (0,0)):=hbk
  rw [Lib.cell_of_heap this];rfl
 have hSD:(Builtin.unsafeSliceData_ #[39] 133 #[.slice none 0 cap]).run Tryz.prog w.drew=.ok (.pointer none) w.drew:=Lib.run_unsafeSliceData_nil _ _ _ _ _
 have hUS:(Builtin.unsafeString_ #[133,3] 9 #[.pointer none,.int .i64 0]).run Tryz.prog w.drew=.ok (.string .empty) w.drew:=Lib.run_unsafeString_none _ _ _ _ _
 have hmx:=mixed
 go_enter Tryz.func37,Tryz.ntmps37
 go_wp2
 go_region_o
 all_goals (go_wp2;go_ret;exact ⟨rfl,(show Ext w w.drew from Below.drew (Below.refl _ w))⟩)
variable {rest:List Oper} {c x:Operand} {tys:Array TypeId} {b:Nat} {p:Value} {ad:Option Addr} {cap:Nat} {l:List UInt8}
theorem XjW (hg:o.guard=none) (ho:o.op=.call { callee:=.value c,args:=#[x],argTypes:=tys }) (hc:ev T c=.x (.func (.func 37) #[] #[])) (hx:ev T x=.x (.pointer (some ⟨b,0,none⟩))) (h0:l=[]→ad=none) (hm:l.length≤1000000)
  (hK:∀Θ',Xqb Θ' ad cap l→XcM Tryz.prog Δ Θ' ops Q rest (XbW T o.dst (.x (.string (bs l)))) [.row (some ⟨b,0,none⟩) 1 1 74 2 [.x p,.x (.slice ad l.length cap)]]) :
  XcM Tryz.prog Δ [] ops Q (o :: rest) T [.row (some ⟨b,0,none⟩) 1 1 74 2 [.x p,.x (.slice ad l.length cap)],.row ad l.length cap 5 1 (u8a l)]:=fun V O w0 a w r t=>by
 obtain ⟨u0,u1,hbk,d0,d1,o0,o1⟩:=XpZ (r.hok.ok _ (List.mem_cons_self ..))
 rw [Den] at d0 d1
 subst d0 d1
 obtain ⟨vals,hdv,hown,hone⟩:=r.hok.ok _ (List.mem_cons_of_mem _ (List.mem_cons_self ..))
 have hvals:vals=l.map fun c=>.int .u8 (c.toNat:Nat):=by
  have:u8a l=(l.map fun c=>Value.int .u8 (c.toNat:Nat)).map .x:=by simp [u8a,u8s]
  rw [this] at hdv;exact hdv.exact'
 subst hvals
 have r1:Rel Δ V O w0 [.row (some ⟨b,0,none⟩) 1 1 74 2 [.x u0,.x (.slice ad l.length cap)]] T a w:=by
  have q:=r.weaken (XaH.mk' (H':=[.row (some ⟨b,0,none⟩) 1 1 74 2 [.x u0,.x (.slice ad l.length cap)]]) (T':=T) [.row ad l.length cap 5 1 (u8a l)] [_] (List.Perm.swap _ _ _) (XaF.refl _ _) (VwL.refl _ _))
  exact q
 refine wpListIn_plain hg fun K hKc=>Xek ?_
 refine Xdt ho (r.evx hc) Tryz.func37 (by decide) rfl (vs:=#[.pointer (some ⟨b,0,none⟩)]) (by simp [r.evx hx]) ?_
 by_cases hl:l=[]
 ·have had:=h0 hl
  subst hl had
  refine (Xpr b cap u0 w hbk).mono ?_
  rintro e w' ⟨rfl,hE⟩
  exact ⟨_,rfl,hKc _ _ (hK [] (Or.inl ⟨rfl,rfl⟩) V O w0 _ _ ((r1.quiet hE).put o.dst (Xer _)) fun p hp=>by cases hp)⟩
 ·obtain ⟨-,⟨-,h⟩|⟨g,cap',cur,e0,-,hg,hnc,hcm,hcs,ht⟩⟩:=hown
  ·exact absurd (List.eq_nil_of_length_eq_zero h) hl
  cases e0
  have hglt:g < w.heap.size:=(Array.getElem?_eq_some_iff.1 hg).1
  have hnb:¬Xcw [.row (some ⟨b,0,none⟩) 1 1 74 2 [.x u0,.x (.slice (some ⟨g,0,none⟩) l.length cap)]] g:=fun ⟨y,hy,e⟩=>by
   rw [List.mem_singleton] at hy;subst hy
   exact (List.pairwise_cons.1 r.hok.apart).1 _ (List.mem_cons_self ..) g e rfl
  have hog:O g∨w0.heap.size≤g:=r.own _ (List.mem_cons_of_mem _ (List.mem_cons_self ..)) g rfl
  have hcl:∀(j:Nat) (x:UInt8),l[j]?=some x→cur[j]?=some (Value.int .u8 (x.toNat:Nat)):=fun j x hx=>by
   have hj:j < l.length:=(List.getElem?_eq_some_iff.1 hx).1
   have:=congrArg (·[j]?) ht
   simp only [Nat.mul_one,List.getElem?_take,List.getElem?_map,hx,if_pos hj,Option.map_some] at this
   simpa using this
  refine (Xpp b g cap _ l hl cur _ w hbk hg (by rw [hcs];omega) hnc hm fun j x hx=>by rw [Lib.cell_of_heap hg];exact hcl j x hx).mono ?_
  rintro e w' ⟨rfl,w1,hE,rfl⟩
  have hg1:w1.heap[g]?=some (.cells cur 5 (0,0)):=by rw [hE.block g hglt];exact hg
  have hl0:l.length≠0:=by simpa using hl
  refine ⟨_,rfl,hKc _ _ (hK [(g,.cells cur 5 (0,l.length))] (Or.inr ⟨g,cur,rfl,List.mem_singleton.2 rfl,hl,by rw [hcs];omega,hnc,hcl⟩) V O w0 _ _ (((r1.quiet hE).frz g l.length hnb hog).put o.dst (Xer _)) fun p hp=>?_)⟩
  rw [List.mem_singleton] at hp;subst hp
  exact ⟨Xjl hg1 hl0,rfl,hnb,hog⟩
theorem Xi6 (hg:o.guard=none) (ho:o.op=.call { callee:=.value c,args:=#[x],argTypes:=tys }) (hc:ev T c=.x (.func (.func 37) #[] #[])) (hx:ev T x=.x (.pointer (some ⟨b,0,none⟩))) (hT:Xqb Θ ad cap l) (hm:l.length≤1000000)
  (hK:XcM Tryz.prog Δ Θ ops Q rest (XbW T o.dst (.x (.string (bs l)))) [.row (some ⟨b,0,none⟩) 1 1 74 2 [.x p,.x (.slice ad l.length cap)]]) :
  XcM Tryz.prog Δ Θ ops Q (o :: rest) T [.row (some ⟨b,0,none⟩) 1 1 74 2 [.x p,.x (.slice ad l.length cap)]]:=fun V O w0 a w r t=>by
 obtain ⟨u0,u1,hbk,d0,d1,o0,o1⟩:=XpZ (r.hok.ok _ (List.mem_cons_self ..))
 rw [Den] at d0 d1
 subst d0 d1
 have hq:∀w',Ext w w'→∀q∈Θ,Trk O w0 [.row (some ⟨b,0,none⟩) 1 1 74 2 [.x u0,.x (.slice ad l.length cap)]] w' q:=fun w' hE q hq=>by
  obtain ⟨t1,t2,t3,t4⟩:=t q hq
  exact ⟨(hE.block q.1 (Array.getElem?_eq_some_iff.1 t1).1).trans t1,t2,t3,t4⟩
 refine wpListIn_plain hg fun K hKc=>Xek ?_
 refine Xdt ho (r.evx hc) Tryz.func37 (by decide) rfl (vs:=#[.pointer (some ⟨b,0,none⟩)]) (by simp [r.evx hx]) ?_
 rcases hT with ⟨rfl,rfl⟩|⟨g,cur,rfl,hmem,hl,hn,hcap,hcl⟩
 ·refine (Xpr b cap u0 w hbk).mono ?_
  rintro e w' ⟨rfl,hE⟩
  exact ⟨_,rfl,hKc _ _ (hK V O w0 _ _ ((r.quiet hE).put o.dst (Xer _)) (hq _ hE))⟩
 ·have hg:w.heap[g]?=some (.cells cur 5 (0,l.length)):=(t _ hmem).1
  refine (Xpp b g cap _ l hl cur _ w hbk hg hn hcap hm fun j x hx=>by rw [Lib.cell_of_heap hg];exact hcl j x hx).mono ?_
  rintro e w' ⟨rfl,w1,hE,rfl⟩
  have hg1:w1.heap[g]?=some (.cells cur 5 (0,l.length)):=by rw [hE.block g (Array.getElem?_eq_some_iff.1 hg).1];exact hg
  rw [XhP hg1 (by simpa using hl)]
  exact ⟨_,rfl,hKc _ _ (hK V O w0 _ _ ((r.quiet hE).put o.dst (Xer _)) (hq _ hE))⟩
end
end Go.Proofs.YtdpobjakdplljaaGreatDoor

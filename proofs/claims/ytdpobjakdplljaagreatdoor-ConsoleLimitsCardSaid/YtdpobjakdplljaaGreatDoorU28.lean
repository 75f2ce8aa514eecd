import Derived.Test.YtdpobjakdplljaaGreatDoorU19
import Derived.Test.YtdpobjakdplljaaGreatDoorU11
import Derived.Test.YtdpobjakdplljaaGreatDoorU8
import Derived.Test.YtdpobjakdplljaaGreatDoorU6
import Derived.Lib.UnsafeStr
import Derived.Test.YtdpobjakdplljaaGreatDoorU27
import Derived.Test.YtdpobjakdplljaaGreatDoorU13
import Derived.Lib.AppendIntMem
import Derived.Lib.ItoaMem
import Derived.Test.YtdpobjakdplljaaGreatDoorU26
import Derived.Test.YtdpobjakdplljaaGreatDoorU18
/- strings.Builder in a walk over symbolic memory: a row of one element, and its buffer. After the shelf's proofs. -/
set_option linter.unusedSimpArgs false
set_option linter.unusedVariables false
set_option maxRecDepth 100000
set_option maxHeartbeats 8000000
namespace Go.Proofs.YtdpobjakdplljaaGreatDoor
open Go.RowKit Go.Shelf
section
variable {P:Program} {Δ:List Deferred} {V O:Nat→Prop} {w0 w w':World} {H:List Hp} {T:List AV} {a:Act} {o:Oper} {K:List AV→List Hp→Prop}
theorem XiX (e:TypeId) (z:Value) (n:Nat) (ho:o.op=.alloc e) (hz:(P.info? e).bind (·.zero)=some z) (hn:z.cells.size=n) (h1:z.cells.toList.all (·.oneCell')=true)
  (hK:∀b,K (XbW T o.dst (.x (.pointer (some ⟨b,0,none⟩)))) (.row (some ⟨b,0,none⟩) 1 1 e n (z.cells.toList.map .x) :: H)):Stp P o T H K:=by
 intro Δ V O w0 a w Kc Q r hKc
 obtain ⟨i,hi,hz⟩:=Option.bind_eq_some_iff.1 hz
 have hrun:(execOp a.eval o).run P w=.ok (.value (.pointer (some ⟨w.heap.size,0,none⟩))) (w.alloc (.cells z.cells e)):=by
  simp [execOp,ho,Instr.alloc,zeroValue,typeInfo,hi,hz,newVar,newRow]
 unfold Oper.wp
 rw [hrun]
 refine hKc _ _ _ _ (hK w.heap.size) (Rel.put (Rel.new r (Ext.al _ _) _ ?_ ?_) _ (by rw [Den]))
 ·intro k hk;cases hk;simp
 ·refine ⟨z.cells.toList,XaN.exact,⟨by simp [hn],.inr ⟨w.heap.size,1,z.cells,rfl,Nat.zero_le _,by unfold World.alloc;exact Array.getElem?_push_size,Nat.le_refl _,by unfold maxLen;omega,by omega,by rw [List.take_of_length_le (by simp;omega)]⟩⟩,fun u hu=>List.all_eq_true.1 h1 u hu⟩
end
theorem XpZ {F:Nat→Prop} {w:World} {b:Nat} {e:TypeId} {c0 c1:AV} (h:Xex F w (.row (some ⟨b,0,none⟩) 1 1 e 2 [c0,c1])):∃u0 u1,w.heap[b]?=some (.cells #[u0,u1] e (0,0))∧Den F w c0 u0∧Den F w c1 u1∧u0.oneCell'=true∧u1.oneCell'=true:=by
 obtain ⟨vals,hd,hown,h1⟩:=h
 rw [XaN] at hd
 obtain ⟨u0,us,rfl,d0,hd⟩:=hd
 rw [XaN] at hd
 obtain ⟨u1,us,rfl,d1,hd⟩:=hd
 rw [XaN] at hd
 subst hd
 obtain ⟨-,h|⟨g,cap,cur,e0,-,hg,-,-,hcs,ht⟩⟩:=hown
 ·cases h.1
 ·simp only [Value.slice.injEq,Option.some.injEq,Addr.mk.injEq] at e0
  obtain ⟨⟨rfl,-,-⟩,-,rfl⟩:=e0
  have hc:cur=#[u0,u1]:=by
   apply Array.toList_inj.1
   rw [←ht,List.take_of_length_le (by simp;omega)]
  subst hc
  exact ⟨u0,u1,hg,d0,d1,h1 u0 (by simp),h1 u1 (by simp)⟩
theorem Xom {F:Nat→Prop} {w:World} {b:Nat} {e:TypeId} {c0 c1:AV} {u0 u1:Value} (h:w.heap[b]?=some (.cells #[u0,u1] e (0,0))) (d0:Den F w c0 u0) (d1:Den F w c1 u1) (h0:u0.oneCell'=true) (h1:u1.oneCell'=true):Xex F w (.row (some ⟨b,0,none⟩) 1 1 e 2 [c0,c1]):=
 ⟨[u0,u1],XaN.cons' d0 (XaN.cons' d1 XaN.nil'),⟨rfl,.inr ⟨b,1,_,rfl,Nat.zero_le _,h,Nat.le_refl _,by unfold maxLen;omega,rfl,rfl⟩⟩,fun u hu=>by
  rcases List.mem_cons.1 hu with rfl|hu
  ·exact h0
  ·rcases List.mem_cons.1 hu with rfl|hu
   ·exact h1
   ·cases hu⟩
def Xhj (b:Nat) (ad:Option Addr) (cap:Nat) (s:List UInt8):List Hp:=[.row (some ⟨b,0,none⟩) 1 1 74 2 [.x (.pointer (some ⟨b,0,none⟩)),.x (.slice ad s.length cap)],.row ad s.length cap 5 1 (u8a s)]
theorem Xqd (b:Nat) (p:Option Addr) (hp:p=none∨p=some ⟨b,0,none⟩) (sl:Value):Xbb Tryz.prog 64 [.row (some ⟨b,0,none⟩) 1 1 74 2 [.x (.pointer p),.x sl]] [.x (.pointer (some ⟨b,0,none⟩))] (fun r H'=>r=.x (.tuple #[])∧H'=[.row (some ⟨b,0,none⟩) 1 1 74 2 [.x (.pointer (some ⟨b,0,none⟩)),.x sl]]):=by
 intro V w vs hV hH hd hgl
 have hd':vs=[.pointer (some ⟨b,0,none⟩)]:=hd.exact' (l:=[_])
 subst hd'
 obtain ⟨u0,u1,hbk,d0,d1,o0,o1⟩:=XpZ (hH.ok _ (List.mem_cons_self ..))
 rw [Den] at d0 d1
 subst d0 d1
 have hlt:b < w.heap.size:=(Array.getElem?_eq_some_iff.1 hbk).1
 have r:Rel [] V (Xcw [.row (some ⟨b,0,none⟩) 1 1 74 2 [.x (.pointer p),.x u1]]) w [.row (some ⟨b,0,none⟩) 1 1 74 2 [.x (.pointer p),.x u1]] [] { tmps:=#[],defers:=[] } w:=⟨XaN.nil',hH,Fr.refl _ _,fun x hx k hk=>.inl ⟨x,hx,hk⟩,rfl,hV,hgl⟩
 rcases hp with rfl|rfl
 ·refine (Xio b w (by rw [Lib.cell_of_heap hbk];rfl) (by simp [World.shape?,hbk]) (by simp [World.frozen?,hbk])).mono ?_
  rintro e w' ⟨rfl,rfl⟩
  have hbk2:(w.setCell ⟨b,0,none⟩ (.pointer (some ⟨b,0,none⟩))).heap[b]?=some (.cells #[.pointer (some ⟨b,0,none⟩),u1] 74 (0,0)):=by simp [World.setCell,Array.getElem?_modify,hbk]
  have r2:Rel [] V (Xcw [.row (some ⟨b,0,none⟩) 1 1 74 2 [.x (.pointer none),.x u1]]) w [.row (some ⟨b,0,none⟩) 1 1 74 2 [.x (.pointer (some ⟨b,0,none⟩)),.x u1]] [] { tmps:=#[],defers:=[] } (w.setCell ⟨b,0,none⟩ (.pointer (some ⟨b,0,none⟩))):=by
   refine Rel.turn r rfl rfl rfl (by simp) (fun k _ hk=>?_) (fun k hk=>?_) (Xom hbk2 (Xer _) (Xer _) rfl o1) (fun _ _ _=>trivial)
   ·exact Below.heap_setCell _ _ _ _ fun e=>hk (by simp [Hp.blk,e])
   ·exact ⟨by rw [World.size_setCell];cases hk;exact hlt,.inl hk⟩
  exact ⟨.x (.tuple #[]),_,.tuple #[],⟨rfl,rfl⟩,rfl,Xer _,r2.hok,r2.fr,r2.own⟩
 ·refine (Xke b w (by rw [Lib.cell_of_heap hbk];rfl)).mono ?_
  rintro e w' ⟨rfl,rfl⟩
  exact ⟨.x (.tuple #[]),_,.tuple #[],⟨rfl,rfl⟩,rfl,Xer _,r.hok,r.fr,r.own⟩
theorem Xna (bx:Nat) (p:Option Addr) (hp:p=none∨p=some ⟨bx,0,none⟩) (ad:Option Addr) (cap:Nat) (l s:List UInt8) (hl:l.length+s.length≤10000000):Xbb Tryz.prog 33 [.row (some ⟨bx,0,none⟩) 1 1 74 2 [.x (.pointer p),.x (.slice ad l.length cap)],.row ad l.length cap 5 1 (u8a l)] [.x (.pointer (some ⟨bx,0,none⟩)),.x (.string (bs s))]
  (fun r H'=>∃ad' cap',r=.tup [.x (.int .i64 s.length),.x .nilIface]∧H'=Xhj bx ad' cap' (l++s)):=by
 have hcc:=Xqd bx p hp (.slice ad l.length cap)
 refine XaI Tryz.func33 rfl ?_
 simp only [Tryz.ntmps33,Xqy,XqB,XqC,XqD,XqG,XqF,Nat.reduceAdd,Nat.reduceSub]
 (repeat' (first|with_reducible (first|refine Xal ?_|refine Xac ?_|refine Xaq ?_|refine Xae ?_|refine Xaa ?_)|((apply Xad rfl);(case h=>((try (intro (hp:(_:Bool)=true);((try simp only [Bool.and_eq_true,Bool.not_eq_true',Bool.not_eq_true] at hp);(try simp only [hp,wte]);(try simp only [whn] at hp))));(first|(apply Xab 0 rfl;(first|exact Xas _ rfl|exact Xao _ rfl))|(apply Xab 4 rfl;(exact Xbp _ rfl (by first|exact .inl ⟨_,rfl⟩|fail)))|(apply Xab 5 rfl;(exact Xau _ _ _ _ _ _ rfl rfl Xbv.out))|(apply Xab 6 rfl;(exact Xbg _ _ _ _ _ _ _ _ _ _ _ _ rfl rfl XbR.out XaZ.out (by first|exact Xqu rfl|fail) (by first|exact Xqu rfl|fail)))|(apply XaB;(case hs=>(intro _ _ h;cases h));(case hx=>rfl);(case hrun=>(intro w;simp [wtb,AV.val,go_sem];(try go_bits);rfl))))));(case hT=>((try simp only [wtn,Xqz,Xqw,Xqx,XqA,XqE,Nat.reduceAdd,Nat.reduceMul,Nat.reduceSub,↓reduceIte,Nat.reduceEqDiff]);rfl)))|(refine Xah rfl ?_;((first|(refine Xav 11 rfl ?_;(refine XaW 64 Tryz.f64 [_] _ _ _ rfl rfl Tryz.func64 (by decide) rfl (Xqv _) (VwL.refl _ _) (hcc) ?_;rintro _ _ ⟨rfl,rfl⟩))|(refine Xav 13 rfl ?_;(refine Xfn _ _ _ _ _ _ _ _ _ _ s rfl rfl XbR.out rfl Xa5.out (by kernel_rfl) (by first|omega|fail) (fun ad' cap'=>?_)))|(refine Xav 16 rfl ?_;(refine Xbf _ _ _ _ _ _ _ _ _ _ _ rfl rfl XbR.out XaX.out (by first|rfl|fail) (by first|exact Xqu rfl|fail) ?_)));apply Xag;(case hT=>((try simp only [wtn,Xqz,Xqw,Xqx,XqA,XqE,Nat.reduceAdd,Nat.reduceMul,Nat.reduceSub,↓reduceIte,Nat.reduceEqDiff]);rfl));(case hH=>((try simp only [wtn,Xqz,Xqw,Xqx,XqA,XqE,Nat.reduceAdd,Nat.reduceMul,Nat.reduceSub,↓reduceIte,Nat.reduceEqDiff]);rfl))))|fail))
 refine Xaf _ _ (XcA rfl (RV.tmp _) (RV.tmp _) (XaH.mk' [] [_,_] (Xqv _) (XaF.refl _ _) (VwL.refl _ _))) ?_
 refine ⟨ad',cap',rfl,?_⟩
 simp only [Xhj,XqH,Xdi]
theorem Xif (bx:Nat) (p:Option Addr) (hp:p=none∨p=some ⟨bx,0,none⟩) (ad:Option Addr) (cap:Nat) (l:List UInt8) (c:UInt8) (hl:l.length≤9999990):Xbb Tryz.prog 34 [.row (some ⟨bx,0,none⟩) 1 1 74 2 [.x (.pointer p),.x (.slice ad l.length cap)],.row ad l.length cap 5 1 (u8a l)] [.x (.pointer (some ⟨bx,0,none⟩)),.x (.int .u8 (c.toNat:Nat))]
  (fun r H'=>∃ad' cap',r=.x .nilIface∧H'=Xhj bx ad' cap' (l++[c])):=by
 have hcc:=Xqd bx p hp (.slice ad l.length cap)
 refine XaI Tryz.func34 rfl ?_
 simp only [Tryz.ntmps34,Xqy,XqB,XqC,XqD,XqG,XqF,Nat.reduceAdd,Nat.reduceSub]
 (repeat' (first|with_reducible (first|refine Xal ?_|refine Xac ?_|refine Xaq ?_|refine Xae ?_|refine Xaa ?_)|((apply Xad rfl);(case h=>((try (intro (hp:(_:Bool)=true);((try simp only [Bool.and_eq_true,Bool.not_eq_true',Bool.not_eq_true] at hp);(try simp only [hp,wte]);(try simp only [whn] at hp))));(first|(apply Xab 0 rfl;(first|exact Xas _ rfl|exact Xao _ rfl))|(apply Xab 4 rfl;(exact Xbp _ rfl (by first|exact .inl ⟨_,rfl⟩|fail)))|(apply Xab 5 rfl;(exact Xau _ _ _ _ _ _ rfl rfl Xbv.out))|(apply Xab 6 rfl;(exact Xbg _ _ _ _ _ _ _ _ _ _ _ _ rfl rfl XbR.out XaZ.out (by first|exact Xqu rfl|fail) (by first|exact Xqu rfl|fail))))));(case hT=>((try simp only [wtn,Xqz,Xqw,Xqx,XqA,XqE,Nat.reduceAdd,Nat.reduceMul,Nat.reduceSub,↓reduceIte,Nat.reduceEqDiff]);rfl)))|(refine Xah rfl ?_;((first|(refine Xav 11 rfl ?_;(refine XaW 64 Tryz.f64 [_] _ _ _ rfl rfl Tryz.func64 (by decide) rfl (Xqv _) (VwL.refl _ _) (hcc) ?_;rintro _ _ ⟨rfl,rfl⟩))|(refine Xav 13 rfl ?_;(refine XaM _ _ _ _ _ _ _ _ _ _ _ _ _ _ rfl rfl XbR.out (Src.row _ rfl XbR.out) Xa5.out (by first|rfl|fail) (XdI _ _ (by omega) (by decide)) (fun ad' cap'=>?_)))|(refine Xav 16 rfl ?_;(refine Xbf _ _ _ _ _ _ _ _ _ _ _ rfl rfl XbR.out XaX.out (by first|rfl|fail) (by first|exact Xqu rfl|fail) ?_))|(refine Xav 17 rfl ?_;(refine XaA _ _ _ _ _ _ _ _ rfl Xa5.out (by first|rfl|fail) rfl (by decide) rfl (fun b=>?_))));apply Xag;(case hT=>((try simp only [wtn,Xqz,Xqw,Xqx,XqA,XqE,Nat.reduceAdd,Nat.reduceMul,Nat.reduceSub,↓reduceIte,Nat.reduceEqDiff]);rfl));(case hH=>((try simp only [wtn,Xqz,Xqw,Xqx,XqA,XqE,Nat.reduceAdd,Nat.reduceMul,Nat.reduceSub,↓reduceIte,Nat.reduceEqDiff]);rfl))))|fail))
 refine Xaf _ _ (XcL rfl (RV.tmp _) (XaH.mk' [_] [_,_] (Xqv _) (XaF.refl _ _) (VwL.refl _ _))) ?_
 refine ⟨ad',cap',rfl,?_⟩
 simp only [Xhj,XqH,Xdi,Xqy,XqB]
 rfl
theorem Xpp (b g cap:Nat) (p:Value) (l:List UInt8) (h0:l≠[]) (cur:Array Value) (fr:Nat × Nat) (w:World) (hbk:w.heap[b]?=some (.cells #[p,.slice (some ⟨g,0,none⟩) l.length cap] 74 (0,0))) (hg:w.heap[g]?=some (.cells cur 5 fr))
  (hn:l.length≤cur.size) (hcap:l.length≤cap) (hm:l.length≤1000000) (hc:∀j x,l[j]?=some x→w.cell? ⟨g,j,none⟩=some (.int .u8 (x.toNat:Nat))) :
  Calls Tryz.prog 37 #[.pointer (some ⟨b,0,none⟩)] w fun e w'=>e=.returned (.string (bs l))∧∃w1,Ext w w1∧w'=w1.freeze ⟨g,0,none⟩ l.length:=by
 have hl0:l.length≠0:=by simpa using h0
 have c1:w.drew.cell? ⟨b,1,none⟩=some (.slice (some ⟨g,0,none⟩) l.length cap):=by
  have:w.drew.heap[b]?=some (.cells #[p,.slice (some ⟨g,0,none⟩) l.length cap] 74 (0,0)):=hbk
  rw [Lib.cell_of_heap this];rfl
 have hSD:(Builtin.unsafeSliceData_ #[39] 133 #[.slice (some ⟨g,0,none⟩) l.length cap]).run Tryz.prog w.drew=.ok (.pointer (some ⟨g,0,none⟩)) w.drew:=
  Lib.run_unsafeSliceData_row _ _ _ _ _ _ (by omega)
 have hUS:(Builtin.unsafeString_ #[133,3] 9 #[.pointer (some ⟨g,0,none⟩),.int .i64 l.length]).run Tryz.prog w.drew=.ok (.string (bs l)) (w.drew.freeze ⟨g,0,none⟩ l.length):=by
  refine Lib.run_unsafeString_row w.drew 133 3 9 5 Xga.t127 XaS.cellsByte g cur.size (by have hg':w.drew.heap[g]?=some (.cells cur 5 fr):=hg;simp [World.shape?,hg']) l h0 hn (by omega) ?_
  intro j x hx
  rw [show (⟨g,0,none⟩:Addr).add j=⟨g,j,none⟩ from by unfold Addr.add;split<;>simp_all]
  exact hc j x hx
 have hmx:=mixed
 go_enter Tryz.func37,Tryz.ntmps37
 go_wp2
 go_region_o
 all_goals (go_wp2;go_ret;exact ⟨rfl,_,(show Ext w w.drew from Below.drew (Below.refl _ w)),rfl⟩)
theorem Xem (w:World) (a:Addr) (n k:Nat) (h:k≠a.block):(w.freeze a n).heap[k]?=w.heap[k]?:=by
 unfold World.freeze
 split
 ·rfl
 ·simp only [Array.getElem?_modify]
  rw [if_neg (Ne.symm h)]
theorem XhQ (w:World) (a:Addr) (n:Nat):(w.freeze a n).heap.size=w.heap.size:=by
 unfold World.freeze
 split
 ·rfl
 ·simp
open Go.RowKit
def Xp8:Prop:=∀v:Int,0≤v→v≤18446744073709551615→Xbb Tryz.prog 67 [] [.x (.int .u64 v),.x (.int .i64 10)] (fun r H'=>r=.x (.string (bs (Xcn v.toNat)))∧H'=[])
theorem Xoz (hU:Xp8) (e:EF) (he:EOk e) (a:Int) (ha:a=106∨a=119∨a=100∨a=97∨a=99∨a=108∨a=110):Xbb Tryz.prog 35 [] [.agg e.cells,.x (.int .i32 a)] (fun r H'=>r=.x (.string (bs (Xfq e (Xbs a))))∧H'=[]):=by
 obtain ⟨e1,e2,e3,e4,e5,e6⟩:=he
 have hU':=Lib.hid hU
 clear hU
 unfold EF.cells
 refine XaI Tryz.func35 rfl ?_
 simp only [Tryz.ntmps35,Xqy,XqB,XqC,XqD,XqG,XqF,Nat.reduceAdd,Nat.reduceSub]
 (repeat' (first|with_reducible (first|refine Xal ?_|refine Xac ?_|refine Xat ?_|refine Xaq ?_|refine Xaw ?_|refine Xae ?_|refine Xaa ?_|refine Xam ?_|refine Xaj ?_|refine Xak ?_)|(refine Xai _ rfl (fun h=>?_) (fun h=>?_)<;>((try (simp only [whn] at h));skip))|((apply Xad rfl);(case h=>((try (intro (hp:(_:Bool)=true);((try simp only [Bool.and_eq_true,Bool.not_eq_true',Bool.not_eq_true] at hp);(try simp only [hp,wte]);(try simp only [whn] at hp))));(first|(apply Xab 0 rfl;(first|exact Xas _ rfl|exact Xao _ rfl))|(apply Xab 5 rfl;(exact Xau _ _ _ _ _ _ rfl rfl Xbv.out))|(apply Xab 6 rfl;(exact Xaz _ _ _ _ _ _ _ _ rfl rfl Xa3.out XaZ.out (by first|exact Xqu rfl|fail) (by first|exact Xqu rfl|fail)))|(apply Xab 11 rfl;(first|exact Xan 66 Tryz.f66 _ _ rfl rfl Tryz.func66 (by decide) rfl (VwL.refl _ _) (Xmh e.data (by omega))|exact Xan 67 Tryz.f67 _ _ rfl rfl Tryz.func67 (by decide) rfl (VwL.refl _ _) (hU'.out e.time e4.1 e4.2)|exact Xan 65 Tryz.f65 _ _ rfl rfl Tryz.func65 (by decide) rfl (VwL.refl _ _) (XkM e.code e3.1 e3.2)|exact Xan 65 Tryz.f65 _ _ rfl rfl Tryz.func65 (by decide) rfl (VwL.refl _ _) (XkM e.client e5.1 e5.2)|exact Xan 65 Tryz.f65 _ _ rfl rfl Tryz.func65 (by decide) rfl (VwL.refl _ _) (XkM e.num e6.1 e6.2)))|(apply Xab 12 rfl;(exact XbN _ _ 5 _ e.data rfl (by kernel_rfl) (by kernel_rfl) (by kernel_rfl) (Src.sq rfl)))|(apply XaB;(case hs=>(intro _ _ h;cases h));(case hx=>rfl);(case hrun=>(intro w;simp [wtb,AV.val,go_sem];(try go_bits);rfl))))));(case hT=>((try simp only [wtn,Xqz,Xqw,Xqx,XqA,XqE,Nat.reduceAdd,Nat.reduceMul,Nat.reduceSub,↓reduceIte,Nat.reduceEqDiff]);rfl)))|(refine Xah rfl ?_;((refine Xav 15 rfl ?_;(refine Xbn _ _ rfl (by first|rfl|fail) (fun b=>?_)));apply Xag;(case hT=>((try simp only [wtn,Xqz,Xqw,Xqx,XqA,XqE,Nat.reduceAdd,Nat.reduceMul,Nat.reduceSub,↓reduceIte,Nat.reduceEqDiff]);rfl));(case hH=>((try simp only [wtn,Xqz,Xqw,Xqx,XqA,XqE,Nat.reduceAdd,Nat.reduceMul,Nat.reduceSub,↓reduceIte,Nat.reduceEqDiff]);rfl))))|fail))
 all_goals
  refine Xaf _ _ (XcL rfl (RV.tmp _) (XaH.mk' [_] [] (Xqv _) XaF.nil (VwL.refl _ _))) ?_
  refine ⟨?_,rfl⟩
  unfold Xfq Xbs
  first
   | (rw [if_pos (show a=106 by omega)];rfl)
   | (rw [if_neg (show ¬a=106 by omega),if_pos (show a=119 by omega)];have hok:=h;simp [hok];rfl)
   | (rw [if_neg (show ¬a=106 by omega),if_neg (show ¬a=119 by omega),if_pos (show a=100 by omega)];rfl)
   | (rw [if_neg (show ¬a=106 by omega),if_neg (show ¬a=119 by omega),if_neg (show ¬a=100 by omega),if_pos (show a=97 by omega)];rfl)
   | (rw [if_neg (show ¬a=106 by omega),if_neg (show ¬a=119 by omega),if_neg (show ¬a=100 by omega),if_neg (show ¬a=97 by omega),if_pos (show a=99 by omega)];rfl)
   | (rw [if_neg (show ¬a=106 by omega),if_neg (show ¬a=119 by omega),if_neg (show ¬a=100 by omega),if_neg (show ¬a=97 by omega),if_neg (show ¬a=99 by omega),if_pos (show a=108 by omega)];rfl)
   | (rw [if_neg (show ¬a=106 by omega),if_neg (show ¬a=119 by omega),if_neg (show ¬a=100 by omega),if_neg (show ¬a=97 by omega),if_neg (show ¬a=99 by omega),if_neg (show ¬a=108 by omega)];rfl)
   | trace_state
theorem XmR (b:Nat) (p:Value) (ad:Option Addr) (n cap:Nat):Xbb Tryz.prog 36 [.row (some ⟨b,0,none⟩) 1 1 74 2 [.x p,.x (.slice ad n cap)]] [.x (.pointer (some ⟨b,0,none⟩))] (fun r H'=>r=.x (.int .i64 n)∧H'=[.row (some ⟨b,0,none⟩) 1 1 74 2 [.x p,.x (.slice ad n cap)]]):=by
 refine XaI Tryz.func36 rfl ?_
 simp only [Tryz.ntmps36,Xqy,XqB,XqC,XqD,XqG,XqF,Nat.reduceAdd,Nat.reduceSub]
 (repeat' (first|with_reducible (first|refine Xal ?_|refine Xac ?_|refine Xaq ?_|refine Xae ?_|refine Xaa ?_)|((apply Xad rfl);(case h=>((try (intro (hp:(_:Bool)=true);((try simp only [Bool.and_eq_true,Bool.not_eq_true',Bool.not_eq_true] at hp);(try simp only [hp,wte]);(try simp only [whn] at hp))));(first|(apply Xab 0 rfl;(first|exact Xas _ rfl|exact Xao _ rfl))|(apply Xab 4 rfl;(exact Xbp _ rfl (by first|exact .inl ⟨_,rfl⟩|fail)))|(apply Xab 5 rfl;(exact Xau _ _ _ _ _ _ rfl rfl Xbv.out))|(apply Xab 6 rfl;(exact Xbg _ _ _ _ _ _ _ _ _ _ _ _ rfl rfl XbR.out XaZ.out (by first|exact Xqu rfl|fail) (by first|exact Xqu rfl|fail)))|(apply XaB;(case hs=>(intro _ _ h;cases h));(case hx=>rfl);(case hrun=>(intro w;simp [wtb,AV.val,go_sem];(try go_bits);rfl))))));(case hT=>((try simp only [wtn,Xqz,Xqw,Xqx,XqA,XqE,Nat.reduceAdd,Nat.reduceMul,Nat.reduceSub,↓reduceIte,Nat.reduceEqDiff]);rfl)))|fail))
 refine Xaf _ _ (XcL rfl (RV.tmp _) (XaH.mk' [] [_] (Xqv _) (XaF.refl _ _) (VwL.refl _ _))) ?_
 exact ⟨rfl,rfl⟩
open Go.RowKit Go.Shelf Go.Sort Go.Lib
theorem Xjj (i:Nat) (hi:i < 100) (w:World):Calls Tryz.prog 103 #[.int .u64 i,.int .i64 10] w fun e w'=>e=.returned (.string ⟨(Lib.decDigits i).toArray⟩)∧∃k os,w'=grow (w.drewN k) os:=by
 have hmx:=mixed
 have iu:(i:Int) < 100:=by omega
 go_enter Tryz.func103,Tryz.ntmps103
 go_wp2_with (go_at_call 136;refine (internal_strconv_small i hi _).mono ?_;rintro e w' ⟨rfl,rfl⟩)
 go_ret
 exact ⟨rfl,0,#[],by simp [World.drewN_zero]⟩
theorem XlY (u:Nat) (hu:100≤u) (hu64:u < 18446744073709551616) (w:World) (htab:Lib.TabIs Tryz.prog w "internal/strconv.uint64pow10" .u64 Lib.pow10Tab) :
  Calls Tryz.prog 103 #[.int .u64 u,.int .i64 10] w fun e w'=>e=.returned (.string ⟨(Lib.decDigits u).toArray⟩)∧∃k os,w'=grow (w.drewN k) os:=by
 have hmx:=mixed
 have hu1:1≤u:=by omega
 have hnd20:Lib.nDigits u≤20:=by have:=Lib.numDigits_eq u hu1 hu64;split at this<;>omega
 have hal:Tryz.prog.arrayLen 214=24:=by simp [Program.arrayLen,Tryz.underlying214]
 have hsl:∀W,(Instr.sliceAt 214 (.pointer (some ⟨w.heap.size,0,none⟩)) none (some (.int .i64 (Lib.nDigits u:Int))) none).run Tryz.prog W=.ok (.slice (some ⟨w.heap.size,0,none⟩) (Lib.nDigits u) 24) W:=fun W=>by
  rw [run_sliceAt_array_h W 214 ⟨w.heap.size,0,none⟩ (by simp [Program.arrayLen,Program.elem,Tryz.underlying214]) .i64 (Lib.nDigits u:Int) (by omega) (by rw [hal];omega)]
  go_simp
 have hH0:=Lib.holds_zero0 w 214 (Lib.nDigits u) (by omega)
 have hfmt:=internal_strconv_formatBase10 w.heap.size 0 24 u (Array.replicate (Lib.nDigits u) 0) (w.alloc (.cells Lib.zeros24 214)) hH0 (by rw [Array.size_replicate];exact Lib.lt_pow_nDigits u) hu64 (by rw [Array.size_replicate];omega)
 rw [Array.size_replicate] at hfmt
 have HH0:=Lib.hid hH0
 have iu:(100:Int)≤(u:Int):=by omega
 clear hH0 hal
 go_enter Tryz.func103,Tryz.ntmps103
 go_wp2_with (first
  | (go_at_call 137;refine (internal_strconv_numDigits u hu1 hu64 _ (Lib.tabIs_alloc htab _)).mono ?_;rintro e w' ⟨rfl,rfl⟩))
 go_at_call 138
 refine hfmt.mono ?_
 rintro e w' ⟨rfl,k,v',dk,rfl,hF⟩
 have hcv:(convert 39 9 (.slice (some ⟨w.heap.size,0,none⟩) (Lib.nDigits u) 24)).run Tryz.prog ((putRow (fun (b:UInt8)=>Value.int .u8 (b.toNat:Int)) (w.alloc (.cells Lib.zeros24 214)) w.heap.size 0 dk).drewN k)=.ok (.string ⟨(Lib.decDigits u).toArray⟩) ((putRow (fun (b:UInt8)=>Value.int .u8 (b.toNat:Int)) (w.alloc (.cells Lib.zeros24 214)) w.heap.size 0 dk).drewN k):=by
  have h:=run_convert_bytes_back (P:=Tryz.prog) ((putRow (fun (b:UInt8)=>Value.int .u8 (b.toNat:Int)) (w.alloc (.cells Lib.zeros24 214)) w.heap.size 0 dk).drewN k) 39 9 5 ⟨w.heap.size,0,none⟩ 24 (Lib.decDigits u) Tryz.underlying39 Tryz.underlying5 Tryz.underlying9 (fun j hj=>by
   rw [Lib.row_is_numeral hF j hj,Lib.add_plain,World.cell?_drewN]
   exact cell?_putRow (fun (b:UInt8)=>Value.int .u8 (b.toNat:Int)) _ w.heap.size 0 _ dk HH0.out (by rw [hF.size,Array.size_replicate]) j (by rw [hF.size];rw [Lib.decDigits_length] at hj;exact hj))
  rw [Lib.decDigits_length] at h
  exact h
 go_wp2
 go_ret
 obtain ⟨os,eo⟩:=Lib.fin_at w (.cells Lib.zeros24 214) dk k 0
 exact ⟨rfl,k,os,eo⟩
theorem Xqq:Xp8:=by
 intro v h0 h1
 obtain ⟨u,rfl⟩:∃u:Nat,v=u:=⟨v.toNat,by omega⟩
 refine (XdD (args:=[.int .u64 u,.int .i64 10]) (Q:=fun x=>x=.string (bs (Xcn u))) (fun w hg=>?_) []).mono fun r H' ⟨x,hv,hr,hH⟩=>⟨by rw [hr,hv,Int.toNat_natCast],hH⟩
 have key:∀w:World,Lib.TabIs Tryz.prog w "internal/strconv.uint64pow10" .u64 Lib.pow10Tab→Calls Tryz.prog 103 #[.int .u64 u,.int .i64 10] w fun e w'=>e=.returned (.string ⟨(Lib.decDigits u).toArray⟩)∧∃k os,w'=grow (w.drewN k) os:=fun w hw=>by
  by_cases hs:u < 100
  ·exact Xjj u hs w
  ·exact XlY u (by omega) (by omega) w hw
 have hp:=hg.pow
 have hmx:=mixed
 go_enter Tryz.func67,Tryz.ntmps67
 go_wp2_with (go_at_call 103;refine (key _ hp).mono ?_;rintro e w' ⟨rfl,k,os,rfl⟩)
 go_ret
 exact ⟨_,rfl,by rw [Xf0];rfl,Go.Lib.below_grow w.heap.size w (Nat.le_refl _) k os⟩
def XpP (x:List UInt8 × Int):AV:=.tup [.x (.string (bs x.1)),.x (.int .i64 x.2)]
theorem Xim (e:EF) (he:EOk e) (f:UInt8):(Xfq e f).length≤4400010:=by
 have q0:=he.job
 have q1:=XfP e.data
 have q6:=he.data
 have q2:=XbU e.time.toNat (by have:=he.time;omega)
 have q3:=Xee e.code he.code.1 he.code.2
 have q4:=Xee e.client he.client.1 he.client.2
 have q5:=Xee e.num he.num.1 he.num.2
 unfold Xfq
 split
 ·omega
 split
 ·split<;>simp [wOk,XcS]
 split
 ·omega
 split
 ·omega
 split
 ·omega
 split<;>omega
theorem Xj4 (e:EF) (he:EOk e) (fs:List UInt8):(Xc3 e fs).length≤fs.length*4500000:=by
 induction fs with
 | nil=>simp [Xc3]
 | cons f fs ih=>
   have hf:=Xim e he f
   simp only [Xc3,List.flatMap_cons,XqH,Xqy] at ih ⊢
   rw [Nat.succ_mul]
   omega
theorem XfI (l:List EF) (i:Nat) (h:i < l.length):Xbc (l.take (i+1))=Xbc (l.take i)++(XcW l[i]++[10]):=by
 rw [Xce l i h];simp only [Xbc,List.flatMap_append,List.flatMap_cons,List.flatMap_nil,List.append_nil]
theorem Xl8 (l:List EF) (hl:∀e∈l,EOk e) (hn:l.length≤1000000) (ht:(Xbc l).length≤900000000):Xbb Tryz.prog 15 [] [.sq l.length (va l)] (fun r H'=>r=XpP (XbD l)∧H'=[]):=by
 have hl':=Lib.hid hl
 clear hl
 have hpre:∀i,(Xbc (l.take i)).length≤(Xbc l).length:=fun i=>by
  have:=congrArg (fun z=>(Xbc z).length) (List.take_append_drop i l)
  simp only [Xbc,List.flatMap_append,XqH] at this ⊢
  omega
 have hpre':=Lib.hid hpre
 clear hpre
 refine XaI Tryz.func15 rfl ?_
 simp only [Tryz.ntmps15,Xqy,XqB,XqC,XqD,XqG,XqF,Nat.reduceAdd,Nat.reduceSub]
 (repeat' (first|with_reducible (first|refine Xal ?_|refine Xac ?_|refine Xat ?_|refine Xaq ?_|refine Xaw ?_|refine Xae ?_|refine Xaa ?_|refine Xam ?_)|(refine Xai _ rfl (fun h=>?_) (fun h=>?_)<;>((try (simp only [whn] at h));skip))|((apply Xad rfl);(case h=>((try (intro (hp:(_:Bool)=true);((try simp only [Bool.and_eq_true,Bool.not_eq_true',Bool.not_eq_true] at hp);(try simp only [hp,wte]);(try simp only [whn] at hp))));(first|(apply Xab 0 rfl;(first|exact Xas _ rfl|exact Xao _ rfl))|(apply Xab 3 rfl;(exact Xa2 _ _ _ _ _ _ HEl.out rfl rfl))|(apply XaB;(case hs=>(intro _ _ h;cases h));(case hx=>rfl);(case hrun=>(intro w;simp [wtb,AV.val,go_sem];(try go_bits);rfl))))));(case hT=>((try simp only [wtn,Xqz,Xqw,Xqx,XqA,XqE,Nat.reduceAdd,Nat.reduceMul,Nat.reduceSub,↓reduceIte,Nat.reduceEqDiff]);rfl)))|fail))
 ·refine Xaf _ _ (XcA rfl (RV.tmp _) (RV.tmp _) (XaH.mk' [] _ (Xqv _) (XaF.refl _ _) (VwL.refl _ _))) ?_
  refine ⟨?_,rfl⟩
  unfold XbD
  rw [if_pos (by omega)]
  rfl
 have h1000:¬1000 < l.length:=by omega
 apply Xba (S:=Nat) (fun q=>frm 43 [(0,.sq l.length (va l)),(4,.x (.string (bs (Xbc (l.take q))))),(5,.x (.int .i64 q))]) (fun _=>[]) (fun q=>q≤l.length) (fun q=>l.length - q) 0
 case h0=>exact (XaH.mk' [] _ (Xqv _) (XaF.refl _ _) (by (repeat' (first|exact VwL.nil|(refine VwL.cons ?_ ?_)|exact Vw.refl _|exact Vw.top _|fail))))
 case hi=>exact Nat.zero_le _
 rintro i hi
 simp only [frm,XqC,XqD,Xqw,Xqx,XqJ,XqK]
 by_cases hlt:i < l.length
 ·have hL:=Xo9 l[i] (hl'.out _ (List.getElem_mem hlt))
  have hd:=Xds l i hlt
  have hp:=hpre'.out (i+1)
  have hs:=XfI l i hlt
  have hlen:=congrArg List.length hs
  rw [XqH] at hlen
  have hs':=Lib.hid hs
  clear hs
  unfold EF.cells at hL
  (repeat' (first|with_reducible (first|refine Xal ?_|refine Xac ?_|refine Xat ?_|refine Xaw ?_|refine Xae ?_|refine Xaa ?_|refine Xaj ?_)|(refine Xai _ rfl (fun h=>?_) (fun h=>?_)<;>((try (simp only [whn] at h));first|(exfalso;omega;done)|skip))|((apply Xad rfl);(case h=>((try (intro (hp:(_:Bool)=true);((try simp only [Bool.and_eq_true,Bool.not_eq_true',Bool.not_eq_true] at hp);(try simp only [hp,wte]);(try simp only [whn] at hp))));(first|(apply Xab 0 rfl;(first|exact Xas _ rfl|exact Xao _ rfl))|(apply Xab 3 rfl;(exact Xa2 _ _ _ _ _ _ HEl.out rfl rfl))|(apply Xab 6 rfl;(exact XaP _ _ _ _ _ rfl rfl XaZ.out (by first|exact Xqu rfl|fail) (by first|exact Xqu rfl|fail)))|(apply Xab 7 rfl;(exact XaL _ _ _ _ _ _ _ _ _ _ rfl rfl rfl HEl.out rfl (by first|omega|fail) (by simp;first|omega|fail)))|(apply Xab 11 rfl;(exact Xan 39 Tryz.f39 _ _ rfl rfl Tryz.func39 (by decide) rfl (VwL.refl _ _) (hL)))|(apply Xab 12 rfl;(exact Xb9 _ _ _ _ rfl rfl rfl (by omega)))|(apply XaB;(case hs=>(intro _ _ h;cases h));(case hx=>rfl);(case hrun=>(intro w;simp [wtb,AV.val,go_sem];(try go_bits);rfl))))));(case hT=>((try simp (disch:=omega) only [wtn,hd,Xqz,Xqw,Xqx,XqA,XqE,Nat.reduceAdd,Nat.reduceMul,Nat.reduceSub,↓reduceIte,Nat.reduceEqDiff]);rfl)))|fail))
  refine ⟨i+1,by omega,by omega,?_⟩
  rw [hs'.out]
  exact (XaH.mk' [] _ (Xqv _) (XaF.refl _ _) (by (repeat' (first|exact VwL.nil|(refine VwL.cons ?_ ?_)|exact Vw.refl _|exact Vw.top _|fail))))
 ·obtain rfl:i=l.length:=by omega
  rw [List.take_length]
  (repeat' (first|with_reducible (first|refine Xal ?_|refine Xac ?_|refine Xaq ?_|refine Xaw ?_|refine XaY ?_|refine Xae ?_|refine Xaa ?_|refine XaG ?_|refine Xam ?_|refine XaC ?_)|(refine Xai _ rfl (fun h=>?_) (fun h=>?_)<;>first|(exact absurd h (by decide))|((try (simp only [whn] at h));skip))|((apply Xad rfl);(case h=>((try (intro (hp:(_:Bool)=true);((try simp only [Bool.and_eq_true,Bool.not_eq_true',Bool.not_eq_true] at hp);(try simp only [hp,wte]);(try simp only [whn] at hp))));(first|(apply Xab 0 rfl;(first|exact Xas _ rfl|exact Xao _ rfl))|(apply Xab 3 rfl;(exact Xa2 _ _ _ _ _ _ HEl.out rfl rfl))|(apply XaB;(case hs=>(intro _ _ h;cases h));(case hx=>rfl);(case hrun=>(intro w;simp [wtb,AV.val,go_sem];(try go_bits);rfl))))));(case hT=>((try simp only [wtn,Xqz,Xqw,Xqx,XqA,XqE,Nat.reduceAdd,Nat.reduceMul,Nat.reduceSub,↓reduceIte,Nat.reduceEqDiff]);rfl)))|fail))
  ·refine Xaf _ _ (XcA rfl (RV.tmp _) (RV.tmp _) (XaH.mk' [] _ (Xqv _) (XaF.refl _ _) (VwL.refl _ _))) ?_
   refine ⟨?_,rfl⟩
   unfold XbD
   rw [if_neg (by omega),if_pos (by omega)]
   rfl
  have h65:¬65536 < (Xbc l).length:=by omega
  have hP:=Xk3 (Xbc l) (by omega)
  unfold XoF at hP
  generalize hp:XbQ (Xbc l)=p at hP
  have hS:=Xll l p.1 (by omega)
  have hp':=Lib.hid hp
  clear hp h
  (repeat' (first|with_reducible (first|refine Xal ?_|refine Xac ?_|refine Xaq ?_|refine Xaw ?_|refine Xae ?_|refine Xaa ?_|refine Xam ?_)|(refine Xai _ rfl (fun h=>?_) (fun h=>?_)<;>((try (simp only [whn] at h));skip))|((first|apply Xad rfl|apply XaV _ _ rfl rfl rfl);(case h=>((try (intro (hp:(_:Bool)=true);((try simp only [Bool.and_eq_true,Bool.not_eq_true',Bool.not_eq_true] at hp);(try simp only [hp,wte]);(try simp only [whn] at hp))));(first|(apply Xab 0 rfl;(first|exact Xas _ rfl|exact Xao _ rfl))|(apply Xab 1 rfl;(exact Xcv _ _ _ _ _ rfl rfl rfl rfl))|(apply Xab 2 rfl;(exact Xay _ _ _ _ rfl rfl rfl))|(apply Xab 11 rfl;(first|exact Xan 11 Tryz.f11 _ _ rfl rfl Tryz.func11 (by decide) rfl (VwL.refl _ _) (hP)|exact Xan 12 Tryz.f12 _ _ rfl rfl Tryz.func12 (by decide) rfl (VwL.refl _ _) (hS)))|(apply XaB;(case hs=>(intro _ _ h;cases h));(case hx=>rfl);(case hrun=>(intro w;simp [wtb,AV.val,go_sem];(try go_bits);rfl))))));(case hT=>((try simp only [wtn,Xqz,Xqw,Xqx,XqA,XqE,Nat.reduceAdd,Nat.reduceMul,Nat.reduceSub,↓reduceIte,Nat.reduceEqDiff]);rfl)))|fail))
  ·refine Xaf _ _ (XcA rfl (RV.tmp _) (RV.tmp _) (XaH.mk' [] _ (Xqv _) (XaF.refl _ _) (VwL.refl _ _))) ?_
   refine ⟨?_,rfl⟩
   unfold XbD
   rw [if_neg h1000,if_neg h65,hp'.out,if_neg (by rintro ⟨a,b⟩;rcases h with h|h<;>simp_all)]
   rfl
  ·refine Xaf _ _ (XcA rfl (RV.tmp _) (RV.tmp _) (XaH.mk' [] _ (Xqv _) (XaF.refl _ _) (VwL.refl _ _))) ?_
   refine ⟨?_,rfl⟩
   unfold XbD
   rw [if_neg h1000,if_neg h65,hp'.out,if_pos (by simpa using h)]
   rfl
end Go.Proofs.YtdpobjakdplljaaGreatDoor

import Derived.Test.YtdpobjakdplljaaGreatDoorY37
import Derived.Test.YtdpobjakdplljaaGreatDoorY8
import Derived.Lib.UnsafeStr
import Derived.Test.YtdpobjakdplljaaGreatDoorY42
import Derived.Test.YtdpobjakdplljaaGreatDoorY34
import Derived.Lib.AppendIntMem
import Derived.Lib.ItoaMem
import Derived.Test.YtdpobjakdplljaaGreatDoorY41
/- strings.Builder in a walk over symbolic memory: a row of one element, and its buffer. After the shelf's proofs. -/
set_option linter.unusedSimpArgs false
set_option linter.unusedVariables false
set_option maxRecDepth 100000
set_option maxHeartbeats 8000000
namespace Go.Proofs.YtdpobjakdplljaaGreatDoor
open Go.RowKit Go.Shelf
section
variable {P:Program} {Δ:List Deferred} {V O:Nat→Prop} {w0 w w':World} {H:List Hp} {T:List AV} {a:Act} {o:Oper} {K:List AV→List Hp→Prop}
theorem XlS (e:TypeId) (z:Value) (n:Nat) (ho:o.op=.alloc e) (hz:(P.info? e).bind (·.zero)=some z) (hn:z.cells.size=n) (h1:z.cells.toList.all (·.oneCell')=true)
  (hK:∀b,K (Xb7 T o.dst (.x (.pointer (some ⟨b,0,none⟩)))) (.row (some ⟨b,0,none⟩) 1 1 e n (z.cells.toList.map .x) :: H)):Stp P o T H K:=by
 intro Δ V O w0 a w Kc Q r hKc
 obtain ⟨i,hi,hz⟩:=Option.bind_eq_some_iff.1 hz
 have hrun:(execOp a.eval o).run P w=.ok (.value (.pointer (some ⟨w.heap.size,0,none⟩))) (w.alloc (.cells z.cells e)):=by
  simp [execOp,ho,Instr.alloc,zeroValue,typeInfo,hi,hz,newVar,newRow]
 unfold Oper.wp
 rw [hrun]
 refine hKc _ _ _ _ (hK w.heap.size) (Rel.put (Rel.new r (Ext.al _ _) _ ?_ ?_) _ (by rw [Den]))
 ·intro k hk;cases hk;simp
 ·refine ⟨z.cells.toList,XaV.exact,⟨by simp [hn],.inr ⟨w.heap.size,1,z.cells,rfl,Nat.zero_le _,by unfold World.alloc;exact Array.getElem?_push_size,Nat.le_refl _,by unfold maxLen;omega,by omega,by rw [List.take_of_length_le (by simp;omega)]⟩⟩,fun u hu=>List.all_eq_true.1 h1 u hu⟩
end
theorem Xu3 {F:Nat→Prop} {w:World} {b:Nat} {e:TypeId} {c0 c1:AV} (h:XfR F w (.row (some ⟨b,0,none⟩) 1 1 e 2 [c0,c1])):∃u0 u1,w.heap[b]?=some (.cells #[u0,u1] e (0,0))∧Den F w c0 u0∧Den F w c1 u1∧u0.oneCell'=true∧u1.oneCell'=true:=by
 obtain ⟨vals,hd,hown,h1⟩:=h
 rw [XaV] at hd
 obtain ⟨u0,us,rfl,d0,hd⟩:=hd
 rw [XaV] at hd
 obtain ⟨u1,us,rfl,d1,hd⟩:=hd
 rw [XaV] at hd
 subst hd
 obtain ⟨-,h|⟨g,cap,cur,e0,-,hg,-,-,hcs,ht⟩⟩:=hown
 ·cases h.1
 ·simp only [Value.slice.injEq,Option.some.injEq,Addr.mk.injEq] at e0
  obtain ⟨⟨rfl,-,-⟩,-,rfl⟩:=e0
  have hc:cur=#[u0,u1]:=by
   apply Array.toList_inj.1
   rw [←ht,List.take_of_length_le (by simp;omega)]
  subst hc
  exact ⟨u0,u1,hg,d0,d1,h1 u0 (by simp),h1 u1 (by simp)⟩
theorem XsW {F:Nat→Prop} {w:World} {b:Nat} {e:TypeId} {c0 c1:AV} {u0 u1:Value} (h:w.heap[b]?=some (.cells #[u0,u1] e (0,0))) (d0:Den F w c0 u0) (d1:Den F w c1 u1) (h0:u0.oneCell'=true) (h1:u1.oneCell'=true):XfR F w (.row (some ⟨b,0,none⟩) 1 1 e 2 [c0,c1]):=
 ⟨[u0,u1],XaV.cons' d0 (XaV.cons' d1 XaV.nil'),⟨rfl,.inr ⟨b,1,_,rfl,Nat.zero_le _,h,Nat.le_refl _,by unfold maxLen;omega,rfl,rfl⟩⟩,fun u hu=>by
  rcases List.mem_cons.1 hu with rfl|hu
  ·exact h0
  ·rcases List.mem_cons.1 hu with rfl|hu
   ·exact h1
   ·cases hu⟩
def XjL (b:Nat) (ad:Option Addr) (cap:Nat) (s:List UInt8):List Hp:=[.row (some ⟨b,0,none⟩) 1 1 74 2 [.x (.pointer (some ⟨b,0,none⟩)),.x (.slice ad s.length cap)],.row ad s.length cap 5 1 (u8a s)]
theorem Xvi (b:Nat) (p:Option Addr) (hp:p=none∨p=some ⟨b,0,none⟩) (sl:Value):Xa3 Tryz.prog 64 [.row (some ⟨b,0,none⟩) 1 1 74 2 [.x (.pointer p),.x sl]] [.x (.pointer (some ⟨b,0,none⟩))] (fun r H'=>r=.x (.tuple #[])∧H'=[.row (some ⟨b,0,none⟩) 1 1 74 2 [.x (.pointer (some ⟨b,0,none⟩)),.x sl]]):=by
 intro V w vs hV hH hd hgl
 have hd':vs=[.pointer (some ⟨b,0,none⟩)]:=hd.exact' (l:=[_])
 subst hd'
 obtain ⟨u0,u1,hbk,d0,d1,o0,o1⟩:=Xu3 (hH.ok _ (List.mem_cons_self ..))
 rw [Den] at d0 d1
 subst d0 d1
 have hlt:b < w.heap.size:=(Array.getElem?_eq_some_iff.1 hbk).1
 have r:Rel [] V (XcS [.row (some ⟨b,0,none⟩) 1 1 74 2 [.x (.pointer p),.x u1]]) w [.row (some ⟨b,0,none⟩) 1 1 74 2 [.x (.pointer p),.x u1]] [] { tmps:=#[],defers:=[] } w:=⟨XaV.nil',hH,Fr.refl _ _,fun x hx k hk=>.inl ⟨x,hx,hk⟩,rfl,hV,hgl⟩
 rcases hp with rfl|rfl
 ·refine (Xk5 b w (by rw [Lib.cell_of_heap hbk];rfl) (by simp [World.shape?,hbk]) (by simp [World.frozen?,hbk])).mono ?_
  rintro e w' ⟨rfl,rfl⟩
  have hbk2:(w.setCell ⟨b,0,none⟩ (.pointer (some ⟨b,0,none⟩))).heap[b]?=some (.cells #[.pointer (some ⟨b,0,none⟩),u1] 74 (0,0)):=by simp [World.setCell,Array.getElem?_modify,hbk]
  have r2:Rel [] V (XcS [.row (some ⟨b,0,none⟩) 1 1 74 2 [.x (.pointer none),.x u1]]) w [.row (some ⟨b,0,none⟩) 1 1 74 2 [.x (.pointer (some ⟨b,0,none⟩)),.x u1]] [] { tmps:=#[],defers:=[] } (w.setCell ⟨b,0,none⟩ (.pointer (some ⟨b,0,none⟩))):=by
   refine Rel.turn r rfl rfl rfl (by simp) (fun k _ hk=>?_) (fun k hk=>?_) (XsW hbk2 (XdP _) (XdP _) rfl o1) (fun _ _ _=>trivial)
   ·exact Below.heap_setCell _ _ _ _ fun e=>hk (by simp [Hp.blk,e])
   ·exact ⟨by rw [World.size_setCell];cases hk;exact hlt,.inl hk⟩
  exact ⟨.x (.tuple #[]),_,.tuple #[],⟨rfl,rfl⟩,rfl,XdP _,r2.hok,r2.fr,r2.own⟩
 ·refine (Xnz b w (by rw [Lib.cell_of_heap hbk];rfl)).mono ?_
  rintro e w' ⟨rfl,rfl⟩
  exact ⟨.x (.tuple #[]),_,.tuple #[],⟨rfl,rfl⟩,rfl,XdP _,r.hok,r.fr,r.own⟩
theorem XrD (bx:Nat) (p:Option Addr) (hp:p=none∨p=some ⟨bx,0,none⟩) (ad:Option Addr) (cap:Nat) (l s:List UInt8) (hl:l.length+s.length≤10000000):Xa3 Tryz.prog 33 [.row (some ⟨bx,0,none⟩) 1 1 74 2 [.x (.pointer p),.x (.slice ad l.length cap)],.row ad l.length cap 5 1 (u8a l)] [.x (.pointer (some ⟨bx,0,none⟩)),.x (.string (bs s))]
  (fun r H'=>∃ad' cap',r=.tup [.x (.int .i64 s.length),.x .nilIface]∧H'=XjL bx ad' cap' (l++s)):=by
 have hcc:=Xvi bx p hp (.slice ad l.length cap)
 refine XaD Tryz.func33 rfl ?_
 simp only [Tryz.ntmps33,Xvy,XvB,XvC,XvD,XvG,XvF,Nat.reduceAdd,Nat.reduceSub]
 (repeat' (first|with_reducible (first|refine Xag ?_|refine Xac ?_|refine Xar ?_|refine Xae ?_|refine Xaa ?_)|((apply Xad rfl);(case h=>((try (intro (hp:(_:Bool)=true);((try simp only [Bool.and_eq_true,Bool.not_eq_true',Bool.not_eq_true] at hp);(try simp only [hp,wte]);(try simp only [whn] at hp))));(first|(apply Xab 0 rfl;(first|exact Xap _ rfl|exact Xan _ rfl))|(apply Xab 4 rfl;(exact Xbl _ rfl (by first|exact .inl ⟨_,rfl⟩|fail)))|(apply Xab 5 rfl;(exact Xal _ _ _ _ _ _ rfl rfl Xa5.out))|(apply Xab 6 rfl;(exact Xdg _ _ _ _ _ _ _ _ _ _ _ _ rfl rfl Xb3.out XaN.out (by first|exact Xvu rfl|fail) (by first|exact Xvu rfl|fail)))|(apply XaC;(case hs=>(intro _ _ h;cases h));(case hx=>rfl);(case hrun=>(intro w;simp [wtb,AV.val,go_sem];(try go_bits);rfl))))));(case hT=>((try simp only [wtn,Xvz,Xvw,Xvx,XvA,XvE,Nat.reduceAdd,Nat.reduceMul,Nat.reduceSub,↓reduceIte,Nat.reduceEqDiff]);rfl)))|(refine Xai rfl ?_;((first|(refine Xas 11 rfl ?_;(refine Xam 64 Tryz.f64 [_] _ _ _ rfl rfl Tryz.func64 (by decide) rfl (Xvv _) (VwL.refl _ _) (hcc) ?_;rintro _ _ ⟨rfl,rfl⟩))|(refine Xas 13 rfl ?_;(refine XcK _ _ _ _ _ _ _ _ _ _ s rfl rfl Xb3.out rfl XaY.out (by kernel_rfl) (by first|omega|fail) (fun ad' cap'=>?_)))|(refine Xas 16 rfl ?_;(refine XeJ _ _ _ _ _ _ _ _ _ _ _ rfl rfl Xb3.out XaR.out (by first|rfl|fail) (by first|exact Xvu rfl|fail) ?_)));apply Xah;(case hT=>((try simp only [wtn,Xvz,Xvw,Xvx,XvA,XvE,Nat.reduceAdd,Nat.reduceMul,Nat.reduceSub,↓reduceIte,Nat.reduceEqDiff]);rfl));(case hH=>((try simp only [wtn,Xvz,Xvw,Xvx,XvA,XvE,Nat.reduceAdd,Nat.reduceMul,Nat.reduceSub,↓reduceIte,Nat.reduceEqDiff]);rfl))))|fail))
 refine Xaf _ _ (XcB rfl (RV.tmp _) (RV.tmp _) (XaH.mk' [] [_,_] (Xvv _) (XaB.refl _ _) (VwL.refl _ _))) ?_
 refine ⟨ad',cap',rfl,?_⟩
 simp only [XjL,XvH,Xcz]
theorem XkX (bx:Nat) (p:Option Addr) (hp:p=none∨p=some ⟨bx,0,none⟩) (ad:Option Addr) (cap:Nat) (l:List UInt8) (c:UInt8) (hl:l.length≤9999990):Xa3 Tryz.prog 34 [.row (some ⟨bx,0,none⟩) 1 1 74 2 [.x (.pointer p),.x (.slice ad l.length cap)],.row ad l.length cap 5 1 (u8a l)] [.x (.pointer (some ⟨bx,0,none⟩)),.x (.int .u8 (c.toNat:Nat))]
  (fun r H'=>∃ad' cap',r=.x .nilIface∧H'=XjL bx ad' cap' (l++[c])):=by
 have hcc:=Xvi bx p hp (.slice ad l.length cap)
 refine XaD Tryz.func34 rfl ?_
 simp only [Tryz.ntmps34,Xvy,XvB,XvC,XvD,XvG,XvF,Nat.reduceAdd,Nat.reduceSub]
 (repeat' (first|with_reducible (first|refine Xag ?_|refine Xac ?_|refine Xar ?_|refine Xae ?_|refine Xaa ?_)|((apply Xad rfl);(case h=>((try (intro (hp:(_:Bool)=true);((try simp only [Bool.and_eq_true,Bool.not_eq_true',Bool.not_eq_true] at hp);(try simp only [hp,wte]);(try simp only [whn] at hp))));(first|(apply Xab 0 rfl;(first|exact Xap _ rfl|exact Xan _ rfl))|(apply Xab 4 rfl;(exact Xbl _ rfl (by first|exact .inl ⟨_,rfl⟩|fail)))|(apply Xab 5 rfl;(exact Xal _ _ _ _ _ _ rfl rfl Xa5.out))|(apply Xab 6 rfl;(exact Xdg _ _ _ _ _ _ _ _ _ _ _ _ rfl rfl Xb3.out XaN.out (by first|exact Xvu rfl|fail) (by first|exact Xvu rfl|fail))))));(case hT=>((try simp only [wtn,Xvz,Xvw,Xvx,XvA,XvE,Nat.reduceAdd,Nat.reduceMul,Nat.reduceSub,↓reduceIte,Nat.reduceEqDiff]);rfl)))|(refine Xai rfl ?_;((first|(refine Xas 11 rfl ?_;(refine Xam 64 Tryz.f64 [_] _ _ _ rfl rfl Tryz.func64 (by decide) rfl (Xvv _) (VwL.refl _ _) (hcc) ?_;rintro _ _ ⟨rfl,rfl⟩))|(refine Xas 13 rfl ?_;(refine XaP _ _ _ _ _ _ _ _ _ _ _ _ _ _ rfl rfl Xb3.out (Src.row _ rfl Xb3.out) XaY.out (by first|rfl|fail) (XdQ _ _ (by omega) (by decide)) (fun ad' cap'=>?_)))|(refine Xas 16 rfl ?_;(refine XeJ _ _ _ _ _ _ _ _ _ _ _ rfl rfl Xb3.out XaR.out (by first|rfl|fail) (by first|exact Xvu rfl|fail) ?_))|(refine Xas 17 rfl ?_;(refine XaE _ _ _ _ _ _ _ _ rfl XaY.out (by first|rfl|fail) rfl (by decide) rfl (fun b=>?_))));apply Xah;(case hT=>((try simp only [wtn,Xvz,Xvw,Xvx,XvA,XvE,Nat.reduceAdd,Nat.reduceMul,Nat.reduceSub,↓reduceIte,Nat.reduceEqDiff]);rfl));(case hH=>((try simp only [wtn,Xvz,Xvw,Xvx,XvA,XvE,Nat.reduceAdd,Nat.reduceMul,Nat.reduceSub,↓reduceIte,Nat.reduceEqDiff]);rfl))))|fail))
 refine Xaf _ _ (Xbh rfl (RV.tmp _) (XaH.mk' [_] [_,_] (Xvv _) (XaB.refl _ _) (VwL.refl _ _))) ?_
 refine ⟨ad',cap',rfl,?_⟩
 simp only [XjL,XvH,Xcz,Xvy,XvB]
 rfl
theorem Xur (b g cap:Nat) (p:Value) (l:List UInt8) (h0:l≠[]) (cur:Array Value) (fr:Nat × Nat) (w:World) (hbk:w.heap[b]?=some (.cells #[p,.slice (some ⟨g,0,none⟩) l.length cap] 74 (0,0))) (hg:w.heap[g]?=some (.cells cur 5 fr))
  (hn:l.length≤cur.size) (hcap:l.length≤cap) (hm:l.length≤1000000) (hc:∀j x,l[j]?=some x→w.cell? ⟨g,j,none⟩=some (.int .u8 (x.toNat:Nat))) :
  Calls Tryz.prog 37 #[.pointer (some ⟨b,0,none⟩)] w fun e w'=>e=.returned (.string (bs l))∧∃w1,Ext w w1∧w'=w1.freeze ⟨g,0,none⟩ l.length:=by
 have hl0:l.length≠0:=by simpa using h0
 have c1:w.drew.cell? ⟨b,1,none⟩=some (.slice (some ⟨g,0,none⟩) l.length cap):=by
  have:w.drew.heap[b]?=some (.cells #[p,.slice (some ⟨g,0,none⟩) l.length cap] 74 (0,0)):=hbk
  rw [Lib.cell_of_heap this];rfl
 have hSD:(Builtin.unsafeSliceData_ #[39] 133 #[.slice (some ⟨g,0,none⟩) l.length cap]).run Tryz.prog w.drew=.ok (.pointer (some ⟨g,0,none⟩)) w.drew:=
  Lib.run_unsafeSliceData_row _ _ _ _ _ _ (by omega)
 have hUS:(Builtin.unsafeString_ #[133,3] 9 #[.pointer (some ⟨g,0,none⟩),.int .i64 l.length]).run Tryz.prog w.drew=.ok (.string (bs l)) (w.drew.freeze ⟨g,0,none⟩ l.length):=by
  refine Lib.run_unsafeString_row w.drew 133 3 9 5 Xh6.t127 Xa7.cellsByte g cur.size (by have hg':w.drew.heap[g]?=some (.cells cur 5 fr):=hg;simp [World.shape?,hg']) l h0 hn (by omega) ?_
  intro j x hx
  rw [show (⟨g,0,none⟩:Addr).add j=⟨g,j,none⟩ from by unfold Addr.add;split<;>simp_all]
  exact hc j x hx
 have hmx:=mixed
 go_enter Tryz.func37,Tryz.ntmps37
 go_wp2
 go_region_o
 all_goals (go_wp2;go_ret;exact ⟨rfl,_,(show Ext w w.drew from Below.drew (Below.refl _ w)),rfl⟩)
theorem XfF (w:World) (a:Addr) (n k:Nat) (h:k≠a.block):(w.freeze a n).heap[k]?=w.heap[k]?:=by
 unfold World.freeze
 split
 ·rfl
 ·simp only [Array.getElem?_modify]
  rw [if_neg (Ne.symm h)]
theorem Xkh (w:World) (a:Addr) (n:Nat):(w.freeze a n).heap.size=w.heap.size:=by
 unfold World.freeze
 split
 ·rfl
 ·simp
open Go.RowKit
def Xvd:Prop:=∀v:Int,0≤v→v≤18446744073709551615→Xa3 Tryz.prog 67 [] [.x (.int .u64 v),.x (.int .i64 10)] (fun r H'=>r=.x (.string (bs (XbJ v.toNat)))∧H'=[])
theorem Xth (hU:Xvd) (e:EF) (he:EOk e) (a:Int) (ha:a=106∨a=119∨a=100∨a=97∨a=99∨a=108∨a=110):Xa3 Tryz.prog 35 [] [.agg e.cells,.x (.int .i32 a)] (fun r H'=>r=.x (.string (bs (Xcr e (XbE a))))∧H'=[]):=by
 obtain ⟨e1,e2,e3,e4,e5,e6⟩:=he
 have hU':=Lib.hid hU
 clear hU
 unfold EF.cells
 refine XaD Tryz.func35 rfl ?_
 simp only [Tryz.ntmps35,Xvy,XvB,XvC,XvD,XvG,XvF,Nat.reduceAdd,Nat.reduceSub]
 (repeat' (first|with_reducible (first|refine Xag ?_|refine Xac ?_|refine Xao ?_|refine Xar ?_|refine Xau ?_|refine Xae ?_|refine Xaa ?_|refine Xax ?_|refine Xaj ?_|refine Xav ?_)|(refine Xak _ rfl (fun h=>?_) (fun h=>?_)<;>((try (simp only [whn] at h));skip))|((apply Xad rfl);(case h=>((try (intro (hp:(_:Bool)=true);((try simp only [Bool.and_eq_true,Bool.not_eq_true',Bool.not_eq_true] at hp);(try simp only [hp,wte]);(try simp only [whn] at hp))));(first|(apply Xab 0 rfl;(first|exact Xap _ rfl|exact Xan _ rfl))|(apply Xab 5 rfl;(exact Xal _ _ _ _ _ _ rfl rfl Xa5.out))|(apply Xab 6 rfl;(exact Xaz _ _ _ _ _ _ _ _ rfl rfl XaS.out XaN.out (by first|exact Xvu rfl|fail) (by first|exact Xvu rfl|fail)))|(apply Xab 11 rfl;(first|exact Xay 66 Tryz.f66 _ _ rfl rfl Tryz.func66 (by decide) rfl (VwL.refl _ _) (Xqr e.data (by omega))|exact Xay 67 Tryz.f67 _ _ rfl rfl Tryz.func67 (by decide) rfl (VwL.refl _ _) (hU'.out e.time e4.1 e4.2)|exact Xay 65 Tryz.f65 _ _ rfl rfl Tryz.func65 (by decide) rfl (VwL.refl _ _) (Xok e.code e3.1 e3.2)|exact Xay 65 Tryz.f65 _ _ rfl rfl Tryz.func65 (by decide) rfl (VwL.refl _ _) (Xok e.client e5.1 e5.2)|exact Xay 65 Tryz.f65 _ _ rfl rfl Tryz.func65 (by decide) rfl (VwL.refl _ _) (Xok e.num e6.1 e6.2)))|(apply Xab 12 rfl;(exact Xbz _ _ 5 _ e.data rfl (by kernel_rfl) (by kernel_rfl) (by kernel_rfl) (Src.sq rfl)))|(apply XaC;(case hs=>(intro _ _ h;cases h));(case hx=>rfl);(case hrun=>(intro w;simp [wtb,AV.val,go_sem];(try go_bits);rfl))))));(case hT=>((try simp only [wtn,Xvz,Xvw,Xvx,XvA,XvE,Nat.reduceAdd,Nat.reduceMul,Nat.reduceSub,↓reduceIte,Nat.reduceEqDiff]);rfl)))|(refine Xai rfl ?_;((refine Xas 15 rfl ?_;(refine Xbo _ _ rfl (by first|rfl|fail) (fun b=>?_)));apply Xah;(case hT=>((try simp only [wtn,Xvz,Xvw,Xvx,XvA,XvE,Nat.reduceAdd,Nat.reduceMul,Nat.reduceSub,↓reduceIte,Nat.reduceEqDiff]);rfl));(case hH=>((try simp only [wtn,Xvz,Xvw,Xvx,XvA,XvE,Nat.reduceAdd,Nat.reduceMul,Nat.reduceSub,↓reduceIte,Nat.reduceEqDiff]);rfl))))|fail))
 all_goals
  refine Xaf _ _ (Xbh rfl (RV.tmp _) (XaH.mk' [_] [] (Xvv _) XaB.nil (VwL.refl _ _))) ?_
  refine ⟨?_,rfl⟩
  unfold Xcr XbE
  first
   | (rw [if_pos (show a=106 by omega)];rfl)
   | (rw [if_neg (show ¬a=106 by omega),if_pos (show a=119 by omega)];have hok:=h;simp [hok];rfl)
   | (rw [if_neg (show ¬a=106 by omega),if_neg (show ¬a=119 by omega),if_pos (show a=100 by omega)];rfl)
   | (rw [if_neg (show ¬a=106 by omega),if_neg (show ¬a=119 by omega),if_neg (show ¬a=100 by omega),if_pos (show a=97 by omega)];rfl)
   | (rw [if_neg (show ¬a=106 by omega),if_neg (show ¬a=119 by omega),if_neg (show ¬a=100 by omega),if_neg (show ¬a=97 by omega),if_pos (show a=99 by omega)];rfl)
   | (rw [if_neg (show ¬a=106 by omega),if_neg (show ¬a=119 by omega),if_neg (show ¬a=100 by omega),if_neg (show ¬a=97 by omega),if_neg (show ¬a=99 by omega),if_pos (show a=108 by omega)];rfl)
   | (rw [if_neg (show ¬a=106 by omega),if_neg (show ¬a=119 by omega),if_neg (show ¬a=100 by omega),if_neg (show ¬a=97 by omega),if_neg (show ¬a=99 by omega),if_neg (show ¬a=108 by omega)];rfl)
   | trace_state
theorem Xrk (b:Nat) (p:Value) (ad:Option Addr) (n cap:Nat):Xa3 Tryz.prog 36 [.row (some ⟨b,0,none⟩) 1 1 74 2 [.x p,.x (.slice ad n cap)]] [.x (.pointer (some ⟨b,0,none⟩))] (fun r H'=>r=.x (.int .i64 n)∧H'=[.row (some ⟨b,0,none⟩) 1 1 74 2 [.x p,.x (.slice ad n cap)]]):=by
 refine XaD Tryz.func36 rfl ?_
 simp only [Tryz.ntmps36,Xvy,XvB,XvC,XvD,XvG,XvF,Nat.reduceAdd,Nat.reduceSub]
 (repeat' (first|with_reducible (first|refine Xag ?_|refine Xac ?_|refine Xar ?_|refine Xae ?_|refine Xaa ?_)|((apply Xad rfl);(case h=>((try (intro (hp:(_:Bool)=true);((try simp only [Bool.and_eq_true,Bool.not_eq_true',Bool.not_eq_true] at hp);(try simp only [hp,wte]);(try simp only [whn] at hp))));(first|(apply Xab 0 rfl;(first|exact Xap _ rfl|exact Xan _ rfl))|(apply Xab 4 rfl;(exact Xbl _ rfl (by first|exact .inl ⟨_,rfl⟩|fail)))|(apply Xab 5 rfl;(exact Xal _ _ _ _ _ _ rfl rfl Xa5.out))|(apply Xab 6 rfl;(exact Xdg _ _ _ _ _ _ _ _ _ _ _ _ rfl rfl Xb3.out XaN.out (by first|exact Xvu rfl|fail) (by first|exact Xvu rfl|fail)))|(apply XaC;(case hs=>(intro _ _ h;cases h));(case hx=>rfl);(case hrun=>(intro w;simp [wtb,AV.val,go_sem];(try go_bits);rfl))))));(case hT=>((try simp only [wtn,Xvz,Xvw,Xvx,XvA,XvE,Nat.reduceAdd,Nat.reduceMul,Nat.reduceSub,↓reduceIte,Nat.reduceEqDiff]);rfl)))|fail))
 refine Xaf _ _ (Xbh rfl (RV.tmp _) (XaH.mk' [] [_] (Xvv _) (XaB.refl _ _) (VwL.refl _ _))) ?_
 exact ⟨rfl,rfl⟩
open Go.RowKit Go.Shelf Go.Sort Go.Lib
theorem Xmk (i:Nat) (hi:i < 100) (w:World):Calls Tryz.prog 103 #[.int .u64 i,.int .i64 10] w fun e w'=>e=.returned (.string ⟨(Lib.decDigits i).toArray⟩)∧∃k os,w'=grow (w.drewN k) os:=by
 have hmx:=mixed
 have iu:(i:Int) < 100:=by omega
 go_enter Tryz.func103,Tryz.ntmps103
 go_wp2_with (go_at_call 136;refine (internal_strconv_small i hi _).mono ?_;rintro e w' ⟨rfl,rfl⟩)
 go_ret
 exact ⟨rfl,0,#[],by simp [World.drewN_zero]⟩
theorem XpZ (u:Nat) (hu:100≤u) (hu64:u < 18446744073709551616) (w:World) (htab:Lib.TabIs Tryz.prog w "internal/strconv.uint64pow10" .u64 Lib.pow10Tab) :
  Calls Tryz.prog 103 #[.int .u64 u,.int .i64 10] w fun e w'=>e=.returned (.string ⟨(Lib.decDigits u).toArray⟩)∧∃k os,w'=grow (w.drewN k) os:=by
 have hmx:=mixed
 have hu1:1≤u:=by omega
 have hnd20:Lib.nDigits u≤20:=by have:=Lib.numDigits_eq u hu1 hu64;split at this<;>omega
 have hal:Tryz.prog.arrayLen 214=24:=by simp [Program.arrayLen,Tryz.underlying214]
 have hsl:∀W,(Instr.sliceAt 214 (.pointer (some ⟨w.heap.size,0,none⟩)) none (some (.int .i64 (Lib.nDigits u:Int))) none).run Tryz.prog W=.ok (.slice (some ⟨w.heap.size,0,none⟩) (Lib.nDigits u) 24) W:=fun W=>by
  rw [run_sliceAt_array_h W 214 ⟨w.heap.size,0,none⟩ (by simp [Program.arrayLen,Program.elem,Tryz.underlying214]) .i64 (Lib.nDigits u:Int) (by omega) (by rw [hal];omega)]
  go_simp
 have hH0:=Lib.holds_zero0 w 214 (Lib.nDigits u) (by omega)
 have hfmt:=internal_strconv_formatBase10 w.heap.size 0 24 u (Array.replicate (Lib.nDigits u) 0) (w.alloc (.cells Lib.zeros24 214)) hH0 (by rw [Array.size_replicate];exact Lib.lt_pow_nDigits u) hu64 (by rw [Array.size_replicate];omega)
 rw [Array.size_replicate] at hfmt
 have HH0:=Lib.hid hH0
 have iu:(100:Int)≤(u:Int):=by omega
 clear hH0 hal
 go_enter Tryz.func103,Tryz.ntmps103
 go_wp2_with (first
  | (go_at_call 137;refine (internal_strconv_numDigits u hu1 hu64 _ (Lib.tabIs_alloc htab _)).mono ?_;rintro e w' ⟨rfl,rfl⟩))
 go_at_call 138
 refine hfmt.mono ?_
 rintro e w' ⟨rfl,k,v',dk,rfl,hF⟩
 have hcv:(convert 39 9 (.slice (some ⟨w.heap.size,0,none⟩) (Lib.nDigits u) 24)).run Tryz.prog ((putRow (fun (b:UInt8)=>Value.int .u8 (b.toNat:Int)) (w.alloc (.cells Lib.zeros24 214)) w.heap.size 0 dk).drewN k)=.ok (.string ⟨(Lib.decDigits u).toArray⟩) ((putRow (fun (b:UInt8)=>Value.int .u8 (b.toNat:Int)) (w.alloc (.cells Lib.zeros24 214)) w.heap.size 0 dk).drewN k):=by
  have h:=run_convert_bytes_back (P:=Tryz.prog) ((putRow (fun (b:UInt8)=>Value.int .u8 (b.toNat:Int)) (w.alloc (.cells Lib.zeros24 214)) w.heap.size 0 dk).drewN k) 39 9 5 ⟨w.heap.size,0,none⟩ 24 (Lib.decDigits u) Tryz.underlying39 Tryz.underlying5 Tryz.underlying9 (fun j hj=>by
   rw [Lib.row_is_numeral hF j hj,Lib.add_plain,World.cell?_drewN]
   exact cell?_putRow (fun (b:UInt8)=>Value.int .u8 (b.toNat:Int)) _ w.heap.size 0 _ dk HH0.out (by rw [hF.size,Array.size_replicate]) j (by rw [hF.size];rw [Lib.decDigits_length] at hj;exact hj))
  rw [Lib.decDigits_length] at h
  exact h
 go_wp2
 go_ret
 obtain ⟨os,eo⟩:=Lib.fin_at w (.cells Lib.zeros24 214) dk k 0
 exact ⟨rfl,k,os,eo⟩
theorem Xvs:Xvd:=by
 intro v h0 h1
 obtain ⟨u,rfl⟩:∃u:Nat,v=u:=⟨v.toNat,by omega⟩
 refine (Xer (args:=[.int .u64 u,.int .i64 10]) (Q:=fun x=>x=.string (bs (XbJ u))) (fun w hg=>?_) []).mono fun r H' ⟨x,hv,hr,hH⟩=>⟨by rw [hr,hv,Int.toNat_natCast],hH⟩
 have key:∀w:World,Lib.TabIs Tryz.prog w "internal/strconv.uint64pow10" .u64 Lib.pow10Tab→Calls Tryz.prog 103 #[.int .u64 u,.int .i64 10] w fun e w'=>e=.returned (.string ⟨(Lib.decDigits u).toArray⟩)∧∃k os,w'=grow (w.drewN k) os:=fun w hw=>by
  by_cases hs:u < 100
  ·exact Xmk u hs w
  ·exact XpZ u (by omega) (by omega) w hw
 have hp:=hg.pow
 have hmx:=mixed
 go_enter Tryz.func67,Tryz.ntmps67
 go_wp2_with (go_at_call 103;refine (key _ hp).mono ?_;rintro e w' ⟨rfl,k,os,rfl⟩)
 go_ret
 exact ⟨_,rfl,by rw [XhS];rfl,Go.Lib.below_grow w.heap.size w (Nat.le_refl _) k os⟩
open Go.RowKit Go.Shelf Go.Lib
section
variable {Δ:List Deferred} {V O:Nat→Prop} {w0 w w':World} {H:List Hp} {T:List AV} {a:Act} {o:Oper} {ops:Array Oper} {Θ:List (Nat × Obj)} {Q:Xfc}
theorem Xj4 (w:World) (a:Addr) (n:Nat) (x:Addr):(w.freeze a n).cell? x=w.cell? x:=by
 unfold World.freeze
 split
 ·rfl
 ·simp only [World.cell?,Array.getElem?_modify]
  by_cases h:a.block=x.block
  ·rw [if_pos h]
   cases w.heap[x.block]? with
   | none=>rfl
   | some ob=>cases ob<;>rfl
  ·rw [if_neg h]
theorem Xmn {g n:Nat} {cur:Array Value} {e:TypeId} (h:w.heap[g]?=some (.cells cur e (0,0))) (hn:n≠0):(w.freeze ⟨g,0,none⟩ n).heap[g]?=some (.cells cur e (0,n)):=by
 unfold World.freeze
 rw [if_neg hn]
 simp [Array.getElem?_modify,h]
theorem Xkg {g n:Nat} {cur:Array Value} {e:TypeId} (h:w.heap[g]?=some (.cells cur e (0,n))) (hn:n≠0):w.freeze ⟨g,0,none⟩ n=w:=by
 have e1:(w.freeze ⟨g,0,none⟩ n).heap=w.heap:=by
  unfold World.freeze
  rw [if_neg hn]
  apply Array.ext_getElem?
  intro k
  simp only [Array.getElem?_modify]
  split
  ·rename_i hk
   have hk':g=k:=hk
   subst hk'
   rw [h]
   simp [Ne.symm hn]
  ·rfl
 have e2:w.freeze ⟨g,0,none⟩ n={ w with heap:=(w.freeze ⟨g,0,none⟩ n).heap }:=by unfold World.freeze;split<;>rfl
 rw [e2,e1]
theorem Rel.frz (r:Rel Δ V O w0 H T a w) (g n:Nat) (hb:¬XcS H g) (ho:O g∨w0.heap.size≤g):Rel Δ V O w0 H T a (w.freeze ⟨g,0,none⟩ n):=by
 have hsz:=Xkh w ⟨g,0,none⟩ n
 have hk:∀b o v,¬FB V H b→w.cell? ⟨b,o,none⟩=some v→¬FB V H b∧(w.freeze ⟨g,0,none⟩ n).cell? ⟨b,o,none⟩=some v:=fun b o v hF hv=>⟨hF,by rw [Xj4];exact hv⟩
 refine ⟨XaV.cw hk _ _ r.tmps,⟨fun x hx=>(r.hok.ok x hx).cw hk (by omega) fun k e=>XfF _ _ _ _ fun e'=>hb ⟨x,hx,by have h5:k=g:=e';rw [←h5];exact e⟩,r.hok.apart,fun x hx k e=>by rw [hsz];exact r.hok.lt x hx k e⟩,?_,r.own,r.defers,r.vlt,r.gl⟩
 refine r.fr.trans (O':=fun k=>k=g) ⟨by unfold World.freeze;split<;>rfl,by unfold World.freeze;split<;>rfl,by unfold World.freeze;split<;>rfl,by omega,fun k _ hn=>XfF _ _ _ _ hn⟩ fun i hi e=>?_
 subst e
 exact ho.resolve_right (by omega)
def Xvg (Θ:List (Nat × Obj)) (ad:Option Addr) (cap:Nat) (l:List UInt8):Prop:=
 (l=[]∧ad=none)∨∃(g:Nat) (cur:Array Value),ad=some ⟨g,0,none⟩∧(g,Obj.cells cur 5 (0,l.length))∈Θ∧l≠[]∧l.length≤cur.size∧l.length≤cap∧∀(j:Nat) (x:UInt8),l[j]?=some x→cur[j]?=some (Value.int .u8 (x.toNat:Nat))
theorem Xut (b cap:Nat) (p:Value) (w:World) (hbk:w.heap[b]?=some (.cells #[p,.slice none 0 cap] 74 (0,0))) :
  Calls Tryz.prog 37 #[.pointer (some ⟨b,0,none⟩)] w fun e w'=>e=.returned (.string (bs []))∧Ext w w':=by
 have c1:w.drew.cell? ⟨b,1,none⟩=some (.slice none 0 cap):=by
  have:w.drew.heap[b]?=some (.cells #[p,.slice none 0 cap] 74 (0,0)):=hbk
  rw [Lib.cell_of_heap this];rfl
 have hSD:(Builtin.unsafeSliceData_ #[39] 133 #[.slice none 0 cap]).run Tryz.prog w.drew=.ok (.pointer none) w.drew:=Lib.run_unsafeSliceData_nil _ _ _ _ _
 have hUS:(Builtin.unsafeString_ #[133,3] 9 #[.pointer none,.int .i64 0]).run Tryz.prog w.drew=.ok (.string .empty) w.drew:=Lib.run_unsafeString_none _ _ _ _ _
 have hmx:=mixed
 go_enter Tryz.func37,Tryz.ntmps37
 go_wp2
 go_region_o
 all_goals (go_wp2;go_ret;exact ⟨rfl,(show Ext w w.drew from Below.drew (Below.refl _ w))⟩)
variable {rest:List Oper} {c x:Operand} {tys:Array TypeId} {b:Nat} {p:Value} {ad:Option Addr} {cap:Nat} {l:List UInt8}
theorem Xni (hg:o.guard=none) (ho:o.op=.call { callee:=.value c,args:=#[x],argTypes:=tys }) (hc:ev T c=.x (.func (.func 37) #[] #[])) (hx:ev T x=.x (.pointer (some ⟨b,0,none⟩))) (h0:l=[]→ad=none) (hm:l.length≤1000000)
  (hK:∀Θ',Xvg Θ' ad cap l→Xdc Tryz.prog Δ Θ' ops Q rest (Xb7 T o.dst (.x (.string (bs l)))) [.row (some ⟨b,0,none⟩) 1 1 74 2 [.x p,.x (.slice ad l.length cap)]]) :
  Xdc Tryz.prog Δ [] ops Q (o :: rest) T [.row (some ⟨b,0,none⟩) 1 1 74 2 [.x p,.x (.slice ad l.length cap)],.row ad l.length cap 5 1 (u8a l)]:=fun V O w0 a w r t=>by
 obtain ⟨u0,u1,hbk,d0,d1,o0,o1⟩:=Xu3 (r.hok.ok _ (List.mem_cons_self ..))
 rw [Den] at d0 d1
 subst d0 d1
 obtain ⟨vals,hdv,hown,hone⟩:=r.hok.ok _ (List.mem_cons_of_mem _ (List.mem_cons_self ..))
 have hvals:vals=l.map fun c=>.int .u8 (c.toNat:Nat):=by
  have:u8a l=(l.map fun c=>Value.int .u8 (c.toNat:Nat)).map .x:=by simp [u8a,u8s]
  rw [this] at hdv;exact hdv.exact'
 subst hvals
 have r1:Rel Δ V O w0 [.row (some ⟨b,0,none⟩) 1 1 74 2 [.x u0,.x (.slice ad l.length cap)]] T a w:=by
  have q:=r.weaken (XaH.mk' (H':=[.row (some ⟨b,0,none⟩) 1 1 74 2 [.x u0,.x (.slice ad l.length cap)]]) (T':=T) [.row ad l.length cap 5 1 (u8a l)] [_] (List.Perm.swap _ _ _) (XaB.refl _ _) (VwL.refl _ _))
  exact q
 refine wpListIn_plain hg fun K hKc=>Xfz ?_
 refine Xdy ho (r.evx hc) Tryz.func37 (by decide) rfl (vs:=#[.pointer (some ⟨b,0,none⟩)]) (by simp [r.evx hx]) ?_
 by_cases hl:l=[]
 ·have had:=h0 hl
  subst hl had
  refine (Xut b cap u0 w hbk).mono ?_
  rintro e w' ⟨rfl,hE⟩
  exact ⟨_,rfl,hKc _ _ (hK [] (Or.inl ⟨rfl,rfl⟩) V O w0 _ _ ((r1.quiet hE).put o.dst (XdP _)) fun p hp=>by cases hp)⟩
 ·obtain ⟨-,⟨-,h⟩|⟨g,cap',cur,e0,-,hg,hnc,hcm,hcs,ht⟩⟩:=hown
  ·exact absurd (List.eq_nil_of_length_eq_zero h) hl
  cases e0
  have hglt:g < w.heap.size:=(Array.getElem?_eq_some_iff.1 hg).1
  have hnb:¬XcS [.row (some ⟨b,0,none⟩) 1 1 74 2 [.x u0,.x (.slice (some ⟨g,0,none⟩) l.length cap)]] g:=fun ⟨y,hy,e⟩=>by
   rw [List.mem_singleton] at hy;subst hy
   exact (List.pairwise_cons.1 r.hok.apart).1 _ (List.mem_cons_self ..) g e rfl
  have hog:O g∨w0.heap.size≤g:=r.own _ (List.mem_cons_of_mem _ (List.mem_cons_self ..)) g rfl
  have hcl:∀(j:Nat) (x:UInt8),l[j]?=some x→cur[j]?=some (Value.int .u8 (x.toNat:Nat)):=fun j x hx=>by
   have hj:j < l.length:=(List.getElem?_eq_some_iff.1 hx).1
   have:=congrArg (·[j]?) ht
   simp only [Nat.mul_one,List.getElem?_take,List.getElem?_map,hx,if_pos hj,Option.map_some] at this
   simpa using this
  refine (Xur b g cap _ l hl cur _ w hbk hg (by rw [hcs];omega) hnc hm fun j x hx=>by rw [Lib.cell_of_heap hg];exact hcl j x hx).mono ?_
  rintro e w' ⟨rfl,w1,hE,rfl⟩
  have hg1:w1.heap[g]?=some (.cells cur 5 (0,0)):=by rw [hE.block g hglt];exact hg
  have hl0:l.length≠0:=by simpa using hl
  refine ⟨_,rfl,hKc _ _ (hK [(g,.cells cur 5 (0,l.length))] (Or.inr ⟨g,cur,rfl,List.mem_singleton.2 rfl,hl,by rw [hcs];omega,hnc,hcl⟩) V O w0 _ _ (((r1.quiet hE).frz g l.length hnb hog).put o.dst (XdP _)) fun p hp=>?_)⟩
  rw [List.mem_singleton] at hp;subst hp
  exact ⟨Xmn hg1 hl0,rfl,hnb,hog⟩
theorem Xl2 (hg:o.guard=none) (ho:o.op=.call { callee:=.value c,args:=#[x],argTypes:=tys }) (hc:ev T c=.x (.func (.func 37) #[] #[])) (hx:ev T x=.x (.pointer (some ⟨b,0,none⟩))) (hT:Xvg Θ ad cap l) (hm:l.length≤1000000)
  (hK:Xdc Tryz.prog Δ Θ ops Q rest (Xb7 T o.dst (.x (.string (bs l)))) [.row (some ⟨b,0,none⟩) 1 1 74 2 [.x p,.x (.slice ad l.length cap)]]) :
  Xdc Tryz.prog Δ Θ ops Q (o :: rest) T [.row (some ⟨b,0,none⟩) 1 1 74 2 [.x p,.x (.slice ad l.length cap)]]:=fun V O w0 a w r t=>by
 obtain ⟨u0,u1,hbk,d0,d1,o0,o1⟩:=Xu3 (r.hok.ok _ (List.mem_cons_self ..))
 rw [Den] at d0 d1
 subst d0 d1
 have hq:∀w',Ext w w'→∀q∈Θ,Trk O w0 [.row (some ⟨b,0,none⟩) 1 1 74 2 [.x u0,.x (.slice ad l.length cap)]] w' q:=fun w' hE q hq=>by
  obtain ⟨t1,t2,t3,t4⟩:=t q hq
  exact ⟨(hE.block q.1 (Array.getElem?_eq_some_iff.1 t1).1).trans t1,t2,t3,t4⟩
 refine wpListIn_plain hg fun K hKc=>Xfz ?_
 refine Xdy ho (r.evx hc) Tryz.func37 (by decide) rfl (vs:=#[.pointer (some ⟨b,0,none⟩)]) (by simp [r.evx hx]) ?_
 rcases hT with ⟨rfl,rfl⟩|⟨g,cur,rfl,hmem,hl,hn,hcap,hcl⟩
 ·refine (Xut b cap u0 w hbk).mono ?_
  rintro e w' ⟨rfl,hE⟩
  exact ⟨_,rfl,hKc _ _ (hK V O w0 _ _ ((r.quiet hE).put o.dst (XdP _)) (hq _ hE))⟩
 ·have hg:w.heap[g]?=some (.cells cur 5 (0,l.length)):=(t _ hmem).1
  refine (Xur b g cap _ l hl cur _ w hbk hg hn hcap hm fun j x hx=>by rw [Lib.cell_of_heap hg];exact hcl j x hx).mono ?_
  rintro e w' ⟨rfl,w1,hE,rfl⟩
  have hg1:w1.heap[g]?=some (.cells cur 5 (0,l.length)):=by rw [hE.block g (Array.getElem?_eq_some_iff.1 hg).1];exact hg
  rw [Xkg hg1 (by simpa using hl)]
  exact ⟨_,rfl,hKc _ _ (hK V O w0 _ _ ((r.quiet hE).put o.dst (XdP _)) (hq _ hE))⟩
end
end Go.Proofs.YtdpobjakdplljaaGreatDoor

import Derived.Test.YtcmfamgnmehojaaGreatDoorW8
import Derived.Test.YtcmfamgnmehojaaGreatDoorW6
import Derived.Test.YtcmfamgnmehojaaGreatDoorW10
import Derived.Test.YtcmfamgnmehojaaGreatDoorW0
/- A walk over symbolic memory: in a region that draws its order, loads out of memory that is not the call's own may be taken first, whatever writes own memory. No program in sight. -/
set_option linter.unusedSimpArgs false
set_option linter.unusedVariables false
set_option maxRecDepth 100000
set_option maxHeartbeats 8000000
namespace Go.Proofs.YtcmfamgnmehojaaGreatDoor
open Go.RowKit
section
variable {P:Program} {Δ:List Deferred} {V O:Nat→Prop} {w0 w w':World} {B H H' R:List Hp} {T T':List AV} {a a':Act} {o:Oper} {ops:Array Oper} {Q:Xb9} {listed:Array Bool} {fuel:Nat}
def Xfs (wr:World) (R:List Hp) (w:World):Prop:=∀k,k < wr.heap.size→¬XbO R k→w.heap[k]?=wr.heap[k]?
def XlB (P:Program) (ops:Array Oper) (Q:Xb9) (fuel:Nat) (listed:Array Bool) (T:List AV) (H:List Hp):Prop:=
 ∀Δ V O w0 a w,Rel Δ V O w0 H T a w→Xb7 P .any ops (Xee Δ V O w0 Q) [] (Xfs w H) fuel listed a w
def Xl5 (P:Program) (ops:Array Oper) (Q:Xb9) (R:List Hp) (fuel:Nat) (listed:Array Bool) (T:List AV) (H:List Hp):Prop:=
 ∀Δ V O w0 wr a w,Rel Δ V O w0 H T a w→Xfs wr R w→wr.heap.size≤w.heap.size→(∀h∈H,∀k,h.blk=some k→XbO R k∨wr.heap.size≤k)→Xb7 P .any ops (Xee Δ V O w0 Q) [] (Xfs wr R) fuel listed a w
theorem XdZ {id:Nat} {l:List Oper} (hm:P.follows .mixedOrders=true) (h:XlB P l.toArray Q l.length (Array.replicate l.length false) T H):awp P (.region id l.toArray true) Q T H:=
 Xch hm fun Δ V O w0 a w r=>(h Δ V O w0 a w r).any
theorem Xb4 {T':List AV} {H':List Hp} (hT:T=T') (hH:H=H') (h:XlB P ops Q fuel listed T' H'):XlB P ops Q fuel listed T H:=hT▸hH▸h
theorem XbS {T':List AV} {H':List Hp} (hT:T=T') (hH:H=H') (h:Xl5 P ops Q R fuel listed T' H'):Xl5 P ops Q R fuel listed T H:=hT▸hH▸h
theorem Xii (i:Nat) {o:Oper} {l:List Oper} (hi:Xdp l i=some o) (hg:o.guard=none) (hc:XdW l.toArray listed i=true) (hpan:∀c T H,¬Q (.panic c) T H) (av:AV)
  (h:∀V a w,OK V H (ev T) o a w→∃v,(∀w',Xfs w H w'→(execOp a.eval o).run P w'=.ok (.value v) w')∧Den (FB V H) w av v) (hK:XlB P l.toArray Q fuel (listed.setIfInBounds i true) (XbH T o.dst av) H):XlB P l.toArray Q (fuel+1) listed T H:=by
 have hi:l.toArray[i]?=some o:=by rw [List.getElem?_toArray,←Xb3];exact hi
 intro Δ V O w0 a w r
 obtain ⟨v,hv,hd⟩:=h V a w (r.oks o)
 unfold XdW at hc
 simp only [Bool.and_eq_true] at hc
 exact Xb7.first hi hc.1.1 (fun c a w ⟨T,H,_,hq⟩=>absurd hq (hpan c T H)) (fun j o hj=>by simp at hj) (Region.free_spec hi hc.1.2) (by simpa using hc.2) (.inl ⟨by simp [Region.wanted,hg],hv⟩) (fun _ _ _=>rfl) (hK Δ V O w0 _ w (r.put _ hd))
theorem Xb5 (i:Nat) {o:Oper} {l:List Oper} (hi:Xdp l i=some o) (hg:o.guard=none) (hc:XdW l.toArray listed i=true) (hpan:∀c T H,¬Q (.panic c) T H) (av:AV) (h:XgD P o (ev T) H av) (hK:XlB P l.toArray Q fuel (listed.setIfInBounds i true) (XbH T o.dst av) H):XlB P l.toArray Q (fuel+1) listed T H:=
 Xii i hi hg hc hpan av (fun V a w ok=>by obtain ⟨v,hv,hd⟩:=h V a w ok;exact ⟨v,fun w' _=>hv w',hd⟩) hK
theorem XgR {l:List Oper} (h:Xl5 P l.toArray Q H fuel listed T H):XlB P l.toArray Q fuel listed T H:=fun Δ V O w0 a w r=>
 h Δ V O w0 w a w r (fun _ _ _=>rfl) (Nat.le_refl _) fun x hx k hk=>.inl ⟨x,hx,hk⟩
theorem Xez (hr:Region.ready .any ops listed=[]) (h:Q .normal T H):Xl5 P ops Q R fuel listed T H:=fun Δ V O w0 wr a w r _ _ _=>by
 cases fuel with
 | zero=>exact ⟨hr,⟨T,H,r,h⟩⟩
 | succ n=>exact ⟨fun _=>⟨T,H,r,h⟩,fun j hj=>by rw [hr] at hj;cases hj⟩
theorem Xgx {j:Nat} (hi:ops[j]?=some o) (hg:o.guard=none) (h:Stp P o T H (Xl5 P ops Q R fuel (listed.setIfInBounds j true))) (Δ:List Deferred) (V O:Nat→Prop) (w0 wr:World) (r:Rel Δ V O w0 H T a w) (hS:Xfs wr R w) (hz:wr.heap.size≤w.heap.size) (hown:∀h∈H,∀k,h.blk=some k→XbO R k∨wr.heap.size≤k) :
  wpOp P ops (Xee Δ V O w0 Q) j (fun a' w'=>(([]:List Nat).contains j=false→Xfs wr R w→Xfs wr R w')∧Xb7 P .any ops (Xee Δ V O w0 Q) [] (Xfs wr R) fuel (listed.setIfInBounds j true) a' w') a w:=by
 unfold wpOp
 simp only [hi]
 rw [if_pos (by simp [Region.wanted,hg])]
 have r0:Rel Δ V O w0 ([]++H) T a w:=r
 refine .inl (h _ _ _ _ a w _ _ r0.aside fun T' H' a' w' hk hr=>?_)
 obtain ⟨r',_⟩:=r0.rejoin hr
 have hS':Xfs wr R w':=fun k hk hn=>by
  refine (hr.fr.block k (Nat.lt_of_lt_of_le hk hz) fun ⟨y,hy,e⟩=>?_).trans (hS k hk hn)
  rcases hown y hy k e with h1|h1
  ·exact hn h1
  ·omega
 refine ⟨fun _ _=>hS',hk Δ V O w0 wr a' w' r' hS' (Nat.le_trans hz hr.fr.size) fun x hx k e=>?_⟩
 rcases hr.own x hx k e with ⟨y,hy,e'⟩|h1
 ·exact hown y hy k e'
 ·exact .inr (Nat.le_trans hz h1)
theorem Xc0 (i:Nat) {o:Oper} {l:List Oper} (hr:Region.ready .any l.toArray listed=[i]) (hi:Xdp l i=some o) (hg:o.guard=none) (h:Stp P o T H (Xl5 P l.toArray Q R fuel (listed.setIfInBounds i true))):Xl5 P l.toArray Q R (fuel+1) listed T H:=fun Δ V O w0 wr a w r hS hz hown=>
 ⟨fun h0=>(by rw [hr] at h0;cases h0),fun j hj=>by
  rw [hr,List.mem_singleton] at hj;subst hj
  exact Xgx (by rw [List.getElem?_toArray,←Xb3];exact hi) hg h Δ V O w0 wr r hS hz hown⟩
end
set_option maxRecDepth 100000
instance:HFv Tryz.prog 63 0 0 false 1:=⟨by kernel_rfl⟩
open Go.RowKit
def Xem (f:Nat) (p:UInt8→Bool):Prop:=∀b:UInt8,Xbv Tryz.prog f [] [.x (.int .u8 (b.toNat:Nat))] (fun r H'=>r=.x (.bool (p b))∧H'=[])
def Xne (b:UInt8):Int:=match Xgg b with|some n=>(n:Int)|none => -1
theorem Xgf {b:UInt8} {n:Nat} (h:Xgg b=some n):Xne b=n:=by unfold Xne;rw [h]
theorem Xge {b:UInt8} (h:Xgg b=none):Xne b = -1:=by unfold Xne;rw [h]
theorem Xfp:Xem 73 Xc3:=by
 intro b
 refine XaP Tryz.func73 rfl ?_
 simp only [Tryz.ntmps73,Xpq,Xpt,Xpu,Xpv,Xpy,Xpx,Nat.reduceAdd,Nat.reduceSub]
 (repeat' (first|with_reducible (first|refine Xaj ?_|refine Xac ?_|refine Xaw ?_|refine Xaf ?_|refine Xaa ?_)|((first|apply Xad rfl|apply Xbr _ _ rfl rfl rfl);(case h=>((try (intro (hp:(_:Bool)=true);((try simp only [Bool.and_eq_true,Bool.not_eq_true',Bool.not_eq_true] at hp);(try simp only [hp,wte]);(try simp only [whn] at hp))));(first|(apply Xab 0 rfl;(first|exact Xar _ rfl|exact Xav _ rfl))|(apply Xab 1 rfl;(first|exact XbL _ _ _ _ _ rfl rfl rfl rfl|exact Xcn _ _ _ _ _ rfl rfl rfl rfl|exact XbY _ _ _ _ _ rfl rfl rfl rfl))|(apply XaJ;(case hs=>(intro _ _ h;cases h));(case hx=>rfl);(case hrun=>(intro w;simp [wtb,AV.val,go_sem];(try go_bits);rfl))))));(case hT=>((try simp only [wtn,Xpr,Xpo,Xpp,Xps,Xpw,Nat.reduceAdd,Nat.reduceMul,Nat.reduceSub,↓reduceIte,Nat.reduceEqDiff]);rfl)))|fail))
 refine Xan _ _ (Xb2 rfl (RV.tmp _) (XaK.mk' [] _ (Xpn _) (XaI.refl _ _) (VwL.refl _ _))) ?_
 refine ⟨?_,rfl⟩
 simp only [ev,List.getD_cons_succ,List.getD_cons_zero]
 congr 2
 rw [Bool.eq_iff_iff]
 unfold Xc3
 simp only [Bool.and_eq_true,Bool.or_eq_true,decide_eq_true_eq,beq_iff_eq]
 omega
theorem XeR:Xem 76 XbC:=by
 intro b
 refine XaP Tryz.func76 rfl ?_
 simp only [Tryz.ntmps76,Xpq,Xpt,Xpu,Xpv,Xpy,Xpx,Nat.reduceAdd,Nat.reduceSub]
 (repeat' (first|with_reducible (first|refine Xaj ?_|refine Xac ?_|refine Xaw ?_|refine Xaf ?_|refine Xaa ?_)|((first|apply Xad rfl|apply Xbr _ _ rfl rfl rfl);(case h=>((try (intro (hp:(_:Bool)=true);((try simp only [Bool.and_eq_true,Bool.not_eq_true',Bool.not_eq_true] at hp);(try simp only [hp,wte]);(try simp only [whn] at hp))));(first|(apply Xab 0 rfl;(first|exact Xar _ rfl|exact Xav _ rfl))|(apply Xab 1 rfl;(exact XbL _ _ _ _ _ rfl rfl rfl rfl))|(apply XaJ;(case hs=>(intro _ _ h;cases h));(case hx=>rfl);(case hrun=>(intro w;simp [wtb,AV.val,go_sem];(try go_bits);rfl))))));(case hT=>((try simp only [wtn,Xpr,Xpo,Xpp,Xps,Xpw,Nat.reduceAdd,Nat.reduceMul,Nat.reduceSub,↓reduceIte,Nat.reduceEqDiff]);rfl)))|fail))
 refine Xan _ _ (Xb2 rfl (RV.tmp _) (XaK.mk' [] _ (Xpn _) (XaI.refl _ _) (VwL.refl _ _))) ?_
 refine ⟨?_,rfl⟩
 simp only [ev,List.getD_cons_succ,List.getD_cons_zero]
 congr 2
 rw [Bool.eq_iff_iff]
 unfold XbC
 simp only [Bool.and_eq_true,Bool.or_eq_true,decide_eq_true_eq,beq_iff_eq]
 omega
theorem XkR:Xem 75 XcZ:=by
 intro b
 refine XaP Tryz.func75 rfl ?_
 simp only [Tryz.ntmps75,Xpq,Xpt,Xpu,Xpv,Xpy,Xpx,Nat.reduceAdd,Nat.reduceSub]
 (repeat' (first|with_reducible (first|refine Xaj ?_|refine Xac ?_|refine Xaw ?_|refine Xaf ?_|refine Xaa ?_)|((first|apply Xad rfl|apply Xbr _ _ rfl rfl rfl);(case h=>((try (intro (hp:(_:Bool)=true);((try simp only [Bool.and_eq_true,Bool.not_eq_true',Bool.not_eq_true] at hp);(try simp only [hp,wte]);(try simp only [whn] at hp))));(first|(apply Xab 0 rfl;(first|exact Xar _ rfl|exact Xav _ rfl))|(apply Xab 1 rfl;(exact Xcn _ _ _ _ _ rfl rfl rfl rfl))|(apply Xab 11 rfl;(first|exact XaE 73 Tryz.f73 _ _ rfl rfl Tryz.func73 (by decide) rfl (VwL.refl _ _) (Xfp b)|exact XaE 76 Tryz.f76 _ _ rfl rfl Tryz.func76 (by decide) rfl (VwL.refl _ _) (XeR b)))|(apply XaJ;(case hs=>(intro _ _ h;cases h));(case hx=>rfl);(case hrun=>(intro w;simp [wtb,AV.val,go_sem];(try go_bits);rfl))))));(case hT=>((try simp only [wtn,Xpr,Xpo,Xpp,Xps,Xpw,Nat.reduceAdd,Nat.reduceMul,Nat.reduceSub,↓reduceIte,Nat.reduceEqDiff]);rfl)))|fail))
 refine Xan _ _ (Xb2 rfl (RV.tmp _) (XaK.mk' [] _ (Xpn _) (XaI.refl _ _) (VwL.refl _ _))) ?_
 refine ⟨?_,rfl⟩
 simp only [ev,List.getD_cons_succ,List.getD_cons_zero]
 congr 2
 rw [Bool.eq_iff_iff]
 unfold XcZ
 simp only [Bool.and_eq_true,Bool.or_eq_true,decide_eq_true_eq,beq_iff_eq]
 rcases Bool.eq_false_or_eq_true (Xc3 b) with h1|h1<;>rcases Bool.eq_false_or_eq_true (XbC b) with h2|h2<;>simp [h1,h2]<;>omega
theorem XnG (b:UInt8):Xbv Tryz.prog 108 [] [.x (.int .u8 (b.toNat:Nat))] (fun r H'=>r=.x (.int .i64 (Xne b))∧H'=[]):=by
 have hb:=b.toNat_lt
 refine XaP Tryz.func108 rfl ?_
 simp only [Tryz.ntmps108,Xpq,Xpt,Xpu,Xpv,Xpy,Xpx,Nat.reduceAdd,Nat.reduceSub]
 (repeat' (first|with_reducible (first|refine Xaj ?_|refine Xac ?_|refine Xas ?_|refine Xaw ?_|refine Xaz ?_|refine Xaf ?_|refine Xaa ?_|refine XaA ?_|refine Xah ?_|refine Xau ?_)|(refine Xal _ rfl (fun h=>?_) (fun h=>?_)<;>((try (simp only [whn] at h));skip))|((first|apply Xad rfl|apply Xbr _ _ rfl rfl rfl);(case h=>((try (intro (hp:(_:Bool)=true);((try simp only [Bool.and_eq_true,Bool.not_eq_true',Bool.not_eq_true] at hp);(try simp only [hp,wte]);(try simp only [whn] at hp))));(first|(apply Xab 0 rfl;(first|exact Xar _ rfl|exact Xav _ rfl))|(apply Xab 1 rfl;(exact XbL _ _ _ _ _ rfl rfl rfl rfl))|(apply XaJ;(case hs=>(intro _ _ h;cases h));(case hx=>rfl);(case hrun=>(intro w;simp [wtb,AV.val,go_sem];(try go_bits);rfl))))));(case hT=>((try simp only [wtn,Xpr,Xpo,Xpp,Xps,Xpw,Nat.reduceAdd,Nat.reduceMul,Nat.reduceSub,↓reduceIte,Nat.reduceEqDiff]);rfl)))|fail))
 all_goals
  refine Xan _ _ (Xb2 rfl (RV.tmp _) (XaK.mk' [] _ (Xpn _) (XaI.refl _ _) (VwL.refl _ _))) ?_
  refine ⟨?_,rfl⟩
  simp only [ev,List.getD_cons_succ,List.getD_cons_zero]
  congr 2
  unfold Xne Xgg
  first
   | (rw [if_pos (by omega)];simp only;omega)
   | (rw [if_neg (by omega),if_pos (by omega)];simp only;omega)
   | (rw [if_neg (by omega),if_neg (by omega),if_pos (by omega)];simp only;omega)
   | (rw [if_neg (by omega),if_neg (by omega),if_neg (by omega)])
def XgA (l:List UInt8):UInt8 × Nat:=match XdF l with|some x=>x|none=>(0,0)
theorem Xda {l:List UInt8} {x:UInt8 × Nat} (h:XdF l=some x):XgA l=x:=by unfold XgA;rw [h]
theorem XcM {l:List UInt8} (h:XdF l=none):XgA l=(0,0):=by unfold XgA;rw [h]
theorem or4 {p q:Nat} (hp:p < 16) (hq:q < 16):bits BinOp.or IntKind.i64 ((p:Int)*16) (q:Int) % 256=((UInt8.ofNat (16*p+q)).toNat:Int):=by
 have e:((p:Int)*16)=((p*16:Nat):Int):=by simp
 rw [e]
 have e2:bits BinOp.or IntKind.i64 ((p*16:Nat):Int) (q:Int)=((16*p+q:Nat):Int):=by
  show IntKind.i64.wrap (((BitVec.ofInt 64 ((p*16:Nat):Int) ||| BitVec.ofInt 64 (q:Int)).toNat:Nat):Int)=_
  rw [BitVec.ofInt_natCast,BitVec.ofInt_natCast,BitVec.toNat_or,BitVec.toNat_ofNat,BitVec.toNat_ofNat,Nat.mod_eq_of_lt (by omega),Nat.mod_eq_of_lt (by omega),Nat.mul_comm,←Nat.two_pow_add_eq_or_of_lt (i:=4) (by omega)]
  simp [IntKind.wrap,IntKind.signed,IntKind.bits]
  omega
 rw [e2,UInt8.toNat_ofNat']
 omega
theorem Xg0:Xbv Tryz.prog 93 [] [.x (.string (bs []))] (fun r H'=>r=.tup [.x (.int .u8 0),.x (.int .i64 0)]∧H'=[]):=by
 refine XaP Tryz.func93 rfl ?_
 simp only [Tryz.ntmps93,Xpq,Xpt,Xpu,Xpv,Xpy,Xpx,Nat.reduceAdd,Nat.reduceSub]
 (repeat' (first|with_reducible (first|refine Xaj ?_|refine Xac ?_|refine Xaw ?_|refine Xaf ?_|refine Xaa ?_|refine XaA ?_)|(refine Xal _ rfl (fun h=>?_) (fun h=>?_)<;>first|(exact absurd h (by decide))|((try (simp only [whn] at h));skip))|((apply Xad rfl);(case h=>((try (intro (hp:(_:Bool)=true);((try simp only [Bool.and_eq_true,Bool.not_eq_true',Bool.not_eq_true] at hp);(try simp only [hp,wte]);(try simp only [whn] at hp))));(first|(apply Xab 0 rfl;(first|exact Xar _ rfl|exact Xav _ rfl))|(apply XaJ;(case hs=>(intro _ _ h;cases h));(case hx=>rfl);(case hrun=>(intro w;simp [wtb,AV.val,go_sem];(try go_bits);rfl))))));(case hT=>((try simp only [wtn,Xpr,Xpo,Xpp,Xps,Xpw,Nat.reduceAdd,Nat.reduceMul,Nat.reduceSub,↓reduceIte,Nat.reduceEqDiff]);rfl)))|fail))
 exact Xan _ _ (Xe9 rfl (RV.tmp _) (RV.tmp _) (XaK.mk' [] [] (Xpn _) XaI.nil (VwL.refl _ _))) ⟨rfl,rfl⟩
theorem Xf7 (c:UInt8) (r:List UInt8) (hl:r.length≤1000000):Xbv Tryz.prog 93 [] [.x (.string (bs (c :: r)))] (fun q H'=>q=.tup [.x (.int .u8 ((XgA (c :: r)).1.toNat:Nat)),.x (.int .i64 ((XgA (c :: r)).2:Nat))]∧H'=[]):=by
 refine XaP Tryz.func93 rfl ?_
 simp only [Tryz.ntmps93,Xpq,Xpt,Xpu,Xpv,Xpy,Xpx,Nat.reduceAdd,Nat.reduceSub]
 (repeat' (first|with_reducible (first|refine Xaj ?_|refine Xac ?_|refine Xas ?_|refine Xaw ?_|refine Xaz ?_|refine Xaf ?_|refine Xaa ?_|refine XaA ?_|refine Xah ?_|refine Xau ?_)|(refine Xal _ rfl (fun h=>?_) (fun h=>?_)<;>first|(exact absurd h (by decide))|((try (simp only [whn] at h));first|(exfalso;omega;done)|skip))|((apply Xad rfl);(case h=>((try (intro (hp:(_:Bool)=true);((try simp only [Bool.and_eq_true,Bool.not_eq_true',Bool.not_eq_true] at hp);(try simp only [hp,wte]);(try simp only [whn] at hp))));(first|(apply Xab 0 rfl;(first|exact Xar _ rfl|exact Xav _ rfl))|(apply Xab 8 rfl;(exact XaW _ _ _ _ _ 0 _ rfl rfl rfl (by kernel_rfl) rfl (by simp;first|done|fail)))|(apply XaJ;(case hs=>(intro _ _ h;cases h));(case hx=>rfl);(case hrun=>(intro w;simp [wtb,AV.val,go_sem];(try go_bits);rfl))))));(case hT=>((try simp only [wtn,Xpr,Xpo,Xpp,Xps,Xpw,Nat.reduceAdd,Nat.reduceMul,Nat.reduceSub,↓reduceIte,Nat.reduceEqDiff]);rfl)))|fail))
 case hK.hK.hK.hK.refine_2.hK.hK.hK.hK.refine_2.hK.hK.refine_2.hK.hK.refine_2.hK.hK.refine_2.hK.hK.refine_1.hK.hK.hK.refine_2=>
  obtain ⟨a,b,r',rfl⟩:∃a b r',r=a :: b :: r':=by
   match r,h with
   | [],h=>simp at h
   | [a],h=>simp at h
   | a :: b :: r',_=>exact ⟨a,b,r',rfl⟩
  refine Xch mixed ?_
  (apply XbM 0 rfl rfl (by kernel_rfl) (by intro c T H hp;simp [Xa1,Xaq,Xa8,XbI] at hp);(case h=>(first|exact Xbc _ rfl|fail));(apply Xao;(case hT=>((try simp only [wtn,Xpr,Xpo,Xpp,Xps,Xpw,Nat.reduceAdd,Nat.reduceMul,Nat.reduceSub,↓reduceIte,Nat.reduceEqDiff]);rfl));(case hH=>rfl)))
  (apply XbM 1 rfl rfl (by kernel_rfl) (by intro c T H hp;simp [Xa1,Xaq,Xa8,XbI] at hp);(case h=>exact Xdr _ _ _ _ _ 1 _ rfl rfl rfl (by kernel_rfl) rfl (by simp;first|done|fail));(apply Xao;(case hT=>((try simp only [wtn,Xpr,Xpo,Xpp,Xps,Xpw,Nat.reduceAdd,Nat.reduceMul,Nat.reduceSub,↓reduceIte,Nat.reduceEqDiff]);rfl));(case hH=>rfl)))
  (apply XbM 3 rfl rfl (by kernel_rfl) (by intro c T H hp;simp [Xa1,Xaq,Xa8,XbI] at hp);(case h=>(first|exact Xbc _ rfl|fail));(apply Xao;(case hT=>((try simp only [wtn,Xpr,Xpo,Xpp,Xps,Xpw,Nat.reduceAdd,Nat.reduceMul,Nat.reduceSub,↓reduceIte,Nat.reduceEqDiff]);rfl));(case hH=>rfl)))
  (apply XbM 4 rfl rfl (by kernel_rfl) (by intro c T H hp;simp [Xa1,Xaq,Xa8,XbI] at hp);(case h=>exact Xdr _ _ _ _ _ 2 _ rfl rfl rfl (by kernel_rfl) rfl (by simp;first|done|fail));(apply Xao;(case hT=>((try simp only [wtn,Xpr,Xpo,Xpp,Xps,Xpw,Nat.reduceAdd,Nat.reduceMul,Nat.reduceSub,↓reduceIte,Nat.reduceEqDiff]);rfl));(case hH=>rfl)))
  (refine Xbw 2 (by decide +kernel) rfl rfl ?_;(first|(apply XaU;(case h=>(apply Xab 11 rfl;(exact XaE 108 Tryz.f108 _ _ rfl rfl Tryz.func108 (by decide) rfl (VwL.refl _ _) (XnG a))));(apply Xao;(case hT=>((try simp only [wtn,Xpr,Xpo,Xpp,Xps,Xpw,Nat.reduceAdd,Nat.reduceMul,Nat.reduceSub,↓reduceIte,Nat.reduceEqDiff]);rfl));(case hH=>rfl)))|fail))
  (refine Xbw 5 (by decide +kernel) rfl rfl ?_;(first|(apply XaU;(case h=>(apply Xab 11 rfl;(exact XaE 108 Tryz.f108 _ _ rfl rfl Tryz.func108 (by decide) rfl (VwL.refl _ _) (XnG b))));(apply Xao;(case hT=>((try simp only [wtn,Xpr,Xpo,Xpp,Xps,Xpw,Nat.reduceAdd,Nat.reduceMul,Nat.reduceSub,↓reduceIte,Nat.reduceEqDiff]);rfl));(case hH=>rfl)))|fail))
  (refine Xbw 6 (by decide +kernel) rfl rfl ?_;(first|(apply XaU;(case h=>(apply Xab 0 rfl;(exact Xav _ rfl)));(apply Xao;(case hT=>((try simp only [wtn,Xpr,Xpo,Xpp,Xps,Xpw,Nat.reduceAdd,Nat.reduceMul,Nat.reduceSub,↓reduceIte,Nat.reduceEqDiff]);rfl));(case hH=>rfl)))|fail))
  (refine Xbw 7 (by decide +kernel) rfl rfl ?_;(first|(apply XaU;(case h=>(apply Xab 0 rfl;(exact Xav _ rfl)));(apply Xao;(case hT=>((try simp only [wtn,Xpr,Xpo,Xpp,Xps,Xpw,Nat.reduceAdd,Nat.reduceMul,Nat.reduceSub,↓reduceIte,Nat.reduceEqDiff]);rfl));(case hH=>rfl)))|fail))
  refine XaV (by decide +kernel) ?_
  cases ha:Xgg a with
  | none=>
    have e1:=Xge ha
    simp only [e1]
    (repeat' (first|with_reducible (first|refine Xaj ?_|refine Xac ?_|refine Xaw ?_|refine Xaf ?_|refine Xaa ?_|refine XaA ?_|refine Xau ?_)|(refine Xal _ rfl (fun h=>?_) (fun h=>?_)<;>first|(exact absurd h (by decide))|((try (simp only [whn] at h));skip))|((apply Xcq rfl rfl rfl);(case hT=>((try simp only [wtn,Xpr,Xpo,Xpp,Xps,Xpw,Nat.reduceAdd,Nat.reduceMul,Nat.reduceSub,↓reduceIte,Nat.reduceEqDiff]);rfl)))|((apply Xad rfl);(case h=>((try (intro (hp:(_:Bool)=true);((try simp only [Bool.and_eq_true,Bool.not_eq_true',Bool.not_eq_true] at hp);(try simp only [hp,wte]);(try simp only [whn] at hp))));(first|(apply Xab 0 rfl;(first|exact Xar _ rfl|exact Xav _ rfl))|(apply Xab 1 rfl;(exact XbF _ _ _ rfl rfl))|(apply XaJ;(case hs=>(intro _ _ h;cases h));(case hx=>rfl);(case hrun=>(intro w;simp [wtb,AV.val,go_sem];(try go_bits);rfl))))));(case hT=>((try simp only [wtn,Xpr,Xpo,Xpp,Xps,Xpw,Nat.reduceAdd,Nat.reduceMul,Nat.reduceSub,↓reduceIte,Nat.reduceEqDiff]);rfl)))|fail))
    have e:XgA (c :: a :: b :: r')=(0,0):=XcM (by rw [XhD c a b r' (by omega),ha];rfl)
    rw [e]
    exact Xan _ _ (Xe9 rfl (RV.tmp _) (RV.tmp _) (XaK.mk' [] [] (Xpn _) XaI.nil (VwL.refl _ _))) ⟨rfl,rfl⟩
  | some p=>
    have e1:=Xgf ha
    have hp:=Xjy ha
    cases hb:Xgg b with
    | none=>
      have e2:=Xge hb
      simp only [e1,e2]
      (repeat' (first|with_reducible (first|refine Xaj ?_|refine Xac ?_|refine Xaw ?_|refine Xaf ?_|refine Xaa ?_|refine XaA ?_|refine Xau ?_)|(refine Xal _ rfl (fun h=>?_) (fun h=>?_)<;>first|(exact absurd h (by decide))|((try (simp only [whn] at h));skip))|((first|apply Xad rfl|apply Xbr _ _ rfl rfl rfl);(case h=>((try (intro (hp:(_:Bool)=true);((try simp only [Bool.and_eq_true,Bool.not_eq_true',Bool.not_eq_true] at hp);(try simp only [hp,wte]);(try simp only [whn] at hp))));(first|(apply Xab 0 rfl;(first|exact Xar _ rfl|exact Xav _ rfl))|(apply Xab 1 rfl;(exact XbE _ _ _ rfl rfl))|(apply XaJ;(case hs=>(intro _ _ h;cases h));(case hx=>rfl);(case hrun=>(intro w;simp [wtb,AV.val,go_sem];(try go_bits);rfl))))));(case hT=>((try simp only [wtn,Xpr,Xpo,Xpp,Xps,Xpw,Nat.reduceAdd,Nat.reduceMul,Nat.reduceSub,↓reduceIte,Nat.reduceEqDiff]);rfl)))|fail))
      have e:XgA (c :: a :: b :: r')=(0,0):=XcM (by rw [XhD c a b r' (by omega),ha,hb];rfl)
      rw [e]
      exact Xan _ _ (Xe9 rfl (RV.tmp _) (RV.tmp _) (XaK.mk' [] [] (Xpn _) XaI.nil (VwL.refl _ _))) ⟨rfl,rfl⟩
    | some q=>
      have e2:=Xgf hb
      have hq:=Xjy hb
      simp only [e1,e2]
      (repeat' (first|with_reducible (first|refine Xaj ?_|refine Xac ?_|refine Xaw ?_|refine Xaz ?_|refine Xaf ?_|refine Xaa ?_|refine XaA ?_|refine Xau ?_)|(refine Xal _ rfl (fun h=>?_) (fun h=>?_)<;>((try (simp only [whn] at h));first|(exfalso;omega;done)|skip))|((first|apply Xad rfl|apply Xbr _ _ rfl rfl rfl);(case h=>((try (intro (hp:(_:Bool)=true);((try simp only [Bool.and_eq_true,Bool.not_eq_true',Bool.not_eq_true] at hp);(try simp only [hp,wte]);(try simp only [whn] at hp))));(first|(apply Xab 0 rfl;(first|exact Xar _ rfl|exact Xav _ rfl))|(apply Xab 1 rfl;(exact XbE _ _ _ rfl rfl))|(apply XaJ;(case hs=>(intro _ _ h;cases h));(case hx=>rfl);(case hrun=>(intro w;simp [wtb,AV.val,go_sem];(try go_bits);rfl))))));(case hT=>((try simp only [wtn,Xpr,Xpo,Xpp,Xps,Xpw,Nat.reduceAdd,Nat.reduceMul,Nat.reduceSub,↓reduceIte,Nat.reduceEqDiff]);rfl)))|fail))
      have e:XgA (c :: a :: b :: r')=(UInt8.ofNat (16*p+q),3):=Xda (by rw [XhD c a b r' (by omega),ha,hb];rfl)
      have e4:=or4 hp hq
      rw [e,←e4]
      exact Xan _ _ (Xe9 rfl (RV.tmp _) (RV.tmp _) (XaK.mk' [] [] (Xpn _) XaI.nil (VwL.refl _ _))) ⟨rfl,rfl⟩
 all_goals first
  | (rw [Xda (Xf8 c r (by omega))];exact Xan _ _ (Xe9 rfl (RV.tmp _) (RV.tmp _) (XaK.mk' [] [] (Xpn _) XaI.nil (VwL.refl _ _))) ⟨rfl,rfl⟩)
  | (rw [Xda (XlI c r (by omega))];exact Xan _ _ (Xe9 rfl (RV.tmp _) (RV.tmp _) (XaK.mk' [] [] (Xpn _) XaI.nil (VwL.refl _ _))) ⟨rfl,rfl⟩)
  | (rw [Xda (XlJ c r (by omega))];exact Xan _ _ (Xe9 rfl (RV.tmp _) (RV.tmp _) (XaK.mk' [] [] (Xpn _) XaI.nil (VwL.refl _ _))) ⟨rfl,rfl⟩)
  | (have e:XgA (c :: r)=(0,0):=by
      match r,h with
      | [],_=>exact XcM (Xmh c (by omega))
      | [a],_=>exact XcM (Xmi c a (by omega))
      | a :: b :: r',h=>simp at h;omega
     rw [e];exact Xan _ _ (Xe9 rfl (RV.tmp _) (RV.tmp _) (XaK.mk' [] [] (Xpn _) XaI.nil (VwL.refl _ _))) ⟨rfl,rfl⟩)
  | (rw [XcM (Xmg c r (by omega))];exact Xan _ _ (Xe9 rfl (RV.tmp _) (RV.tmp _) (XaK.mk' [] [] (Xpn _) XaI.nil (VwL.refl _ _))) ⟨rfl,rfl⟩)
  | trace_state
theorem Xjl (l:List UInt8) (hl:l.length≤1000000):Xbv Tryz.prog 93 [] [.x (.string (bs l))] (fun q H'=>q=.tup [.x (.int .u8 ((XgA l).1.toNat:Nat)),.x (.int .i64 ((XgA l).2:Nat))]∧H'=[]):=by
 cases l with
 | nil=>exact Xg0
 | cons c r=>exact Xf7 c r (by simp at hl;omega)
theorem Xfx (l:List UInt8) (k:Nat) (h:k < l.length):l.drop k=l.getD k 0 :: l.drop (k+1):=by
 rw [List.drop_eq_getElem_cons h,Xmq l k 0 h]
theorem XlW (f:Nat) (fn:Func) (p:UInt8→Bool) (hf:Tryz.prog.funcs[f]?=some fn) (hnn:fn.name≠ "runtime.NumGoroutine") (hb:fn.body.isSome=true) (ht:Xem f p) (l:List UInt8) (hl:l.length≤1000000):Xbv Tryz.prog 74 [] [.x (.string (bs l)),.x (.func (.func f) #[] #[])] (fun r H'=>r=.x (.int .i64 (spn p l:Nat))∧H'=[]):=by
 refine XaP Tryz.func74 rfl ?_
 simp only [Tryz.ntmps74,Xpq,Xpt,Xpu,Xpv,Xpy,Xpx,Nat.reduceAdd,Nat.reduceSub]
 (repeat' (first|with_reducible (first|refine Xaj ?_|refine Xac ?_|refine Xas ?_|refine Xaf ?_|refine Xaa ?_)|((apply Xad rfl);(case h=>((try (intro (hp:(_:Bool)=true);((try simp only [Bool.and_eq_true,Bool.not_eq_true',Bool.not_eq_true] at hp);(try simp only [hp,wte]);(try simp only [whn] at hp))));(apply Xab 0 rfl;(exact Xav _ rfl))));(case hT=>((try simp only [wtn,Xpr,Xpo,Xpp,Xps,Xpw,Nat.reduceAdd,Nat.reduceMul,Nat.reduceSub,↓reduceIte,Nat.reduceEqDiff]);rfl)))|fail))
 refine Xbn (S:=Nat) (fun k=>frm 20 [(0,.x (.string (bs l))),(1,.x (.func (.func f) #[] #[])),(5,.x (.int .i64 k))]) (fun _=>[]) (fun k=>k≤l.length∧spn p l=k+spn p (l.drop k)) (fun k=>l.length - k) 0 (XaK.mk' [] _ (Xpn _) (XaI.refl _ _) (by (repeat' (first|exact VwL.nil|(refine VwL.cons ?_ ?_)|exact Vw.refl _|exact Vw.top _|fail)))) ⟨Nat.zero_le _,by simp⟩ fun k hk=>?_
 obtain ⟨h1,h2⟩:=hk
 have h2':=Lib.hid h2
 clear h2
 simp only [frm,Xpu,Xpv,Xpo,Xpp,XpB,XpC]
 by_cases hk:k < l.length
 ·have hd:=Lib.hid (Xfx l k hk)
  have htb:=ht (l.getD k 0)
  cases hc:p (l.getD k 0) with
  | true=>
    rw [hc] at htb
    (repeat' (first|with_reducible (first|refine Xaj ?_|refine Xac ?_|refine Xas ?_|refine Xaz ?_|refine Xaf ?_|refine Xaa ?_|refine Xah ?_)|(refine Xal _ rfl (fun h=>?_) (fun h=>?_)<;>((try (simp only [whn] at h));first|(exfalso;omega;done)|skip))|((first|apply Xad rfl|apply Xbr _ _ rfl rfl rfl);(case h=>((try (intro (hp:(_:Bool)=true);((try simp only [Bool.and_eq_true,Bool.not_eq_true',Bool.not_eq_true] at hp);(try simp only [hp,wte]);(try simp only [whn] at hp))));(first|(apply Xab 0 rfl;(first|exact Xar _ rfl|exact Xav _ rfl))|(apply Xab 1 rfl;(exact XbL _ _ _ _ _ rfl rfl rfl rfl))|(apply Xab 8 rfl;(exact XaW _ _ _ _ _ _ _ rfl rfl rfl (by kernel_rfl) rfl (by omega)))|(apply Xab 11 rfl;(exact XaE f fn _ _ rfl rfl hf hnn hb (VwL.refl _ _) htb))|(apply XaJ;(case hs=>(intro _ _ h;cases h));(case hx=>rfl);(case hrun=>(intro w;simp [wtb,AV.val,go_sem];(try go_bits);rfl))))));(case hT=>((try simp only [wtn,Xpr,Xpo,Xpp,Xps,Xpw,Nat.reduceAdd,Nat.reduceMul,Nat.reduceSub,↓reduceIte,Nat.reduceEqDiff]);rfl)))|fail))
    refine ⟨k+1,by omega,⟨by omega,?_⟩,(XaK.mk' [] _ (Xpn _) (XaI.refl _ _) (by (repeat' (first|exact VwL.nil|(refine VwL.cons ?_ ?_)|exact Vw.refl _|exact Vw.top _|fail))))⟩
    rw [h2'.out,hd.out,Xd6 _ _ _ hc];omega
  | false=>
    rw [hc] at htb
    (repeat' (first|with_reducible (first|refine Xaj ?_|refine Xac ?_|refine Xaw ?_|refine Xa4 ?_|refine Xaf ?_|refine Xaa ?_|refine XaO ?_|refine XaH ?_)|(refine Xal _ rfl (fun h=>?_) (fun h=>?_)<;>first|(exact absurd h (by decide))|((try (simp only [whn] at h));skip))|((first|apply Xad rfl|apply Xbr _ _ rfl rfl rfl);(case h=>((try (intro (hp:(_:Bool)=true);((try simp only [Bool.and_eq_true,Bool.not_eq_true',Bool.not_eq_true] at hp);(try simp only [hp,wte]);(try simp only [whn] at hp))));(first|(apply Xab 0 rfl;(first|exact Xar _ rfl|exact Xav _ rfl))|(apply Xab 1 rfl;(exact XbL _ _ _ _ _ rfl rfl rfl rfl))|(apply Xab 8 rfl;(exact XaW _ _ _ _ _ _ _ rfl rfl rfl (by kernel_rfl) rfl (by omega)))|(apply Xab 11 rfl;(exact XaE f fn _ _ rfl rfl hf hnn hb (VwL.refl _ _) htb))|(apply XaJ;(case hs=>(intro _ _ h;cases h));(case hx=>rfl);(case hrun=>(intro w;simp [wtb,AV.val,go_sem];(try go_bits);rfl))))));(case hT=>((try simp only [wtn,Xpr,Xpo,Xpp,Xps,Xpw,Nat.reduceAdd,Nat.reduceMul,Nat.reduceSub,↓reduceIte,Nat.reduceEqDiff]);rfl)))|fail))
    refine Xan _ _ (Xb2 rfl (RV.tmp _) (XaK.mk' [] _ (Xpn _) (XaI.refl _ _) (VwL.refl _ _))) ?_
    refine ⟨?_,rfl⟩
    rw [h2'.out,hd.out,Xkl _ _ _ hc];rfl
 ·have htb:=ht 0
  (repeat' (first|with_reducible (first|refine Xaj ?_|refine Xac ?_|refine Xaw ?_|refine Xa4 ?_|refine Xaf ?_|refine Xaa ?_|refine XaO ?_|refine XaH ?_)|(refine Xal _ rfl (fun h=>?_) (fun h=>?_)<;>first|(exact absurd h (by decide))|((try (simp only [whn] at h));skip))|((first|apply Xad rfl|apply Xbr _ _ rfl rfl rfl);(case h=>((try (intro (hp:(_:Bool)=true);((try simp only [Bool.and_eq_true,Bool.not_eq_true',Bool.not_eq_true] at hp);(try simp only [hp,wte]);(try simp only [whn] at hp))));(first|(apply Xab 0 rfl;(first|exact Xar _ rfl|exact Xav _ rfl))|(apply Xab 1 rfl;(exact XbL _ _ _ _ _ rfl rfl rfl rfl))|(apply Xab 8 rfl;(exact XaW _ _ _ _ _ _ _ rfl rfl rfl (by kernel_rfl) rfl (by omega)))|(apply Xab 11 rfl;(exact XaE f fn _ (.x (.bool false)) rfl rfl hf hnn hb (VwL.refl _ _) (by exfalso;omega)))|(apply XaJ;(case hs=>(intro _ _ h;cases h));(case hx=>rfl);(case hrun=>(intro w;simp [wtb,AV.val,go_sem];(try go_bits);rfl))))));(case hT=>((try simp only [wtn,Xpr,Xpo,Xpp,Xps,Xpw,Nat.reduceAdd,Nat.reduceMul,Nat.reduceSub,↓reduceIte,Nat.reduceEqDiff]);rfl)))|fail))
  refine Xan _ _ (Xb2 rfl (RV.tmp _) (XaK.mk' [] _ (Xpn _) (XaI.refl _ _) (VwL.refl _ _))) ?_
  refine ⟨?_,rfl⟩
  have e:l.drop k=[]:=List.drop_eq_nil_of_le (by omega)
  rw [h2'.out,e];rfl
def scc (t:List UInt8) (at_ line col:Int):List AV:=[.x (.string (bs t)),.x (.int .i64 at_),.x (.int .i64 line),.x (.int .i64 col)]
theorem Xc4 (b:Nat) (t:List UInt8) (i line col:Int) (n:Nat) (hi:0≤i∧i≤1000000) (hc:0≤col∧col≤1000000) (hn:n≤1000000):Xbv Tryz.prog 51 [.box b (scc t i line col)] [.x (.pointer (some ⟨b,0,none⟩)),.x (.int .i64 n)] (fun r H'=>H'=[.box b (scc t (i+n) line (col+n))]):=by
 unfold scc
 refine XaP Tryz.func51 rfl ?_
 simp only [Tryz.ntmps51,Xpq,Xpt,Xpu,Xpv,Xpy,Xpx,Nat.reduceAdd,Nat.reduceSub]
 (repeat' (first|with_reducible (first|refine Xaj ?_|refine Xac ?_|refine Xaf ?_|refine Xaa ?_)|((apply Xad rfl);(case h=>((try (intro (hp:(_:Bool)=true);((try simp only [Bool.and_eq_true,Bool.not_eq_true',Bool.not_eq_true] at hp);(try simp only [hp,wte]);(try simp only [whn] at hp))));(first|(apply Xab 0 rfl;(exact Xar _ rfl))|(apply Xab 4 rfl;(exact XaR _ rfl (by first|exact .inl ⟨_,rfl⟩|fail)))|(apply Xab 5 rfl;(exact Xag _ _ _ _ _ _ rfl rfl Xbb.out))|(apply Xab 6 rfl;(exact Xay _ _ _ _ _ _ _ _ rfl rfl Xa0.out XaT.out (by first|exact Xpm rfl|fail) (by first|exact Xpm rfl|fail)))|(apply XaJ;(case hs=>(intro _ _ h;cases h));(case hx=>rfl);(case hrun=>(intro w;simp [wtb,AV.val,go_sem];(try go_bits);rfl))))));(case hT=>((try simp only [wtn,Xpr,Xpo,Xpp,Xps,Xpw,Nat.reduceAdd,Nat.reduceMul,Nat.reduceSub,↓reduceIte,Nat.reduceEqDiff]);rfl)))|(refine Xak rfl ?_;((refine Xap 16 rfl ?_;(refine Xat _ _ _ _ _ _ _ rfl rfl Xa0.out XaS.out (by first|rfl|fail) (by first|exact Xpm rfl|fail) ?_));apply Xai;(case hT=>((try simp only [wtn,Xpr,Xpo,Xpp,Xps,Xpw,Nat.reduceAdd,Nat.reduceMul,Nat.reduceSub,↓reduceIte,Nat.reduceEqDiff]);rfl));(case hH=>((try simp only [wtn,Xpr,Xpo,Xpp,Xps,Xpw,Nat.reduceAdd,Nat.reduceMul,Nat.reduceSub,↓reduceIte,Nat.reduceEqDiff]);rfl))))|fail))
 exact Xcj _ _ (Xeu rfl (XaK.mk' [] _ (Xpn _) (XaI.refl _ _) (by (repeat' (first|exact VwL.nil|fail))))) rfl
theorem XfA (l:List UInt8):(Lib.indexByte l 10 = -1∧cmt l=l.length)∨Lib.indexByte l 10=cmt l:=by
 induction l with
 | nil=>exact .inl ⟨rfl,rfl⟩
 | cons c r ih=>
   by_cases h:c.toNat=10
   ·have e:c=10:=UInt8.toNat_inj.1 h
    subst e
    right
    rw [XlE _ _ h]
    rfl
   ·have e:(c == 10)=false:=by
     rw [XpE]
     intro e;subst e;exact h rfl
    rw [XeG _ _ h]
    unfold Lib.indexByte
    rw [e]
    simp only [Bool.false_eq_true,if_false,Xpq]
    rcases ih with ⟨h1,h2⟩|h1
    ·left;simp [h1,h2]
    ·right
     rw [h1]
     have:((cmt r:Int) == -1)=false:=by rw [XpE];omega
     rw [this]
     simp
theorem Xg3 (l:List UInt8):Xbv Tryz.prog 72 [] [.x (.string (bs l)),.x (.int .u8 10)] (fun r H'=>r=.x (.int .i64 (Lib.indexByte l 10))∧H'=[]):=
 XcJ (args:=[.string (bs l),.int .u8 10]) (fun w=>(strings_IndexByte (bs l) 10 w).mono fun e w' ⟨h1,h2⟩=>⟨by rw [h1];simp [bs],h2▸Below.refl _ _⟩) []
end Go.Proofs.YtcmfamgnmehojaaGreatDoor

import Derived.Test.YtdlblokjfoggpaaGreatDoorW15
import Derived.Test.YtdlblokjfoggpaaGreatDoorW9
import Derived.Test.YtdlblokjfoggpaaGreatDoorW0
import Derived.Test.YtdlblokjfoggpaaGreatDoorRows
import Derived.Lib.AppendZeros
import Derived.Test.YtdlblokjfoggpaaGreatDoorW2
import Derived.Test.YtdlblokjfoggpaaGreatDoorW12
/- Bytes of strings in regions that draw. -/
set_option linter.unusedSimpArgs false
set_option linter.unusedVariables false
set_option maxRecDepth 100000
set_option maxHeartbeats 8000000
namespace Go.Proofs.YtdlblokjfoggpaaGreatDoor
open Go.RowKit
theorem WInd_index_str {P:Program} {o:Oper} {ρ:Operand→AV} {H:List Hp} (t:TypeId) (x y:Operand) (k:IntKind) (i:Int) (j:Nat) (l:List UInt8) (ho:o.op=.index t x y) (hx:ρ x=.x (.string (bs l))) (hy:ρ y=.x (.int k i)) (ht:P.underlying t=some .string) (hi:i=(j:Int)) (h1:j < l.length):XeE P o ρ H (.x (.int .u8 (l.getD j 0).toNat)):=by
 subst hi
 intro V a w r
 have hg:(bs l)[j]?=some l[j]:=by rw [getElem?_pos (bs l) j (by simpa using h1)];simp
 refine ⟨.int .u8 (l.getD j 0).toNat,fun w'=>?_,by rw [Den]⟩
 have hrun:(Instr.index t (.string (bs l)) (.int k (j:Int))).run P w'=.ok (.int .u8 (l.getD j 0).toNat) w':=by simp [Instr.index,asIntOf,run_underlying ht,hg,h1,List.getD]
 simp [execOp,ho,r.evx (x:=x) (by simp [ho,Op.operands]) hx,r.evx (x:=y) (by simp [ho,Op.operands]) hy,hrun]
theorem XtC {α:Type} (s:List α) (k:Nat) (d:α) (h:k < s.length):s.getD k d=s[k]:=by simp [List.getD,h]
section
variable {P:Program} {Δ:List Deferred} {V O:Nat→Prop} {w0 w w':World} {H H' D:List Hp} {T T':List AV} {a:Act} {o:Oper} {ρ:Operand→AV} {Q:Xb9}
end
section
variable {P:Program} {H:List Hp} {T:List AV} {o:Oper} {ops:Array Oper} {Q:Xb9}
end
open Go.RowKit
section
variable {P:Program} {Δ:List Deferred} {V O:Nat→Prop} {w0 w w':World} {H H' D:List Hp} {T T':List AV} {a:Act} {o:Oper} {ops:Array Oper} {Q:Xb9}
def XpQ (pv:Value):List PanicEntry:=[{ v:=pv,recovered:=false }]
def XcH (P:Program) (f:FuncId) (H:List Hp) (args:List AV) (Q:AV→List Hp→Prop) (QP:Value→List Hp→Prop):Prop:=
 ∀(V:Nat→Prop) (w:World) (vs:List Value),(∀k,V k→k < w.heap.size)→HOk V w H→DenL (FB V H) w args vs→GL (Xch H) w →
  Calls P f vs.toArray w fun e w'=>(∃r H' v,Q r H'∧e=.returned v∧Den (FB V H') w' r v∧HOk V w' H'∧Fr (Xch H) w w'∧∀h∈H',∀k,h.blk=some k→Xch H k∨w.heap.size≤k) ∨
   ∃pv H',QP pv H'∧e=.panicked (XpQ pv)∧HOk V w' H'∧Fr (Xch H) w w'∧∀h∈H',∀k,h.blk=some k→Xch H k∨w.heap.size≤k
theorem XcH.mono {f:FuncId} {args:List AV} {Q Q':AV→List Hp→Prop} {QP QP':Value→List Hp→Prop} (h:XcH P f H args Q QP) (hq:∀r H',Q r H'→Q' r H') (hp:∀v H',QP v H'→QP' v H'):XcH P f H args Q' QP':=fun V w vs h1 h2 h3 h4=>
 (h V w vs h1 h2 h3 h4).mono fun e w' he=>by
  rcases he with ⟨r,H',v,q,rest⟩|⟨pv,H',q,rest⟩
  ·exact .inl ⟨r,H',v,hq _ _ q,rest⟩
  ·exact .inr ⟨pv,H',hp _ _ q,rest⟩
theorem Xay.p {f:FuncId} {args:List AV} {Q:AV→List Hp→Prop} (h:Xay P f H args Q):XcH P f H args Q fun _ _=>False:=fun V w vs h1 h2 h3 h4=>(h V w vs h1 h2 h3 h4).mono fun e w' he=>.inl he
theorem XcH.no {f:FuncId} {args:List AV} {Q:AV→List Hp→Prop} (h:XcH P f H args Q fun _ _=>False):Xay P f H args Q:=fun V w vs h1 h2 h3 h4=>(h V w vs h1 h2 h3 h4).mono fun e w' he=>by
 rcases he with he|⟨pv,H',q,_⟩
 ·exact he
 ·exact q.elim
def XwT (P:Program) (fn:Func) (Q:AV→List Hp→Prop) (QP:Value→List Hp→Prop):Xb9
 | .panic ch,T,H=>∃pv H',ch=XpQ pv∧Xaj H [] H' []∧QP pv H'
 | e,T,H=>Xdx P fn Q e T H
theorem Xc5 {fn:Func} {Q:AV→List Hp→Prop} {QP:Value→List Hp→Prop} (r:AV) (H':List Hp) (h:Res P fn T H r H') (q:Q r H'):XwT P fn Q QP .ret T H:=⟨.inl rfl,r,H',h,q⟩
theorem XaZ {fn:Func} {Q:AV→List Hp→Prop} {QP:Value→List Hp→Prop} (r:AV) (H':List Hp) (h:Res P fn T H r H') (q:Q r H'):XwT P fn Q QP .normal T H:=⟨.inr rfl,r,H',h,q⟩
theorem Xan {fn:Func} {Q:AV→List Hp→Prop} {QP:Value→List Hp→Prop} (pv:Value) (H':List Hp) (h:Xaj H [] H' []) (q:QP pv H'):XwT P fn Q QP (.panic (XpQ pv)) T H:=⟨pv,H',rfl,h,q⟩
theorem XbE {f:FuncId} {fn:Func} {c:Code} {args:List AV} {Q:AV→List Hp→Prop} {QP:Value→List Hp→Prop} (hf:P.funcs[f]?=some fn) (hb:fn.body=some c)
  (h:awp P c (XwT P fn Q QP) (args++List.replicate (fn.ntmps - args.length) .top) H):XcH P f H args Q QP:=by
 intro V w vs hV hH hd hgl
 have hlen:=hd.len
 refine calls_of_wp hf hb ?_
 have r:Rel [] V (Xch H) w H (args++List.replicate (fn.ntmps - args.length) .top) { tmps:=vs.toArray++Array.replicate (fn.ntmps - vs.toArray.size) undef,defers:=[] } w:=by
  refine ⟨?_,hH,Fr.refl _ _,fun x hx k hk=>.inl ⟨x,hx,hk⟩,rfl,hV,hgl⟩
  simp only [Array.toList_append,Array.toList_replicate,List.size_toArray,hlen]
  refine hd.app (DenL.of (by simp) fun j av u h1 h2=>?_)
  rw [List.getElem?_replicate] at h1
  split at h1
  ·cases h1;rw [Den];trivial
  ·cases h1
 refine wp_mono (h [] V (Xch H) w _ w r) ?_
 rintro e a' w' ⟨T',H1,r1,he⟩
 have hret:Xdx P fn Q e T' H1→(e=.ret∨e=.normal)→bodyPost P fn (fun e w'=>(∃r H' v,Q r H'∧e=.returned v∧Den (FB V H') w' r v∧HOk V w' H'∧Fr (Xch H) w w'∧∀h∈H',∀k,h.blk=some k→Xch H k∨w.heap.size≤k) ∨
   ∃pv H',QP pv H'∧e=.panicked (XpQ pv)∧HOk V w' H'∧Fr (Xch H) w w'∧∀h∈H',∀k,h.blk=some k→Xch H k∨w.heap.size≤k) e a' w':=by
  rintro ⟨_,res,H',hres,hq⟩ he
  obtain ⟨v,g1,g2,g3,g4⟩:=hres [] V (Xch H) w a' w' r1
  have:=(⟨res,H',v,hq,rfl,g2,g3,r1.fr,fun x hx k hk=>by obtain ⟨y,hy,e⟩:=g4 x hx k hk;exact r1.own y hy k e⟩:∃r H' v',Q r H'∧Ending.returned v=.returned v'∧Den (FB V H') w' r v'∧HOk V w' H'∧Fr (Xch H) w w'∧∀h∈H',∀k,h.blk=some k→Xch H k∨w.heap.size≤k)
  rcases he with rfl|rfl
  ·exact ⟨r1.defers,v,g1,.inl this⟩
  ·exact ⟨r1.defers,v,g1,.inl this⟩
 cases e with
 | panic ch=>
   obtain ⟨pv,H',rfl,hw,hq⟩:=he
   obtain ⟨k1,-,k3⟩:=Xet (vs:=[]) r1.hok (by rw [DenL]) hw
   exact ⟨r1.defers,.inr ⟨pv,H',hq,rfl,k1,r1.fr,fun x hx k hk=>by obtain ⟨y,hy,e⟩:=k3 x hx k hk;exact r1.own y hy k e⟩⟩
 | ret=>exact hret he (.inl rfl)
 | normal=>exact hret he (.inr rfl)
 | _=>rcases he.1 with h|h<;>cases h
theorem XkE {Kc:Act→World→Prop} {Qc:Exit→Act→World→Prop} {c:Operand} {args:Array Operand} {tys:Array TypeId} {f:FuncId} {fn:Func} {fs cs vs:Array Value} (ho:o.op=.call { callee:=.value c,args:=args,argTypes:=tys }) (hc:a.eval c=.func (.func f) fs cs)
  (hf:P.funcs[f]?=some fn) (hn:fn.name≠ "runtime.NumGoroutine") (hb:fn.body.isSome=true) (hv:fs++args.map a.eval++cs=vs)
  (h:Calls P f vs w fun e w'=>(∃v,e=.returned v∧Kc (a.put o.dst v) w')∨∃ch,e=.panicked ch∧Qc (.panic ch) a w'):o.wp P a w Kc Qc:=by
 have hrun:(execOp a.eval o).run P w=.ok (.enter f vs) w:=by
  cases hbb:fn.body with
  | none=>rw [hbb] at hb;cases hb
  | some c=>simp [execOp,ho,resolve,hc,Deferred.ofValue,invoke,callFunc,hf,hn,hbb,←hv]
 unfold Oper.wp
 rw [hrun]
 simp only [Oper.upon]
 refine h.mono ?_
 rintro e w' (⟨v,rfl,hk⟩|⟨ch,rfl,hk⟩)
 ·exact hk
 ·exact hk
theorem Rel.called {H1 R:List Hp} (r1:Rel Δ V O w0 (H1++R) T a w) (hok':HOk (FB V R) w' H') (hfr:Fr (Xch H1) w w') (hown:∀h∈H',∀k,h.blk=some k→Xch H1 k∨w.heap.size≤k) :
  Rel Δ V O w0 (H'++R) T a w'∧∀res v,Den (FB (FB V R) H') w' res v→Den (FB V (H'++R)) w' res v:=by
 have hap:=List.pairwise_append.1 r1.hok.apart
 have hVF':∀H1 k,FB (FB V R) H1 k↔FB V (H1++R) k:=fun H1 k=>by
  simp only [FB,List.mem_append]
  constructor
  ·rintro ((h|⟨x,hx,e⟩)|⟨x,hx,e⟩)
   ·exact .inl h
   ·exact .inr ⟨x,.inr hx,e⟩
   ·exact .inr ⟨x,.inl hx,e⟩
  ·rintro (h|⟨x,hx|hx,e⟩)
   ·exact .inl (.inl h)
   ·exact .inr ⟨x,hx,e⟩
   ·exact .inl (.inr ⟨x,hx,e⟩)
 have hF:∀k,FB V (H'++R) k→FB V (H1++R) k∨w.heap.size≤k:=fun k hk=>by
  rcases (hVF' H' k).2 hk with hk|⟨x,hx,e⟩
  ·exact .inl ((hVF' H1 k).1 (.inl hk))
  ·rcases hown x hx k e with ⟨y,hy,e'⟩|h
   ·exact .inl ((hVF' H1 k).1 (.inr ⟨y,hy,e'⟩))
   ·exact .inr h
 have hw:∀k,k < w.heap.size→¬FB V (H1++R) k→w'.heap[k]?=w.heap[k]?:=fun k hk hn=>hfr.block k hk fun ⟨y,hy,e⟩=>hn (.inr ⟨y,by simp [hy],e⟩)
 refine ⟨⟨DenL.conv hF hw _ _ r1.tmps,⟨fun x hx=>?_,List.pairwise_append.2 ⟨hok'.apart,hap.2.1,fun x hx y hy k hk e=>?_⟩,fun x hx k hk=>?_⟩,?_,fun x hx k hk=>?_,r1.defers,r1.vlt,r1.gl⟩,fun res v hdv=>hdv.weak fun k hk=>(hVF' H' k).2 hk⟩
 ·rcases List.mem_append.1 hx with hx|hx
  ·exact (hok'.ok x hx).weak fun k hk=>(hVF' H' k).2 hk
  ·exact (r1.hok.ok x (by simp [hx])).conv hF hw hfr.size fun k hk=>hfr.block k (r1.hok.lt x (by simp [hx]) k hk).1 fun ⟨y,hy,e⟩=>hap.2.2 y hy x hx k e hk
 ·exact (hok'.lt x hx k hk).2 (.inr ⟨y,hy,e⟩)
 ·rcases List.mem_append.1 hx with hx|hx
  ·exact ⟨(hok'.lt x hx k hk).1,fun hv=>(hok'.lt x hx k hk).2 (.inl hv)⟩
  ·exact ⟨Nat.lt_of_lt_of_le (r1.hok.lt x (by simp [hx]) k hk).1 hfr.size,(r1.hok.lt x (by simp [hx]) k hk).2⟩
 ·refine r1.fr.trans hfr fun k hk hb=>?_
  obtain ⟨y,hy,e⟩:=hb
  rcases r1.own y (by simp [hy]) k e with h|h
  ·exact h
  ·omega
 ·rcases List.mem_append.1 hx with hx|hx
  ·rcases hown x hx k hk with ⟨y,hy,e⟩|h
   ·exact r1.own y (by simp [hy]) k e
   ·exact .inr (Nat.le_trans r1.fr.size h)
  ·exact r1.own x (by simp [hx]) k hk
theorem Xl5 {rest:List Oper} {x:Operand} {t:TypeId} {v:Value} (hg:o.guard=none) (ho:o.op=.panic x) (hx:ev T x=.x (.iface t v)) (h:Q (.panic (XpQ (.iface t v))) T H):Xe8 P ops Q (o :: rest) T H:=fun Δ V O w0 a w r=>wpList_plain hg fun Kc hKc=>by
 have hrun:(execOp a.eval o).run P w=.halt (.panic (.iface t v)) w:=by
  simp [execOp,ho,r.evx hx,Instr.panic]
 unfold Oper.wp
 rw [hrun,Oper.upon_panic]
 exact ⟨T,H,r,h⟩
theorem Xae {Kc:List AV→List Hp→Prop} {ch:List PanicEntry} (h:Q (.panic ch) T H):XbH Kc Q (.panic ch) T H:=h
theorem XaL {id:Nat} {ch:List PanicEntry} (h:Q (.panic ch) T H):XaA id Q (.panic ch) T H:=h
end
open Go.RowKit
section
variable {P:Program} {Δ:List Deferred} {V O:Nat→Prop} {w0 w w':World} {B H H' D:List Hp} {T T':List AV} {a a':Act} {o:Oper} {ops:Array Oper} {Q:Xb9} {K:List AV→List Hp→Prop} {X:List PanicEntry→List AV→List Hp→Prop} {listed:Array Bool} {fuel:Nat} {DD:List Nat}
def XwQ (P:Program) (o:Oper) (T:List AV) (H:List Hp) (K:List AV→List Hp→Prop) (X:List PanicEntry→List AV→List Hp→Prop):Prop:=
 ∀Δ V O w0 a w (Kc:Act→World→Prop) (Qc:Exit→Act→World→Prop),Rel Δ V O w0 H T a w→(∀T' H' a' w',K T' H'→Rel Δ V O w0 H' T' a' w'→Kc a' w')→(∀ch T' H' a' w',X ch T' H'→Rel Δ V O w0 H' T' a' w'→Qc (.panic ch) a' w')→o.wp P a w Kc Qc
theorem Xas {c:Operand} {args:Array Operand} {tys:Array TypeId} {fs cs:Array Value} (f:FuncId) (fn:Func) (H1 R:List Hp) (avs:List AV) (Qf:AV→List Hp→Prop) (QP:Value→List Hp→Prop) (ho:o.op=.call { callee:=.value c,args:=args,argTypes:=tys }) (hc:ev T c=.x (.func (.func f) fs cs))
  (hf:P.funcs[f]?=some fn) (hn:fn.name≠ "runtime.NumGoroutine") (hb:fn.body.isSome=true) (hp:H.Perm (H1++R)) (hargs:VwL [] (fs.toList.map .x++args.toList.map (ev T)++cs.toList.map .x) avs) (hS:XcH P f H1 avs Qf QP)
  (hK:∀r H',Qf r H'→K (Xa9 T o.dst r) (H'++R)) (hP:∀pv H',QP pv H'→X (XpQ pv) T (H'++R)):XwQ P o T H K X:=fun Δ V O w0 a w Kc Qc r hKc hXc=>by
 have r1:=r.perm hp
 have hap:=List.pairwise_append.1 r1.hok.apart
 have hVF:∀k,FB (FB V R) H1 k↔FB V (H1++R) k:=fun k=>by
  simp only [FB,List.mem_append]
  constructor
  ·rintro ((h|⟨x,hx,e⟩)|⟨x,hx,e⟩)
   ·exact .inl h
   ·exact .inr ⟨x,.inr hx,e⟩
   ·exact .inr ⟨x,.inl hx,e⟩
  ·rintro (h|⟨x,hx|hx,e⟩)
   ·exact .inl (.inl h)
   ·exact .inr ⟨x,hx,e⟩
   ·exact .inl (.inr ⟨x,hx,e⟩)
 have hV:∀k,FB V R k→k < w.heap.size:=fun k hk=>by
  rcases hk with hk|⟨x,hx,e⟩
  ·exact Nat.lt_of_lt_of_le (r.vlt k hk) r.fr.size
  ·exact (r1.hok.lt x (by simp [hx]) k e).1
 have hH1:HOk (FB V R) w H1:=⟨fun x hx=>(r1.hok.ok x (by simp [hx])).weak fun k hk=>(hVF k).1 hk,hap.1,fun x hx k hk=>⟨(r1.hok.lt x (by simp [hx]) k hk).1,fun hv=>by
  rcases hv with hv|⟨y,hy,e⟩
  ·exact (r1.hok.lt x (by simp [hx]) k hk).2 hv
  ·exact hap.2.2 x hx y hy k hk e⟩⟩
 have hd:DenL (FB (FB V R) H1) w avs (fs.toList++args.toList.map a.eval++cs.toList):=hargs.den (fun k hk=>(hVF k).1 hk) (fun h hh=>by cases hh) _ ((DenL.exact.app (XfS r1 args.toList)).app DenL.exact)
 refine XkE ho (r.evx hc) hf hn hb (vs:=(fs.toList++args.toList.map a.eval++cs.toList).toArray) (by apply Array.toList_inj.1;simp) ?_
 refine (hS (FB V R) w _ hV hH1 hd (r1.gb.mono fun k ⟨x,hx,e⟩=>⟨x,by simp [hx],e⟩)).mono ?_
 rintro e w' (⟨res,H',v,hq,rfl,hdv,hok',hfr,hown⟩|⟨pv,H',hq,rfl,hok',hfr,hown⟩)
 ·obtain ⟨k1,k2⟩:=r1.called hok' hfr hown
  exact .inl ⟨v,rfl,hKc _ _ _ _ (hK res H' hq) (k1.put _ (k2 _ _ hdv))⟩
 ·exact .inr ⟨_,rfl,hXc _ _ _ _ _ (hP pv H' hq) (r1.called hok' hfr hown).1⟩
theorem Stp.p (h:Stp P o T H K):XwQ P o T H K X:=fun Δ V O w0 a w Kc Qc r hK _=>h Δ V O w0 a w Kc Qc r hK
theorem Xav {rest:List Oper} (hg:o.guard=none) (h:XwQ P o T H (Xe8 P ops Q rest) fun ch T H=>Q (.panic ch) T H):Xe8 P ops Q (o :: rest) T H:=fun Δ V O w0 a w r=>wpList_plain hg fun Kc hKc=>
 h Δ V O w0 a w _ _ r (fun T' H' a' w' hk hr=>hKc _ _ (hk Δ V O w0 a' w' hr)) fun ch T' H' a' w' hx hr=>⟨T',H',hr,hx⟩
theorem Xde (i:Nat) {o:Oper} {l:List Oper} (hr:Region.ready .any l.toArray listed=[i]) (hi:Xc3 l i=some o) (hg:o.guard=none) (h:XwQ P o T H (Xds P l.toArray Q DD B fuel (listed.setIfInBounds i true)) fun ch T H=>Q (.panic ch) T (B++H)):Xds P l.toArray Q DD B (fuel+1) listed T H:=fun Δ V O w0 wr a w r hS=>
 ⟨fun h0=>(by rw [hr] at h0;cases h0),fun j hj=>by
  rw [hr,List.mem_singleton] at hj;subst hj
  have hi:l.toArray[j]?=some o:=by rw [List.getElem?_toArray,←Xbz];exact hi
  unfold wpOp
  simp only [hi]
  rw [if_pos (by simp [Region.wanted,hg])]
  refine .inl (h _ _ _ _ a w _ _ r.aside (fun T' H' a' w' hk hr=>?_) fun ch T' H' a' w' hx hr=>⟨T',B++H',(r.rejoin hr).1,hx⟩)
  obtain ⟨r',hs⟩:=r.rejoin hr
  have hS':Xeb wr B w':=fun k hk=>(hs k hk).trans (hS k hk)
  exact ⟨fun _ _=>hS',hk Δ V O w0 wr a' w' r' hS'⟩⟩
theorem Xir (a:Act) (d:Option Tmp) (v:Value):∃u,(a.put d v).put d u=a:=by
 cases d with
 | none=>exact ⟨v,rfl⟩
 | some d=>
   obtain ⟨t,ds⟩:=a
   refine ⟨t.getD d undef,?_⟩
   simp only [Act.put]
   congr 1
   apply Array.ext_getElem?
   intro i
   by_cases hd:d < t.size
   ·by_cases e:d=i
    ·subst e
     simp [Array.getElem?_setIfInBounds,hd]
    ·simp [Array.getElem?_setIfInBounds,e]
   ·by_cases e:d=i
    ·subst e
     simp [Array.getElem?_setIfInBounds,hd]
    ·simp [Array.getElem?_setIfInBounds,e]
theorem XmB {c:List PanicEntry} {d:Option Tmp} {v:Value} (hpan:∀c T T' H,Q (.panic c) T H→Q (.panic c) T' H) (h:Xe9 Δ V O w0 Q (.panic c) (a.put d v) w):Xe9 Δ V O w0 Q (.panic c) a w:=by
 obtain ⟨T,H,r,q⟩:=h
 obtain ⟨u,e⟩:=Xir a d v
 have r2:=r.put d (av:=.top) (v:=u) (by rw [Den];trivial)
 rw [e] at r2
 exact ⟨_,H,r2,hpan _ _ _ _ q⟩
theorem Xgb (i:Nat) {o:Oper} {l:List Oper} (hi:Xc3 l i=some o) (hg:o.guard=none) (hc:XbM l.toArray listed i DD=true) (hpan:∀c T T' H,Q (.panic c) T H→Q (.panic c) T' H) (av:AV)
  (h:∀V wr a w,OK V (B++H) (ev T) o a w→Xeb wr B w→∃v,(∀w',Xeb wr B w'→(execOp a.eval o).run P w'=.ok (.value v) w')∧Den (FB V (B++H)) w av v) (hK:Xds P l.toArray Q DD B fuel (listed.setIfInBounds i true) (Xa9 T o.dst av) H):Xds P l.toArray Q DD B (fuel+1) listed T H:=by
 have hi:l.toArray[i]?=some o:=by rw [List.getElem?_toArray,←Xbz];exact hi
 intro Δ V O w0 wr a w r hS
 obtain ⟨v,hv,hd⟩:=h V wr a w (r.oks o) hS
 have hD:=XgN hc
 unfold XbM Xel at hc
 simp only [Bool.and_eq_true] at hc
 exact Xcg.first hi hc.1.1.1 (fun c a w h=>XmB hpan h) hD (Region.free_spec hi hc.1.1.2) (by simpa using hc.1.2) (.inl ⟨by simp [Region.wanted,hg],hv⟩) hS (hK Δ V O w0 wr _ w (r.put _ hd) hS)
theorem Xa2 (i:Nat) {o:Oper} {l:List Oper} (hi:Xc3 l i=some o) (hg:o.guard=none) (hc:XbM l.toArray listed i DD=true) (hpan:∀c T T' H,Q (.panic c) T H→Q (.panic c) T' H) (av:AV) (h:XeE P o (ev T) (B++H) av) (hK:Xds P l.toArray Q DD B fuel (listed.setIfInBounds i true) (Xa9 T o.dst av) H):Xds P l.toArray Q DD B (fuel+1) listed T H:=
 Xgb i hi hg hc hpan av (fun V wr a w ok _=>by obtain ⟨v,hv,hd⟩:=h V a w ok;exact ⟨v,fun w' _=>hv w',hd⟩) hK
theorem XaS (i:Nat) {o:Oper} {l:List Oper} (hi:Xc3 l i=some o) (hg:o.guard=none) (hc:XbM l.toArray listed i DD=true) (hpan:∀c T T' H,Q (.panic c) T H→Q (.panic c) T' H) (p:Nat) (t:TypeId) (x:Operand) (b off:Nat) (cells:List AV) (agg:Bool) (n:Nat)
  (ho:o.op=.load t x) (hx:ev T x=.x (.pointer (some ⟨b,off,none⟩))) (hb:B[p]?=some (.box b cells)) (ht:Xis P t=some (agg,n)) (hn:off+n≤cells.length) (hn0:off < cells.length)
  (hK:Xds P l.toArray Q DD B fuel (listed.setIfInBounds i true) (Xa9 T o.dst (ldA agg n (cells.drop off))) H):Xds P l.toArray Q DD B (fuel+1) listed T H:=
 Xgb i hi hg hc hpan _ (fun V wr a w ok hS=>by
  obtain ⟨vals,hd,hl,hcl⟩:=ok.hok.ok (.box b cells) (List.mem_append_left _ (List.mem_of_getElem? hb))
  obtain ⟨v,hr,hdv⟩:=Xca (P:=P) t agg n ht w _ b off (cells.drop off) (vals.drop off) (hd.drop off) (by simp;omega) (fun _=>by simp;omega)
  refine ⟨v,fun w' hS'=>?_,hdv⟩
  have hbk:Xch B b:=⟨_,List.mem_of_getElem? hb,rfl⟩
  have hsame:w'.heap[b]?=w.heap[b]?:=(hS' b hbk).trans (hS b hbk).symm
  have:=hr w' fun j u hj=>by
   rw [World.cell?_of_block (a:=⟨b,off+j,none⟩) hsame];exact (hcl (off+j) u (by rwa [List.getElem?_drop] at hj)).1
  simp [execOp,ho,ok.evx (x:=x) (by simp [ho,Op.operands]) hx,Instr.loadAt,Instr.sureAddr,this]) hK
end
open Go.RowKit
def XeQ (b:UInt8):Bool:=decide ((65≤b.toNat∧b.toNat≤90)∨(97≤b.toNat∧b.toNat≤122)∨b.toNat=95)
def XbK (b:UInt8):Bool:=decide (48≤b.toNat∧b.toNat≤57)
def Xjj (b:UInt8):Option Nat:=
 if 48≤b.toNat∧b.toNat≤57 then some (b.toNat - 48)
 else if 97≤b.toNat∧b.toNat≤102 then some (b.toNat - 87)
 else if 65≤b.toNat∧b.toNat≤70 then some (b.toNat - 55) else none
theorem Xn8 {b:UInt8} {n:Nat} (h:Xjj b=some n):n < 16:=by
 unfold Xjj at h
 split at h
 ·cases h;omega
 ·split at h
  ·cases h;omega
  ·split at h
   ·cases h;omega
   ·cases h
def Xfx:List UInt8→Option (UInt8 × Nat)
 | []=>none
 | d :: r=>
   if d.toNat=34∨d.toNat=92 then some (d,1) else if d.toNat=110 then some (10,1) else if d.toNat=116 then some (9,1)
   else if d.toNat=120 then match r with
    | h :: l :: _=>match Xjj h,Xjj l with
      | some a,some b=>some (UInt8.ofNat (16*a+b),3)
      | _,_=>none
    | _=>none
   else none
theorem XnV (d:UInt8) (r:List UInt8) (h:d.toNat=34∨d.toNat=92):Xfx (d :: r)=some (d,1):=by simp only [Xfx,if_pos h]
theorem Xvx (d:UInt8) (r:List UInt8) (h:d.toNat=110):Xfx (d :: r)=some (10,1):=by simp only [Xfx];rw [if_neg (by omega),if_pos h]
theorem Xvy (d:UInt8) (r:List UInt8) (h:d.toNat=116):Xfx (d :: r)=some (9,1):=by simp only [Xfx];rw [if_neg (by omega),if_neg (by omega),if_pos h]
theorem XnW (d a b:UInt8) (r:List UInt8) (h:d.toNat=120):Xfx (d :: a :: b :: r)=(Xjj a).bind fun x=>(Xjj b).map fun y=>(UInt8.ofNat (16*x+y),3):=by
 simp only [Xfx];rw [if_neg (by omega),if_neg (by omega),if_neg (by omega),if_pos h]
 cases Xjj a<;>cases Xjj b<;>rfl
theorem Xtr (d a:UInt8) (h:d.toNat=120):Xfx [d,a]=none:=by
 simp only [Xfx];rw [if_neg (by omega),if_neg (by omega),if_neg (by omega),if_pos h]
theorem Xtq (d:UInt8) (h:d.toNat=120):Xfx [d]=none:=by
 simp only [Xfx];rw [if_neg (by omega),if_neg (by omega),if_neg (by omega),if_pos h]
theorem Xtp (d:UInt8) (r:List UInt8) (h:¬(d.toNat=34∨d.toNat=92∨d.toNat=110∨d.toNat=116∨d.toNat=120)):Xfx (d :: r)=none:=by
 simp only [Xfx];rw [if_neg (by omega),if_neg (by omega),if_neg (by omega),if_neg (by omega)]
def part:List UInt8→Option (UInt8 × Nat)
 | []=>none
 | c :: r=>if c.toNat < 32∨c.toNat=34 then none else if c.toNat≠92 then some (c,1) else (Xfx r).map fun x=>(x.1,x.2+1)
theorem XeZ (c:UInt8) (r:List UInt8):part (c :: r)=if c.toNat < 32∨c.toNat=34 then none else if c.toNat≠92 then some (c,1) else (Xfx r).map fun x=>(x.1,x.2+1):=rfl
theorem XnT {l:List UInt8} {b:UInt8} {n:Nat} (h:Xfx l=some (b,n)):1≤n∧n≤3∧n≤l.length:=by
 unfold Xfx at h
 split at h
 ·cases h
 ·split at h
  ·cases h;simp
  ·split at h
   ·cases h;simp
   ·split at h
    ·cases h;simp
    ·split at h
     ·split at h
      ·split at h
       ·cases h;simp
       ·cases h
      ·cases h
     ·cases h
theorem Xke {l:List UInt8} {b:UInt8} {n:Nat} (h:part l=some (b,n)):1≤n∧n≤4∧n≤l.length:=by
 unfold part at h
 split at h
 ·cases h
 ·split at h
  ·cases h
  ·split at h
   ·cases h;simp
   ·cases he:Xfx _ with
    | none=>rw [he] at h;cases h
    | some x=>rw [he] at h;cases h;have:=XnT he;simp;omega
def quo (l:List UInt8):Option (List UInt8 × Nat):=
 match l with
 | []=>none
 | c :: r=>
   if c.toNat=34 then some ([],1) else
   match part (c :: r) with
   | none=>none
   | some x=>(quo ((c :: r).drop (max x.2 1))).map fun y=>(x.1 :: y.1,x.2+y.2)
termination_by l.length
decreasing_by simp;omega
def sla (l:List UInt8):Option (List UInt8 × Nat):=
 match l with
 | []=>none
 | c :: r=>
   if c.toNat=47 then some ([],1) else if c.toNat < 32 then none
   else if c.toNat=92 then
    match r with
    | []=>none
    | d :: r=>if d.toNat < 32 then none else if d.toNat=47 then (sla r).map fun x=>(d :: x.1,2+x.2) else (sla r).map fun x=>(c :: d :: x.1,2+x.2)
   else (sla r).map fun x=>(c :: x.1,1+x.2)
def spn (p:UInt8→Bool) (l:List UInt8):Nat:=(l.takeWhile p).length
def XeR (b:UInt8):Bool:=XbK b || (XeQ b || decide (b.toNat=45))
def one:List UInt8→Except Int (Int × List UInt8 × Nat)
 | []=>.error 50
 | c :: r=>
   if XeQ c then .ok (1,(c :: r).take (spn XeR (c :: r)),spn XeR (c :: r))
   else if XbK c then
    if 18 < spn XbK (c :: r)∨1 < spn XbK (c :: r)∧c.toNat=48 then .error 53 else .ok (2,(c :: r).take (spn XbK (c :: r)),spn XbK (c :: r))
   else if c.toNat=34 then match quo r with
    | none=>.error 51
    | some x=>.ok (3,x.1,x.2+1)
   else if c.toNat=47 then match sla r with
    | none=>.error 52
    | some x=>.ok (4,x.1,x.2+1)
   else if c.toNat=123∨c.toNat=125∨c.toNat=44∨c.toNat=61 then .ok (5,[c],1)
   else .error 50
def cmt:List UInt8→Nat
 | []=>0
 | c :: r=>if c.toNat=10 then 0 else cmt r+1
def skp:List UInt8→Nat
 | []=>0
 | c :: r=>
   if c.toNat=32∨c.toNat=9∨c.toNat=10∨c.toNat=13 then skp r+1
   else if c.toNat=35 then cmt (c :: r)+skp ((c :: r).drop (max (cmt (c :: r)) 1))
   else 0
termination_by l=>l.length
decreasing_by
 ·simp
 ·simp;omega
theorem XrR (l:List UInt8):cmt l≤l.length:=by
 induction l with
 | nil=>simp [cmt]
 | cons c r ih=>simp only [cmt];split<;>simp;omega
theorem Xgf (c:UInt8) (r:List UInt8) (h:c.toNat≠10):cmt (c :: r)=cmt r+1:=by simp only [cmt,if_neg h]
theorem XrS (c:UInt8) (r:List UInt8) (h:c.toNat=10):cmt (c :: r)=0:=by simp only [cmt,if_pos h]
theorem Xpg:skp []=0:=by rw [skp]
theorem Xjb (c:UInt8) (r:List UInt8) (h:c.toNat=32∨c.toNat=9∨c.toNat=10∨c.toNat=13):skp (c :: r)=skp r+1:=by rw [skp,if_pos h]
theorem Xpf (c:UInt8) (r:List UInt8) (h:c.toNat=35):skp (c :: r)=cmt (c :: r)+skp ((c :: r).drop (cmt (c :: r))):=by
 rw [skp,if_neg (by omega),if_pos h,show max (cmt (c :: r)) 1=cmt (c :: r) from by rw [Xgf _ _ (by omega)];omega]
theorem Xsr (c:UInt8) (r:List UInt8) (h:¬(c.toNat=32∨c.toNat=9∨c.toNat=10∨c.toNat=13)) (h2:c.toNat≠35):skp (c :: r)=0:=by rw [skp,if_neg h,if_neg h2]
def plc (p:Nat × Nat):List UInt8→Nat × Nat
 | []=>p
 | c :: r=>plc (if c.toNat=10 then (p.1+1,1) else (p.1,p.2+1)) r
structure Tok where
 kind:Int
 text:List UInt8
 line:Nat
 col:Nat
structure Flt where
 code:Int
 line:Nat
 col:Nat
def Xct (p:Nat × Nat) (n:Nat) (l:List UInt8):Except Flt (List Tok):=
 match h:l.drop (skp l) with
 | []=>.ok [⟨6,[],(plc p l).1,(plc p l).2⟩]
 | c :: r=>
   match one (c :: r) with
   | .error e=>.error ⟨e,(plc p (l.take (skp l))).1,(plc p (l.take (skp l))).2⟩
   | .ok x=>if 2000≤n then .error ⟨1,(plc p (l.take (skp l))).1,(plc p (l.take (skp l))).2⟩
     else (Xct (plc p (l.take (skp l+x.2.2))) (n+1) ((c :: r).drop (max x.2.2 1))).map (⟨x.1,x.2.1,(plc p (l.take (skp l))).1,(plc p (l.take (skp l))).2⟩ :: ·)
termination_by l.length
decreasing_by
 have:=congrArg List.length h
 simp at *;omega
def lex (l:List UInt8):Except Flt (List Tok):=if 8192 < l.length then .error ⟨1,0,0⟩ else Xct (1,1) 0 l
theorem XgL (p:UInt8→Bool) (c:UInt8) (r:List UInt8) (h:p c=true):spn p (c :: r)=spn p r+1:=by simp [spn,List.takeWhile_cons,h]
theorem Xst (p:UInt8→Bool) (c:UInt8) (r:List UInt8) (h:p c=false):spn p (c :: r)=0:=by simp [spn,List.takeWhile_cons,h]
theorem Xlw (p:UInt8→Bool) (l:List UInt8):spn p l≤l.length:=(List.takeWhile_prefix p).length_le
theorem Xkj:quo []=none:=by rw [quo]
theorem Xki (c:UInt8) (r:List UInt8) (h:c.toNat=34):quo (c :: r)=some ([],1):=by rw [quo,if_pos h]
theorem Xlm (c:UInt8) (r:List UInt8) (h:c.toNat≠34) (h2:part (c :: r)=none):quo (c :: r)=none:=by rw [quo,if_neg h,h2]
theorem XfU (c:UInt8) (r:List UInt8) (b:UInt8) (n:Nat) (h:c.toNat≠34) (h2:part (c :: r)=some (b,n)):quo (c :: r)=(quo ((c :: r).drop n)).map fun y=>(b :: y.1,n+y.2):=by
 rw [quo,if_neg h,h2];simp only [];rw [show max n 1=n from by have:=Xke h2;omega]
theorem Xsl (l:List UInt8):∀x,quo l=some x→1≤x.2∧x.2≤l.length∧x.1.length < x.2:=by
 match h:l with
 | []=>intro x hx;rw [Xkj] at hx;cases hx
 | c :: r=>
   intro x hx
   by_cases h1:c.toNat=34
   ·rw [Xki c r h1] at hx;cases hx;simp
   ·cases hp:part (c :: r) with
    | none=>rw [Xlm c r h1 hp] at hx;cases hx
    | some y=>
      obtain ⟨b,n⟩:=y
      have hle:=Xke hp
      rw [XfU c r b n h1 hp] at hx
      cases hq:quo ((c :: r).drop n) with
      | none=>rw [hq] at hx;cases hx
      | some z=>
        have:=Xsl ((c :: r).drop n) z hq
        rw [hq] at hx;cases hx
        simp only [List.length_drop,Xyr] at *;omega
termination_by l.length
decreasing_by subst h;simp;omega
theorem Xkw:sla []=none:=by rw [sla]
theorem Xku (c:UInt8) (r:List UInt8) (h:c.toNat=47):sla (c :: r)=some ([],1):=by rw [sla.eq_def];simp only [if_pos h]
theorem Xkt (c:UInt8) (r:List UInt8) (h:c.toNat < 32):sla (c :: r)=none:=by rw [sla.eq_def];simp only [if_neg (show ¬c.toNat=47 by omega),if_pos h]
theorem Xh7 (c:UInt8) (h:c.toNat=92):sla [c]=none:=by rw [sla,if_neg (by omega),if_neg (by omega),if_pos h]
theorem Xh6 (c d:UInt8) (r:List UInt8) (h:c.toNat=92) (h2:d.toNat < 32):sla (c :: d :: r)=none:=by rw [sla,if_neg (by omega),if_neg (by omega),if_pos h];simp only [if_pos h2]
theorem Xkv (c d:UInt8) (r:List UInt8) (h:c.toNat=92) (h2:d.toNat=47):sla (c :: d :: r)=(sla r).map fun x=>(d :: x.1,2+x.2):=by
 rw [sla,if_neg (by omega),if_neg (by omega),if_pos h];simp only [if_neg (show ¬d.toNat < 32 by omega),if_pos h2]
theorem Xky (c d:UInt8) (r:List UInt8) (h:c.toNat=92) (h2:32≤d.toNat) (h3:d.toNat≠47):sla (c :: d :: r)=(sla r).map fun x=>(c :: d :: x.1,2+x.2):=by
 rw [sla,if_neg (by omega),if_neg (by omega),if_pos h];simp only [if_neg (show ¬d.toNat < 32 by omega),if_neg h3]
theorem Xkx (c:UInt8) (r:List UInt8) (h:c.toNat≠47) (h2:32≤c.toNat) (h3:c.toNat≠92):sla (c :: r)=(sla r).map fun x=>(c :: x.1,1+x.2):=by
 rw [sla.eq_def];simp only [if_neg h,if_neg (show ¬c.toNat < 32 by omega),if_neg h3]
theorem Xlr (l:List UInt8):∀x,sla l=some x→1≤x.2∧x.2≤l.length∧x.1.length < x.2:=by
 match h:l with
 | []=>intro x hx;rw [Xkw] at hx;cases hx
 | c :: r=>
   intro x hx
   by_cases h1:c.toNat=47
   ·rw [Xku c r h1] at hx;cases hx;simp
   by_cases h2:c.toNat < 32
   ·rw [Xkt c r h2] at hx;cases hx
   by_cases h3:c.toNat=92
   ·match r,hx with
    | [],hx=>rw [Xh7 c h3] at hx;cases hx
    | d :: r,hx=>
      by_cases h4:d.toNat < 32
      ·rw [Xh6 c d r h3 h4] at hx;cases hx
      by_cases h5:d.toNat=47
      ·rw [Xkv c d r h3 h5] at hx
       cases hq:sla r with
       | none=>rw [hq] at hx;cases hx
       | some z=>have:=Xlr r z hq;rw [hq] at hx;cases hx;simp only [Xyr];omega
      ·rw [Xky c d r h3 (by omega) h5] at hx
       cases hq:sla r with
       | none=>rw [hq] at hx;cases hx
       | some z=>have:=Xlr r z hq;rw [hq] at hx;cases hx;simp only [Xyr];omega
   ·rw [Xkx c r h1 (by omega) h3] at hx
    cases hq:sla r with
    | none=>rw [hq] at hx;cases hx
    | some z=>have:=Xlr r z hq;rw [hq] at hx;cases hx;simp only [Xyr];omega
termination_by l.length
decreasing_by
 all_goals subst h;simp;try omega
theorem Xq1 (c:UInt8) (r:List UInt8) (h:XeQ c=true):one (c :: r)=.ok (1,(c :: r).take (spn XeR (c :: r)),spn XeR (c :: r)):=by simp only [one,h,if_true]
theorem XqZ (c:UInt8) (r:List UInt8) (h:XeQ c=false) (h2:XbK c=true) (h3:18 < spn XbK (c :: r)∨1 < spn XbK (c :: r)∧c.toNat=48):one (c :: r)=.error 53:=by simp only [one,h,h2,if_pos h3,if_true,Bool.false_eq_true,if_false]
theorem Xuc (c:UInt8) (r:List UInt8) (h:XeQ c=false) (h2:XbK c=true) (h3:¬(18 < spn XbK (c :: r)∨1 < spn XbK (c :: r)∧c.toNat=48)):one (c :: r)=.ok (2,(c :: r).take (spn XbK (c :: r)),spn XbK (c :: r)):=by simp only [one,h,h2,if_neg h3,if_true,Bool.false_eq_true,if_false]
theorem XoH (c:UInt8) (r:List UInt8) (h:XeQ c=false) (h2:XbK c=false) (h3:c.toNat=34):one (c :: r)=match quo r with|none=>.error 51|some x=>.ok (3,x.1,x.2+1):=by simp only [one,h,h2,if_pos h3,Bool.false_eq_true,if_false];first|done|(cases quo r<;>rfl)
theorem XoF (c:UInt8) (r:List UInt8) (h:XeQ c=false) (h2:XbK c=false) (h3:c.toNat=47):one (c :: r)=match sla r with|none=>.error 52|some x=>.ok (4,x.1,x.2+1):=by simp only [one,h,h2,if_neg (show ¬c.toNat=34 by omega),if_pos h3,Bool.false_eq_true,if_false];first|done|(cases sla r<;>rfl)
theorem Xq0 (c:UInt8) (r:List UInt8) (h:XeQ c=false) (h2:XbK c=false) (h3:c.toNat=123∨c.toNat=125∨c.toNat=44∨c.toNat=61):one (c :: r)=.ok (5,[c],1):=by simp only [one,h,h2,if_neg (show ¬c.toNat=34 by omega),if_neg (show ¬c.toNat=47 by omega),if_pos h3,Bool.false_eq_true,if_false]
theorem Xt8 (c:UInt8) (r:List UInt8) (h:XeQ c=false) (h2:XbK c=false) (h3:c.toNat≠34) (h4:c.toNat≠47) (h5:¬(c.toNat=123∨c.toNat=125∨c.toNat=44∨c.toNat=61)):one (c :: r)=.error 50:=by simp only [one,h,h2,if_neg h3,if_neg h4,if_neg h5,Bool.false_eq_true,if_false]
theorem XdK (p:Nat × Nat) (n:Nat) (l:List UInt8) (h:l.drop (skp l)=[]):Xct p n l=.ok [⟨6,[],(plc p l).1,(plc p l).2⟩]:=by
 rw [Xct]
 split
 ·rfl
 ·rename_i h2;rw [h] at h2;cases h2
theorem XdJ (p:Nat × Nat) (n:Nat) (l:List UInt8) (c:UInt8) (r:List UInt8) (e:Int) (h:l.drop (skp l)=c :: r) (h1:one (c :: r)=.error e):Xct p n l=.error ⟨e,(plc p (l.take (skp l))).1,(plc p (l.take (skp l))).2⟩:=by
 rw [Xct]
 split
 ·rename_i h2;rw [h] at h2;cases h2
 ·rename_i c' r' h2
  rw [h] at h2;cases h2
  rw [h1]
theorem Xdn (p:Nat × Nat) (n:Nat) (l:List UInt8) (c:UInt8) (r:List UInt8) (x:Int × List UInt8 × Nat) (h:l.drop (skp l)=c :: r) (h1:one (c :: r)=.ok x) (hn:2000≤n):Xct p n l=.error ⟨1,(plc p (l.take (skp l))).1,(plc p (l.take (skp l))).2⟩:=by
 rw [Xct]
 split
 ·rename_i h2;rw [h] at h2;cases h2
 ·rename_i c' r' h2
  rw [h] at h2;cases h2
  rw [h1]
  simp only [if_pos hn]
theorem XdL (p:Nat × Nat) (n:Nat) (l:List UInt8) (c:UInt8) (r:List UInt8) (k:Int) (t:List UInt8) (m:Nat) (h:l.drop (skp l)=c :: r) (h1:one (c :: r)=.ok (k,t,m)) (hm:1≤m) (hn:n < 2000) :
  Xct p n l=(Xct (plc p (l.take (skp l+m))) (n+1) ((c :: r).drop m)).map (⟨k,t,(plc p (l.take (skp l))).1,(plc p (l.take (skp l))).2⟩ :: ·):=by
 rw [Xct]
 split
 ·rename_i h2;rw [h] at h2;cases h2
 ·rename_i c' r' h2
  rw [h] at h2;cases h2
  rw [h1]
  simp only [if_neg (show ¬2000≤n by omega),show max m 1=m from by omega]
end Go.Proofs.YtdlblokjfoggpaaGreatDoor

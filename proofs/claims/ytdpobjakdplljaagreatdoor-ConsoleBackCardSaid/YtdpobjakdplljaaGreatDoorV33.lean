import Derived.Test.YtdpobjakdplljaaGreatDoorV32
import Derived.Lib.OthersKept
/- A walk over symbolic memory: one round of a range over a function; the statement; the function that holds it. No program in sight. -/
set_option linter.unusedSimpArgs false
set_option linter.unusedVariables false
set_option maxRecDepth 100000
set_option maxHeartbeats 8000000
namespace Go.Proofs.YtdpobjakdplljaaGreatDoor
open Go.RowKit
section
variable {P:Program} {Δ Δ':List Deferred} {V O:Nat→Prop} {w0 w w':World} {B H H' H1 D:List Hp} {T T' T1 Tp:List AV} {a a' a1:Act} {o:Oper} {ops:Array Oper} {n:Nat}
variable {Θ:List (Nat × Obj)} {Q:Xfg} {x y c:Code}
def Xgm (ρ:Loop):Loop:={ ρ with state:=.done,pending:=some .ret }
theorem XqF {l:Nat} {ρ:Loop} {f:FuncId} {tm:Array Value} {assign body:Code} {QB:XcP} (r:Rel Δ V O w0 H T a w) (hl:w.heap[l]?=some (.loop ρ)) (hst:ρ.state=.ready) (hpe:ρ.pending=none) (hb:¬XcQ H l) (ho:O l∨w0.heap.size≤l)
  (htm:XaT (FB V H) w Tp tm.toList) (h:Xio P assign (fun e T1 H1=>e=.normal∧Xio P body QB T1 H1) Tp H) (hQB:∀e T H,QB e T H→e=.normal∨e=.ret) (ht:∀p∈Θ,Trk O w0 H w p∧p.1≠l) :
  RoundIn Fence.wide n P l f tm assign body w fun e w'=>∃T' H' a',Rel [] V O w0 H' T' a' w'∧(∀p∈Θ,Trk O w0 H' w' p) ∧
   ((e=.returned (.bool true)∧QB .normal T' H'∧Trk O w0 H' w' (l,.loop ρ))∨(e=.returned (.bool false)∧QB .ret T' H'∧Trk O w0 H' w' (l,.loop (Xgm ρ)))):=by
 have r0:Rel [] V O w0 H Tp { tmps:=tm,defers:=[] } w:=r.redef htm rfl
 refine roundIn_of_wpIn trivial (wpIn_mono (h l n [] V (XcQ H) w _ w r0.anew) ?_)
 rintro e a1 w1 ⟨T1,H1,r1,rfl,hbody⟩
 have hl1:Trk O w0 H1 w1 (l,.loop ρ):=Trk.on (H:=H) ⟨hl,rfl,hb,ho⟩ r1
 have r1':=r0.comp r1
 refine ⟨_,run_beginRound hl1.1 hst,?_⟩
 have r2:=r1'.putObj (.loop { ρ with state:=.busy }) hl1.1 rfl hl1.2.2.1 hl1.2.2.2
 have hlt:=(Array.getElem?_eq_some_iff.1 hl1.1).1
 have hl2:Trk O w0 H1 (w1.putObj l (.loop { ρ with state:=.busy })) (l,.loop { ρ with state:=.busy }):=⟨World.putObj_heap_same hlt,rfl,hl1.2.2⟩
 have ht2:∀p∈Θ,Trk O w0 H1 (w1.putObj l (.loop { ρ with state:=.busy })) p:=fun p hp=>by
  have q:=(ht p hp).1.on r1
  exact ⟨(World.putObj_heap_other (ht p hp).2).trans q.1,q.2⟩
 refine wpIn_mono (hbody l n [] V (XcQ H1) _ _ _ r2.anew) ?_
 rintro e a3 w3 ⟨T3,H3,r3,q⟩
 have r3':=r2.comp r3
 have hl3:=hl2.on r3
 have ht3:∀p∈Θ,Trk O w0 H3 w3 p:=fun p hp=>(ht2 p hp).on r3
 have hlt3:=(Array.getElem?_eq_some_iff.1 hl3.1).1
 have fin:∀ob:Obj,ob.isCells=false→Rel [] V O w0 H3 T3 a3 (w3.putObj l ob)∧(∀p∈Θ,Trk O w0 H3 (w3.putObj l ob) p)∧Trk O w0 H3 (w3.putObj l ob) (l,ob):=fun ob hob=>
  ⟨r3'.putObj ob hl3.1 rfl hl3.2.2.1 hl3.2.2.2,fun p hp=>⟨(World.putObj_heap_other (ht p hp).2).trans (ht3 p hp).1,(ht3 p hp).2⟩,⟨World.putObj_heap_same hlt3,rfl,hl3.2.2⟩⟩
 rcases hQB _ _ _ q with rfl|rfl
 ·have hrun:=run_endRound (P:=P) none hl3.1
  refine ⟨_,_,hrun,T3,H3,a3,(fin _ rfl).1,(fin _ rfl).2.1,.inl ⟨rfl,q,?_⟩⟩
  have e0:({ { ρ with state:=LoopState.busy } with state:=if (none:Option Code).isNone then LoopState.ready else LoopState.done,pending:=none }:Loop)=ρ:=by
   cases ρ;simp only at hst hpe;subst hst;subst hpe;rfl
  have:=(fin (.loop ρ) rfl).2.2
  rw [←e0] at this ⊢
  exact this
 ·have hrun:=run_endRound (P:=P) (some .ret) hl3.1
  exact ⟨_,_,hrun,T3,H3,a3,(fin _ rfl).1,(fin _ rfl).2.1,.inr ⟨rfl,q,(fin _ rfl).2.2⟩⟩
def Xc8 (P:Program) (Δ:List Deferred) (Θ:List (Nat × Obj)) (ops:Array Oper) (Q:Xfg) (rest:List Oper) (T:List AV) (H:List Hp):Prop:=
 ∀V O w0 a w,Rel Δ V O w0 H T a w→(∀p∈Θ,Trk O w0 H w p)→wpListIn Fence.wide 0 P ops (Xqc V O w0 Q) rest a w
theorem XbO {id:Nat} {L:List Oper} (h:Xc8 P Δ Θ L.toArray Q L T H):Xd8 P Δ Θ (.region id L.toArray false) Q T H:=fun V O w0 a w r t=>wpIn_wide.1 (wpIn_region_lit (h V O w0 a w r t))
theorem Xcc (h:Q Δ Θ .normal T H):Xc8 P Δ Θ ops Q [] T H:=fun V O w0 a w r t=>wpListIn_nil ⟨Δ,Θ,T,H,r,t,h⟩
theorem XfB {K:Act→World→Prop} {Qe:Exit→Act→World→Prop} (h:o.wp P a w K Qe):o.wpIn Fence.wide n P a w K Qe:=by
 refine ⟨fun _ _=>trivial,?_⟩
 rw [show Fence.wide.round=none from rfl,Oper.semAt_none]
 unfold Oper.wp at h
 generalize (execOp a.eval o).run P w=r at h
 cases r with
 | halt k w'=>cases k<;>first|exact h|exact h.elim
 | ok x w'=>
   cases x
   case value v=>exact h
   case skip=>exact h
   case defer d=>exact h
   case enter f args=>exact ⟨fun e=>(by cases e),callsIn_wide.2 h⟩
   case row r args=>exact ⟨fun e=>(by cases e),fun c cs _=>by
    obtain ⟨v,w2,hR,hs⟩:=h c cs
    exact ⟨v,w2,hR,stepsIn_wide.2 hs⟩⟩
   all_goals exact h.elim
theorem Xb0 {T':List AV} {rest:List Oper} (hg:o.guard=none) (av:AV) (h:Evl P o (ev T) H av) (hT:Xb4 T o.dst av=T') (hK:Xc8 P Δ Θ ops Q rest T' H):Xc8 P Δ Θ ops Q (o :: rest) T H:=fun V O w0 a w r t=>
 wpListIn_plain hg fun K hKc=>XfB (h V a w K _ (r.oks o) fun v w' he hd=>hKc _ _ (hK V O w0 _ _ (hT▸(r.quiet he).put _ hd) fun p hp=>by
  obtain ⟨t1,t2,t3,t4⟩:=t p hp
  exact ⟨(he.block p.1 (Array.getElem?_eq_some_iff.1 t1).1).trans t1,t2,t3,t4⟩))
theorem XjY {rest:List Oper} {cal:Operand} {args:Array Operand} {tys:Array TypeId} {vals:Array Value} {l:Nat} {ρ:Loop} (hg:o.guard=none) (ho:o.op=.call { callee:=.value cal,args:=args,argTypes:=tys }) (hc:ev T cal=.x (.func (.yield l) #[] #[]))
  (ha:args.toList.map (ev T)=vals.toList.map .x) (hps:vals.size=ρ.params.size) (hst:ρ.state=.ready) (hpe:ρ.pending=none) (hT:T.all dull=true) {QB:XcP}
  (htm:∀F w,XaT F w Tp ((ρ.params.zip vals).foldl (fun tmps (t,a)=>tmps.setIfInBounds t a) ρ.tmps).toList)
  (hne:∀p∈Θ,p.1≠l)
  (h:Xio P ρ.assign (fun e T1 H1=>e=.normal∧Xio P ρ.body QB T1 H1) Tp H) (hQB:∀e T H,QB e T H→e=.normal∨e=.ret)
  (hn:∀T1 H1,QB .normal T1 H1→Xc8 P Δ ((l,.loop ρ) :: Θ) ops Q rest (Xb4 T o.dst (.x (.bool true))) H1)
  (hr:∀T1 H1,QB .ret T1 H1→Xc8 P Δ ((l,.loop (Xgm ρ)) :: Θ) ops Q rest (Xb4 T o.dst (.x (.bool false))) H1) :
  Xc8 P Δ ((l,.loop ρ) :: Θ) ops Q (o :: rest) T H:=fun V O w0 a w r t=>wpListIn_plain hg fun K hK=>by
 obtain ⟨tl,tls⟩:=List.forall_mem_cons.1 t
 have hargs:args.map a.eval=vals:=by
  apply Array.toList_inj.1
  rw [Array.toList_map]
  apply List.ext_getElem?
  intro i
  have:=congrArg (fun l=>l[i]?) ha
  simp only [List.getElem?_map] at this ⊢
  cases h1:args.toList[i]? with
  | none=>rw [h1] at this;cases h2:vals.toList[i]? with
    | none=>rfl
    | some v=>rw [h2] at this;cases this
  | some x=>rw [h1] at this;cases h2:vals.toList[i]? with
    | none=>rw [h2] at this;cases this
    | some v=>
      rw [h2] at this
      simp only [Option.map_some,Option.some.injEq] at this ⊢
      exact r.evx this
 have hrun:(execOp a.eval o).run P w=.ok (.round l ρ.fn ((ρ.params.zip vals).foldl (fun tmps (t,a)=>tmps.setIfInBounds t a) ρ.tmps) ρ.assign ρ.body) w:=by
  have hy:=run_yield (P:=P) (args:=vals) tl.1 hps
  have hcv:a.eval cal=.func (.yield l) #[] #[]:=r.evx hc
  simp [execOp,ho,hcv,hargs,resolve,Deferred.ofValue,invoke,hy]
 refine ⟨fun _ _=>trivial,?_⟩
 rw [show Fence.wide.round=none from rfl,Oper.semAt_none,hrun,Oper.uponIn_round]
 refine ⟨fun e=>(by cases e),(XqF r tl.1 hst hpe tl.2.2.1 tl.2.2.2 (htm _ _) h hQB (Θ:=Θ) fun p hp=>⟨tls p hp,hne p hp⟩).mono ?_⟩
 rintro e w' ⟨T1,H1,a1,r1,t1,h1⟩
 have hd:a.defers=Δ:=r.defers
 rcases h1 with ⟨rfl,q,tk⟩|⟨rfl,q,tk⟩
 ·have r2:Rel Δ V O w0 H1 T a w':=r1.redef (r.tmps.dull hT) hd
  exact hK _ _ (hn T1 H1 q V O w0 _ _ (r2.put o.dst (v:=.bool true) (by rw [Den])) fun p hp=>by
   rcases List.mem_cons.1 hp with rfl|hp
   ·exact tk
   ·exact t1 p hp)
 ·have r2:Rel Δ V O w0 H1 T a w':=r1.redef (r.tmps.dull hT) hd
  exact hK _ _ (hr T1 H1 q V O w0 _ _ (r2.put o.dst (v:=.bool false) (by rw [Den])) fun p hp=>by
   rcases List.mem_cons.1 hp with rfl|hp
   ·exact tk
   ·exact t1 p hp)
theorem Xme (w:World) (x y:Obj):Ext w ((w.alloc x).alloc y):=(Ext.al w x).tr (Ext.al _ y)
def itT (l:Nat) (lb:Array Value) (fn:Func):List AV:=(.x (.func (.yield l) #[] #[]) :: lb.toList.map .x)++List.replicate (fn.ntmps - (1+lb.size)) .top
def Xjb (D:Nat):Deferred:={ target:=.collected D,args:=#[] }
def itQ (l D:Nat) (ρ:Loop) (KN KR:List Hp→Prop):Xfg:=fun Δ Θ e _ H=>(e=.ret∨e=.normal)∧Δ=[]∧((Θ=[(l,.loop ρ),(D,.deferred (some []))]∧KN H)∨(Θ=[(l,.loop (Xgm ρ)),(D,.deferred (some []))]∧KR H))
theorem XgY {g:Operand} {ps:Array Tmp} {assign body cb:Code} {gf:FuncId} {lb:Array Value} {fn:Func} (KN KR:List Hp→Prop) (hT:T.all dull=true) (hg:ev T g=.x (.func (.func gf) #[] lb)) (hf:P.funcs[gf]?=some fn) (hnm:fn.name≠ "runtime.NumGoroutine") (hb:fn.body=some cb) (hres:fn.results=#[])
  (hit:∀l D ρ,l≠D→ρ.state=.ready→ρ.pending=none→ρ.params=ps→ρ.assign=assign→ρ.body=body→(∀F w,XaT F w T ρ.tmps.toList) →
   Xd8 P [] [(l,.loop ρ),(D,.deferred (some []))] cb (itQ l D ρ KN KR) (itT l lb fn) H)
  (hN:∀D H',KN H'→Q (Xjb D :: Δ) [(D,.deferred (some []))] .normal T H')
  (hR:∀D H',KR H'→Q (Xjb D :: Δ) [(D,.deferred (some []))] .ret T H'):Xd8 P Δ [] (.rangeFunc g ps assign body) Q T H:=by
 intro V O w0 a w r _
 refine (wpIn_wide (n:=0)).1 (wpIn_rangeFunc ?_)
 intro f _
 obtain ⟨ρ,hρ⟩:∃ρ:Loop,ρ={ state:=.ready,pending:=none,fn:=f,tmps:=a.tmps,params:=ps,assign,body,defers:=w.heap.size }:=⟨_,rfl⟩
 obtain ⟨w1,hw1⟩:∃w1,(w.alloc (.deferred (some []))).alloc (.loop ρ)=w1:=⟨_,rfl⟩
 have hE:Ext w w1:=by rw [←hw1];exact Xme _ _ _
 have hl:w1.heap[w.heap.size+1]?=some (.loop ρ):=by
  rw [←hw1];have:=World.alloc_heap_new (w.alloc (.deferred (some []))) (.loop ρ);rwa [World.size_alloc] at this
 have hD:w1.heap[w.heap.size]?=some (.deferred (some [])):=by
  rw [←hw1];exact (Below.heap_alloc _ _ _ (by simp)).trans (World.alloc_heap_new w _)
 have hnb:∀k,w.heap.size≤k→¬XcQ H k:=fun k hk ⟨x,hx,e⟩=>by have:=(r.hok.lt x hx k e).1;omega
 have r1:Rel Δ V O w0 H T a w1:=r.quiet hE
 have tl:Trk O w0 H w1 (w.heap.size+1,.loop ρ):=⟨hl,rfl,hnb _ (by simp),.inr (Nat.le_trans r.fr.size (by simp))⟩
 have tD:Trk O w0 H w1 (w.heap.size,.deferred (some [])):=⟨hD,rfl,hnb _ (by simp),.inr r.fr.size⟩
 have hTa:∀F w,XaT F w T ρ.tmps.toList:=fun F w=>by rw [hρ];exact r.tmps.dull hT
 refine ⟨w.heap.size+1,[Xjb w.heap.size],w1,{ target:=.fn (.func gf) lb,args:=#[.func (.yield (w.heap.size+1)) #[] #[]] },w1,gf,#[.func (.yield (w.heap.size+1)) #[] #[]]++lb,w1,?_,?_,fun _ _=>trivial,?_,fun e=>(by cases e),?_⟩
 ·rw [←hw1,hρ];exact run_enterLoop_outer _ _ _ _ _
 ·have hgv:a.eval g=.func (.func gf) #[] lb:=r.evx hg
  simp only [resolve,hgv]
  simp [go_sem,Deferred.ofValue]
 ·simp [invoke,callFunc,hf,hnm,hb]
 ·refine callsIn_wide.2 (calls_of_wp hf hb ?_)
  have r2:Rel [] V O w0 H (itT (w.heap.size+1) lb fn) { tmps:=(#[Value.func (.yield (w.heap.size+1)) #[] #[]]++lb)++Array.replicate (fn.ntmps - (#[Value.func (.yield (w.heap.size+1)) #[] #[]]++lb).size) undef,defers:=[] } w1:=by
   refine r1.redef ?_ rfl
   unfold itT
   simp only [Array.toList_append,Array.toList_replicate,Array.size_append,List.size_toArray,Xu8,Xvb]
   refine XaT.app ?_ (XaT.of (by simp) fun j av u h1 h2=>?_)
   ·exact XaT.exact (l:=_ :: lb.toList)
   ·rw [List.getElem?_replicate] at h1
    split at h1
    ·cases h1;rw [Den];trivial
    ·cases h1
  refine wp_mono (hit (w.heap.size+1) w.heap.size ρ (by omega) (by rw [hρ]) (by rw [hρ]) (by rw [hρ]) (by rw [hρ]) (by rw [hρ]) hTa V O w0 _ w1 r2 (by
   intro p hp
   rcases List.mem_cons.1 hp with rfl|hp
   ·exact tl
   ·rw [List.mem_singleton] at hp;subst hp;exact tD)) ?_
  rintro e a3 w3 ⟨Δ3,Θ3,T3,H3,r3,t3,he,rfl,hq⟩
  have hres0:(results fn a3.tmps).run P w3=.ok (.tuple #[]) w3:=by simp [results,hres]
  have back:rangePost Fence.wide 0 P (w.heap.size+1) (Xqc V O w0 Q) { a with defers:=[Xjb w.heap.size]++a.defers } (.returned (.tuple #[])) w3:=by
   have hrel:∀w4,Rel [] V O w0 H3 T3 a3 w4→Rel (Xjb w.heap.size :: Δ) V O w0 H3 T { a with defers:=[Xjb w.heap.size]++a.defers } w4:=fun w4 r4=>r4.redef (r.tmps.dull hT) (by rw [r.defers];rfl)
   rcases hq with ⟨rfl,hK⟩|⟨rfl,hK⟩
   ·have hl3:=t3 _ (List.mem_cons_self ..)
    have hD3:=t3 _ (List.mem_cons_of_mem _ (List.mem_singleton.2 rfl))
    refine ⟨_,_,run_endLoop hl3.1 (by rw [hρ];simp),?_⟩
    have e0:ρ.pending=none:=by rw [hρ]
    rw [e0]
    refine ⟨_,[(w.heap.size,.deferred (some []))],T,H3,hrel _ (r3.putObj _ hl3.1 rfl hl3.2.2.1 hl3.2.2.2),fun p hp=>?_,hN _ _ hK⟩
    rw [List.mem_singleton] at hp;subst hp
    exact ⟨(World.putObj_heap_other (by simp)).trans hD3.1,hD3.2⟩
   ·have hl3:=t3 _ (List.mem_cons_self ..)
    have hD3:=t3 _ (List.mem_cons_of_mem _ (List.mem_singleton.2 rfl))
    refine ⟨_,_,run_endLoop hl3.1 (by simp [Xgm]),?_⟩
    refine wpIn_ret ⟨_,[(w.heap.size,.deferred (some []))],T,H3,hrel _ (r3.putObj _ hl3.1 rfl hl3.2.2.1 hl3.2.2.2),fun p hp=>?_,hR _ _ hK⟩
    rw [List.mem_singleton] at hp;subst hp
    exact ⟨(World.putObj_heap_other (by simp)).trans hD3.1,hD3.2⟩
  rcases he with rfl|rfl
  ·exact ⟨r3.defers,_,hres0,back⟩
  ·exact ⟨r3.defers,_,hres0,back⟩
def Xuq (P:Program) (fn:Func) (Q:AV→List Hp→Prop):Xfg:=fun Δ Θ e T H=>(e=.ret∨e=.normal)∧(Δ=[]∨∃D,Δ=[Xjb D]∧(D,.deferred (some []))∈Θ)∧∃r H',Res P fn T H r H'∧Q r H'
theorem Xb8 {fn:Func} {Q:AV→List Hp→Prop} {e:Exit} (h:Xbo P fn Q e T H):Xuq P fn Q [] Θ e T H:=⟨h.1,.inl rfl,h.2⟩
theorem XnL {fn:Func} {Q:AV→List Hp→Prop} {e:Exit} {D:Nat} (h:Xbo P fn Q e T H):Xuq P fn Q [Xjb D] [(D,.deferred (some []))] e T H:=⟨h.1,.inr ⟨D,rfl,List.mem_singleton.2 rfl⟩,h.2⟩
theorem XhF {f:FuncId} {fn:Func} {c:Code} {args:List AV} {Q:AV→List Hp→Prop} (hf:P.funcs[f]?=some fn) (hb:fn.body=some c)
  (h:Xd8 P [] [] c (Xuq P fn Q) (args++List.replicate (fn.ntmps - args.length) .top) H):Xa8 P f H args Q:=by
 intro V w vs hV hH hd hgl
 have hlen:=hd.len
 refine (callsIn_wide (n:=0)).1 (callsIn_of_wp_marks hf hb trivial (wpIn_wide.2 ?_))
 have r:Rel [] V (XcQ H) w H (args++List.replicate (fn.ntmps - args.length) .top) { tmps:=vs.toArray++Array.replicate (fn.ntmps - vs.toArray.size) undef,defers:=[] } w:=by
  refine ⟨?_,hH,Fr.refl _ _,fun x hx k hk=>.inl ⟨x,hx,hk⟩,rfl,hV,hgl⟩
  simp only [Array.toList_append,Array.toList_replicate,List.size_toArray,hlen]
  refine hd.app (XaT.of (by simp) fun j av u h1 h2=>?_)
  rw [List.getElem?_replicate] at h1
  split at h1
  ·cases h1;rw [Den];trivial
  ·cases h1
 refine wp_mono (h V (XcQ H) w _ w r (fun p hp=>by cases hp)) ?_
 rintro e a' w' ⟨Δ1,Θ1,T',H1,r1,t1,he,hΔ,res,H',hres,hq⟩
 have fin:∀w2,Rel Δ1 V (XcQ H) w H1 T' a' w2→∃v,(results fn a'.tmps).run P w2=.ok v w2∧∃r H' v',Q r H'∧Ending.returned v=.returned v'∧Den (FB V H') w2 r v'∧HOk V w2 H'∧Fr (XcQ H) w w2∧∀h∈H',∀k,h.blk=some k→XcQ H k∨w.heap.size≤k:=fun w2 r2=>by
  obtain ⟨v,g1,g2,g3,g4⟩:=hres _ V (XcQ H) w a' w2 r2
  exact ⟨v,g1,res,H',v,hq,rfl,g2,g3,r2.fr,fun x hx k hk=>by obtain ⟨y,hy,e⟩:=g4 x hx k hk;exact r2.own y hy k e⟩
 have hleave:LeavesInM Fence.wide 0 P fn a'.tmps (fun e w'=>∃r H' v,Q r H'∧e=.returned v∧Den (FB V H') w' r v∧HOk V w' H'∧Fr (XcQ H) w w'∧∀h∈H',∀k,h.blk=some k→XcQ H k∨w.heap.size≤k) a'.defers .returning w':=by
  rw [r1.defers]
  rcases hΔ with rfl|⟨D,rfl,hm⟩
  ·exact fin w' r1
  ·have tD:=t1 _ hm
   exact ⟨by simp,.inl ⟨D,_,rfl,run_takeDeferred tD.1,fin _ (r1.putObj _ tD.1 rfl tD.2.2.1 tD.2.2.2)⟩⟩
 rcases he with rfl|rfl
 ·exact hleave
 ·exact hleave
end
open Go.RowKit Go.Lib
section
variable {P:Program} {Δ Δ':List Deferred} {V O:Nat→Prop} {w0 w w':World} {H H':List Hp} {T T':List AV} {a a':Act} {o:Oper} {ops:Array Oper}
variable {Θ:List (Nat × Obj)} {Q:Xfg}
theorem Xgd {rest:List Oper} {x:Operand} {t:TypeId} {s:ByteArray} (hg:o.guard=none) (ho:o.op=.range t x) (hx:ev T x=.x (.string s)) (ht:P.underlying t=some .string)
  (hK:∀k,(∀p∈Θ,p.1≠k)→Xc8 P Δ ((k,.stringIter s 0) :: Θ) ops Q rest (Xb4 T o.dst (.x (.pointer (some ⟨k,0,none⟩)))) H):Xc8 P Δ Θ ops Q (o :: rest) T H:=fun V O w0 a w r t'=>wpListIn_plain hg fun K hKc=>by
 have hrun:(execOp a.eval o).run P w=.ok (.value (.pointer (some ⟨w.heap.size,0,none⟩))) (w.alloc (.stringIter s 0)):=by
  have hxv:a.eval x=.string s:=r.evx hx
  simp [execOp,ho,hxv,Instr.range,run_underlying ht,run_newObj_alloc,Result.andThen]
 refine XfB ?_
 unfold Oper.wp
 rw [hrun]
 have hE:Ext w (w.alloc (.stringIter s 0)):=Ext.al _ _
 have hnb:¬XcQ H w.heap.size:=fun ⟨y,hy,e⟩=>by have:=(r.hok.lt y hy _ e).1;omega
 refine hKc _ _ (hK w.heap.size (fun p hp e=>?_) V O w0 _ _ ((r.quiet hE).put o.dst (v:=.pointer (some ⟨w.heap.size,0,none⟩)) (by rw [Den])) fun p hp=>?_)
 ·have:=(Array.getElem?_eq_some_iff.1 (t' p hp).1).1;omega
 ·rcases List.mem_cons.1 hp with rfl|hp
  ·exact ⟨World.alloc_heap_new w _,rfl,hnb,.inr r.fr.size⟩
  ·obtain ⟨t1,t2,t3,t4⟩:=t' p hp
   exact ⟨(hE.block p.1 (Array.getElem?_eq_some_iff.1 t1).1).trans t1,t2,t3,t4⟩
theorem Xg9 {rest:List Oper} {x:Operand} {k pos:Nat} {s:List UInt8} (hg:o.guard=none) (ho:o.op=.next x true) (hx:ev T x=.x (.pointer (some ⟨k,0,none⟩))) (h:pos < s.length) (ha:(s[pos]).toNat < 128) (hne:∀p∈Θ,p.1≠k)
  (hK:Xc8 P Δ ((k,.stringIter (bs s) (pos+1)) :: Θ) ops Q rest (Xb4 T o.dst (.x (.tuple #[.bool true,.int .i64 pos,.int .i32 s[pos].toNat]))) H):Xc8 P Δ ((k,.stringIter (bs s) pos) :: Θ) ops Q (o :: rest) T H:=fun V O w0 a w r t'=>wpListIn_plain hg fun K hKc=>by
 obtain ⟨tk,tks⟩:=List.forall_mem_cons.1 t'
 have hxv:a.eval x=.pointer (some ⟨k,0,none⟩):=r.evx hx
 have hsz:(bs s).size=s.length:=by simp [bs,ByteArray.size]
 have hgt:(bs s)[pos]'(by omega)=s[pos]:=by simp [bs,ByteArray.getElem_eq_getElem_data]
 have hn:=run_next_ascii_at (P:=P) w k (bs s) pos o.type tk.1 (by omega) (by rw [hgt];exact ha)
 rw [hgt] at hn
 have hrun:(execOp a.eval o).run P w=.ok (.value (.tuple #[.bool true,.int .i64 pos,.int .i32 s[pos].toNat])) (w.iterAt k (bs s) (pos+1)):=by
  simp [execOp,ho,hxv,hn,Result.andThen]
 refine XfB ?_
 unfold Oper.wp
 rw [hrun]
 have r2:Rel Δ V O w0 H T a (w.iterAt k (bs s) (pos+1)):=r.putObj (.stringIter (bs s) (pos+1)) tk.1 rfl tk.2.2.1 tk.2.2.2
 refine hKc _ _ (hK V O w0 _ _ (r2.put o.dst (v:=.tuple #[.bool true,.int .i64 pos,.int .i32 s[pos].toNat]) (by rw [Den])) fun p hp=>?_)
 rcases List.mem_cons.1 hp with rfl|hp
 ·exact ⟨World.putObj_heap_same (Array.getElem?_eq_some_iff.1 tk.1).1,rfl,tk.2.2⟩
 ·exact ⟨(World.putObj_heap_other (hne p hp)).trans (tks p hp).1,(tks p hp).2⟩
theorem Xha {rest:List Oper} {x:Operand} {k pos:Nat} {s:List UInt8} (hg:o.guard=none) (ho:o.op=.next x true) (hx:ev T x=.x (.pointer (some ⟨k,0,none⟩))) (h:¬pos < s.length)
  (hK:Xc8 P Δ ((k,.stringIter (bs s) pos) :: Θ) ops Q rest (Xb4 T o.dst (.x (.tuple #[.bool false]))) H):Xc8 P Δ ((k,.stringIter (bs s) pos) :: Θ) ops Q (o :: rest) T H:=fun V O w0 a w r t'=>wpListIn_plain hg fun K hKc=>by
 have tk:=t' _ (List.mem_cons_self ..)
 have hxv:a.eval x=.pointer (some ⟨k,0,none⟩):=r.evx hx
 have hsz:(bs s).size=s.length:=by simp [bs,ByteArray.size]
 have hn:=run_next_end_at (P:=P) w k (bs s) pos o.type tk.1 (by omega)
 have hrun:(execOp a.eval o).run P w=.ok (.value (.tuple #[.bool false])) w:=by
  simp [execOp,ho,hxv,hn,Result.andThen]
 refine XfB ?_
 unfold Oper.wp
 rw [hrun]
 exact hKc _ _ (hK V O w0 _ _ (r.put o.dst (v:=.tuple #[.bool false]) (by rw [Den])) t')
section
variable {x y z u v c':Code}
theorem Xng (h:awp P x (XaL (awp P y (XaL (Xd8 P Δ Θ z Q) (Q Δ Θ))) (Q Δ Θ)) T H):Xd8 P Δ Θ (.seq x (.seq y z)) Q T H:=Xa1 (XfU h fun e T H q=>by
 cases e with
 | normal=>exact Xa1 q
 | _=>exact q)
theorem Xnh (h:awp P x (XaL (awp P y (XaL (awp P u (XaL (Xd8 P Δ Θ z Q) (Q Δ Θ))) (Q Δ Θ))) (Q Δ Θ)) T H):Xd8 P Δ Θ (.seq x (.seq y (.seq u z))) Q T H:=Xa1 (XfU h fun e T H q=>by
 cases e with
 | normal=>exact Xng q
 | _=>exact q)
theorem Xni (h:awp P x (XaL (awp P y (XaL (awp P u (XaL (awp P v (XaL (Xd8 P Δ Θ z Q) (Q Δ Θ))) (Q Δ Θ))) (Q Δ Θ))) (Q Δ Θ)) T H):Xd8 P Δ Θ (.seq x (.seq y (.seq u (.seq v z)))) Q T H:=Xa1 (XfU h fun e T H q=>by
 cases e with
 | normal=>exact Xnh q
 | _=>exact q)
theorem Xnj (h:awp P x (XaL (awp P y (XaL (awp P u (XaL (awp P v (XaL (awp P c' (XaL (Xd8 P Δ Θ z Q) (Q Δ Θ))) (Q Δ Θ))) (Q Δ Θ))) (Q Δ Θ))) (Q Δ Θ)) T H):Xd8 P Δ Θ (.seq x (.seq y (.seq u (.seq v (.seq c' z))))) Q T H:=Xa1 (XfU h fun e T H q=>by
 cases e with
 | normal=>exact Xni q
 | _=>exact q)
end
theorem Xne {c:Code} (h:Xd8 P Δ [] c Q T H):Xd8 P Δ Θ c Q T H:=fun V O w0 a w r _=>h V O w0 a w r fun p hp=>by cases hp
end
end Go.Proofs.YtdpobjakdplljaaGreatDoor

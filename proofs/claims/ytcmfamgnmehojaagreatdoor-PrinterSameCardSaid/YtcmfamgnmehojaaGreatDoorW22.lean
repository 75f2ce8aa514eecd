import Derived.Test.YtcmfamgnmehojaaGreatDoorW21
import Derived.Test.YtcmfamgnmehojaaGreatDoorW10
import Derived.Test.YtcmfamgnmehojaaGreatDoorW9
import Derived.Test.YtcmfamgnmehojaaGreatDoorW18
import Derived.Test.YtcmfamgnmehojaaGreatDoorW6
import Derived.Test.YtcmfamgnmehojaaGreatDoorW12
import Derived.Test.YtcmfamgnmehojaaGreatDoorW19
/- A walk over symbolic memory: calls that may panic in regions that draw their order. No program in sight. -/
set_option linter.unusedSimpArgs false
set_option linter.unusedVariables false
set_option maxRecDepth 100000
set_option maxHeartbeats 8000000
namespace Go.Proofs.YtcmfamgnmehojaaGreatDoor
open Go.RowKit
section
variable {P:Program} {Δ:List Deferred} {V O:Nat→Prop} {w0 w w':World} {B H H' D:List Hp} {T T':List AV} {a a':Act} {o:Oper} {ops:Array Oper} {Q:Xb9} {K:List AV→List Hp→Prop} {X:List PanicEntry→List AV→List Hp→Prop} {listed:Array Bool} {fuel:Nat} {DD:List Nat}
def Xoy (P:Program) (o:Oper) (T:List AV) (H:List Hp) (K:List AV→List Hp→Prop) (X:List PanicEntry→List AV→List Hp→Prop):Prop:=
 ∀Δ V O w0 a w (Kc:Act→World→Prop) (Qc:Exit→Act→World→Prop),Rel Δ V O w0 H T a w→(∀T' H' a' w',K T' H'→Rel Δ V O w0 H' T' a' w'→Kc a' w')→(∀ch T' H' a' w',X ch T' H'→Rel Δ V O w0 H' T' a' w'→Qc (.panic ch) a' w')→o.wp P a w Kc Qc
theorem XaG {c:Operand} {args:Array Operand} {tys:Array TypeId} {fs cs:Array Value} (f:FuncId) (fn:Func) (H1 R:List Hp) (avs:List AV) (Qf:AV→List Hp→Prop) (QP:Value→List Hp→Prop) (ho:o.op=.call { callee:=.value c,args:=args,argTypes:=tys }) (hc:ev T c=.x (.func (.func f) fs cs))
  (hf:P.funcs[f]?=some fn) (hn:fn.name≠ "runtime.NumGoroutine") (hb:fn.body.isSome=true) (hp:H.Perm (H1++R)) (hargs:VwL [] (fs.toList.map .x++args.toList.map (ev T)++cs.toList.map .x) avs) (hS:Xcp P f H1 avs Qf QP)
  (hK:∀r H',Qf r H'→K (XbH T o.dst r) (H'++R)) (hP:∀pv H',QP pv H'→X (Xku pv) T (H'++R)):Xoy P o T H K X:=fun Δ V O w0 a w Kc Qc r hKc hXc=>by
 have r1:=r.perm hp
 have hap:=List.pairwise_append.1 r1.hok.apart
 have hVF:∀k,FB (FB V R) H1 k↔FB V (H1++R) k:=fun k=>by
  simp only [FB,List.mem_append]
  constructor
  ·rintro ((h|⟨x,hx,e⟩)|⟨x,hx,e⟩)
   ·exact .inl h
   ·exact .inr ⟨x,.inr hx,e⟩
   ·exact .inr ⟨x,.inl hx,e⟩
  ·rintro (h|⟨x,hx|hx,e⟩)
   ·exact .inl (.inl h)
   ·exact .inr ⟨x,hx,e⟩
   ·exact .inl (.inr ⟨x,hx,e⟩)
 have hV:∀k,FB V R k→k < w.heap.size:=fun k hk=>by
  rcases hk with hk|⟨x,hx,e⟩
  ·exact Nat.lt_of_lt_of_le (r.vlt k hk) r.fr.size
  ·exact (r1.hok.lt x (by simp [hx]) k e).1
 have hH1:HOk (FB V R) w H1:=⟨fun x hx=>(r1.hok.ok x (by simp [hx])).weak fun k hk=>(hVF k).1 hk,hap.1,fun x hx k hk=>⟨(r1.hok.lt x (by simp [hx]) k hk).1,fun hv=>by
  rcases hv with hv|⟨y,hy,e⟩
  ·exact (r1.hok.lt x (by simp [hx]) k hk).2 hv
  ·exact hap.2.2 x hx y hy k hk e⟩⟩
 have hd:DenL (FB (FB V R) H1) w avs (fs.toList++args.toList.map a.eval++cs.toList):=hargs.den (fun k hk=>(hVF k).1 hk) (fun h hh=>by cases hh) _ ((DenL.exact.app (Xeq r1 args.toList)).app DenL.exact)
 refine Xhu ho (r.evx hc) hf hn hb (vs:=(fs.toList++args.toList.map a.eval++cs.toList).toArray) (by apply Array.toList_inj.1;simp) ?_
 refine (hS (FB V R) w _ hV hH1 hd (r1.gb.mono fun k ⟨x,hx,e⟩=>⟨x,by simp [hx],e⟩)).mono ?_
 rintro e w' (⟨res,H',v,hq,rfl,hdv,hok',hfr,hown⟩|⟨pv,H',hq,rfl,hok',hfr,hown⟩)
 ·obtain ⟨k1,k2⟩:=r1.called hok' hfr hown
  exact .inl ⟨v,rfl,hKc _ _ _ _ (hK res H' hq) (k1.put _ (k2 _ _ hdv))⟩
 ·exact .inr ⟨_,rfl,hXc _ _ _ _ _ (hP pv H' hq) (r1.called hok' hfr hown).1⟩
theorem XaM {rest:List Oper} (hg:o.guard=none) (h:Xoy P o T H (XeA P ops Q rest) fun ch T H=>Q (.panic ch) T H):XeA P ops Q (o :: rest) T H:=fun Δ V O w0 a w r=>wpList_plain hg fun Kc hKc=>
 h Δ V O w0 a w _ _ r (fun T' H' a' w' hk hr=>hKc _ _ (hk Δ V O w0 a' w' hr)) fun ch T' H' a' w' hx hr=>⟨T',H',hr,hx⟩
theorem XcE (i:Nat) {o:Oper} {l:List Oper} (hr:Region.ready .any l.toArray listed=[i]) (hi:Xdp l i=some o) (hg:o.guard=none) (h:Xoy P o T H (Xd0 P l.toArray Q DD B fuel (listed.setIfInBounds i true)) fun ch T H=>Q (.panic ch) T (B++H)):Xd0 P l.toArray Q DD B (fuel+1) listed T H:=fun Δ V O w0 wr a w r hS=>
 ⟨fun h0=>(by rw [hr] at h0;cases h0),fun j hj=>by
  rw [hr,List.mem_singleton] at hj;subst hj
  have hi:l.toArray[j]?=some o:=by rw [List.getElem?_toArray,←Xb3];exact hi
  unfold wpOp
  simp only [hi]
  rw [if_pos (by simp [Region.wanted,hg])]
  refine .inl (h _ _ _ _ a w _ _ r.aside (fun T' H' a' w' hk hr=>?_) fun ch T' H' a' w' hx hr=>⟨T',B++H',(r.rejoin hr).1,hx⟩)
  obtain ⟨r',hs⟩:=r.rejoin hr
  have hS':Xdn wr B w':=fun k hk=>(hs k hk).trans (hS k hk)
  exact ⟨fun _ _=>hS',hk Δ V O w0 wr a' w' r' hS'⟩⟩
theorem XfU (a:Act) (d:Option Tmp) (v:Value):∃u,(a.put d v).put d u=a:=by
 cases d with
 | none=>exact ⟨v,rfl⟩
 | some d=>
   obtain ⟨t,ds⟩:=a
   refine ⟨t.getD d undef,?_⟩
   simp only [Act.put]
   congr 1
   apply Array.ext_getElem?
   intro i
   by_cases hd:d < t.size
   ·by_cases e:d=i
    ·subst e
     simp [Array.getElem?_setIfInBounds,hd]
    ·simp [Array.getElem?_setIfInBounds,e]
   ·by_cases e:d=i
    ·subst e
     simp [Array.getElem?_setIfInBounds,hd]
    ·simp [Array.getElem?_setIfInBounds,e]
theorem XiA {c:List PanicEntry} {d:Option Tmp} {v:Value} (hpan:∀c T T' H,Q (.panic c) T H→Q (.panic c) T' H) (h:Xee Δ V O w0 Q (.panic c) (a.put d v) w):Xee Δ V O w0 Q (.panic c) a w:=by
 obtain ⟨T,H,r,q⟩:=h
 obtain ⟨u,e⟩:=XfU a d v
 have r2:=r.put d (av:=.top) (v:=u) (by rw [Den];trivial)
 rw [e] at r2
 exact ⟨_,H,r2,hpan _ _ _ _ q⟩
theorem XeD (i:Nat) {o:Oper} {l:List Oper} (hi:Xdp l i=some o) (hg:o.guard=none) (hc:Xcg l.toArray listed i DD=true) (hpan:∀c T T' H,Q (.panic c) T H→Q (.panic c) T' H) (av:AV)
  (h:∀V wr a w,OK V (B++H) (ev T) o a w→Xdn wr B w→∃v,(∀w',Xdn wr B w'→(execOp a.eval o).run P w'=.ok (.value v) w')∧Den (FB V (B++H)) w av v) (hK:Xd0 P l.toArray Q DD B fuel (listed.setIfInBounds i true) (XbH T o.dst av) H):Xd0 P l.toArray Q DD B (fuel+1) listed T H:=by
 have hi:l.toArray[i]?=some o:=by rw [List.getElem?_toArray,←Xb3];exact hi
 intro Δ V O w0 wr a w r hS
 obtain ⟨v,hv,hd⟩:=h V wr a w (r.oks o) hS
 have hD:=Xe4 hc
 unfold Xcg XdW at hc
 simp only [Bool.and_eq_true] at hc
 exact Xb7.first hi hc.1.1.1 (fun c a w h=>XiA hpan h) hD (Region.free_spec hi hc.1.1.2) (by simpa using hc.1.2) (.inl ⟨by simp [Region.wanted,hg],hv⟩) hS (hK Δ V O w0 wr _ w (r.put _ hd) hS)
theorem Xbm (i:Nat) {o:Oper} {l:List Oper} (hi:Xdp l i=some o) (hg:o.guard=none) (hc:Xcg l.toArray listed i DD=true) (hpan:∀c T T' H,Q (.panic c) T H→Q (.panic c) T' H) (av:AV) (h:XgD P o (ev T) (B++H) av) (hK:Xd0 P l.toArray Q DD B fuel (listed.setIfInBounds i true) (XbH T o.dst av) H):Xd0 P l.toArray Q DD B (fuel+1) listed T H:=
 XeD i hi hg hc hpan av (fun V wr a w ok _=>by obtain ⟨v,hv,hd⟩:=h V a w ok;exact ⟨v,fun w' _=>hv w',hd⟩) hK
theorem Xbf (i:Nat) {o:Oper} {l:List Oper} (hi:Xdp l i=some o) (hg:o.guard=none) (hc:Xcg l.toArray listed i DD=true) (hpan:∀c T T' H,Q (.panic c) T H→Q (.panic c) T' H) (p:Nat) (t:TypeId) (x:Operand) (b off:Nat) (cells:List AV) (agg:Bool) (n:Nat)
  (ho:o.op=.load t x) (hx:ev T x=.x (.pointer (some ⟨b,off,none⟩))) (hb:B[p]?=some (.box b cells)) (ht:XgF P t=some (agg,n)) (hn:off+n≤cells.length) (hn0:off < cells.length)
  (hK:Xd0 P l.toArray Q DD B fuel (listed.setIfInBounds i true) (XbH T o.dst (ldA agg n (cells.drop off))) H):Xd0 P l.toArray Q DD B (fuel+1) listed T H:=
 XeD i hi hg hc hpan _ (fun V wr a w ok hS=>by
  obtain ⟨vals,hd,hl,hcl⟩:=ok.hok.ok (.box b cells) (List.mem_append_left _ (List.mem_of_getElem? hb))
  obtain ⟨v,hr,hdv⟩:=Xcr (P:=P) t agg n ht w _ b off (cells.drop off) (vals.drop off) (hd.drop off) (by simp;omega) (fun _=>by simp;omega)
  refine ⟨v,fun w' hS'=>?_,hdv⟩
  have hbk:XbO B b:=⟨_,List.mem_of_getElem? hb,rfl⟩
  have hsame:w'.heap[b]?=w.heap[b]?:=(hS' b hbk).trans (hS b hbk).symm
  have:=hr w' fun j u hj=>by
   rw [World.cell?_of_block (a:=⟨b,off+j,none⟩) hsame];exact (hcl (off+j) u (by rwa [List.getElem?_drop] at hj)).1
  simp [execOp,ho,ok.evx (x:=x) (by simp [ho,Op.operands]) hx,Instr.loadAt,Instr.sureAddr,this]) hK
end
open Go.RowKit
theorem Xba {ts:List Tok} {k:Nat} (h:k < ts.length):tkA ts k=ts[k]:=by simp [tkA,List.getD_eq_getElem?_getD,h]
structure PS where
 k:Nat
 e:Int
 l:Int
 c:Int
def PS.cells (s:PS) (ts:List Tok) (sv:AV):List AV:=pc ts s.k s.e s.l s.c sv
def PS.fail (s:PS) (e:Int) (t:Tok):PS:=if s.e=0 then ⟨s.k,e,t.line,t.col⟩ else s
def PS.flt (s:PS) (f:Flt):PS:=if s.e=0 then ⟨s.k,f.code,f.line,f.col⟩ else s
def PS.on (s:PS) (n:Nat):PS:=if s.e=0 then ⟨s.k+n,0,s.l,s.c⟩ else s
def PS.upon {α:Type} (s:PS) (x:Except Flt α) (n:Nat):PS:=match x with
 | .ok _=>s.on n
 | .error f=>s.flt f
def XdG (l:List UInt8):Prop:=∀c∈l,48≤c.toNat∧c.toNat≤57
def Xnj (ts:List Tok):Prop:=∀t∈ts,t.kind=2→t.text.length≤18∧XdG t.text
def Got {α:Type} (ts:List Tok) (s:PS) (x:Except Flt (α × Nat)) (s':PS) (v:α):Prop:=
 s'.k < ts.length∧s.k≤s'.k∧(s.e≠0→s'=s)∧(s.e=0→match x with
  | .ok p=>v=p.1∧s'=⟨p.2,0,s.l,s.c⟩
  | .error f=>f.code≠0∧s'.e=f.code∧s'.l=f.line∧s'.c=f.col)
theorem Got.bind {α β:Type} {ts:List Tok} {s s1 s2:PS} {x:Except Flt (α × Nat)} {y:α→Nat→Except Flt (β × Nat)} {a:α} {b:β} (h1:Got ts s x s1 a) (h2:Got ts s1 (y a s1.k) s2 b):Got ts s (x >>= fun p=>y p.1 p.2) s2 b:=by
 obtain ⟨_,hq1,h1n,h1z⟩:=h1
 obtain ⟨hk,hq2,h2n,h2z⟩:=h2
 refine ⟨hk,Nat.le_trans hq1 hq2,fun h=>?_,fun h=>?_⟩
 ·have e:=h1n h
  subst e
  exact h2n h
 ·have h1':=h1z h
  cases x with
  | ok p=>
    obtain ⟨e1,e2⟩:=h1'
    subst e1 e2
    exact h2z rfl
  | error f=>
    obtain ⟨g1,g2,g3,g4⟩:=h1'
    have e:=h2n (by rw [g2];exact g1)
    subst e
    exact ⟨g1,g2,g3,g4⟩
theorem Got.of {α:Type} {ts:List Tok} {s s':PS} {x y:Except Flt (α × Nat)} {v:α} (h:Got ts s x s' v) (e:y=x):Got ts s y s' v:=e▸h
theorem Got.val {α β:Type} {ts:List Tok} {s s':PS} {x:Except Flt (α × Nat)} {v:α} (f:α→β) (h:Got ts s x s' v):Got ts s (x.map fun p=>(f p.1,p.2)) s' (f v):=by
 obtain ⟨hk,hq,hn,hz⟩:=h
 refine ⟨hk,hq,hn,fun e=>?_⟩
 have h':=hz e
 cases x with
 | ok p=>exact ⟨by rw [h'.1],h'.2⟩
 | error g=>exact h'
theorem Got.any {α:Type} {ts:List Tok} {s s':PS} {x:Except Flt (α × Nat)} {v w:α} (h:Got ts s x s' v) (hb:s'.e≠0):Got ts s x s' w:=by
 obtain ⟨hk,hq,hn,hz⟩:=h
 refine ⟨hk,hq,hn,fun e=>?_⟩
 have h':=hz e
 cases x with
 | ok p=>exfalso;rw [h'.2] at hb;exact hb rfl
 | error g=>exact h'
theorem Got.test {α:Type} {ts:List Tok} {s:PS} (hk:s.k < ts.length) (e2:Int) (h2:e2≠0) (t:Tok) (v:α):Got ts s (.error (flt e2 t)) (s.fail e2 t) v:=by
 refine ⟨by simp only [PS.fail];split<;>exact hk,by simp only [PS.fail];split<;>exact Nat.le_refl _,fun e=>by simp only [PS.fail,if_neg e],fun e=>?_⟩
 simp only [PS.fail,if_pos e]
 exact ⟨h2,rfl,rfl,rfl⟩
theorem Got.bad {α:Type} {ts:List Tok} {s:PS} (hk:s.k < ts.length) (hb:s.e≠0) (x:Except Flt (α × Nat)) (v:α):Got ts s x s v:=⟨hk,Nat.le_refl _,fun _=>rfl,fun e=>absurd e hb⟩
theorem Got.lt {α:Type} {ts:List Tok} {s s':PS} {x:Except Flt (α × Nat)} {v:α} (h:Got ts s x s' v):s'.k < ts.length:=h.1
theorem Got.ok {α:Type} {ts:List Tok} {s s':PS} {x:Except Flt (α × Nat)} {v:α} (h:Got ts s x s' v) (hz:s'.e=0):s.e=0∧x=.ok (v,s'.k)∧s'.l=s.l∧s'.c=s.c:=by
 obtain ⟨hk,-,hn,hz'⟩:=h
 by_cases e:s.e=0
 ·have h':=hz' e
  cases x with
  | ok p=>obtain ⟨h1,h2⟩:=h';subst h1 h2;exact ⟨e,rfl,rfl,rfl⟩
  | error g=>exact absurd (h'.2.1▸hz) h'.1
 ·exact absurd ((hn e)▸hz) e
def Xn3 (t:Tok):Except Flt Int:=if t.text=[97,108,119,97,121,115] then .ok 3 else if t.text=[111,110,45,102,97,105,108,117,114,101] then .ok 2 else if t.text=[110,101,118,101,114] then .ok 1 else .error (flt 60 t)
theorem Got.next {α:Type} {x:Except Flt α} {k k2:Nat} {v:α} (h:(x.map fun a=>(a,k))=.ok (v,k2)):k2=k:=by
 cases x with
 | ok a=>cases h;rfl
 | error f=>cases h
theorem Xep {ts:List Tok} (hv:VT ts) {s:List UInt8} (k:Nat) (hk:k < ts.length) (h:gIs ts k s=true):k+1 < ts.length:=by
 simp only [gIs,Bool.and_eq_true,beq_iff_eq,Xba hk] at h
 exact hv k hk (by omega)
def Xf9 (ts:List Tok) (k:Nat) (j:JF):Except Flt (JF × Nat):=do
 let n ←Xdk ts k
 if n < 1∨16 < n then .error (flt 2 (tkA ts k)) else
 let m ←Xdk ts (k+1)
 .ok ({ j with burst:=n,window:=m },k+2)
def Xpl:List (List UInt8):=[[114,117,110],[101,110,118],[110,101,101,100,115],[114,101,97,100,121],[114,101,115,116,97,114,116],[98,97,99,107,111,102,102],[98,117,114,115,116],[115,116,111,112]]
structure JB (j:JF) (k:Nat):Prop where
 env:j.env.length≤k
 needs:j.needs.length≤k
 ladder:j.ladder.length≤k
theorem JB.mono {j:JF} {k k':Nat} (h:JB j k) (hk:k≤k'):JB j k':=⟨Nat.le_trans h.1 hk,Nat.le_trans h.2 hk,Nat.le_trans h.3 hk⟩
section
variable (ts:List Tok) (k:Nat) (j:JF)
theorem XeN:Xco ts k Xh6 j=((Xb0 ts k 3 512).map fun t=>(t,k+1)).map fun p=>({ j with run:=p.1.text },p.2):=by
 unfold Xco
 rw [if_pos rfl]
 cases Xb0 ts k 3 512<;>rfl
theorem XeK:Xco ts k XfS j=(Xmp ts k j.env).map fun v=>({ j with env:=j.env++[v] },k+3):=by
 unfold Xco
 rw [if_neg (by decide),if_pos rfl]
theorem XeL:Xco ts k Xdd j=(XcF (Xej ts) 1 ts k []).map fun p=>({ j with needs:=p.1 },p.2):=by
 unfold Xco
 rw [if_neg (by decide),if_neg (by decide),if_pos rfl]
theorem XeM:Xco ts k Xeh j=((Xb0 ts k 4 128).map fun t=>(t,k+1)).map fun p=>({ j with hasr:=true,ready:=p.1.text },p.2):=by
 unfold Xco
 rw [if_neg (by decide),if_neg (by decide),if_neg (by decide),if_pos rfl]
 cases Xb0 ts k 4 128<;>rfl
theorem XdM:Xco ts k XcC j=((XkP ts k).map fun n=>(n,k+1)).map fun p=>({ j with restart:=p.1 },p.2):=by
 unfold Xco
 rw [if_neg (by decide),if_neg (by decide),if_neg (by decide),if_neg (by decide),if_pos rfl]
 cases XkP ts k<;>rfl
theorem Xcs:Xco ts k Xcm j=((Xdk ts k).map fun n=>(n,k+1)) >>= fun p=>((Xdk ts p.2).map fun n=>(n,p.2+1)) >>= fun q=>((Xdk ts q.2).map fun n=>(n,q.2+1)).map fun r=>({ j with base:=p.1,cap:=q.1,stable:=r.1 },r.2):=by
 unfold Xco
 rw [if_neg (by decide),if_neg (by decide),if_neg (by decide),if_neg (by decide),if_neg (by decide),if_pos rfl]
 cases h1:Xdk ts k with
 | error f=>rfl
 | ok a=>
   simp only [Except.map,bind,Except.bind]
   cases h2:Xdk ts (k+1) with
   | error f=>rfl
   | ok b=>
     simp only [Except.map,bind,Except.bind]
     cases h3:Xdk ts (k+2)<;>simp [h3]
theorem XcX:Xco ts k XdX j=Xf9 ts k j:=by
 unfold Xco
 rw [if_neg (by decide),if_neg (by decide),if_neg (by decide),if_neg (by decide),if_neg (by decide),if_neg (by decide),if_pos rfl]
 rfl
theorem Xfl:Xco ts k XiI j=(XcF (Xd4 ts) 2 ts k []).map fun p=>({ j with ladder:=p.1 },p.2):=by
 unfold Xco
 rw [if_neg (by decide),if_neg (by decide),if_neg (by decide),if_neg (by decide),if_neg (by decide),if_neg (by decide),if_neg (by decide)]
end
open Go.RowKit
def JF.zero:JF:=⟨[],[],[],[],false,[],0,0,0,0,0,0,[],0,0⟩
def Xnl (ts:List Tok):Prop:=∀t∈ts,t.text.length≤8192
theorem Xfn {ts:List Tok} {name:Tok} {k:Nat} {seen:List (List UInt8)} {j:JF} (h:gIs ts k [125]=false) (h2:(tkA ts k).kind≠1∨¬(tkA ts k).text∈Xek):Xcc ts name k seen j=.error (flt 60 (tkA ts k)):=by
 rw [Xcc,if_neg (by rw [h];decide),if_pos (by simpa using h2)]
theorem Xit {ts:List Tok} {name:Tok} {k:Nat} {seen:List (List UInt8)} {j:JF} (h:gIs ts k [125]=false) (h2:(tkA ts k).kind=1) (h3:(tkA ts k).text∈Xek) (h4:(tkA ts k).text≠XfS) (h5:seen.contains (tkA ts k).text=true):Xcc ts name k seen j=.error (flt 5 (tkA ts k)):=by
 rw [Xcc,if_neg (by rw [h];decide),if_neg (by simp [h2,h3]),if_pos ⟨h4,h5⟩]
theorem XcY {ts:List Tok} {name:Tok} {k:Nat} {seen:List (List UInt8)} {j:JF} (h:gIs ts k [125]=false) (h2:(tkA ts k).kind=1) (h3:(tkA ts k).text∈Xek) (h4:¬((tkA ts k).text≠XfS∧seen.contains (tkA ts k).text=true)):Xcc ts name k seen j=Xco ts (k+1) (tkA ts k).text j >>= fun x=>if k < x.2∧k < ts.length then Xcc ts name x.2 (if (tkA ts k).text=XfS then seen else seen++[(tkA ts k).text]) x.1 else .error (flt 60 (tkA ts k)):=by
 rw [Xcc,if_neg (by rw [h];decide),if_neg (by simp [h2,h3]),if_neg h4]
 cases Xco ts (k+1) (tkA ts k).text j with
 | error f=>rfl
 | ok x=>simp only [bind,Except.bind];split<;>rfl
theorem Got.flt {α β:Type} {ts:List Tok} {s s':PS} {f:Flt} {v:α} {w:β} (h:Got ts s (.error f:Except Flt (α × Nat)) s' v):Got ts s (.error f:Except Flt (β × Nat)) s' w:=h
theorem Xgk:∀(n:Nat) (p:Nat × Nat) (i:Nat) (l:List UInt8),l.length≤n→i≤2000→(∀ts,Xb8 p i l=.ok ts→ts.length+i≤2001)∧∀f,Xb8 p i l=.error f→f.code≠0
 | n,p,i,l,hn,hi0=>by
   cases hd:l.drop (skp l) with
   | nil=>
     rw [Xdc p i l hd]
     exact ⟨fun ts h=>(by cases h;simp;omega),fun f h=>by cases h⟩
   | cons c r=>
     have hlen:=congrArg List.length hd
     simp only [List.length_drop,Xpq] at hlen
     cases h1:one (c :: r) with
     | error e=>
       rw [Xdb p i l c r e hd h1]
       refine ⟨fun ts h=>(by cases h),fun f h=>?_⟩
       cases h
       have:=XmN h1
       simp only;omega
     | ok x=>
       by_cases hi:2000≤i
       ·rw [XcN p i l c r x hd h1 hi]
        exact ⟨fun ts h=>(by cases h),fun f h=>by cases h;simp⟩
       ·obtain ⟨a,t,m⟩:=x
        obtain ⟨g1,g2,g3,g4⟩:=XeV h1
        simp only at g1 g2 g3 g4
        rw [XcO p i l c r a t m hd h1 g1 (by omega)]
        cases n with
        | zero=>omega
        | succ n=>
          obtain ⟨h2,h3⟩:=Xgk n (plc p (l.take (skp l+m))) (i+1) ((c :: r).drop m) (by simp only [List.length_drop,Xpq];omega) (by omega)
          cases hr:Xb8 (plc p (l.take (skp l+m))) (i+1) ((c :: r).drop m) with
          | error e=>exact ⟨fun ts h=>(by cases h),fun f h=>by cases h;exact h3 _ hr⟩
          | ok y=>
            refine ⟨fun ts h=>?_,fun f h=>by cases h⟩
            cases h
            have:=h2 y hr
            simp only [Xpq];omega
theorem XdP (l:List UInt8):(∀f,lex l=.error f→f.code≠0)∧∀ts,lex l=.ok ts→0 < ts.length∧ts.length≤2001∧VT ts∧(∀t∈ts,t.text.length≤1000000)∧l.length≤8192:=by
 unfold lex
 split
 ·exact ⟨fun f h=>(by cases h;simp),fun ts h=>by cases h⟩
 ·rename_i hl
  obtain ⟨h2,h3⟩:=Xgk l.length (1,1) 0 l (Nat.le_refl _) (by omega)
  refine ⟨h3,fun ts h=>?_⟩
  have hc:=h2 ts h
  obtain ⟨qs,e,rfl,he,hq,ht⟩:=XfG l.length (1,1) 0 l ts (Nat.le_refl _) h
  refine ⟨by simp,by omega,fun k hk hne=>?_,fun t h=>(by have:=ht t h;omega),by omega⟩
  simp only [Xpz,Xpq,Xpt] at hk ⊢
  by_cases hlt:k < qs.length
  ·omega
  ·exfalso
   rw [List.getElem_append_right (by omega)] at hne
   simp at hne
   exact hne he
theorem Xmt (l m:List JF):jfa (l++m)=jfa l++jfa m:=by simp [jfa]
theorem XeU {P:Tok→Prop} (hE:∀p q:Nat,P ⟨6,[],p,q⟩) (hO:∀(l:List UInt8) a t m,one l=.ok (a,t,m)→∀p q:Nat,P ⟨a,t,p,q⟩):∀(n:Nat) (p:Nat × Nat) (i:Nat) (l:List UInt8) (ts:List Tok),l.length≤n→Xb8 p i l=.ok ts→∀t∈ts,P t
 | n,p,i,l,ts,hn,h=>by
   cases hd:l.drop (skp l) with
   | nil=>
     rw [Xdc p i l hd] at h;cases h
     simpa using hE _ _
   | cons c r=>
     have hlen:=congrArg List.length hd
     simp only [List.length_drop,Xpq] at hlen
     cases h1:one (c :: r) with
     | error e=>rw [Xdb p i l c r e hd h1] at h;cases h
     | ok x=>
       by_cases hi:2000≤i
       ·rw [XcN p i l c r x hd h1 hi] at h;cases h
       ·obtain ⟨a,t,m⟩:=x
        obtain ⟨g1,g2,g3,g4⟩:=XeV h1
        simp only at g1 g2 g3 g4
        rw [XcO p i l c r a t m hd h1 g1 (by omega)] at h
        cases hr:Xb8 (plc p (l.take (skp l+m))) (i+1) ((c :: r).drop m) with
        | error e=>rw [hr] at h;cases h
        | ok y=>
          rw [hr] at h
          simp only [Except.map] at h
          cases h
          cases n with
          | zero=>omega
          | succ n=>
            have ht:=XeU hE hO n _ _ _ y (by simp only [List.length_drop,Xpq];omega) hr
            intro t ht2
            rcases List.mem_cons.1 ht2 with rfl|ht2
            ·exact hO _ _ _ _ h1 _ _
            ·exact ht t ht2
theorem Xlr (p:UInt8→Bool) (l:List UInt8):l.take (spn p l)=l.takeWhile p:=(List.prefix_iff_eq_take.1 (List.takeWhile_prefix p)).symm
theorem XmM {l:List UInt8} {a:Int} {t:List UInt8} {m:Nat} (h:one l=.ok (a,t,m)):a=2→t.length≤18∧XdG t:=by
 intro ha
 subst ha
 cases l with
 | nil=>simp [one] at h
 | cons c r=>
   simp only [one] at h
   split at h
   ·cases h
   ·split at h
    ·split at h
     ·cases h
     ·rename_i h2
      cases h
      rw [Xlr]
      refine ⟨?_,fun x hx=>?_⟩
      ·have:((c :: r).takeWhile XbC).length=spn XbC (c :: r):=rfl
       omega
      ·have:=List.all_takeWhile (p:=XbC) (l:=c :: r)
       have hx':=(List.all_eq_true.1 this) x hx
       simpa [XbC] using hx'
    ·split at h
     ·split at h<;>cases h
     ·split at h
      ·split at h<;>cases h
      ·split at h<;>cases h
theorem Xiz (l:List UInt8) (ts:List Tok) (h:lex l=.ok ts):Xnj ts∧Xnl ts:=by
 have hf:=(XdP l).2 ts h
 unfold lex at h
 split at h
 ·cases h
 ·rename_i hl
  refine ⟨XeU (P:=fun t=>t.kind=2→t.text.length≤18∧XdG t.text) (fun p q h=>by simp at h) (fun l a t m h p q=>XmM h) l.length (1,1) 0 l ts (Nat.le_refl _) h,?_⟩
  obtain ⟨qs,e,rfl,he,hq,ht⟩:=XfG l.length (1,1) 0 l ts (Nat.le_refl _) h
  exact fun t h=>Nat.le_trans (ht t h) (by omega)
def XnM (x:Except Flt (List JF)):AV:=match x with
 | .ok js=>.tup [.sq js.length (jfa js),.x (.agg #[.int .i64 0,.int .i64 0,.int .i64 0])]
 | .error f=>.tup [.sq 0 [],f.av]
theorem Xjs {ts:List Tok} {k:Nat} {out:List JF} {f:Flt} (h:(tkA ts k).kind≠6) (h2:XhH ts k (decide (32≤out.length))=.error f):Xdo ts k out=.error f:=by rw [Xdo,if_neg h,h2]
theorem Xiu {ts:List Tok} {k:Nat} {out:List JF} {x:JF × Nat} (h:(tkA ts k).kind≠6) (h2:XhH ts k (decide (32≤out.length))=.ok x) (h3:k < x.2∧k < ts.length):Xdo ts k out=Xdo ts x.2 (out++[x.1]):=by rw [Xdo,if_neg h,h2];simp only;rw [dif_pos h3]
theorem Xjt {ts:List Tok} {k:Nat} {out:List JF} (h:(tkA ts k).kind=6):Xdo ts k out=.ok out:=by rw [Xdo,if_pos h]
theorem Got.no {α:Type} {ts:List Tok} {s s':PS} {x:Except Flt (α × Nat)} {v:α} (h:Got ts s x s' v) (he:s.e=0) (hb:s'.e≠0):∃f:Flt,x=.error f∧f.code≠0∧s'.e=f.code∧s'.l=f.line∧s'.c=f.col:=by
 have h':=h.2.2.2 he
 cases x with
 | ok p=>exfalso;rw [h'.2] at hb;exact hb rfl
 | error f=>exact ⟨f,rfl,h'⟩
end Go.Proofs.YtcmfamgnmehojaaGreatDoor

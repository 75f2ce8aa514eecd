import Derived.Test.YtdlblokjfoggpaaGreatDoorW26
import Derived.Test.YtdlblokjfoggpaaGreatDoorW0
import Derived.Test.YtdlblokjfoggpaaGreatDoorRows
import Derived.Lib.AppendZeros
import Derived.Test.YtdlblokjfoggpaaGreatDoorW2
import Derived.Test.YtdlblokjfoggpaaGreatDoorW13
import Derived.Test.YtdlblokjfoggpaaGreatDoorW6
import Derived.Test.YtdlblokjfoggpaaGreatDoorW7
import Derived.Test.YtdlblokjfoggpaaGreatDoorW11
/- A walk over symbolic memory: calls that may panic in regions that draw their order. No program in sight. -/
set_option linter.unusedSimpArgs false
set_option linter.unusedVariables false
set_option maxRecDepth 100000
set_option maxHeartbeats 8000000
namespace Go.Proofs.YtdlblokjfoggpaaGreatDoor
open Go.RowKit
section
variable {P:Program} {Δ:List Deferred} {V O:Nat→Prop} {w0 w w':World} {B H H' D:List Hp} {T T':List AV} {a a':Act} {o:Oper} {ops:Array Oper} {Q:Xcl} {K:List AV→List Hp→Prop} {X:List PanicEntry→List AV→List Hp→Prop} {listed:Array Bool} {fuel:Nat} {DD:List Nat}
def Xt3 (P:Program) (o:Oper) (T:List AV) (H:List Hp) (K:List AV→List Hp→Prop) (X:List PanicEntry→List AV→List Hp→Prop):Prop:=
 ∀Δ V O w0 a w (Kc:Act→World→Prop) (Qc:Exit→Act→World→Prop),Rel Δ V O w0 H T a w→(∀T' H' a' w',K T' H'→Rel Δ V O w0 H' T' a' w'→Kc a' w')→(∀ch T' H' a' w',X ch T' H'→Rel Δ V O w0 H' T' a' w'→Qc (.panic ch) a' w')→o.wp P a w Kc Qc
theorem XaB {c:Operand} {args:Array Operand} {tys:Array TypeId} {fs cs:Array Value} (f:FuncId) (fn:Func) (H1 R:List Hp) (avs:List AV) (Qf:AV→List Hp→Prop) (QP:Value→List Hp→Prop) (ho:o.op=.call { callee:=.value c,args:=args,argTypes:=tys }) (hc:ev T c=.x (.func (.func f) fs cs))
  (hf:P.funcs[f]?=some fn) (hn:fn.name≠ "runtime.NumGoroutine") (hb:fn.body.isSome=true) (hp:H.Perm (H1++R)) (hargs:VwL [] (fs.toList.map .x++args.toList.map (ev T)++cs.toList.map .x) avs) (hS:XcF P f H1 avs Qf QP)
  (hK:∀r H',Qf r H'→K (Xbd T o.dst r) (H'++R)) (hP:∀pv H',QP pv H'→X (Xn8 pv) T (H'++R)):Xt3 P o T H K X:=fun Δ V O w0 a w Kc Qc r hKc hXc=>by
 have r1:=r.perm hp
 have hap:=List.pairwise_append.1 r1.hok.apart
 have hVF:∀k,FB (FB V R) H1 k↔FB V (H1++R) k:=fun k=>by
  simp only [FB,List.mem_append]
  constructor
  ·rintro ((h|⟨x,hx,e⟩)|⟨x,hx,e⟩)
   ·exact .inl h
   ·exact .inr ⟨x,.inr hx,e⟩
   ·exact .inr ⟨x,.inl hx,e⟩
  ·rintro (h|⟨x,hx|hx,e⟩)
   ·exact .inl (.inl h)
   ·exact .inr ⟨x,hx,e⟩
   ·exact .inl (.inr ⟨x,hx,e⟩)
 have hV:∀k,FB V R k→k < w.heap.size:=fun k hk=>by
  rcases hk with hk|⟨x,hx,e⟩
  ·exact Nat.lt_of_lt_of_le (r.vlt k hk) r.fr.size
  ·exact (r1.hok.lt x (by simp [hx]) k e).1
 have hH1:HOk (FB V R) w H1:=⟨fun x hx=>(r1.hok.ok x (by simp [hx])).weak fun k hk=>(hVF k).1 hk,hap.1,fun x hx k hk=>⟨(r1.hok.lt x (by simp [hx]) k hk).1,fun hv=>by
  rcases hv with hv|⟨y,hy,e⟩
  ·exact (r1.hok.lt x (by simp [hx]) k hk).2 hv
  ·exact hap.2.2 x hx y hy k hk e⟩⟩
 have hd:DenL (FB (FB V R) H1) w avs (fs.toList++args.toList.map a.eval++cs.toList):=hargs.den (fun k hk=>(hVF k).1 hk) (fun h hh=>by cases hh) _ ((DenL.exact.app (Xfz r1 args.toList)).app DenL.exact)
 refine XjH ho (r.evx hc) hf hn hb (vs:=(fs.toList++args.toList.map a.eval++cs.toList).toArray) (by apply Array.toList_inj.1;simp) ?_
 refine (hS (FB V R) w _ hV hH1 hd (r1.gb.mono fun k ⟨x,hx,e⟩=>⟨x,by simp [hx],e⟩)).mono ?_
 rintro e w' (⟨res,H',v,hq,rfl,hdv,hok',hfr,hown⟩|⟨pv,H',hq,rfl,hok',hfr,hown⟩)
 ·obtain ⟨k1,k2⟩:=r1.called hok' hfr hown
  exact .inl ⟨v,rfl,hKc _ _ _ _ (hK res H' hq) (k1.put _ (k2 _ _ hdv))⟩
 ·exact .inr ⟨_,rfl,hXc _ _ _ _ _ (hP pv H' hq) (r1.called hok' hfr hown).1⟩
theorem Stp.p (h:Stp P o T H K):Xt3 P o T H K X:=fun Δ V O w0 a w Kc Qc r hK _=>h Δ V O w0 a w Kc Qc r hK
theorem XaD {rest:List Oper} (hg:o.guard=none) (h:Xt3 P o T H (XeS P ops Q rest) fun ch T H=>Q (.panic ch) T H):XeS P ops Q (o :: rest) T H:=fun Δ V O w0 a w r=>wpList_plain hg fun Kc hKc=>
 h Δ V O w0 a w _ _ r (fun T' H' a' w' hk hr=>hKc _ _ (hk Δ V O w0 a' w' hr)) fun ch T' H' a' w' hx hr=>⟨T',H',hr,hx⟩
theorem Xc6 (i:Nat) {o:Oper} {l:List Oper} (hr:Region.ready .any l.toArray listed=[i]) (hi:XcM l i=some o) (hg:o.guard=none) (h:Xt3 P o T H (Xdy P l.toArray Q DD B fuel (listed.setIfInBounds i true)) fun ch T H=>Q (.panic ch) T (B++H)):Xdy P l.toArray Q DD B (fuel+1) listed T H:=fun Δ V O w0 wr a w r hS=>
 ⟨fun h0=>(by rw [hr] at h0;cases h0),fun j hj=>by
  rw [hr,List.mem_singleton] at hj;subst hj
  have hi:l.toArray[j]?=some o:=by rw [List.getElem?_toArray,←Xca];exact hi
  unfold wpOp
  simp only [hi]
  rw [if_pos (by simp [Region.wanted,hg])]
  refine .inl (h _ _ _ _ a w _ _ r.aside (fun T' H' a' w' hk hr=>?_) fun ch T' H' a' w' hx hr=>⟨T',B++H',(r.rejoin hr).1,hx⟩)
  obtain ⟨r',hs⟩:=r.rejoin hr
  have hS':XdZ wr B w':=fun k hk=>(hs k hk).trans (hS k hk)
  exact ⟨fun _ _=>hS',hk Δ V O w0 wr a' w' r' hS'⟩⟩
theorem Xhv (a:Act) (d:Option Tmp) (v:Value):∃u,(a.put d v).put d u=a:=by
 cases d with
 | none=>exact ⟨v,rfl⟩
 | some d=>
   obtain ⟨t,ds⟩:=a
   refine ⟨t.getD d undef,?_⟩
   simp only [Act.put]
   congr 1
   apply Array.ext_getElem?
   intro i
   by_cases hd:d < t.size
   ·by_cases e:d=i
    ·subst e
     simp [Array.getElem?_setIfInBounds,hd]
    ·simp [Array.getElem?_setIfInBounds,e]
   ·by_cases e:d=i
    ·subst e
     simp [Array.getElem?_setIfInBounds,hd]
    ·simp [Array.getElem?_setIfInBounds,e]
theorem Xla {c:List PanicEntry} {d:Option Tmp} {v:Value} (hpan:∀c T T' H,Q (.panic c) T H→Q (.panic c) T' H) (h:Xfl Δ V O w0 Q (.panic c) (a.put d v) w):Xfl Δ V O w0 Q (.panic c) a w:=by
 obtain ⟨T,H,r,q⟩:=h
 obtain ⟨u,e⟩:=Xhv a d v
 have r2:=r.put d (av:=.top) (v:=u) (by rw [Den];trivial)
 rw [e] at r2
 exact ⟨_,H,r2,hpan _ _ _ _ q⟩
theorem XfO (i:Nat) {o:Oper} {l:List Oper} (hi:XcM l i=some o) (hg:o.guard=none) (hc:XbY l.toArray listed i DD=true) (hpan:∀c T T' H,Q (.panic c) T H→Q (.panic c) T' H) (av:AV)
  (h:∀V wr a w,OK V (B++H) (ev T) o a w→XdZ wr B w→∃v,(∀w',XdZ wr B w'→(execOp a.eval o).run P w'=.ok (.value v) w')∧Den (FB V (B++H)) w av v) (hK:Xdy P l.toArray Q DD B fuel (listed.setIfInBounds i true) (Xbd T o.dst av) H):Xdy P l.toArray Q DD B (fuel+1) listed T H:=by
 have hi:l.toArray[i]?=some o:=by rw [List.getElem?_toArray,←Xca];exact hi
 intro Δ V O w0 wr a w r hS
 obtain ⟨v,hv,hd⟩:=h V wr a w (r.oks o) hS
 have hD:=Xgl hc
 unfold XbY XdO at hc
 simp only [Bool.and_eq_true] at hc
 exact Xck.first hi hc.1.1.1 (fun c a w h=>Xla hpan h) hD (Region.free_spec hi hc.1.1.2) (by simpa using hc.1.2) (.inl ⟨by simp [Region.wanted,hg],hv⟩) hS (hK Δ V O w0 wr _ w (r.put _ hd) hS)
theorem Xbc (i:Nat) {o:Oper} {l:List Oper} (hi:XcM l i=some o) (hg:o.guard=none) (hc:XbY l.toArray listed i DD=true) (hpan:∀c T T' H,Q (.panic c) T H→Q (.panic c) T' H) (av:AV) (h:XeR P o (ev T) (B++H) av) (hK:Xdy P l.toArray Q DD B fuel (listed.setIfInBounds i true) (Xbd T o.dst av) H):Xdy P l.toArray Q DD B (fuel+1) listed T H:=
 XfO i hi hg hc hpan av (fun V wr a w ok _=>by obtain ⟨v,hv,hd⟩:=h V a w ok;exact ⟨v,fun w' _=>hv w',hd⟩) hK
theorem Xa4 (i:Nat) {o:Oper} {l:List Oper} (hi:XcM l i=some o) (hg:o.guard=none) (hc:XbY l.toArray listed i DD=true) (hpan:∀c T T' H,Q (.panic c) T H→Q (.panic c) T' H) (p:Nat) (t:TypeId) (x:Operand) (b off:Nat) (cells:List AV) (agg:Bool) (n:Nat)
  (ho:o.op=.load t x) (hx:ev T x=.x (.pointer (some ⟨b,off,none⟩))) (hb:B[p]?=some (.box b cells)) (ht:Xhq P t=some (agg,n)) (hn:off+n≤cells.length) (hn0:off < cells.length)
  (hK:Xdy P l.toArray Q DD B fuel (listed.setIfInBounds i true) (Xbd T o.dst (ldA agg n (cells.drop off))) H):Xdy P l.toArray Q DD B (fuel+1) listed T H:=
 XfO i hi hg hc hpan _ (fun V wr a w ok hS=>by
  obtain ⟨vals,hd,hl,hcl⟩:=ok.hok.ok (.box b cells) (List.mem_append_left _ (List.mem_of_getElem? hb))
  obtain ⟨v,hr,hdv⟩:=XbW (P:=P) t agg n ht w _ b off (cells.drop off) (vals.drop off) (hd.drop off) (by simp;omega) (fun _=>by simp;omega)
  refine ⟨v,fun w' hS'=>?_,hdv⟩
  have hbk:Xcm B b:=⟨_,List.mem_of_getElem? hb,rfl⟩
  have hsame:w'.heap[b]?=w.heap[b]?:=(hS' b hbk).trans (hS b hbk).symm
  have:=hr w' fun j u hj=>by
   rw [World.cell?_of_block (a:=⟨b,off+j,none⟩) hsame];exact (hcl (off+j) u (by rwa [List.getElem?_drop] at hj)).1
  simp [execOp,ho,ok.evx (x:=x) (by simp [ho,Op.operands]) hx,Instr.loadAt,Instr.sureAddr,this]) hK
end
open Go.RowKit
def Xez (b:UInt8):Bool:=decide ((65≤b.toNat∧b.toNat≤90)∨(97≤b.toNat∧b.toNat≤122)∨b.toNat=95)
def XbX (b:UInt8):Bool:=decide (48≤b.toNat∧b.toNat≤57)
def Xim (b:UInt8):Option Nat:=
 if 48≤b.toNat∧b.toNat≤57 then some (b.toNat - 48)
 else if 97≤b.toNat∧b.toNat≤102 then some (b.toNat - 87)
 else if 65≤b.toNat∧b.toNat≤70 then some (b.toNat - 55) else none
theorem XmF {b:UInt8} {n:Nat} (h:Xim b=some n):n < 16:=by
 unfold Xim at h
 split at h
 ·cases h;omega
 ·split at h
  ·cases h;omega
  ·split at h
   ·cases h;omega
   ·cases h
def Xfk:List UInt8→Option (UInt8 × Nat)
 | []=>none
 | d :: r=>
   if d.toNat=34∨d.toNat=92 then some (d,1) else if d.toNat=110 then some (10,1) else if d.toNat=116 then some (9,1)
   else if d.toNat=120 then match r with
    | h :: l :: _=>match Xim h,Xim l with
      | some a,some b=>some (UInt8.ofNat (16*a+b),3)
      | _,_=>none
    | _=>none
   else none
theorem Xms (d:UInt8) (r:List UInt8) (h:d.toNat=34∨d.toNat=92):Xfk (d :: r)=some (d,1):=by simp only [Xfk,if_pos h]
theorem XsV (d:UInt8) (r:List UInt8) (h:d.toNat=110):Xfk (d :: r)=some (10,1):=by simp only [Xfk];rw [if_neg (by omega),if_pos h]
theorem XsW (d:UInt8) (r:List UInt8) (h:d.toNat=116):Xfk (d :: r)=some (9,1):=by simp only [Xfk];rw [if_neg (by omega),if_neg (by omega),if_pos h]
theorem Xmt (d a b:UInt8) (r:List UInt8) (h:d.toNat=120):Xfk (d :: a :: b :: r)=(Xim a).bind fun x=>(Xim b).map fun y=>(UInt8.ofNat (16*x+y),3):=by
 simp only [Xfk];rw [if_neg (by omega),if_neg (by omega),if_neg (by omega),if_pos h]
 cases Xim a<;>cases Xim b<;>rfl
theorem XqU (d a:UInt8) (h:d.toNat=120):Xfk [d,a]=none:=by
 simp only [Xfk];rw [if_neg (by omega),if_neg (by omega),if_neg (by omega),if_pos h]
theorem XqT (d:UInt8) (h:d.toNat=120):Xfk [d]=none:=by
 simp only [Xfk];rw [if_neg (by omega),if_neg (by omega),if_neg (by omega),if_pos h]
theorem XqS (d:UInt8) (r:List UInt8) (h:¬(d.toNat=34∨d.toNat=92∨d.toNat=110∨d.toNat=116∨d.toNat=120)):Xfk (d :: r)=none:=by
 simp only [Xfk];rw [if_neg (by omega),if_neg (by omega),if_neg (by omega),if_neg (by omega)]
def part:List UInt8→Option (UInt8 × Nat)
 | []=>none
 | c :: r=>if c.toNat < 32∨c.toNat=34 then none else if c.toNat≠92 then some (c,1) else (Xfk r).map fun x=>(x.1,x.2+1)
theorem XeH (c:UInt8) (r:List UInt8):part (c :: r)=if c.toNat < 32∨c.toNat=34 then none else if c.toNat≠92 then some (c,1) else (Xfk r).map fun x=>(x.1,x.2+1):=rfl
theorem Xmq {l:List UInt8} {b:UInt8} {n:Nat} (h:Xfk l=some (b,n)):1≤n∧n≤3∧n≤l.length:=by
 unfold Xfk at h
 split at h
 ·cases h
 ·split at h
  ·cases h;simp
  ·split at h
   ·cases h;simp
   ·split at h
    ·cases h;simp
    ·split at h
     ·split at h
      ·split at h
       ·cases h;simp
       ·cases h
      ·cases h
     ·cases h
theorem Xje {l:List UInt8} {b:UInt8} {n:Nat} (h:part l=some (b,n)):1≤n∧n≤4∧n≤l.length:=by
 unfold part at h
 split at h
 ·cases h
 ·split at h
  ·cases h
  ·split at h
   ·cases h;simp
   ·cases he:Xfk _ with
    | none=>rw [he] at h;cases h
    | some x=>rw [he] at h;cases h;have:=Xmq he;simp;omega
def quo (l:List UInt8):Option (List UInt8 × Nat):=
 match l with
 | []=>none
 | c :: r=>
   if c.toNat=34 then some ([],1) else
   match part (c :: r) with
   | none=>none
   | some x=>(quo ((c :: r).drop (max x.2 1))).map fun y=>(x.1 :: y.1,x.2+y.2)
termination_by l.length
decreasing_by simp;omega
def sla (l:List UInt8):Option (List UInt8 × Nat):=
 match l with
 | []=>none
 | c :: r=>
   if c.toNat=47 then some ([],1) else if c.toNat < 32 then none
   else if c.toNat=92 then
    match r with
    | []=>none
    | d :: r=>if d.toNat < 32 then none else if d.toNat=47 then (sla r).map fun x=>(d :: x.1,2+x.2) else (sla r).map fun x=>(c :: d :: x.1,2+x.2)
   else (sla r).map fun x=>(c :: x.1,1+x.2)
def spn (p:UInt8→Bool) (l:List UInt8):Nat:=(l.takeWhile p).length
def XeA (b:UInt8):Bool:=XbX b || (Xez b || decide (b.toNat=45))
def one:List UInt8→Except Int (Int × List UInt8 × Nat)
 | []=>.error 50
 | c :: r=>
   if Xez c then .ok (1,(c :: r).take (spn XeA (c :: r)),spn XeA (c :: r))
   else if XbX c then
    if 18 < spn XbX (c :: r)∨1 < spn XbX (c :: r)∧c.toNat=48 then .error 53 else .ok (2,(c :: r).take (spn XbX (c :: r)),spn XbX (c :: r))
   else if c.toNat=34 then match quo r with
    | none=>.error 51
    | some x=>.ok (3,x.1,x.2+1)
   else if c.toNat=47 then match sla r with
    | none=>.error 52
    | some x=>.ok (4,x.1,x.2+1)
   else if c.toNat=123∨c.toNat=125∨c.toNat=44∨c.toNat=61 then .ok (5,[c],1)
   else .error 50
def cmt:List UInt8→Nat
 | []=>0
 | c :: r=>if c.toNat=10 then 0 else cmt r+1
def skp:List UInt8→Nat
 | []=>0
 | c :: r=>
   if c.toNat=32∨c.toNat=9∨c.toNat=10∨c.toNat=13 then skp r+1
   else if c.toNat=35 then cmt (c :: r)+skp ((c :: r).drop (max (cmt (c :: r)) 1))
   else 0
termination_by l=>l.length
decreasing_by
 ·simp
 ·simp;omega
theorem XpP (l:List UInt8):cmt l≤l.length:=by
 induction l with
 | nil=>simp [cmt]
 | cons c r ih=>simp only [cmt];split<;>simp;omega
theorem XfR (c:UInt8) (r:List UInt8) (h:c.toNat≠10):cmt (c :: r)=cmt r+1:=by simp only [cmt,if_neg h]
theorem XpQ (c:UInt8) (r:List UInt8) (h:c.toNat=10):cmt (c :: r)=0:=by simp only [cmt,if_pos h]
theorem XnL:skp []=0:=by rw [skp]
theorem Xif (c:UInt8) (r:List UInt8) (h:c.toNat=32∨c.toNat=9∨c.toNat=10∨c.toNat=13):skp (c :: r)=skp r+1:=by rw [skp,if_pos h]
theorem XnK (c:UInt8) (r:List UInt8) (h:c.toNat=35):skp (c :: r)=cmt (c :: r)+skp ((c :: r).drop (cmt (c :: r))):=by
 rw [skp,if_neg (by omega),if_pos h,show max (cmt (c :: r)) 1=cmt (c :: r) from by rw [XfR _ _ (by omega)];omega]
theorem Xqh (c:UInt8) (r:List UInt8) (h:¬(c.toNat=32∨c.toNat=9∨c.toNat=10∨c.toNat=13)) (h2:c.toNat≠35):skp (c :: r)=0:=by rw [skp,if_neg h,if_neg h2]
def plc (p:Nat × Nat):List UInt8→Nat × Nat
 | []=>p
 | c :: r=>plc (if c.toNat=10 then (p.1+1,1) else (p.1,p.2+1)) r
structure Tok where
 kind:Int
 text:List UInt8
 line:Nat
 col:Nat
structure Flt where
 code:Int
 line:Nat
 col:Nat
def Xcu (p:Nat × Nat) (n:Nat) (l:List UInt8):Except Flt (List Tok):=
 match h:l.drop (skp l) with
 | []=>.ok [⟨6,[],(plc p l).1,(plc p l).2⟩]
 | c :: r=>
   match one (c :: r) with
   | .error e=>.error ⟨e,(plc p (l.take (skp l))).1,(plc p (l.take (skp l))).2⟩
   | .ok x=>if 2000≤n then .error ⟨1,(plc p (l.take (skp l))).1,(plc p (l.take (skp l))).2⟩
     else (Xcu (plc p (l.take (skp l+x.2.2))) (n+1) ((c :: r).drop (max x.2.2 1))).map (⟨x.1,x.2.1,(plc p (l.take (skp l))).1,(plc p (l.take (skp l))).2⟩ :: ·)
termination_by l.length
decreasing_by
 have:=congrArg List.length h
 simp at *;omega
def lex (l:List UInt8):Except Flt (List Tok):=if 8192 < l.length then .error ⟨1,0,0⟩ else Xcu (1,1) 0 l
theorem Xgk (p:UInt8→Bool) (c:UInt8) (r:List UInt8) (h:p c=true):spn p (c :: r)=spn p r+1:=by simp [spn,List.takeWhile_cons,h]
theorem Xql (p:UInt8→Bool) (c:UInt8) (r:List UInt8) (h:p c=false):spn p (c :: r)=0:=by simp [spn,List.takeWhile_cons,h]
theorem Xko (p:UInt8→Bool) (l:List UInt8):spn p l≤l.length:=(List.takeWhile_prefix p).length_le
theorem Xjm:quo []=none:=by rw [quo]
theorem Xjl (c:UInt8) (r:List UInt8) (h:c.toNat=34):quo (c :: r)=some ([],1):=by rw [quo,if_pos h]
theorem Xkg (c:UInt8) (r:List UInt8) (h:c.toNat≠34) (h2:part (c :: r)=none):quo (c :: r)=none:=by rw [quo,if_neg h,h2]
theorem XfB (c:UInt8) (r:List UInt8) (b:UInt8) (n:Nat) (h:c.toNat≠34) (h2:part (c :: r)=some (b,n)):quo (c :: r)=(quo ((c :: r).drop n)).map fun y=>(b :: y.1,n+y.2):=by
 rw [quo,if_neg h,h2];simp only [];rw [show max n 1=n from by have:=Xje h2;omega]
theorem Xqc (l:List UInt8):∀x,quo l=some x→1≤x.2∧x.2≤l.length∧x.1.length < x.2:=by
 match h:l with
 | []=>intro x hx;rw [Xjm] at hx;cases hx
 | c :: r=>
   intro x hx
   by_cases h1:c.toNat=34
   ·rw [Xjl c r h1] at hx;cases hx;simp
   ·cases hp:part (c :: r) with
    | none=>rw [Xkg c r h1 hp] at hx;cases hx
    | some y=>
      obtain ⟨b,n⟩:=y
      have hle:=Xje hp
      rw [XfB c r b n h1 hp] at hx
      cases hq:quo ((c :: r).drop n) with
      | none=>rw [hq] at hx;cases hx
      | some z=>
        have:=Xqc ((c :: r).drop n) z hq
        rw [hq] at hx;cases hx
        simp only [List.length_drop,Xvw] at *;omega
termination_by l.length
decreasing_by subst h;simp;omega
theorem Xjy:sla []=none:=by rw [sla]
theorem Xjw (c:UInt8) (r:List UInt8) (h:c.toNat=47):sla (c :: r)=some ([],1):=by rw [sla.eq_def];simp only [if_pos h]
theorem Xjv (c:UInt8) (r:List UInt8) (h:c.toNat < 32):sla (c :: r)=none:=by rw [sla.eq_def];simp only [if_neg (show ¬c.toNat=47 by omega),if_pos h]
theorem Xhi (c:UInt8) (h:c.toNat=92):sla [c]=none:=by rw [sla,if_neg (by omega),if_neg (by omega),if_pos h]
theorem Xhh (c d:UInt8) (r:List UInt8) (h:c.toNat=92) (h2:d.toNat < 32):sla (c :: d :: r)=none:=by rw [sla,if_neg (by omega),if_neg (by omega),if_pos h];simp only [if_pos h2]
theorem Xjx (c d:UInt8) (r:List UInt8) (h:c.toNat=92) (h2:d.toNat=47):sla (c :: d :: r)=(sla r).map fun x=>(d :: x.1,2+x.2):=by
 rw [sla,if_neg (by omega),if_neg (by omega),if_pos h];simp only [if_neg (show ¬d.toNat < 32 by omega),if_pos h2]
theorem XjA (c d:UInt8) (r:List UInt8) (h:c.toNat=92) (h2:32≤d.toNat) (h3:d.toNat≠47):sla (c :: d :: r)=(sla r).map fun x=>(c :: d :: x.1,2+x.2):=by
 rw [sla,if_neg (by omega),if_neg (by omega),if_pos h];simp only [if_neg (show ¬d.toNat < 32 by omega),if_neg h3]
theorem Xjz (c:UInt8) (r:List UInt8) (h:c.toNat≠47) (h2:32≤c.toNat) (h3:c.toNat≠92):sla (c :: r)=(sla r).map fun x=>(c :: x.1,1+x.2):=by
 rw [sla.eq_def];simp only [if_neg h,if_neg (show ¬c.toNat < 32 by omega),if_neg h3]
theorem Xkk (l:List UInt8):∀x,sla l=some x→1≤x.2∧x.2≤l.length∧x.1.length < x.2:=by
 match h:l with
 | []=>intro x hx;rw [Xjy] at hx;cases hx
 | c :: r=>
   intro x hx
   by_cases h1:c.toNat=47
   ·rw [Xjw c r h1] at hx;cases hx;simp
   by_cases h2:c.toNat < 32
   ·rw [Xjv c r h2] at hx;cases hx
   by_cases h3:c.toNat=92
   ·match r,hx with
    | [],hx=>rw [Xhi c h3] at hx;cases hx
    | d :: r,hx=>
      by_cases h4:d.toNat < 32
      ·rw [Xhh c d r h3 h4] at hx;cases hx
      by_cases h5:d.toNat=47
      ·rw [Xjx c d r h3 h5] at hx
       cases hq:sla r with
       | none=>rw [hq] at hx;cases hx
       | some z=>have:=Xkk r z hq;rw [hq] at hx;cases hx;simp only [Xvw];omega
      ·rw [XjA c d r h3 (by omega) h5] at hx
       cases hq:sla r with
       | none=>rw [hq] at hx;cases hx
       | some z=>have:=Xkk r z hq;rw [hq] at hx;cases hx;simp only [Xvw];omega
   ·rw [Xjz c r h1 (by omega) h3] at hx
    cases hq:sla r with
    | none=>rw [hq] at hx;cases hx
    | some z=>have:=Xkk r z hq;rw [hq] at hx;cases hx;simp only [Xvw];omega
termination_by l.length
decreasing_by
 all_goals subst h;simp;try omega
theorem Xo4 (c:UInt8) (r:List UInt8) (h:Xez c=true):one (c :: r)=.ok (1,(c :: r).take (spn XeA (c :: r)),spn XeA (c :: r)):=by simp only [one,h,if_true]
theorem Xo2 (c:UInt8) (r:List UInt8) (h:Xez c=false) (h2:XbX c=true) (h3:18 < spn XbX (c :: r)∨1 < spn XbX (c :: r)∧c.toNat=48):one (c :: r)=.error 53:=by simp only [one,h,h2,if_pos h3,if_true,Bool.false_eq_true,if_false]
theorem XrG (c:UInt8) (r:List UInt8) (h:Xez c=false) (h2:XbX c=true) (h3:¬(18 < spn XbX (c :: r)∨1 < spn XbX (c :: r)∧c.toNat=48)):one (c :: r)=.ok (2,(c :: r).take (spn XbX (c :: r)),spn XbX (c :: r)):=by simp only [one,h,h2,if_neg h3,if_true,Bool.false_eq_true,if_false]
theorem Xnc (c:UInt8) (r:List UInt8) (h:Xez c=false) (h2:XbX c=false) (h3:c.toNat=34):one (c :: r)=match quo r with|none=>.error 51|some x=>.ok (3,x.1,x.2+1):=by simp only [one,h,h2,if_pos h3,Bool.false_eq_true,if_false];first|done|(cases quo r<;>rfl)
theorem Xnb (c:UInt8) (r:List UInt8) (h:Xez c=false) (h2:XbX c=false) (h3:c.toNat=47):one (c :: r)=match sla r with|none=>.error 52|some x=>.ok (4,x.1,x.2+1):=by simp only [one,h,h2,if_neg (show ¬c.toNat=34 by omega),if_pos h3,Bool.false_eq_true,if_false];first|done|(cases sla r<;>rfl)
theorem Xo3 (c:UInt8) (r:List UInt8) (h:Xez c=false) (h2:XbX c=false) (h3:c.toNat=123∨c.toNat=125∨c.toNat=44∨c.toNat=61):one (c :: r)=.ok (5,[c],1):=by simp only [one,h,h2,if_neg (show ¬c.toNat=34 by omega),if_neg (show ¬c.toNat=47 by omega),if_pos h3,Bool.false_eq_true,if_false]
theorem XrC (c:UInt8) (r:List UInt8) (h:Xez c=false) (h2:XbX c=false) (h3:c.toNat≠34) (h4:c.toNat≠47) (h5:¬(c.toNat=123∨c.toNat=125∨c.toNat=44∨c.toNat=61)):one (c :: r)=.error 50:=by simp only [one,h,h2,if_neg h3,if_neg h4,if_neg h5,Bool.false_eq_true,if_false]
theorem XdK (p:Nat × Nat) (n:Nat) (l:List UInt8) (h:l.drop (skp l)=[]):Xcu p n l=.ok [⟨6,[],(plc p l).1,(plc p l).2⟩]:=by
 rw [Xcu]
 split
 ·rfl
 ·rename_i h2;rw [h] at h2;cases h2
theorem XdJ (p:Nat × Nat) (n:Nat) (l:List UInt8) (c:UInt8) (r:List UInt8) (e:Int) (h:l.drop (skp l)=c :: r) (h1:one (c :: r)=.error e):Xcu p n l=.error ⟨e,(plc p (l.take (skp l))).1,(plc p (l.take (skp l))).2⟩:=by
 rw [Xcu]
 split
 ·rename_i h2;rw [h] at h2;cases h2
 ·rename_i c' r' h2
  rw [h] at h2;cases h2
  rw [h1]
theorem Xdh (p:Nat × Nat) (n:Nat) (l:List UInt8) (c:UInt8) (r:List UInt8) (x:Int × List UInt8 × Nat) (h:l.drop (skp l)=c :: r) (h1:one (c :: r)=.ok x) (hn:2000≤n):Xcu p n l=.error ⟨1,(plc p (l.take (skp l))).1,(plc p (l.take (skp l))).2⟩:=by
 rw [Xcu]
 split
 ·rename_i h2;rw [h] at h2;cases h2
 ·rename_i c' r' h2
  rw [h] at h2;cases h2
  rw [h1]
  simp only [if_pos hn]
theorem XdL (p:Nat × Nat) (n:Nat) (l:List UInt8) (c:UInt8) (r:List UInt8) (k:Int) (t:List UInt8) (m:Nat) (h:l.drop (skp l)=c :: r) (h1:one (c :: r)=.ok (k,t,m)) (hm:1≤m) (hn:n < 2000) :
  Xcu p n l=(Xcu (plc p (l.take (skp l+m))) (n+1) ((c :: r).drop m)).map (⟨k,t,(plc p (l.take (skp l))).1,(plc p (l.take (skp l))).2⟩ :: ·):=by
 rw [Xcu]
 split
 ·rename_i h2;rw [h] at h2;cases h2
 ·rename_i c' r' h2
  rw [h] at h2;cases h2
  rw [h1]
  simp only [if_neg (show ¬2000≤n by omega),show max m 1=m from by omega]
theorem Xo9 (p:Nat × Nat) (a b:List UInt8):plc p (a++b)=plc (plc p a) b:=by
 induction a generalizing p with
 | nil=>rfl
 | cons c a ih=>simp only [XvE,plc];exact ih _
theorem Xfm (l:List UInt8) (k s:Nat):plc (plc (1,1) (l.take k)) ((l.drop k).take s)=plc (1,1) (l.take (k+s)):=by
 rw [←Xo9,←List.take_add]
theorem XrY (l:List UInt8):skp l≤l.length:=by
 induction h:l.length using Nat.strongRecOn generalizing l with
 | _ n ih=>
   cases l with
   | nil=>simp [XnL]
   | cons c r=>
     by_cases h1:c.toNat=32∨c.toNat=9∨c.toNat=10∨c.toNat=13
     ·rw [Xif c r h1]
      have:=ih r.length (by simp at h;omega) r rfl
      simp at h;omega
     ·by_cases h2:c.toNat=35
      ·rw [XnK c r h2]
       have h3:=XfR c r (by omega)
       have:=ih ((c :: r).drop (cmt (c :: r))).length (by simp at h ⊢;omega) _ rfl
       have h4:=XpP (c :: r)
       rw [List.length_drop] at this
       omega
      ·rw [Xqh c r h1 h2];exact Nat.zero_le _
theorem Xgb {l:List UInt8} {x:Int × List UInt8 × Nat} (h:one l=.ok x):1≤x.2.2∧x.2.2≤l.length∧x.2.1.length≤l.length∧x.1≠6:=by
 cases l with
 | nil=>simp [one] at h
 | cons c r=>
   have hs:=fun p=>Xko p (c :: r)
   simp only [one] at h
   split at h
   ·cases h
    rename_i hc
    have:=Xgk XeA c r (by simp [XeA,hc])
    refine ⟨by simp only;omega,hs _,by simp only [List.length_take];omega,by simp⟩
   ·split at h
    ·rename_i hc
     have:=Xgk XbX c r hc
     split at h
     ·cases h
     ·cases h;refine ⟨by simp only;omega,hs _,by simp only [List.length_take];omega,by simp⟩
    ·split at h
     ·cases hq:quo r with
      | none=>rw [hq] at h;cases h
      | some y=>
        rw [hq] at h;cases h
        have:=Xqc r y hq
        simp only [Xvw]
        refine ⟨by omega,by omega,by omega,by simp⟩
     ·split at h
      ·cases hq:sla r with
       | none=>rw [hq] at h;cases h
       | some y=>
         rw [hq] at h;cases h
         have:=Xkk r y hq
         simp only [Xvw]
         refine ⟨by omega,by omega,by omega,by simp⟩
      ·split at h
       ·cases h;simp
       ·cases h
structure Xio (l:List UInt8) (k:Nat) (ts:List Tok):Prop where
 le:k≤l.length
 cnt:ts.length≤2000
 eq:Xcu (1,1) 0 l=(Xcu (plc (1,1) (l.take k)) ts.length (l.drop k)).map (ts++·)
theorem Xg2 {ε α:Type} (x:Except ε α) (f:α→α) (h:∀a,f a=a):x.map f=x:=by cases x<;>simp [Except.map,h]
theorem Xio.start (l:List UInt8):Xio l 0 [] where
 le:=Nat.zero_le _
 cnt:=Nat.zero_le _
 eq:=by simp [plc,Xg2]
section
variable {l:List UInt8} {k:Nat} {ts:List Tok}
def nxk (l:List UInt8) (k:Nat):Nat:=k+skp (l.drop k)
theorem Xtt (h:k≤l.length):nxk l k≤l.length:=by
 have:=XrY (l.drop k)
 rw [List.length_drop] at this
 unfold nxk;omega
theorem Xio.fin (h:Xio l k ts) (he:l.length≤nxk l k):Xcu (1,1) 0 l=.ok (ts++[⟨6,[],(plc (1,1) (l.take (nxk l k))).1,(plc (1,1) (l.take (nxk l k))).2⟩]):=by
 have hd:(l.drop k).drop (skp (l.drop k))=[]:=by
  rw [List.drop_drop];exact List.drop_eq_nil_of_le (by unfold nxk at he;omega)
 rw [h.eq,XdK _ _ _ hd]
 have:plc (plc (1,1) (l.take k)) (l.drop k)=plc (1,1) (l.take (nxk l k)):=by
  have h2:=Xfm l k (l.length - k)
  rw [List.take_of_length_le (show (l.drop k).length≤l.length - k by rw [List.length_drop];exact Nat.le_refl _),List.take_of_length_le (show l.length≤k+(l.length - k) by omega)] at h2
  rw [h2,List.take_of_length_le he]
 rw [this];rfl
theorem Xio.cons (h:Xio l k ts) (he:nxk l k < l.length):∃c r,l.drop (nxk l k)=c :: r∧(l.drop k).drop (skp (l.drop k))=c :: r:=by
 refine ⟨l[nxk l k],l.drop (nxk l k+1),List.drop_eq_getElem_cons he,?_⟩
 rw [List.drop_drop];exact List.drop_eq_getElem_cons he
theorem Xio.bad (h:Xio l k ts) {c:UInt8} {r:List UInt8} (hc:(l.drop k).drop (skp (l.drop k))=c :: r) {e:Int} (h1:one (c :: r)=.error e):Xcu (1,1) 0 l=.error ⟨e,(plc (1,1) (l.take (nxk l k))).1,(plc (1,1) (l.take (nxk l k))).2⟩:=by
 rw [h.eq,XdJ _ _ _ c r e hc h1,Xfm];rfl
theorem Xio.full (h:Xio l k ts) {c:UInt8} {r:List UInt8} (hc:(l.drop k).drop (skp (l.drop k))=c :: r) {x:Int × List UInt8 × Nat} (h1:one (c :: r)=.ok x) (hn:2000≤ts.length):Xcu (1,1) 0 l=.error ⟨1,(plc (1,1) (l.take (nxk l k))).1,(plc (1,1) (l.take (nxk l k))).2⟩:=by
 rw [h.eq,Xdh _ _ _ c r x hc h1 hn,Xfm];rfl
theorem Xio.next (h:Xio l k ts) {c:UInt8} {r:List UInt8} (hc:(l.drop k).drop (skp (l.drop k))=c :: r) {a:Int} {t:List UInt8} {m:Nat} (h1:one (c :: r)=.ok (a,t,m)) (hn:ts.length < 2000) :
  Xio l (nxk l k+m) (ts++[⟨a,t,(plc (1,1) (l.take (nxk l k))).1,(plc (1,1) (l.take (nxk l k))).2⟩]):=by
 obtain ⟨g1,g2,g3,g4⟩:=Xgb h1
 simp only at g1 g2
 have hlen:=congrArg List.length hc
 simp only [List.length_drop] at hlen
 have hle:=h.le
 refine ⟨by unfold nxk;omega,by simp;omega,?_⟩
 rw [h.eq,XdL _ _ _ c r a t m hc h1 g1 hn,Xfm,Xfm]
 have e1:(c :: r).drop m=l.drop (nxk l k+m):=by rw [←hc,List.drop_drop,List.drop_drop];congr 1;unfold nxk;omega
 rw [e1,show k+(skp (l.drop k)+m)=nxk l k+m from by unfold nxk;omega]
 simp only [XvF,Xvw,Xvz,Nat.zero_add]
 cases Xcu (plc (1,1) (l.take (nxk l k+m))) (ts.length+1) (l.drop (nxk l k+m)) with
 | error e=>rfl
 | ok y=>simp only [Except.map,nxk,List.append_assoc,List.singleton_append]
end
theorem Xhb:∀(n:Nat) (p:Nat × Nat) (i:Nat) (l:List UInt8) (ts:List Tok),l.length≤n→Xcu p i l=.ok ts→∃qs e,ts=qs++[e]∧e.kind=6∧(∀t∈qs,t.kind≠6)∧∀t∈ts,t.text.length≤l.length
 | n,p,i,l,ts,hn,h=>by
   cases hd:l.drop (skp l) with
   | nil=>
     rw [XdK p i l hd] at h;cases h
     exact ⟨[],_,rfl,rfl,by simp,by simp⟩
   | cons c r=>
     have hlen:=congrArg List.length hd
     simp only [List.length_drop,Xvw] at hlen
     cases h1:one (c :: r) with
     | error e=>rw [XdJ p i l c r e hd h1] at h;cases h
     | ok x=>
       by_cases hi:2000≤i
       ·rw [Xdh p i l c r x hd h1 hi] at h;cases h
       ·obtain ⟨a,t,m⟩:=x
        obtain ⟨g1,g2,g3,g4⟩:=Xgb h1
        simp only at g1 g2 g3 g4
        rw [XdL p i l c r a t m hd h1 g1 (by omega)] at h
        cases hr:Xcu (plc p (l.take (skp l+m))) (i+1) ((c :: r).drop m) with
        | error e=>rw [hr] at h;cases h
        | ok y=>
          rw [hr] at h
          simp only [Except.map] at h
          cases h
          cases n with
          | zero=>omega
          | succ n=>
            obtain ⟨qs,e,rfl,he,has,ht⟩:=Xhb n _ _ _ y (by simp only [List.length_drop,Xvw];omega) hr
            refine ⟨_ :: qs,e,rfl,he,?_,?_⟩
            ·intro t ht
             rcases List.mem_cons.1 ht with rfl|ht
             ·exact g4
             ·exact has t ht
            ·intro t ht2
             rcases List.mem_cons.1 ht2 with rfl|ht2
             ·show t.length≤l.length
              rw [Xvw] at g3;omega
             ·have:=ht t ht2
              rw [List.length_drop,Xvw] at this;omega
open Go.RowKit
def Tok.cells (t:Tok):List AV:=[.x (.int .i64 t.kind),.x (.string (bs t.text)),.x (.int .i64 (t.line:Nat)),.x (.int .i64 (t.col:Nat))]
def ta (l:List Tok):List AV:=l.flatMap Tok.cells
@[simp] theorem Xvc (l:List Tok):(ta l).length=l.length*4:=by
 induction l with
 | nil=>rfl
 | cons j l ih=>simp only [ta,List.flatMap_cons,XvF,Xvw] at ih ⊢;rw [ih];simp [Tok.cells];omega
theorem Xqo (l m:List Tok):ta (l++m)=ta l++ta m:=by simp [ta]
theorem Xfc (l:List Tok) (k:Nat) (h:k < l.length):(ta l).drop (k*4)=l[k].cells++ta (l.drop (k+1)):=by
 induction l generalizing k with
 | nil=>simp at h
 | cons j l ih=>
   have hc:j.cells.length=4:=rfl
   cases k with
   | zero=>simp [ta]
   | succ k=>
     simp only [ta,List.flatMap_cons,List.drop_succ_cons,List.getElem_cons_succ] at ih ⊢
     rw [show (k+1)*4=4+k*4 from by omega,←List.drop_drop,List.drop_append_of_le_length (by omega),show j.cells.drop 4=[] from rfl,XvD]
     exact ih k (by simpa using h)
def Xkq:Except Flt (List Tok)→List Tok|.ok l=>l|.error _=>[]
def XqZ:Except Flt (List Tok)→Flt|.ok _=>⟨0,0,0⟩|.error f=>f
def Flt.av (f:Flt):AV:=.x (.agg #[.int .i64 f.code,.int .i64 (f.line:Nat),.int .i64 (f.col:Nat)])
theorem XrE {l:List UInt8} {e:Int} (h:one l=.error e):50≤e∧e≤53:=by
 cases l with
 | nil=>simp [one] at h;omega
 | cons c r=>
   simp only [one] at h
   repeat' (first|(split at h)|(cases h;done)|(cases h;omega))
   all_goals (first|(cases h;omega)|(cases hq:quo r with|none=>(rw [hq] at h;cases h;omega)|some y=>(rw [hq] at h;cases h))|(cases hq:sla r with|none=>(rw [hq] at h;cases h;omega)|some y=>(rw [hq] at h;cases h)))
def pc (ts:List Tok) (k:Nat) (e l c:Int) (sv:AV):List AV:=[.sq ts.length (ta ts),.x (.int .i64 k),.x (.int .i64 e),.x (.int .i64 l),.x (.int .i64 c),sv]
def Tok.av (t:Tok):AV:=.x (.agg #[.int .i64 t.kind,.string (bs t.text),.int .i64 (t.line:Nat),.int .i64 (t.col:Nat)])
def VT (ts:List Tok):Prop:=∀k,(h:k < ts.length)→ts[k].kind≠6→k+1 < ts.length
structure St (ts:List Tok) (k:Nat) (e:Int) (k':Nat) (e':Int):Prop where
 le:k≤k'
 lt:k' < ts.length
 bad:e'=0→e=0
end Go.Proofs.YtdlblokjfoggpaaGreatDoor

import Derived.Test.YtdpobjakdplljaaGreatDoorU8
import Derived.Test.YtdpobjakdplljaaGreatDoorU6
import Derived.OrdersHeld
/- Scripts as texts, in plain Lean: events, lines, and what both parsers compute. No program in sight. -/
set_option linter.unusedSimpArgs false
set_option linter.unusedVariables false
set_option maxRecDepth 100000
set_option maxHeartbeats 8000000
namespace Go.Proofs.YtdpobjakdplljaaGreatDoor
open Go.RowKit
structure EF where
 kind:Int
 job:List UInt8
 ok:Bool
 code:Int
 data:List UInt8
 time:Int
 client:Int
 num:Int
def EF.cells (e:EF):List AV:=[.x (.int .i64 e.kind),.x (.string (bs e.job)),.x (.bool e.ok),.x (.int .i64 e.code),.sq e.data.length (u8a e.data),.x (.int .u64 e.time),.x (.int .i64 e.client),.x (.int .i64 e.num)]
def va (l:List EF):List AV:=l.flatMap EF.cells
@[simp] theorem Xql (l:List EF):(va l).length=l.length*8:=by
 induction l with
 | nil=>rfl
 | cons j l ih=>simp only [va,List.flatMap_cons,XqH,Xqy] at ih ⊢;rw [ih];simp [EF.cells];omega
theorem Xm6 (l m:List EF):va (l++m)=va l++va m:=by simp [va]
theorem XoD (l:List EF) (k:Nat) (h:k < l.length):(va l).drop (k*8)=l[k].cells++va (l.drop (k+1)):=by
 induction l generalizing k with
 | nil=>simp at h
 | cons j l ih=>
   cases k with
   | zero=>simp [va]
   | succ k=>
     simp only [va,List.flatMap_cons,List.drop_succ_cons,List.getElem_cons_succ] at ih ⊢
     rw [show (k+1)*8=j.cells.length+k*8 from by simp [EF.cells];omega,←List.drop_drop,List.drop_append_length]
     exact ih k (by simpa using h)
theorem Xds (l:List EF) (k:Nat) (h:k < l.length):(va l).drop (k*8)=.x (.int .i64 l[k].kind) :: .x (.string (bs l[k].job)) :: .x (.bool l[k].ok) :: .x (.int .i64 l[k].code) :: .sq l[k].data.length (u8a l[k].data) :: .x (.int .u64 l[k].time) :: .x (.int .i64 l[k].client) :: .x (.int .i64 l[k].num) :: va (l.drop (k+1)):=XoD l k h
def XbL (cur:List UInt8):List UInt8→List (List UInt8)
 | []=>if cur=[] then [] else [cur]
 | c :: r=>if c.toNat=10 then cur :: XbL [] r else XbL (cur++[c]) r
def XbG (s:List UInt8):List (List UInt8):=XbL [] s
theorem Xea:∀(l cur:List UInt8),(XbL cur l).length≤l.length+1
 | [],cur=>by unfold XbL;split<;>simp
 | c :: r,cur=>by
   unfold XbL
   split
   ·have:=Xea r [];simp;omega
   ·have:=Xea r (cur++[c]);simp;omega
theorem XeU:∀(l cur:List UInt8),∀x∈XbL cur l,x.length≤cur.length+l.length
 | [],cur=>by unfold XbL;split<;>simp
 | c :: r,cur=>by
   unfold XbL
   split
   ·intro x hx
    rcases List.mem_cons.1 hx with rfl|hx
    ·omega
    ·have:=XeU r [] x hx;simp at this ⊢;omega
   ·intro x hx
    have:=XeU r (cur++[c]) x hx
    simp at this ⊢;omega
def Xbl:List (List UInt8):=[[115,112,97,119,110,101,100],[101,120,105,116],[111,117,116,112,117,116],[116,105,99,107],[100,114,97,119],[115,116,97,114,116],[115,116,111,112],[114,101,115,116,97,114,116],[108,111,97,100],[115,104,117,116,100,111,119,110],[111,112,101,110],[98,121,116,101,115],[99,108,111,115,101],[100,114,97,105,110]]
def Xbj:List (List UInt8):=[[78,75],[78,67],[78,68],[84],[84],[78],[78],[78],[68],[],[76],[76,68],[76],[76,77]]
def wOk:List UInt8:=[111,107]
def XcS:List UInt8:=[102,97,105,108,101,100]
def Xj6 (w:List UInt8):Option Nat:=if w∈Xbl then some (Xbl.idxOf w) else none
def XdS (e:EF) (f:UInt8) (t:Tok):Option EF:=
 if f.toNat=78 then (if t.kind=1 then some { e with job:=t.text } else none)
 else if f.toNat=75 then (if t.kind=1∧(t.text=wOk∨t.text=XcS) then some { e with ok:=decide (t.text=wOk) } else none)
 else if f.toNat=68 then (if t.kind=3 then some { e with data:=t.text } else none)
 else if t.kind≠2 then none
 else if f.toNat=84 then some { e with time:=Xdb t.text }
 else if 999999999 < Xdb t.text then none
 else if f.toNat=67 then some { e with code:=Xdb t.text }
 else if f.toNat=76 then some { e with client:=Xdb t.text }
 else some { e with num:=Xdb t.text }
def Xc4 (e:EF):List UInt8→List Tok→Option EF
 | f :: fs,t :: ts=>(XdS e f t).bind fun e=>Xc4 e fs ts
 | _,_=>some e
def ev0 (k:Int):EF:=⟨k,[],false,0,[],0,0,0⟩
def XbZ (l:List Tok):Option EF:=match l with
 | []=>none
 | t :: r=>if t.kind≠1 then none else match Xj6 t.text with
   | none=>none
   | some k=>if r.length≠(Xbj.getD k []).length then none else Xc4 (ev0 (k+1:Nat)) (Xbj.getD k []) r
def cGo:List (List UInt8)→Nat→List EF→List EF × Nat × Int
 | [],n,out=>(out,n,0)
 | x :: r,n,out=>match lex x with
   | .error _=>([],n,320)
   | .ok ts=>if ts.length≤1 then cGo r (n+1) out else match XbZ ts.dropLast with
     | none=>([],n,320)
     | some e=>if 1000≤out.length then ([],n,1) else cGo r (n+1) (out++[e])
def XbQ (s:List UInt8):List EF × Nat × Int:=if 65536 < s.length then ([],0,1) else cGo (XbG s) 0 []
def XoF (x:List EF × Nat × Int):AV:=.tup [.sq x.1.length (va x.1),.x (.int .i64 x.2.1),.x (.int .i64 x.2.2)]
def pc (ts:List Tok) (k:Nat) (e l c:Int) (sv:AV):List AV:=[.sq ts.length (ta ts),.x (.int .i64 k),.x (.int .i64 e),.x (.int .i64 l),.x (.int .i64 c),sv]
def Tok.av (t:Tok):AV:=.x (.agg #[.int .i64 t.kind,.string (bs t.text),.int .i64 (t.line:Nat),.int .i64 (t.col:Nat)])
def VT (ts:List Tok):Prop:=∀k,(h:k < ts.length)→ts[k].kind≠6→k+1 < ts.length
structure St (ts:List Tok) (k:Nat) (e:Int) (k':Nat) (e':Int):Prop where
 le:k≤k'
 lt:k' < ts.length
 bad:e'=0→e=0
structure PS where
 k:Nat
 e:Int
 l:Int
 c:Int
def PS.cells (s:PS) (ts:List Tok) (sv:AV):List AV:=pc ts s.k s.e s.l s.c sv
def PS.fail (s:PS) (e:Int) (t:Tok):PS:=if s.e=0 then ⟨s.k,e,t.line,t.col⟩ else s
def PS.flt (s:PS) (f:Flt):PS:=if s.e=0 then ⟨s.k,f.code,f.line,f.col⟩ else s
def PS.on (s:PS) (n:Nat):PS:=if s.e=0 then ⟨s.k+n,0,s.l,s.c⟩ else s
def PS.upon {α:Type} (s:PS) (x:Except Flt α) (n:Nat):PS:=match x with
 | .ok _=>s.on n
 | .error f=>s.flt f
theorem Xg0 (l:List UInt8) (c:UInt8):Xdb (l++[c])=10*Xdb l+(c.toNat - 48):=by simp [Xdb]
def XdJ (l:List UInt8):Prop:=∀c∈l,48≤c.toNat∧c.toNat≤57
theorem XkY (l:List UInt8) (hd:XdJ l):∀n,n≤l.length→0≤Xdb (l.take n)∧Xdb (l.take n) < ((10 ^ n:Nat):Int):=by
 intro n
 induction n with
 | zero=>intro _;simp [Xdb]
 | succ n ih=>
   intro hn
   have h1:=ih (by omega)
   have h2:=hd l[n] (List.getElem_mem (by omega))
   rw [Xce l n (by omega),Xg0,Nat.pow_succ]
   generalize 10 ^ n=p at h1 ⊢
   omega
def XoK (ts:List Tok):Prop:=∀t∈ts,t.kind=2→t.text.length≤18∧XdJ t.text
def ia (l:List Int):List AV:=l.map fun n=>.x (.int .i64 n)
@[simp] theorem Xqg (l:List Int):(ia l).length=l.length:=by simp [ia]
def Xqt (b:Nat) (l:List Int) (k:Nat):Hp:=.box b [.sq l.length (ia l),.x (.int .i64 k)]
theorem Xmj (v n:Int) (hn:1≤n) (hn2:n≤9223372036854775807) (hv : -9223372036854775808≤v∧v≤9223372036854775807) (H:List Hp):Xbb Tryz.prog 16 H [.x (.int .i64 v),.x (.int .i64 n)] (fun r H'=>r=.x (.int .i64 (v % n))∧H'=H):=
 XbY (args:=[.int .i64 v,.int .i64 n]) (fun w=>(Xoc v n w hn hn2 hv.1 hv.2).mono fun e w' ⟨h1,h2⟩=>⟨h1,h2▸Below.refl _ _⟩) H
def I64 (l:List Int):Prop:=∀x∈l,-9223372036854775808≤x∧x≤9223372036854775807
theorem Xcq {P:Program} {o:Oper} {ρ:Operand→AV} {H:List Hp} (t:TypeId) (x y:Operand) (k:IntKind) (i:Int) (j:Nat) (l:List UInt8) (ho:o.op=.index t x y) (hx:ρ x=.x (.string (bs l))) (hy:ρ y=.x (.int k i)) (ht:P.underlying t=some .string) (hi:i=(j:Int)) (h1:j < l.length):Xlu P o ρ H (.x (.int .u8 (l.getD j 0).toNat)):=by
 subst hi
 intro V a w r
 have hg:(bs l)[j]?=some l[j]:=by rw [getElem?_pos (bs l) j (by simpa using h1)];simp
 refine ⟨.int .u8 (l.getD j 0).toNat,fun w'=>?_,by rw [Den]⟩
 have hrun:(Instr.index t (.string (bs l)) (.int k (j:Int))).run P w'=.ok (.int .u8 (l.getD j 0).toNat) w':=by simp [Instr.index,asIntOf,run_underlying ht,hg,h1,List.getD]
 simp [execOp,ho,r.evx (x:=x) (by simp [ho,Op.operands]) hx,r.evx (x:=y) (by simp [ho,Op.operands]) hy,hrun]
theorem Xf6 {α:Type} (s:List α) (k:Nat) (d:α) (h:k < s.length):s.getD k d=s[k]:=by simp [List.getD,h]
theorem XhS {α:Type} (s:List α) (k:Nat) (d:α) (h:k < s.length):s[k]?.getD d=s[k]:=by simp [h]
section
variable {P:Program} {md:Region.Mode} {ops:Array Oper} {Q:Exit→Act→World→Prop} {S:World→Prop} {D:List Nat}
def Xcj (P:Program) (md:Region.Mode) (ops:Array Oper) (Q:Exit→Act→World→Prop) (D:List Nat) (S:World→Prop):Nat→Array Bool→Act→World→Prop
 | 0,listed,a,w=>Region.ready md ops listed=[]∧Q .normal a w
 | n+1,listed,a,w=>(Region.ready md ops listed=[]→Q .normal a w) ∧
   ∀j∈Region.ready md ops listed,wpOp P ops Q j (fun a' w'=>(D.contains j=false→S w→S w')∧Xcj P md ops Q D S n (listed.setIfInBounds j true) a' w') a w
theorem Xcj.any:∀{n:Nat} {listed:Array Bool} {a:Act} {w:World},Xcj P md ops Q D S n listed a w→wpAny P md ops Q n listed a w
 | 0,_,_,_,h=>h
 | _+1,_,_,_,h=>⟨h.1,fun j hj=>wpOp_mono (fun _ _ k=>Xcj.any k.2) (h.2 j hj)⟩
theorem Xcj.rest:∀{n:Nat} {listed:Array Bool} {a:Act} {w:World},(∀j,j < ops.size→listed.getD j true=false→D.contains j=true)→wpAny P md ops Q n listed a w→Xcj P md ops Q D S n listed a w
 | 0,_,_,_,_,h=>h
 | n+1,listed,a,w,hD,h=>⟨h.1,fun j hj=>wpOp_mono (fun a' w' k=>by
   obtain ⟨h0,o,ho,_⟩:=mem_ready.1 hj
   have hlt:j < ops.size:=(Array.getElem?_eq_some_iff.1 ho).1
   refine ⟨fun hn=>(by rw [hD j hlt h0] at hn;cases hn),Xcj.rest (fun i hi h1=>hD i hi ?_) k⟩
   by_cases e:j=i
   ·subst e;exact h0
   ·rwa [getD_set_ne true e] at h1) (h.2 j hj)⟩
theorem Xcj.first {i:Nat} {oi:Oper} {v:Value} (hi:ops[i]?=some oi) (hsel:Region.noSelect ops=true) (hpan:∀c a w,Q (.panic c) (a.put oi.dst v) w→Q (.panic c) a w)
  (hD:∀j o,D.contains j=true→ops[j]?=some o→∃e∈o.after,Region.binds md e=true∧e.on=i):∀{n:Nat} {listed:Array Bool} {a:Act} {w:World},
  (∀j o,ops[j]?=some o→j≠i→listed.getD j true=false→(∀e∈o.after,Region.binds md e=true→e.on≠i)→oi.apart ops o=true) →
  i∈Region.ready md ops listed→YieldsIf P ops S oi v a→S w→Xcj P md ops Q D S n (listed.setIfInBounds i true) (a.put oi.dst v) w→Xcj P md ops Q D S (n+1) listed a w:=by
 have hns:=Region.noSelect_spec hsel
 have waits:∀{listed:Array Bool} {j:Nat},i∈Region.ready md ops listed→j∈Region.ready md ops listed→∃o,ops[j]?=some o∧listed.getD j true=false∧∀e∈o.after,Region.binds md e=true→e.on≠i:=by
  intro listed j hr hj
  obtain ⟨h0,o,ho,hall⟩:=mem_ready.1 hj
  have hn:=(mem_ready.1 hr).1
  refine ⟨o,ho,h0,fun e he hb heq=>?_⟩
  have hl:=heq▸hall e he hb
  by_cases hs:i < listed.size
  ·simp [hs] at hn hl;simp [hn] at hl
  ·simp [Array.getElem?_eq_none (Nat.le_of_not_lt hs)] at hl
 intro n
 induction n with
 | zero=>
   intro listed a w _ hr hy hS H
   refine ⟨fun h=>by simp [h] at hr,fun j hj=>?_⟩
   by_cases e:j=i
   ·subst e;exact hy.wpOp hi hS ⟨fun _ _=>hS,H⟩
   ·have:=ready_mono hj e
    rw [H.1] at this;cases this
 | succ n ih=>
   intro listed a w hap hr hy hS H
   refine ⟨fun h=>by simp [h] at hr,fun j hj=>?_⟩
   by_cases e:j=i
   ·subst e;exact hy.wpOp hi hS ⟨fun _ _=>hS,H⟩
   ·obtain ⟨o,ho,h0,hw⟩:=waits hr hj
    have hjD:D.contains j=false:=by
     cases hc:D.contains j with
     | false=>rfl
     | true=>obtain ⟨e',he',hb,heq⟩:=hD j o hc ho;exact absurd heq (hw e' he' hb)
    refine wpOp_mono (fun a' w' k=>?_) (wpOp_putIf ho (hap j o ho e h0 hw) (fun cs b=>hns i oi cs b hi) (fun cs b=>hns j o cs b ho) hpan hy (H.2 j (ready_mono hj e)))
    obtain ⟨hy',hk,hrest⟩:=k
    have hS':=hk hjD hS
    refine ⟨fun _ _=>hS',ih (fun k ok hk hki hun hno=>hap k ok hk hki ?_ hno) (ready_mono hr (Ne.symm e)) hy' hS' ?_⟩
    ·by_cases ejk:j=k
     ·subst ejk;exact h0
     ·rwa [getD_set_ne true ejk] at hun
    ·rw [Array.setIfInBounds_comm _ _ e];exact hrest
end
section
variable {P:Program} {Δ:List Deferred} {V O:Nat→Prop} {w0 w w':World} {B H H':List Hp} {T T':List AV} {a a':Act} {o:Oper} {ops:Array Oper} {Q:XcB} {listed:Array Bool} {fuel:Nat} {D:List Nat}
def XeJ (wr:World) (B:List Hp) (w:World):Prop:=∀k,Xcw B k→w.heap[k]?=wr.heap[k]?
theorem Xdy (B H:List Hp) (k:Nat):FB (fun k=>V k∨Xcw B k) H k↔FB V (B++H) k:=by
 simp only [FB,Xcw,List.mem_append]
 constructor
 ·rintro ((h|⟨x,hx,e⟩)|⟨x,hx,e⟩)
  ·exact .inl h
  ·exact .inr ⟨x,.inl hx,e⟩
  ·exact .inr ⟨x,.inr hx,e⟩
 ·rintro (h|⟨x,hx|hx,e⟩)
  ·exact .inl (.inl h)
  ·exact .inl (.inr ⟨x,hx,e⟩)
  ·exact .inr ⟨x,hx,e⟩
theorem Rel.aside (r:Rel Δ V O w0 (B++H) T a w):Rel Δ (fun k=>V k∨Xcw B k) (Xcw H) w H T a w where
 tmps:=r.tmps.weak fun k hk=>(Xdy B H k).1 hk
 hok:=⟨fun x hx=>(r.hok.ok x (by simp [hx])).weak fun k hk=>(Xdy B H k).1 hk,(List.pairwise_append.1 r.hok.apart).2.1,fun x hx k hk=>⟨(r.hok.lt x (by simp [hx]) k hk).1,fun hv=>by
  rcases hv with hv|⟨y,hy,e⟩
  ·exact (r.hok.lt x (by simp [hx]) k hk).2 hv
  ·exact (List.pairwise_append.1 r.hok.apart).2.2 y hy x hx k e hk⟩⟩
 fr:=Fr.refl _ _
 own:=fun x hx k hk=>.inl ⟨x,hx,hk⟩
 defers:=r.defers
 vlt:=fun k hk=>by
  rcases hk with hk|⟨y,hy,e⟩
  ·exact Nat.lt_of_lt_of_le (r.vlt k hk) r.fr.size
  ·exact (r.hok.lt y (by simp [hy]) k e).1
 gl:=r.gb.mono fun k ⟨x,hx,e⟩=>⟨x,by simp [hx],e⟩
theorem Rel.rejoin (r:Rel Δ V O w0 (B++H) T a w) (r':Rel Δ (fun k=>V k∨Xcw B k) (Xcw H) w H' T' a' w'):Rel Δ V O w0 (B++H') T' a' w'∧XeJ w B w':=by
 have hap:=List.pairwise_append.1 r.hok.apart
 have hsame:XeJ w B w':=fun k ⟨y,hy,e⟩=>r'.fr.block k (r.hok.lt y (by simp [hy]) k e).1 fun ⟨x,hx,e'⟩=>hap.2.2 y hy x hx k e e'
 have hF:∀k,FB V (B++H') k→FB V (B++H) k∨w.heap.size≤k:=fun k hk=>by
  rcases (Xdy B H' k).2 hk with hk|⟨x,hx,e⟩
  ·exact .inl ((Xdy B H k).1 (.inl hk))
  ·rcases r'.own x hx k e with ⟨y,hy,e'⟩|h
   ·exact .inl ((Xdy B H k).1 (.inr ⟨y,hy,e'⟩))
   ·exact .inr h
 have hw:∀k,k < w.heap.size→¬FB V (B++H) k→w'.heap[k]?=w.heap[k]?:=fun k hk hn=>r'.fr.block k hk fun ⟨y,hy,e⟩=>hn (.inr ⟨y,by simp [hy],e⟩)
 refine ⟨⟨r'.tmps.weak (fun k hk=>(Xdy B H' k).2 hk),⟨fun x hx=>?_,List.pairwise_append.2 ⟨hap.1,r'.hok.apart,fun x hx y hy k hk e=>(r'.hok.lt y hy k e).2 (.inr ⟨x,hx,hk⟩)⟩,fun x hx k hk=>?_⟩,?_,fun x hx k hk=>?_,r'.defers,r.vlt,r.gl⟩,hsame⟩
 ·rcases List.mem_append.1 hx with hx|hx
  ·exact (r.hok.ok x (by simp [hx])).conv hF hw r'.fr.size fun k hk=>hsame k ⟨x,hx,hk⟩
  ·exact (r'.hok.ok x hx).weak fun k hk=>(Xdy B H' k).2 hk
 ·rcases List.mem_append.1 hx with hx|hx
  ·exact ⟨Nat.lt_of_lt_of_le (r.hok.lt x (by simp [hx]) k hk).1 r'.fr.size,(r.hok.lt x (by simp [hx]) k hk).2⟩
  ·exact ⟨(r'.hok.lt x hx k hk).1,fun hv=>(r'.hok.lt x hx k hk).2 (.inl hv)⟩
 ·exact r.fr.trans r'.fr fun i hi ⟨y,hy,e⟩=>(r.own y (by simp [hy]) i e).resolve_right (by omega)
 ·rcases List.mem_append.1 hx with hx|hx
  ·exact r.own x (by simp [hx]) k hk
  ·rcases r'.own x hx k hk with ⟨y,hy,e⟩|h
   ·exact r.own y (by simp [hy]) k e
   ·exact .inr (Nat.le_trans r.fr.size h)
def Xi7 (P:Program) (ops:Array Oper) (Q:XcB) (D:List Nat) (B:List Hp) (fuel:Nat) (listed:Array Bool) (T:List AV) (H:List Hp):Prop:=
 ∀Δ V O w0 wr a w,Rel Δ V O w0 (B++H) T a w→XeJ wr B w→Xcj P .any ops (lift Δ V O w0 Q) D (XeJ wr B) fuel listed a w
theorem Xcl {id:Nat} {l:List Oper} (hm:P.follows .mixedOrders=true) (D:List Nat) (B R:List Hp) (hp:H.Perm (B++R)) (h:Xi7 P l.toArray Q D B l.length (Array.replicate l.length false) T R):awp P (.region id l.toArray true) Q T H:=
 XcV hm fun Δ V O w0 a w r=>(h Δ V O w0 w a w (r.perm hp) (fun _ _=>rfl)).any
theorem Xar {T':List AV} {H':List Hp} (hT:T=T') (hH:H=H') (h:Xi7 P ops Q D B fuel listed T' H'):Xi7 P ops Q D B fuel listed T H:=hT▸hH▸h
def Xei (ops:Array Oper) (listed:Array Bool) (i:Nat) (D:List Nat):Bool:=Xff ops listed i && D.all fun j=>match ops[j]? with|some o=>o.after.any fun e=>Region.binds .any e && e.on == i|none=>false
theorem Xln {i:Nat} (h:Xei ops listed i D=true):∀j o,D.contains j=true→ops[j]?=some o→∃e∈o.after,Region.binds .any e=true∧e.on=i:=fun j o hj ho=>by
 unfold Xei at h
 rw [Bool.and_eq_true,List.all_eq_true] at h
 have:=h.2 j (by simpa using hj)
 rw [ho] at this
 obtain ⟨e,he,hb⟩:=Array.any_eq_true'.1 this
 rw [Bool.and_eq_true,beq_iff_eq] at hb
 exact ⟨e,he,hb⟩
theorem XfF (i:Nat) {o:Oper} {l:List Oper} (hi:XfN l i=some o) (hg:o.guard=none) (hc:Xei l.toArray listed i D=true) (hpan:∀c T H,¬Q (.panic c) T H) (av:AV)
  (h:∀V wr a w,OK V (B++H) (ev T) o a w→XeJ wr B w→∃v,(∀w',XeJ wr B w'→(execOp a.eval o).run P w'=.ok (.value v) w')∧Den (FB V (B++H)) w av v) (hK:Xi7 P l.toArray Q D B fuel (listed.setIfInBounds i true) (XbW T o.dst av) H):Xi7 P l.toArray Q D B (fuel+1) listed T H:=by
 have hi:l.toArray[i]?=some o:=by rw [List.getElem?_toArray,←XcK];exact hi
 intro Δ V O w0 wr a w r hS
 obtain ⟨v,hv,hd⟩:=h V wr a w (r.oks o) hS
 have hD:=Xln hc
 unfold Xei Xff at hc
 simp only [Bool.and_eq_true] at hc
 exact Xcj.first hi hc.1.1.1 (fun c a w ⟨T,H,_,hq⟩=>absurd hq (hpan c T H)) hD (Region.free_spec hi hc.1.1.2) (by simpa using hc.1.2) (.inl ⟨by simp [Region.wanted,hg],hv⟩) hS (hK Δ V O w0 wr _ w (r.put _ hd) hS)
theorem XaD (i:Nat) {o:Oper} {l:List Oper} (hi:XfN l i=some o) (hg:o.guard=none) (hc:Xei l.toArray listed i D=true) (hpan:∀c T H,¬Q (.panic c) T H) (av:AV) (h:Xlu P o (ev T) (B++H) av) (hK:Xi7 P l.toArray Q D B fuel (listed.setIfInBounds i true) (XbW T o.dst av) H):Xi7 P l.toArray Q D B (fuel+1) listed T H:=
 XfF i hi hg hc hpan av (fun V wr a w ok _=>by obtain ⟨v,hv,hd⟩:=h V a w ok;exact ⟨v,fun w' _=>hv w',hd⟩) hK
theorem Xeu (t:TypeId) (b:Bool) (n:Nat) (h:XjJ P t=some (b,n)) (w:World) (F:Nat→Prop) (g off:Nat) (cells:List AV) (vals:List Value) (hd:XaN F w cells vals) (hn:n≤cells.length) (hn0:b=false→0 < cells.length) :
  ∃v,(∀w',(∀j u,vals[j]?=some u→w'.cell? ⟨g,off+j,none⟩=some u)→(loadVar t ⟨g,off,none⟩).run P w'=.ok v w')∧Den F w (ldA b n cells) v:=by
 have hadd:∀j,(⟨g,off,none⟩:Addr).add j=⟨g,off+j,none⟩:=fun j=>by unfold Addr.add;split<;>simp_all
 cases b with
 | true=>
   refine ⟨.agg (vals.take n).toArray,fun w' hc=>?_,?_⟩
   ·obtain ⟨h1,h2⟩:=Xd1 t true n h w'
    have hl:(loadCells ⟨g,off,none⟩ (vals.take n).length).run P w'=.ok (vals.take n).toArray w':=run_loadCells_list (P:=P) w' _ _ fun j v hj=>by
     rw [hadd]
     rw [List.getElem?_take] at hj
     split at hj
     ·exact hc j v hj
     ·cases hj
    have hlen:(vals.take n).length=n:=by rw [List.length_take,hd.len];omega
    rw [hlen] at hl
    simp [loadVar,h1,h2,hl]
   ·simp only [ldA,if_true];exact Den.mkA (hd.take n)
 | false=>
   have h0:=hn0 rfl
   obtain ⟨u,hu,hdu⟩:=hd.get 0 cells[0] (by simp [h0])
   refine ⟨u,fun w' hc=>?_,?_⟩
   ·obtain ⟨h1,h2⟩:=Xd1 t false n h w'
    have:=hc 0 u hu
    rw [Nat.add_zero] at this
    simp [loadVar,h1,run_load,this]
   ·simp only [ldA,Bool.false_eq_true,if_false]
    rwa [List.getD_eq_getElem?_getD,List.getElem?_eq_getElem h0]
theorem Xbr (i:Nat) {o:Oper} {l:List Oper} (hi:XfN l i=some o) (hg:o.guard=none) (hc:Xei l.toArray listed i D=true) (hpan:∀c T H,¬Q (.panic c) T H) (p:Nat) (t:TypeId) (x:Operand) (b off:Nat) (cells:List AV) (agg:Bool) (n:Nat)
  (ho:o.op=.load t x) (hx:ev T x=.x (.pointer (some ⟨b,off,none⟩))) (hb:B[p]?=some (.box b cells)) (ht:XjJ P t=some (agg,n)) (hn:off+n≤cells.length) (hn0:off < cells.length)
  (hK:Xi7 P l.toArray Q D B fuel (listed.setIfInBounds i true) (XbW T o.dst (ldA agg n (cells.drop off))) H):Xi7 P l.toArray Q D B (fuel+1) listed T H:=
 XfF i hi hg hc hpan _ (fun V wr a w ok hS=>by
  obtain ⟨vals,hd,hl,hcl⟩:=ok.hok.ok (.box b cells) (List.mem_append_left _ (List.mem_of_getElem? hb))
  obtain ⟨v,hr,hdv⟩:=Xeu (P:=P) t agg n ht w _ b off (cells.drop off) (vals.drop off) (hd.drop off) (by simp;omega) (fun _=>by simp;omega)
  refine ⟨v,fun w' hS'=>?_,hdv⟩
  have hbk:Xcw B b:=⟨_,List.mem_of_getElem? hb,rfl⟩
  have hsame:w'.heap[b]?=w.heap[b]?:=(hS' b hbk).trans (hS b hbk).symm
  have:=hr w' fun j u hj=>by
   rw [World.cell?_of_block (a:=⟨b,off+j,none⟩) hsame];exact (hcl (off+j) u (by rwa [List.getElem?_drop] at hj)).1
  simp [execOp,ho,ok.evx (x:=x) (by simp [ho,Op.operands]) hx,Instr.loadAt,Instr.sureAddr,this]) hK
theorem Xhh {j:Nat} (hi:ops[j]?=some o) (hg:o.guard=none) (h:Stp P o T H (Xi7 P ops Q D B fuel (listed.setIfInBounds j true))) (Δ:List Deferred) (V O:Nat→Prop) (w0 wr:World) (r:Rel Δ V O w0 (B++H) T a w) (hS:XeJ wr B w) :
  wpOp P ops (lift Δ V O w0 Q) j (fun a' w'=>(D.contains j=false→XeJ wr B w→XeJ wr B w')∧Xcj P .any ops (lift Δ V O w0 Q) D (XeJ wr B) fuel (listed.setIfInBounds j true) a' w') a w:=by
 unfold wpOp
 simp only [hi]
 rw [if_pos (by simp [Region.wanted,hg])]
 refine .inl (h _ _ _ _ a w _ _ r.aside fun T' H' a' w' hk hr=>?_)
 obtain ⟨r',hs⟩:=r.rejoin hr
 have hS':XeJ wr B w':=fun k hk=>(hs k hk).trans (hS k hk)
 exact ⟨fun _ _=>hS',hk Δ V O w0 wr a' w' r' hS'⟩
theorem XbP (i:Nat) {o:Oper} {l:List Oper} (hr:Region.ready .any l.toArray listed=[i]) (hi:XfN l i=some o) (hg:o.guard=none) (h:Stp P o T H (Xi7 P l.toArray Q D B fuel (listed.setIfInBounds i true))):Xi7 P l.toArray Q D B (fuel+1) listed T H:=fun Δ V O w0 wr a w r hS=>
 ⟨fun h0=>(by rw [hr] at h0;cases h0),fun j hj=>by
  rw [hr,List.mem_singleton] at hj;subst hj
  exact Xhh (by rw [List.getElem?_toArray,←XcK];exact hi) hg h Δ V O w0 wr r hS⟩
theorem XcG {l:List Oper} (hr:((List.range l.toArray.size).all fun j=>listed.getD j true || D.contains j)=true) (h:XjC P l.toArray Q fuel listed T (B++H)):Xi7 P l.toArray Q D B fuel listed T H:=fun Δ V O w0 wr a w r _=>
 Xcj.rest (fun j hj h0=>by
  rw [List.all_eq_true] at hr
  have:=hr j (List.mem_range.2 hj)
  rwa [h0,Bool.false_or] at this) (h Δ V O w0 a w r)
end
open Go.RowKit
section
variable {P:Program} {H:List Hp} {o:Oper}
end
set_option maxRecDepth 100000
open Go.RowKit
section
variable {P:Program} {H:List Hp} {o:Oper}
theorem XfO {av:AV} (h:av.one=true):av.cells=[av]:=by
 cases av with
 | x v=>
   simp only [AV.one] at h
   cases v<;>first|rfl|(simp [Value.oneCell'] at h)
 | sq=>rfl
 | at_=>rfl
 | ifc=>rfl
 | _=>simp [AV.one] at h
theorem Xop (cells:List AV) (k:Nat) (v:AV) (h:k < cells.length):spl cells k [v]=cells.set k v:=by
 unfold spl
 rw [List.set_eq_take_append_cons_drop,if_pos h];simp
end
open Go.RowKit
section
variable {P:Program} {Δ:List Deferred} {V O:Nat→Prop} {w0 w w':World} {B H H' D:List Hp} {T T':List AV} {a a':Act} {o:Oper} {Q:XcB}
theorem Xpw {Kc:Act→World→Prop} {Qc:Exit→Act→World→Prop} (h:o.wp P a w (fun a' w'=>((∃v,a'=a.put o.dst v)∨a'.defers≠a.defers)→Kc a' w') Qc):o.wp P a w Kc Qc:=by
 unfold Oper.wp at *
 generalize (execOp a.eval o).run P w=r at *
 cases r with
 | ok n w1=>
   cases n<;>simp only [Oper.upon] at h ⊢
   case value u=>exact h (.inl ⟨u,rfl⟩)
   case skip=>exact h (.inl ⟨_,rfl⟩)
   case defer d=>exact h (.inr (by cases hd:o.dst<;>simp [Act.put]))
   case enter f args=>
    refine Calls.mono h fun e w2 he=>?_
    cases e with
    | returned u=>exact he (.inl ⟨u,rfl⟩)
    | panicked c=>exact he
    | outgrown=>exact he
   case row row args=>exact Rows.mono h fun u w2 he=>he (.inl ⟨u,rfl⟩)
 | halt x w1=>cases x<;>simp only [Oper.upon] at h ⊢;exact h
def msk (ks:List Nat):Nat→List AV→List AV
 | _,[]=>[]
 | n,v :: T=>(if ks.contains n then v else .top) :: msk ks (n+1) T
theorem XkV (ks:List Nat):∀(T:List AV) (n t:Nat),(msk ks n T)[t]?=(T[t]?).map fun v=>if ks.contains (n+t) then v else .top
 | [],n,t=>by simp [msk]
 | v :: T,n,0=>by simp [msk]
 | v :: T,n,t+1=>by
   simp only [msk,List.getElem?_cons_succ]
   rw [XkV ks T (n+1) t,show n+1+t=n+(t+1) by omega]
theorem XkW (ks:List Nat) (n:Nat) (T:List AV):(msk ks n T).length=T.length:=by
 induction T generalizing n with
 | nil=>rfl
 | cons v T ih=>simp [msk,ih]
theorem Xjz {ks:List Nat} {M:AV→List Hp→Prop} {TS:List AV} (h:Stp P o (msk ks 0 T) H (fun T' H'=>∃e,T'=XbW (msk ks 0 T) o.dst e∧M e H')) (hl:TS.length=T.length) (hk:∀t,ks.contains t=true→TS[t]?=T[t]?) (hdst:∀d,o.dst=some d→d < T.length)
  (r:Rel Δ V O w0 (B++H) TS a w) (Kc:Act→World→Prop) (Qc:Exit→Act→World→Prop) (hK:∀e H' v w',M e H'→Rel Δ V O w0 (B++H') (XbW TS o.dst e) (a.put o.dst v) w'→Kc (a.put o.dst v) w'):o.wp P a w Kc Qc:=by
 have ra:=r.aside
 have rm:Rel Δ (fun k=>V k∨Xcw B k) (Xcw H) w H (msk ks 0 T) a w:={ ra with
  tmps:=XaN.of (by rw [XkW,←hl];exact ra.tmps.len) fun t av u h1 h2=>by
   rw [XkV,Nat.zero_add] at h1
   cases hT:T[t]? with
   | none=>rw [hT] at h1;cases h1
   | some v=>
     rw [hT] at h1
     simp only [Option.map_some,Option.some.injEq] at h1
     subst h1
     split
     ·rename_i hc;exact ra.tmps.get' t v u (by rw [hk t hc];exact hT) h2
     ·rw [Den];trivial }
 refine Xpw (h _ _ _ _ a w _ Qc rm ?_)
 rintro T' H' a' w' ⟨e,rfl,hm⟩ r' hput
 rcases hput with ⟨v,rfl⟩|hd
 case inr=>exact absurd (r'.defers.trans r.defers.symm) hd
 obtain ⟨rj,hs⟩:=r.rejoin r'
 have hF:∀k,FB V (B++H') k→FB V (B++H) k∨w.heap.size≤k:=fun k hk=>by
  rcases (Xdy B H' k).2 hk with hk|⟨x,hx,e⟩
  ·exact .inl ((Xdy B H k).1 (.inl hk))
  ·rcases r'.own x hx k e with ⟨y,hy,e'⟩|h
   ·exact .inl ((Xdy B H k).1 (.inr ⟨y,hy,e'⟩))
   ·exact .inr h
 have hw:∀k,k < w.heap.size→¬FB V (B++H) k→w'.heap[k]?=w.heap[k]?:=fun k hk hn=>r'.fr.block k hk fun ⟨y,hy,e⟩=>hn (.inr ⟨y,by simp [hy],e⟩)
 have r2:Rel Δ V O w0 (B++H') TS a w':={ rj with tmps:=XaN.conv hF hw _ _ r.tmps,defers:=r.defers }
 refine hK e H' v w' hm ?_
 cases hd:o.dst with
 | none=>simp only [Act.put,XbW];exact r2
 | some d=>
   rw [hd] at rj
   have hlt:=hdst d hd
   have h1:(XbW (msk ks 0 T) (some d) e)[d]?=some e:=Xh4 (by rw [XkW];exact hlt)
   have h2:(a.put (some d) v).tmps.toList[d]?=some v:=by
    have hal:d < a.tmps.size:=by have e:=r.tmps.len;rw [Array.length_toList] at e;rw [e,hl];exact hlt
    simp [Act.put,hal]
   exact r2.put (some d) (rj.tmps.get' d e v h1 h2)
end
/-! ### One order for all -/
def XdB (l:List Oper):Nat→Nat→Nat→Bool
 | 0,_,_=>false
 | n+1,x,y=>match l[x]? with
   | some o=>o.after.toList.any fun e=>e.on == y || XdB l n e.on y
   | none=>false
theorem Xh6 {l:List Oper} {S:Nat→Bool} (hcl:∀(j:Nat) (q:Oper),l[j]?=some q→S j=true→∀e∈q.after,S e.on=true):∀(n x y:Nat) (o:Oper),l[x]?=some o→(∀e∈o.after,S e.on=true)→XdB l n x y=true→S y=true
 | 0,_,_,_,_,_,h=>by simp [XdB] at h
 | n+1,x,y,o,hx,ha,h=>by
   simp only [XdB,hx,List.any_eq_true,Bool.or_eq_true,beq_iff_eq] at h
   obtain ⟨e,he,h⟩:=h
   have he':e∈o.after:=by simpa using he
   rcases h with rfl|h
   ·exact ha e he'
   ·have hS:=ha e he'
    cases n with
    | zero=>simp [XdB] at h
    | succ n=>
      cases hq:l[e.on]? with
      | none=>simp [XdB,hq] at h
      | some q=>exact Xh6 hcl (n+1) e.on y q hq (hcl e.on q hq hS) h
def Xoa (l:List Oper) (pi L D:List Nat) (n0:Option Nat):Bool:=
 Xjx l && (List.range l.length).all (fun i=>pi.contains i || D.contains i || n0 == some i) &&
 pi.all (fun i=>decide (i < l.length) && !D.contains i && n0 != some i) && decide pi.Nodup &&
 D.all (fun d=>decide (d < l.length) && n0 != some d && (List.range l.length).all fun i=>D.contains i || XdB l l.length d i) &&
 (match n0 with|some i=>(match l[i]? with|some o=>o.after.isEmpty && o.guard.isNone|none=>false)|none=>true) &&
 (List.range pi.length).all (fun k=>match pi[k]? with
  | some i=>(match l[i]? with
    | some o=>o.guard.isNone && (o.after.toList.all fun e=>(pi.take k).contains e.on) && (pi.take k).all fun q=>!L.contains q || XdB l l.length i q
    | none=>false)
  | none=>false)
structure Xlx (l:List Oper) (pi L D:List Nat) (n0:Option Nat):Prop where
 reg:XiW l
 cover:∀i,i < l.length→i∈pi∨i∈D∨n0=some i
 inpi:∀i∈pi,i < l.length∧i ∉ D∧n0≠some i
 nodup:pi.Nodup
 dlt:∀d∈D,d < l.length∧n0≠some d
 dall:∀d∈D,∀i,i < l.length→i∈D∨XdB l l.length d i=true
 alloc:∀i,n0=some i→∃o,l[i]?=some o∧(∀e,e ∉ o.after)∧o.guard=none
 ops:∀k i,pi[k]?=some i→∃o,l[i]?=some o∧o.guard=none∧(∀e∈o.after,e.on∈pi.take k)∧∀q∈pi.take k,q∈L→XdB l l.length i q=true
theorem Xmi {l:List Oper} {pi L D:List Nat} {n0:Option Nat} (h:Xoa l pi L D n0=true):Xlx l pi L D n0:=by
 unfold Xoa at h
 simp only [Bool.and_eq_true] at h
 obtain ⟨⟨⟨⟨⟨⟨h1,h2⟩,h3⟩,h4⟩,h5⟩,h6⟩,h7⟩:=h
 refine ⟨Xgj h1,fun i hi=>?_,fun i hi=>?_,of_decide_eq_true h4,fun d hd=>?_,fun d hd i hi=>?_,fun i hi=>?_,fun k i hk=>?_⟩
 ·have:=List.all_eq_true.1 h2 i (List.mem_range.2 hi)
  simpa [or_assoc] using this
 ·have:=List.all_eq_true.1 h3 i hi
  simp at this
  exact ⟨this.1.1,this.1.2,this.2⟩
 ·have:=List.all_eq_true.1 h5 d hd
  simp only [Bool.and_eq_true,decide_eq_true_eq,bne_iff_ne] at this
  exact this.1
 ·have:=List.all_eq_true.1 h5 d hd
  simp only [Bool.and_eq_true] at this
  have:=List.all_eq_true.1 this.2 i (List.mem_range.2 hi)
  simpa using this
 ·subst hi
  simp only at h6
  cases ho:l[i]? with
  | none=>simp [ho] at h6
  | some o=>
    simp only [ho,Bool.and_eq_true,Option.isNone_iff_eq_none] at h6
    refine ⟨o,rfl,fun e he=>?_,h6.2⟩
    have:=h6.1
    rw [Array.isEmpty_iff] at this
    rw [this] at he;simp at he
 ·have hkl:k < pi.length:=(List.getElem?_eq_some_iff.1 hk).1
  have:=List.all_eq_true.1 h7 k (List.mem_range.2 hkl)
  rw [hk] at this
  simp only at this
  cases ho:l[i]? with
  | none=>simp [ho] at this
  | some o=>
    simp only [ho,Bool.and_eq_true,Option.isNone_iff_eq_none,List.all_eq_true] at this
    obtain ⟨⟨g1,g2⟩,g3⟩:=this
    refine ⟨o,rfl,g1,fun e he=>?_,fun q hq hL=>?_⟩
    ·have:=g2 e (by simpa using he)
     simpa using this
    ·have:=g3 q hq
     simpa [hL] using this
def dm (P:Program) (B:List Hp) (l:List Oper) (L:List Nat):List Nat→List AV→List Hp→(List AV→List Hp→Prop)→Prop
 | [],T,H,fin=>fin T H
 | i :: pi,T,H,fin=>∃o,XfN l i=some o∧((L.contains i=false∧∃e,(∀H1,Evl P o (ev T) (B++H1) e)∧dm P B l L pi (XbW T o.dst e) H fin) ∨
   (L.contains i=true∧Stp P o (msk (looks l o) 0 T) H (fun T' H'=>∃e,T'=XbW (msk (looks l o) 0 T) o.dst e∧dm P B l L pi (XbW T o.dst e) H' fin)))
section
variable {P:Program} {B:List Hp} {l:List Oper} {L:List Nat} {fin:List AV→List Hp→Prop} {T:List AV} {H:List Hp}
theorem XlR {i:Nat} {pi:List Nat} {o:Oper} {T':List AV} (hi:XfN l i=some o) (hL:L.contains i=false) (e:AV) (h:∀H1,Evl P o (ev T) (B++H1) e) (hT:XbW T o.dst e=T') (hK:dm P B l L pi T' H fin):dm P B l L (i :: pi) T H fin:=⟨o,hi,.inl ⟨hL,e,h,hT▸hK⟩⟩
theorem XnA {i:Nat} {pi:List Nat} {o:Oper} (hi:XfN l i=some o) (hL:L.contains i=true) (h:Stp P o (msk (looks l o) 0 T) H (fun T' H'=>∃e,T'=XbW (msk (looks l o) 0 T) o.dst e∧dm P B l L pi (XbW T o.dst e) H' fin)):dm P B l L (i :: pi) T H fin:=⟨o,hi,.inr ⟨hL,h⟩⟩
theorem Xnz {pi:List Nat} {T':List AV} {H':List Hp} (hT:T=T') (hH:H=H') (h:dm P B l L pi T' H' fin):dm P B l L pi T H fin:=hT▸hH▸h
theorem Xc0 (l:List Oper) (es es':Nat→AV) (T:List AV) (S:Nat→Bool):∀k,(∀j,j < k→S j=true→es j=es' j)→XcE l es T S k=XcE l es' T S k
 | 0,_=>rfl
 | k+1,h=>by
   simp only [XcE]
   rw [Xc0 l es es' T S k fun j hj=>h j (by omega)]
   split
   ·rename_i hs;rw [h k (by omega) hs]
   ·rfl
theorem XkU {l:List Oper} (hr:XiW l) (es:Nat→AV) (T0:List AV) (S S':Nat→Bool) (i:Nat) (o:Oper) (hi:l[i]?=some o) (h1:S i=false) (h2:S' i=false) (a1:∀e∈o.after,S e.on=true) (a2:∀e∈o.after,S' e.on=true)
  (c1:∀(j:Nat) (q:Oper),l[j]?=some q→S j=true→∀e∈q.after,e.on≠i) (c2:∀(j:Nat) (q:Oper),l[j]?=some q→S' j=true→∀e∈q.after,e.on≠i) (t:Nat) (ht:t∈looks l o) :
  (XcE l es T0 S l.length)[t]?=(XcE l es T0 S' l.length)[t]?:=by
 by_cases hlt:t < T0.length
 ·by_cases hw:∃(j:Nat) (q:Oper),l[j]?=some q∧q.dst=some t
  ·obtain ⟨j,q,hj,hq⟩:=hw
   have hjl:=(List.getElem?_eq_some_iff.1 hj).1
   have huniq:∀k,k≠j→(l[k]?).bind (·.dst)≠some t:=fun k hk hb=>by
    obtain ⟨q',hk',hq'⟩:=Xc2 hb
    exact hk (hr.one k j q' q t hk' hj hq' hq)
   have hdj:(l[j]?).bind (·.dst)=some t:=by rw [hj];exact hq
   have off:∀X:Nat→Bool,X j=false→(XcE l es T0 X l.length)[t]?=T0[t]?:=fun X hX=>XbB l es T0 X t _ fun k hk hs hb=>by
    by_cases hkj:k=j
    ·subst hkj;rw [hX] at hs;cases hs
    ·exact huniq k hkj hb
   rcases hr.look i j o q t hi hj ht hq with rfl|⟨e,he,rfl⟩|⟨e,he,rfl⟩
   ·rw [off S h1,off S' h2]
   ·rw [XcP l es T0 S t hlt _ (a1 e he) hdj huniq _ hjl,XcP l es T0 S' t hlt _ (a2 e he) hdj huniq _ hjl]
   ·have n1:S j=false:=by
     cases hs:S j with
     | false=>rfl
     | true=>exact absurd rfl (c1 j q hj hs e he)
    have n2:S' j=false:=by
     cases hs:S' j with
     | false=>rfl
     | true=>exact absurd rfl (c2 j q hj hs e he)
    rw [off S n1,off S' n2]
  ·have hn:∀k:Nat,(l[k]?).bind (·.dst)≠some t:=fun k hb=>by
    obtain ⟨q',hk',hq'⟩:=Xc2 hb
    exact hw ⟨k,q',hk',hq'⟩
   rw [XbB _ _ _ _ _ _ fun k _ _=>hn k,XbB _ _ _ _ _ _ fun k _ _=>hn k]
 ·rw [List.getElem?_eq_none (by rw [Xci];omega),List.getElem?_eq_none (by rw [Xci];omega)]
theorem Xmg {l:List Oper} {o:Oper} {t:Nat} (h:Operand.tmp t∈o.op.operands):t∈looks l o:=by
 unfold looks
 exact List.mem_append_left _ (List.mem_filterMap.2 ⟨.tmp t,by simpa using h,rfl⟩)
end
end Go.Proofs.YtdpobjakdplljaaGreatDoor

import Derived.Test.YtdlblokjfoggpaaGreatDoorW11
import Derived.Test.YtdlblokjfoggpaaGreatDoorW10
import Derived.DeepKeys4
import Derived.Test.YtdlblokjfoggpaaGreatDoorW7
/- Maps of the call's own: looked up in a region that draws; where a map stands. No program in sight. -/
set_option linter.unusedSimpArgs false
set_option linter.unusedVariables false
set_option maxRecDepth 100000
set_option maxHeartbeats 8000000
namespace Go.Proofs.YtdlblokjfoggpaaGreatDoor
open Go.RowKit
open Go.Maps (Keyed)
class Xsl (H:List Hp) (b:Nat) (p:outParam Nat) (l:outParam (List (Value × Value))):Prop where out:H[p]?=some (.map b l)
instance {x:Hp} {H:List Hp} {b p:Nat} {l:List (Value × Value)} [h:Xsl H b p l]:Xsl (x :: H) b (p+1) l:=⟨by simpa using h.out⟩
instance {H:List Hp} {b:Nat} {l:List (Value × Value)}:Xsl (.map b l :: H) b 0 l:=⟨rfl⟩
section
variable {P:Program} {Δ:List Deferred} {V O:Nat→Prop} {w0 w w':World} {H H' B:List Hp} {D:List Nat} {T T':List AV} {a:Act} {o:Oper} {l:List Oper} {Q:Xcl} {fuel:Nat} {listed:Array Bool} {K:List AV→List Hp→Prop} {ρ:Operand→AV} {t e k:TypeId} {x ix m y:Operand} {c:Bool} {b p:Nat} {L:List (Value × Value)}
theorem Xlb {w:World} {es:Array MapEntry} {clock:Nat} {key v:Value} {f:Bool} {ev0:Operand→Value} (ho:o.op=.lookup t x ix c) (ht:P.underlying t=some (.map k e)) (hb:w.heap[b]?=some (.map es clock)) (hes:es.toList.map (fun x=>(x.key,x.val))=L)
  (e1:ev0 x=.map (some b)) (e2:ev0 ix=key) (Kd:Keyed P k) (hk:Xfe P k L) (hq:∃q,keyOf P k key=some q) (hh:Hit P e L key v f):(execOp ev0 o).run P w=.ok (.value (if c then .tuple #[v,.bool f] else v)) w:=by
 obtain ⟨q,hq⟩:=hq
 rcases Xg3 Kd hes hk hq w with ⟨h1,h2⟩|⟨j,y,h1,h2,h3,h4⟩
 ·rcases hh with ⟨_,hm,_⟩|⟨rfl,_,hz⟩
  ·exact absurd rfl (h2 _ hm)
  ·obtain ⟨inf,hi1,hz1⟩:=Option.bind_eq_some_iff.1 hz
   simp [execOp,ho,Instr.lookup,run_underlying ht,MapKept.run_getObj_map hb,e1,e2,Kd.check w _ hq,h1,zeroValue,typeInfo,hi1,hz1,Result.andThen]
 ·rcases hh with ⟨rfl,hm,hu⟩|⟨rfl,hn,_⟩
  ·have:=hu _ h4 rfl
   simp [execOp,ho,Instr.lookup,run_underlying ht,MapKept.run_getObj_map hb,e1,e2,Kd.check w _ hq,h1,Result.andThen,←this]
  ·exact absurd rfl (hn _ h4)
theorem Xve (i:Nat) (key v:Value) (f:Bool) (Kd:Keyed P k) (hk:Xfe P k L) (hq:∃q,keyOf P k key=some q) (hh:Hit P e L key v f) (hK:Xdy P l.toArray Q D B fuel (listed.setIfInBounds i true) T' H) (hi:XcM l i=some o:=by rfl) (hg:o.guard=none:=by rfl) (hc:XbY l.toArray listed i D=true:=by kernel_rfl) (hpan:∀c T H,¬Q (.panic c) T H:=by intro c T H hp;simp [Xbx,XaC,XbG,XcQ] at hp)
  (ho:o.op=.lookup t x ix c:=by rfl) (ht:P.underlying t=some (.map k e):=by kernel_rfl) (hx:ev T x=.x (.map (some b)):=by rfl) (hb:B[p]?=some (.map b L):=by first|exact Xsl.out|fail) (hkx:ev T ix=.x key:=by rfl) (hT:Xbd T o.dst (.x (if c then .tuple #[v,.bool f] else v))=T':=by first|((try simp (disch:=first|assumption|omega) only [wtn,wtf,wx,Nat.reduceAdd,Nat.reduceMul,Nat.reduceSub,↓reduceIte,Nat.reduceEqDiff]);rfl)|fail):Xdy P l.toArray Q D B (fuel+1) listed T H:=by
 refine XeV i hi hg hc hpan (.x (if c then .tuple #[v,.bool f] else v)) (fun V wr a w ok hS=>?_) (by rw [hT];exact hK)
 obtain ⟨es,clock,hb1,hes⟩:=ok.hok.ok (.map b L) (List.mem_append_left _ (List.mem_of_getElem? hb))
 have hbk:Xcm B b:=⟨_,List.mem_of_getElem? hb,rfl⟩
 refine ⟨_,fun w' hS'=>?_,by rw [Den]⟩
 have hsame:w'.heap[b]?=w.heap[b]?:=(hS' b hbk).trans (hS b hbk).symm
 exact Xlb ho ht (by rw [hsame];exact hb1) hes (ok.evx (x:=x) (by simp [ho,Op.operands]) hx) (ok.evx (x:=ix) (by simp [ho,Op.operands]) hkx) Kd hk hq hh
theorem Xvq {key v:Value} (Kd:Keyed P k) (hk:Xfe P k L) (hq:∃q,keyOf P k key=some q) (hn:∀y∈L,y.1≠key) (hK:K T' H') (ho:o.op=.mapUpdate t m x y:=by rfl) (ht:P.underlying t=some (.map k e):=by kernel_rfl) (hm:ev T m=.x (.map (some b)):=by rfl) (hi:H[p]?=some (.map b L):=by first|exact Xsl.out|fail) (hx:ev T x=.x key:=by rfl) (hy:ev T y=.x v:=by rfl)
  (hT:Xbd T o.dst (.x undef)=T':=by first|((try simp (disch:=first|assumption|omega) only [wtn,wtf,wx,Nat.reduceAdd,Nat.reduceMul,Nat.reduceSub,↓reduceIte,Nat.reduceEqDiff]);rfl)|fail) (hH:H.set p (.map b (L++[(key,v)]))=H':=by first|((try simp (disch:=first|assumption|omega) only [wtn,wtf,wx,Nat.reduceAdd,Nat.reduceMul,Nat.reduceSub,↓reduceIte,Nat.reduceEqDiff]);rfl)|fail):Stp P o T H K:=Xky p t m x y k e b L key v ho ht hm hi hx hy Kd hk hq hn (by rw [hT,hH];exact hK)
theorem Xuv {key v:Value} {f:Bool} (Kd:Keyed P k) (hk:Xfe P k L) (hq:∃q,keyOf P k key=some q) (hh:Hit P e L key v f) (ho:o.op=.lookup t x ix c:=by rfl) (ht:P.underlying t=some (.map k e):=by kernel_rfl) (hx:ρ x=.x (.map (some b)):=by rfl) (hi:H[p]?=some (.map b L):=by first|exact Xsl.out|fail) (hkx:ρ ix=.x key:=by rfl):Evl P o ρ H (.x (if c then .tuple #[v,.bool f] else v)):=Xkw p t x ix c k e b L key v f ho ht hx hi hkx Kd hk hq hh
end
open Go.RowKit
open Go.Maps (Keyed)
def Og.val (o:Og):Value:=.agg #[.int .i64 o.from_.st,.bool o.from_.bol,.bool o.from_.eol,.bool o.root,.bool o.over,.int .u8 (o.c % 256:Nat)]
def snv (sn:SnL):List (Value × Value):=sn.map fun x=>(x.1.val,x.2.val)
theorem Sp.val_inj {a b:Sp} (h:a.val=b.val):a=b:=by
 obtain ⟨s,x,y⟩:=a
 obtain ⟨t,u,v⟩:=b
 simp only [Sp.val,Value.agg.injEq,Array.mk.injEq,List.cons.injEq,Value.int.injEq,Value.bool.injEq,true_and,and_true,Int.natCast_inj] at h
 obtain ⟨rfl,rfl,rfl⟩:=h
 rfl
theorem Xr2:laidOutB Tryz.prog=true:=by kernel_rfl
theorem XgM:Keyed Tryz.prog 86:=Keyed.of_law (deep_law_laid Xr2 (m:=2) (by omega) (of_decide_eq_true (by kernel_rfl)) (by kernel_rfl) (by rw [Tryz.underlying86]))
theorem Xr3 (s:Sp) (h:s.st≤1000000) (d:Nat):∃q,Tryz.prog.keyLits (d+1+1) 86 [.int .i64 s.st,.bool s.bol,.bool s.eol]=some q:=by
 have hc:Tryz.prog.cellsOf 86=3:=by kernel_rfl
 have hi:Tryz.prog.cellsOf 3=1:=by kernel_rfl
 have hb:Tryz.prog.cellsOf 4=1:=by kernel_rfl
 have hw:(Lit.int .i64 (s.st:Int)).wf=true:=by
  have h1:IntKind.i64.min = -9223372036854775808:=by decide
  have h2:IntKind.i64.max=9223372036854775807:=by decide
  simp only [Lit.wf,h1,h2,Bool.and_eq_true,decide_eq_true_eq];omega
 simp [Program.keyLits,Tryz.underlying86,hc,hi,hb,Tryz.underlying3,Tryz.underlying4,hw]
theorem Xig (s:Sp) (h:s.st≤1000000):∃q,keyOf Tryz.prog 86 s.val=some q:=by
 have hk:Tryz.prog.keyType 86=true:=by kernel_rfl
 have hc:Tryz.prog.cellsOf 86=3:=by kernel_rfl
 have hf:s.val.formed Tryz.prog 86=true:=by simp [Value.formed,Tryz.underlying86,hc,Sp.val]
 have hn:Tryz.prog.types.size+1=(332 - 1)+1+1:=by kernel_rfl
 obtain ⟨q,hq⟩:=Xr3 s h (332 - 1)
 refine ⟨.string (keyBytes q),?_⟩
 unfold keyOf
 rw [Tryz.underlying86]
 simp only [hk,hf,Bool.and_self,if_true]
 rw [hn,show s.val.cells.toList=[.int .i64 s.st,.bool s.bol,.bool s.eol] from rfl,hq]
 rfl
theorem XjB {n:Nat} {sn:SnL} (h:Xfv n sn) (hn:n≤1000000):Xfe Tryz.prog 86 (snv sn):=by
 intro x hx
 obtain ⟨y,hy,rfl⟩:=List.mem_map.1 hx
 exact Xig y.1 (by have:=h.st y hy;omega)
theorem Xrz:(Tryz.prog.info? 88).bind (·.zero)=some ({ }:Og).val:=by kernel_rfl
theorem XnM {n:Nat} {sn:SnL} (h:Xfv n sn) {p:Sp} (hp:∃y∈sn,y.1=p):Hit Tryz.prog 88 (snv sn) p.val (Xn7 sn p).val true:=by
 obtain ⟨y,hy,rfl⟩:=hp
 obtain ⟨i,hi,hiy⟩:=List.getElem_of_mem hy
 rw [XfK h (i:=i) (x:=y) (by rw [List.getElem?_eq_getElem hi,hiy])]
 refine .inl ⟨rfl,List.mem_map.2 ⟨y,hy,rfl⟩,fun z hz he=>?_⟩
 obtain ⟨u,hu,rfl⟩:=List.mem_map.1 hz
 have e:=Sp.val_inj he
 obtain ⟨j,hj,hju⟩:=List.getElem_of_mem hu
 have h1:=XfK h (i:=i) (x:=y) (by rw [List.getElem?_eq_getElem hi,hiy])
 have h2:=XfK h (i:=j) (x:=u) (by rw [List.getElem?_eq_getElem hj,hju])
 rw [e,h1] at h2
 rw [h2]
theorem XrZ {sn:SnL} {p:Sp} (hp:sn.any (fun x=>x.1 == p)=false):Hit Tryz.prog 88 (snv sn) p.val ({ }:Og).val false:=by
 refine .inr ⟨rfl,fun y hy he=>?_,Xrz⟩
 obtain ⟨u,hu,rfl⟩:=List.mem_map.1 hy
 have e:=Sp.val_inj he
 rw [List.any_eq_false] at hp
 exact hp u hu (by simp [e])
theorem Xsy {sn:SnL} {p:Sp} (h:sn.any (fun x=>x.1 == p)=true):∃y∈sn,y.1=p:=by
 obtain ⟨y,hy,e⟩:=List.any_eq_true.1 h
 exact ⟨y,hy,by simpa using e⟩
theorem XtI {sn:SnL} {p:Sp} (h:sn.any (fun x=>x.1 == p)=false):∀y∈snv sn,y.1≠p.val:=by
 intro y hy he
 obtain ⟨u,hu,rfl⟩:=List.mem_map.1 hy
 rw [List.any_eq_false] at h
 exact h u hu (by simp [Sp.val_inj he])
theorem Xr0 (sn:SnL) (p:Sp) (o:Og):snv sn++[(p.val,o.val)]=snv (sn++[(p,o)]):=by simp [snv]
theorem Xpe (sb mb:Nat) (l:List Sx) (sn:SnL) (q:List Sp) (ad:Option Addr) (cap:Nat) (p:Sp) (o:Og) (hn:Xfv l.length sn) (hl:l.length≤1000) (hp:p.st < l.length) (hh:sn.any (fun x=>x.1 == p)=true) :
  XaM Tryz.prog 25 [.box sb [.sq l.length (sxa l),.x (.map (some mb))],.map mb (snv sn),.row ad q.length cap 86 3 (spa q)] [.x (.pointer (some ⟨sb,0,none⟩)),.x (.slice ad q.length cap),.x p.val,.x o.val] (fun r H'=>r=.x (.slice ad q.length cap)∧H'=[.box sb [.sq l.length (sxa l),.x (.map (some mb))],.map mb (snv sn),.row ad q.length cap 86 3 (spa q)]):=by
 have hk:=XjB hn (by omega)
 have hq:=Xig p (by omega)
 have hit:=XnM hn (Xsy hh)
 generalize Xn7 sn p=ov at hit
 unfold Og.val at hit
 generalize snv sn=S at *
 clear hn
 have hp':p.val=.agg #[.int .i64 p.st,.bool p.bol,.bool p.eol]:=rfl
 rw [hp'] at *
 have hk:=Lib.hid hk;have hq:=Lib.hid hq;have hit:=Lib.hid hit
 unfold Og.val
 refine Xbs Tryz.func25 Tryz.ntmps25 ?_
 (repeat' (first|refine Wkx.go ?_|refine XaG ?_|(refine XaE (fun h=>?_) (fun h=>?_)<;>first|(exact absurd h (by decide))|(exfalso;omega;done)|skip)|refine XaF ?_|refine Xai ?_|(refine Xaa rfl ?_;(first|refine Xax ?_|refine Xaw ?_|refine Xav (fun ad cap=>?_)|refine Xat (fun b=>?_)|refine Xas (fun b=>?_)|refine Xau (fun b=>?_)|fail))|fail))
 refine XaP mixed [] [_,_,_,_] [_] (Xvt _) ?_
 ((first|refine Xbj 0 ?_|refine Xbt 0 ?_);(first|refine Xbj 1 ?_|refine Xbt 1 ?_);(first|refine Xbj 2 ?_|refine Xbt 2 ?_);(first|refine Xbj 3 ?_|refine Xbt 3 ?_);(first|refine Xbj 4 ?_|refine Xbt 4 ?_))
 refine Xve 5 _ _ _ XgM hk.out hq.out hit.out ?_
 ((first|refine Xbj 6 ?_|refine Xbt 6 ?_);(first|refine Xbj 7 ?_|refine Xbt 7 ?_);(first|refine Xbj 8 ?_|refine Xbt 8 ?_))
 (refine Xdd 9 ?_;(first|refine Xcb ?_|refine Xax ?_|refine Xaw ?_|refine Xav (fun ad cap=>?_)|refine Xat (fun b=>?_)|refine Xas (fun b=>?_)|refine Xau (fun b=>?_)|fail))
 (refine Xdd 10 ?_;(first|refine Xcb ?_|refine Xax ?_|refine Xaw ?_|refine Xav (fun ad cap=>?_)|refine Xat (fun b=>?_)|refine Xas (fun b=>?_)|refine Xau (fun b=>?_)|fail))
 (refine Xdd 11 ?_;(first|refine Xcb ?_|refine Xax ?_|refine Xaw ?_|refine Xav (fun ad cap=>?_)|refine Xat (fun b=>?_)|refine Xas (fun b=>?_)|refine Xau (fun b=>?_)|fail))
 refine XaV (by decide +kernel) ?_
 refine Xag rfl (by simp only [XvE,XvD];rfl) ?_
 refine Xar (by decide +kernel) ?_
 (repeat' (first|refine Wkx.go ?_|refine XaJ ?_|refine XaG ?_|(refine XaE (fun h=>?_) (fun h=>?_)<;>first|(exact absurd h (by decide))|(exfalso;omega;done)|skip)|refine XaF ?_|refine Xai ?_|(refine Xaa rfl ?_;(first|refine Xax ?_|refine Xaw ?_|refine Xav (fun ad cap=>?_)|refine Xat (fun b=>?_)|refine Xas (fun b=>?_)|refine Xau (fun b=>?_)|fail))|fail))
 refine Xab _ _ (Xa0 rfl (RV.tmp _) (Xaq.mk' [.box _ [_,_,_,_,_,_],.box _ [_,_,_],.box _ [_,_,_,_,_,_]] [.box sb _,.map mb _,.row _ _ _ _ _ _] (by (repeat' (first|exact Xvt _|exact List.Perm.nil|refine XvJ _ ?_|refine (XvG (l₁:=[_])).trans (XvJ _ ?_)|refine (XvG (l₁:=[_,_])).trans (XvJ _ ?_)|refine (XvG (l₁:=[_,_,_])).trans (XvJ _ ?_)|refine (XvG (l₁:=[_,_,_,_])).trans (XvJ _ ?_)|refine (XvG (l₁:=[_,_,_,_,_])).trans (XvJ _ ?_)|refine (XvG (l₁:=[_,_,_,_,_,_])).trans (XvJ _ ?_)|refine (XvG (l₁:=[_,_,_,_,_,_,_])).trans (XvJ _ ?_)|refine (XvG (l₁:=[_,_,_,_,_,_,_,_])).trans (XvJ _ ?_)))) (Xap.refl _ _) (VwL.refl _ _))) ⟨rfl,rfl⟩
theorem Xnv (sb mb:Nat) (l:List Sx) (sn:SnL) (q:List Sp) (ad:Option Addr) (cap:Nat) (p:Sp) (o:Og) (hn:Xfv l.length sn) (hl:l.length≤1000) (hp:p.st < l.length) (hq0:q.length≤1000000) (hh:sn.any (fun x=>x.1 == p)=false) :
  XaM Tryz.prog 25 [.box sb [.sq l.length (sxa l),.x (.map (some mb))],.map mb (snv sn),.row ad q.length cap 86 3 (spa q)] [.x (.pointer (some ⟨sb,0,none⟩)),.x (.slice ad q.length cap),.x p.val,.x o.val] (fun r H'=>∃ad' cap',r=.x (.slice ad' (q++[p]).length cap')∧H'=[.box sb [.sq l.length (sxa l),.x (.map (some mb))],.map mb (snv (sn++[(p,o)])),.row ad' (q++[p]).length cap' 86 3 (spa (q++[p]))]):=by
 have hk:=XjB hn (by omega)
 have hq:=Xig p (by omega)
 have hit:=XrZ hh
 have hnew:=XtI hh
 rw [←Xr0,←Xr4,show (q++[p]).length=q.length+1 from by simp]
 generalize snv sn=S at *
 clear hn hh
 have hp':p.val=.agg #[.int .i64 p.st,.bool p.bol,.bool p.eol]:=rfl
 have ho':o.val=.agg #[.int .i64 o.from_.st,.bool o.from_.bol,.bool o.from_.eol,.bool o.root,.bool o.over,.int .u8 (o.c % 256:Nat)]:=rfl
 have hz':({ }:Og).val=.agg #[.int .i64 (0:Nat),.bool false,.bool false,.bool false,.bool false,.int .u8 (0 % 256:Nat)]:=rfl
 rw [hp',ho'] at *
 rw [hz'] at hit
 have hk:=Lib.hid hk;have hq:=Lib.hid hq;have hit:=Lib.hid hit;have hnew:=Lib.hid hnew
 clear hp' ho' hz'
 refine Xbs Tryz.func25 Tryz.ntmps25 ?_
 (repeat' (first|refine Wkx.go ?_|refine XaG ?_|(refine XaE (fun h=>?_) (fun h=>?_)<;>first|(exact absurd h (by decide))|(exfalso;omega;done)|skip)|refine XaF ?_|refine Xai ?_|(refine Xaa rfl ?_;(first|refine Xax ?_|refine Xaw ?_|refine Xav (fun ad cap=>?_)|refine Xat (fun b=>?_)|refine Xas (fun b=>?_)|refine Xau (fun b=>?_)|fail))|fail))
 refine XaP mixed [] [_,_,_,_] [_] (Xvt _) ?_
 ((first|refine Xbj 0 ?_|refine Xbt 0 ?_);(first|refine Xbj 1 ?_|refine Xbt 1 ?_);(first|refine Xbj 2 ?_|refine Xbt 2 ?_);(first|refine Xbj 3 ?_|refine Xbt 3 ?_);(first|refine Xbj 4 ?_|refine Xbt 4 ?_))
 refine Xve 5 _ _ _ XgM hk.out hq.out hit.out ?_
 ((first|refine Xbj 6 ?_|refine Xbt 6 ?_);(first|refine Xbj 7 ?_|refine Xbt 7 ?_);(first|refine Xbj 8 ?_|refine Xbt 8 ?_))
 (refine Xdd 9 ?_;(first|refine Xcb ?_|refine Xax ?_|refine Xaw ?_|refine Xav (fun ad cap=>?_)|refine Xat (fun b=>?_)|refine Xas (fun b=>?_)|refine Xau (fun b=>?_)|fail))
 (refine Xdd 10 ?_;(first|refine Xcb ?_|refine Xax ?_|refine Xaw ?_|refine Xav (fun ad cap=>?_)|refine Xat (fun b=>?_)|refine Xas (fun b=>?_)|refine Xau (fun b=>?_)|fail))
 (refine Xdd 11 ?_;(first|refine Xcb ?_|refine Xax ?_|refine Xaw ?_|refine Xav (fun ad cap=>?_)|refine Xat (fun b=>?_)|refine Xas (fun b=>?_)|refine Xau (fun b=>?_)|fail))
 refine XaV (by decide +kernel) ?_
 refine Xag rfl (by simp only [XvE,XvD];rfl) ?_
 refine Xar (by decide +kernel) ?_
 (repeat' (first|refine Wkx.go ?_|refine XaG ?_|(refine XaE (fun h=>?_) (fun h=>?_)<;>first|(exact absurd h (by decide))|(exfalso;omega;done)|skip)|refine XaF ?_|refine Xai ?_|(refine Xaa rfl ?_;(first|refine Xax ?_|refine Xaw ?_|refine Xav (fun ad cap=>?_)|refine Xat (fun b=>?_)|refine Xas (fun b=>?_)|refine Xau (fun b=>?_)|fail))|fail))
 refine XaP mixed [6] [_,_,_,_,_] [_] (by (repeat' (first|exact Xvt _|exact List.Perm.nil|refine XvJ _ ?_|refine (XvG (l₁:=[_])).trans (XvJ _ ?_)|refine (XvG (l₁:=[_,_])).trans (XvJ _ ?_)|refine (XvG (l₁:=[_,_,_])).trans (XvJ _ ?_)|refine (XvG (l₁:=[_,_,_,_])).trans (XvJ _ ?_)|refine (XvG (l₁:=[_,_,_,_,_])).trans (XvJ _ ?_)|refine (XvG (l₁:=[_,_,_,_,_,_])).trans (XvJ _ ?_)|refine (XvG (l₁:=[_,_,_,_,_,_,_])).trans (XvJ _ ?_)|refine (XvG (l₁:=[_,_,_,_,_,_,_,_])).trans (XvJ _ ?_)))) ?_
 ((first|refine Xbj 0 ?_|refine Xbt 0 ?_);(first|refine Xbj 1 ?_|refine Xbt 1 ?_);(first|refine Xbj 2 ?_|refine Xbt 2 ?_);(first|refine Xbj 3 ?_|refine Xbt 3 ?_);(first|refine Xbj 4 ?_|refine Xbt 4 ?_);(first|refine Xbj 5 ?_|refine Xbt 5 ?_))
 refine XaV (by decide +kernel) ?_
 refine Xag rfl (by simp only [XvE,XvD];rfl) ?_
 refine Xdn 6 ?_
 refine Xvq XgM hk.out hq.out hnew.out ?_ (ht:=Tryz.underlying80)
 refine Xar (by decide +kernel) ?_
 (repeat' (first|refine Wkx.go ?_|refine XaJ ?_|refine XaG ?_|(refine XaE (fun h=>?_) (fun h=>?_)<;>first|(exact absurd h (by decide))|(exfalso;omega;done)|skip)|refine XaF ?_|refine Xai ?_|(refine Xaa rfl ?_;(first|refine Xax ?_|refine Xaw ?_|refine Xav (fun ad cap=>?_)|refine Xat (fun b=>?_)|refine Xas (fun b=>?_)|refine Xau (fun b=>?_)|fail))|fail))
 refine Xab _ _ (Xa0 rfl (RV.tmp _) (Xaq.mk' [.box _ [_,_,_,_,_,_],.box _ [_,_,_],.box _ [_,_,_,_,_,_],.row (some _) 1 1 _ _ _] [.box sb _,.map mb _,.row _ (q.length+1) _ _ _ _] (by (repeat' (first|exact Xvt _|exact List.Perm.nil|refine XvJ _ ?_|refine (XvG (l₁:=[_])).trans (XvJ _ ?_)|refine (XvG (l₁:=[_,_])).trans (XvJ _ ?_)|refine (XvG (l₁:=[_,_,_])).trans (XvJ _ ?_)|refine (XvG (l₁:=[_,_,_,_])).trans (XvJ _ ?_)|refine (XvG (l₁:=[_,_,_,_,_])).trans (XvJ _ ?_)|refine (XvG (l₁:=[_,_,_,_,_,_])).trans (XvJ _ ?_)|refine (XvG (l₁:=[_,_,_,_,_,_,_])).trans (XvJ _ ?_)|refine (XvG (l₁:=[_,_,_,_,_,_,_,_])).trans (XvJ _ ?_)))) (Xap.refl _ _) (VwL.refl _ _))) ⟨_,_,rfl,rfl⟩
theorem Xnu (sb mb:Nat) (l:List Sx) (sn:SnL) (q:List Sp) (ad:Option Addr) (cap:Nat) (p:Sp) (o:Og) (hn:Xfv l.length sn) (hl:l.length≤1000) (hp:p.st < l.length) (hq0:q.length≤1000000) :
  XaM Tryz.prog 25 [.box sb [.sq l.length (sxa l),.x (.map (some mb))],.map mb (snv sn),.row ad q.length cap 86 3 (spa q)] [.x (.pointer (some ⟨sb,0,none⟩)),.x (.slice ad q.length cap),.x p.val,.x o.val] (fun r H'=>∃ad' cap',r=.x (.slice ad' (XaL (sn,q) p o).2.length cap')∧H'=[.box sb [.sq l.length (sxa l),.x (.map (some mb))],.map mb (snv (XaL (sn,q) p o).1),.row ad' (XaL (sn,q) p o).2.length cap' 86 3 (spa (XaL (sn,q) p o).2)]):=by
 cases hh:sn.any (fun x=>x.1 == p) with
 | true=>
   have e:XaL (sn,q) p o=(sn,q):=by simp [XaL,hh]
   rw [e]
   exact (Xpe sb mb l sn q ad cap p o hn hl hp hh).mono fun r H' h=>⟨ad,cap,h.1,h.2⟩
 | false=>
   have e:XaL (sn,q) p o=(sn++[(p,o)],q++[p]):=by simp [XaL,hh]
   rw [e]
   exact Xnv sb mb l sn q ad cap p o hn hl hp hq0 hh
theorem Xs5 (sb mb pl ps pa:Nat) (l:List Sx) (q:SnL × List Sp) (ad:Option Addr) (cap:Nat) (p:Sp) (nx:Nat) (e:Bool) (hn:Xfv l.length q.1) (hl:l.length≤1000) (hp:nx < l.length) (hq0:q.2.length≤1000000) :
  XaM Tryz.prog 54 [.box pl [.x (.slice ad q.2.length cap)],.box ps [.x (.pointer (some ⟨sb,0,none⟩))],.box pa [.x (.int .i64 p.st),.x (.bool p.bol),.x (.bool p.eol)],.box sb [.sq l.length (sxa l),.x (.map (some mb))],.map mb (snv q.1),.row ad q.2.length cap 86 3 (spa q.2)] [.x (.int .i64 nx),.x (.bool e),.x (.pointer (some ⟨ps,0,none⟩)),.x (.pointer (some ⟨pl,0,none⟩)),.x (.pointer (some ⟨pa,0,none⟩))]
  (fun r H'=>∃ad' cap',r=.x (.tuple #[])∧H'=[.box pl [.x (.slice ad' (XaL q ⟨nx,p.bol,e⟩ { from_:=p }).2.length cap')],.box ps [.x (.pointer (some ⟨sb,0,none⟩))],.box pa [.x (.int .i64 p.st),.x (.bool p.bol),.x (.bool p.eol)],.box sb [.sq l.length (sxa l),.x (.map (some mb))],.map mb (snv (XaL q ⟨nx,p.bol,e⟩ { from_:=p }).1),.row ad' (XaL q ⟨nx,p.bol,e⟩ { from_:=p }).2.length cap' 86 3 (spa (XaL q ⟨nx,p.bol,e⟩ { from_:=p }).2)]):=by
 obtain ⟨sn,list⟩:=q
 have h1:=Xnu sb mb l sn list ad cap ⟨nx,p.bol,e⟩ { from_:=p } hn hl hp hq0
 generalize XaL (sn,list) ⟨nx,p.bol,e⟩ { from_:=p }=q' at *
 unfold Sp.val Og.val at h1
 have h1:=Lib.hid h1
 refine Xbs Tryz.func54 Tryz.ntmps54 ?_
 (repeat' (first|refine Wkx.go ?_|refine XaJ ?_|refine XaG ?_|(refine XaE (fun h=>?_) (fun h=>?_)<;>first|(exact absurd h (by decide))|(exfalso;omega;done)|skip)|refine XaF ?_|refine Xai ?_|(refine Xaa rfl ?_;(first|((refine Xa5 Tryz.func25 [_,_,_] rfl rfl (List.perm_append_comm (l₁:=[_,_,_]) (l₂:=[_,_,_])) h1.out ?_;rintro _ _ ⟨ad',cap',rfl,rfl⟩);refine XaO ?_)|refine Xax ?_|refine Xaw ?_|refine Xav (fun ad cap=>?_)|refine Xat (fun b=>?_)|refine Xas (fun b=>?_)|refine Xau (fun b=>?_)|fail))|fail))
 refine Xb2 _ _ (Xff rfl (Xaq.mk' [] [.box pl _,.box ps _,.box pa _,.box sb _,.map mb _,.row _ _ _ _ _ _] (by (repeat' (first|exact Xvt _|exact List.Perm.nil|refine XvJ _ ?_|refine (XvG (l₁:=[_])).trans (XvJ _ ?_)|refine (XvG (l₁:=[_,_])).trans (XvJ _ ?_)|refine (XvG (l₁:=[_,_,_])).trans (XvJ _ ?_)|refine (XvG (l₁:=[_,_,_,_])).trans (XvJ _ ?_)|refine (XvG (l₁:=[_,_,_,_,_])).trans (XvJ _ ?_)|refine (XvG (l₁:=[_,_,_,_,_,_])).trans (XvJ _ ?_)|refine (XvG (l₁:=[_,_,_,_,_,_,_])).trans (XvJ _ ?_)|refine (XvG (l₁:=[_,_,_,_,_,_,_,_])).trans (XvJ _ ?_)))) (Xap.refl _ _) VwL.nil)) ⟨ad',cap',rfl,rfl⟩
end Go.Proofs.YtdlblokjfoggpaaGreatDoor

import Derived.Test.YtdlblokjfoggpaaGreatDoorW7
import Derived.Test.YtdlblokjfoggpaaGreatDoorW10
import Derived.Test.YtdlblokjfoggpaaGreatDoorW39
import Derived.Test.YtdlblokjfoggpaaGreatDoorW31
import Derived.Test.YtdlblokjfoggpaaGreatDoorW35
import Derived.Test.YtdlblokjfoggpaaGreatDoorW36
/- The program's lexer: All. -/
set_option linter.unusedSimpArgs false
set_option linter.unusedVariables false
set_option maxRecDepth 100000
set_option maxHeartbeats 8000000
namespace Go.Proofs.YtdlblokjfoggpaaGreatDoor
open Go.RowKit
theorem XmU (l:List UInt8) (hl:l.length≤1000000) (h8:8192 < l.length):XaM Tryz.prog 73 [] [.x (.string (bs l))] (fun r H'=>r=.tup [.sq 0 [],.x (.agg #[.int .i64 1,.int .i64 0,.int .i64 0])]∧H'=[]):=by
 refine Xbs Tryz.func73 Tryz.ntmps73 ?_
 (repeat' (first|refine Wkx.go ?_|refine XaJ ?_|refine XaG ?_|(refine XaE (fun h=>?_) (fun h=>?_)<;>first|(exact absurd h (by decide))|(exfalso;omega;done)|skip)|refine XaF ?_|refine Xai ?_|(refine Xaa rfl ?_;(first|refine Xax ?_|refine Xaw ?_|refine Xav (fun ad cap=>?_)|refine Xat (fun b=>?_)|refine Xas (fun b=>?_)|refine Xau (fun b=>?_)|fail))|fail))
 refine Xab _ _ (Xcn rfl (RV.tmp _) (RV.cell 0 rfl rfl XaR.out (by simp) (by simp)) (Xaq.mk' [_] [] (Xvt _) Xap.nil (VwL.cons Vw.nil (VwL.refl _ _)))) ?_
 exact ⟨rfl,rfl⟩
theorem Xrj (l:List UInt8) (h8:l.length≤8192) (ts:List Tok) (hs:XaM Tryz.prog 99 [] [.x (.string (bs l))] (fun q H'=>q=.tup [.sq ts.length (ta ts),.x .nilIface]∧H'=[])):XaM Tryz.prog 73 [] [.x (.string (bs l))] (fun r H'=>r=.tup [.sq ts.length (ta ts),.x (.agg #[.int .i64 0,.int .i64 0,.int .i64 0])]∧H'=[]):=by
 refine Xbs Tryz.func73 Tryz.ntmps73 ?_
 (repeat' (first|refine Wkx.go ?_|refine XaJ ?_|refine XaG ?_|(refine XaE (fun h=>?_) (fun h=>?_)<;>first|(exact absurd h (by decide))|(exfalso;omega;done)|skip)|refine XaF ?_|refine Xai ?_ (h:=by first|exact fun _=>Xb3 rfl rfl Tryz.func99 (hs)|fail)|refine Xai ?_|(refine Xaa rfl ?_;(first|refine Xax ?_|refine Xaw ?_|refine Xav (fun ad cap=>?_)|refine Xat (fun b=>?_)|refine Xas (fun b=>?_)|refine Xau (fun b=>?_)|fail))|fail))
 refine Xab _ _ (Xcn rfl (RV.tmp _) (RV.cell 0 rfl rfl XaR.out (by simp) (by simp)) (Xaq.mk' [_] [] (Xvt _) Xap.nil (VwL.refl _ _))) ?_
 exact ⟨rfl,rfl⟩
theorem XoN (l:List UInt8) (h8:l.length≤8192) (c:Int) (x y:Int) (hs:XaM Tryz.prog 99 [] [.x (.string (bs l))] (fun q H'=>∃b,q=.tup [.x (.slice none 0 0),.x (.iface 189 (.pointer (some ⟨b,0,none⟩)))]∧H'=[.box b [.x (.int .i64 x),.x (.int .i64 y),.x (.iface 187 (.int .i64 c))]])):XaM Tryz.prog 73 [] [.x (.string (bs l))] (fun r H'=>r=.tup [.sq 0 [],.x (.agg #[.int .i64 c,.int .i64 x,.int .i64 y])]∧H'=[]):=by
 refine Xbs Tryz.func73 Tryz.ntmps73 ?_
 (repeat' (first|refine Wkx.go ?_|refine XaG ?_|(refine XaE (fun h=>?_) (fun h=>?_)<;>first|(exact absurd h (by decide))|(exfalso;omega;done)|skip)|refine XaF ?_|refine Xai ?_|(refine Xaa rfl ?_;(first|((refine Xa5 Tryz.func99 ([]) rfl rfl (.refl _) (hs) ?_;rintro _ _ ⟨b2,rfl,rfl⟩);refine XaO ?_)|((refine Xaj 18 Tryz.f18 [_,_] [_,_] _ _ rfl rfl Tryz.func18 (by decide) rfl (XvJ _ (List.Perm.swap _ _ _)) (VwL.refl _ _) (XlT _ _ _ _ _ _ []) ?_;rintro _ _ ⟨rfl,rfl⟩);refine XaO ?_)|((refine Xaj 18 Tryz.f18 [_] _ _ _ rfl rfl Tryz.func18 (by decide) rfl (Xvt _) (VwL.refl _ _) (XkJ _ _ _ []) ?_;rintro _ _ ⟨rfl,rfl⟩);refine XaO ?_)|refine Xax ?_|refine Xaw ?_|refine Xav (fun ad cap=>?_)|refine Xat (fun b=>?_)|refine Xas (fun b=>?_)|refine Xau (fun b=>?_)|fail))|fail))
 refine XaP mixed [] [_,_] _ (XvJ _ (List.Perm.swap _ _ _)) ?_
 ((first|refine Xbj 0 ?_|refine Xbt 0 ?_);(first|refine Xbj 1 ?_|refine Xbt 1 ?_);(first|refine Xbj 2 ?_|refine Xbt 2 ?_);(first|refine Xbj 3 ?_|refine Xbt 3 ?_);(first|refine Xbj 4 ?_|refine Xbt 4 ?_);(first|refine Xbj 5 ?_|refine Xbt 5 ?_);(first|refine Xbj 6 ?_|refine Xbt 6 ?_);(first|refine Xbj 7 ?_|refine Xbt 7 ?_);(first|refine Xbj 8 ?_|refine Xbt 8 ?_))
 (repeat ((first|refine Xdd 9 ?_|refine Xdd 10 ?_|refine Xdd 11 ?_);(first|refine Xcb ?_|refine Xax ?_|refine Xaw ?_|refine Xav (fun ad cap=>?_)|refine Xat (fun b=>?_)|refine Xas (fun b=>?_)|refine Xau (fun b=>?_)|fail)))
 refine XaV (by decide +kernel) ?_
 refine Xag rfl (by simp only [XvE,XvD];rfl) ?_
 refine Xar (by decide +kernel) ?_
 (repeat' (first|refine Wkx.go ?_|refine XaG ?_|(refine XaE (fun h=>?_) (fun h=>?_)<;>first|(exact absurd h (by decide))|(exfalso;omega;done)|skip)|refine XaF ?_|refine Xai ?_|(refine Xaa rfl ?_;(first|refine Xax ?_|refine Xaw ?_|refine Xav (fun ad cap=>?_)|refine Xat (fun b=>?_)|refine Xas (fun b=>?_)|refine Xau (fun b=>?_)|fail))|fail))
 refine XaP mixed [] [_] [_,_,_,_] (XvG (l₁:=[_,_,_])) ?_
 ((first|refine Xbj 0 ?_|refine Xbt 0 ?_);(first|refine Xbj 1 ?_|refine Xbt 1 ?_))
 (refine Xdd 2 ?_;(first|refine Xcb ?_|refine Xax ?_|refine Xaw ?_|refine Xav (fun ad cap=>?_)|refine Xat (fun b=>?_)|refine Xas (fun b=>?_)|refine Xau (fun b=>?_)|fail))
 refine XaV (by decide +kernel) ?_
 refine Xag rfl (by simp only [XvE,XvD];rfl) ?_
 refine Xar (by decide +kernel) ?_
 (repeat' (first|refine Wkx.go ?_|refine XaG ?_|(refine XaE (fun h=>?_) (fun h=>?_)<;>first|(exact absurd h (by decide))|(exfalso;omega;done)|skip)|refine XaF ?_|refine Xai ?_|(refine Xaa rfl ?_;(first|refine Xax ?_|refine Xaw ?_|refine Xav (fun ad cap=>?_)|refine Xat (fun b=>?_)|refine Xas (fun b=>?_)|refine Xau (fun b=>?_)|fail))|fail))
 refine Xab _ _ (Xcn rfl (RV.tmp _) (RV.cell 4 rfl rfl XaR.out (by simp) (by simp)) (Xaq.mk' [_,_,_,_,_] [] (Xvt _) Xap.nil (VwL.cons Vw.nil (VwL.refl _ _)))) ?_
 exact ⟨rfl,rfl⟩
theorem Xp6 (l:List UInt8) (hl:l.length≤1000000):XaM Tryz.prog 73 [] [.x (.string (bs l))] (fun r H'=>r=.tup [.sq (Xkq (lex l)).length (ta (Xkq (lex l))),(XqZ (lex l)).av]∧H'=[]):=by
 by_cases h8:8192 < l.length
 ·have e:lex l=.error ⟨1,0,0⟩:=by unfold lex;rw [if_pos (by omega)]
  rw [e]
  exact XmU l hl h8
 ·have e:lex l=Xcu (1,1) 0 l:=by unfold lex;rw [if_neg (by omega)]
  have hs:=XtD l (by omega)
  rw [e]
  cases hx:Xcu (1,1) 0 l with
  | ok ts=>rw [hx] at hs;exact Xrj l (by omega) ts hs
  | error f=>rw [hx] at hs;exact XoN l (by omega) _ _ _ hs
section
variable {P:Program} {Δ:List Deferred} {V O:Nat→Prop} {w0 w w':World} {B H H' D:List Hp} {T T':List AV} {a a':Act} {o:Oper} {ops:Array Oper} {Q:Xcl} {K:List AV→List Hp→Prop} {X:List PanicEntry→List AV→List Hp→Prop} {listed:Array Bool} {fuel:Nat} {DD:List Nat}
theorem Xi5 {c:List PanicEntry} {d:Option Tmp} {v:Value} (hpan:∀c T H,Q (.panic c) T H→Q (.panic c) (Xbd T d .top) H) (h:Xfl Δ V O w0 Q (.panic c) (a.put d v) w):Xfl Δ V O w0 Q (.panic c) a w:=by
 obtain ⟨T,H,r,q⟩:=h
 obtain ⟨u,e⟩:=Xhv a d v
 have r2:=r.put d (av:=.top) (v:=u) (by rw [Den];trivial)
 rw [e] at r2
 exact ⟨_,H,r2,hpan _ _ _ q⟩
theorem Xfh (i:Nat) {o:Oper} {l:List Oper} (hi:XcM l i=some o) (hg:o.guard=none) (hc:XbY l.toArray listed i DD=true) (hpan:∀c T H,Q (.panic c) T H→Q (.panic c) (Xbd T o.dst .top) H) (av:AV)
  (h:∀V wr a w,OK V (B++H) (ev T) o a w→XdZ wr B w→∃v,(∀w',XdZ wr B w'→(execOp a.eval o).run P w'=.ok (.value v) w')∧Den (FB V (B++H)) w av v) (hK:Xdy P l.toArray Q DD B fuel (listed.setIfInBounds i true) (Xbd T o.dst av) H):Xdy P l.toArray Q DD B (fuel+1) listed T H:=by
 have hi:l.toArray[i]?=some o:=by rw [List.getElem?_toArray,←Xca];exact hi
 intro Δ V O w0 wr a w r hS
 obtain ⟨v,hv,hd⟩:=h V wr a w (r.oks o) hS
 have hD:=Xgl hc
 unfold XbY XdO at hc
 simp only [Bool.and_eq_true] at hc
 exact Xck.first hi hc.1.1.1 (fun c a w h=>Xi5 hpan h) hD (Region.free_spec hi hc.1.1.2) (by simpa using hc.1.2) (.inl ⟨by simp [Region.wanted,hg],hv⟩) hS (hK Δ V O w0 wr _ w (r.put _ hd) hS)
theorem Xd8 (i:Nat) {o:Oper} {l:List Oper} (hi:XcM l i=some o) (hg:o.guard=none) (hc:XbY l.toArray listed i DD=true) (hpan:∀c T H,Q (.panic c) T H→Q (.panic c) (Xbd T o.dst .top) H) (av:AV) (h:XeR P o (ev T) (B++H) av) (hK:Xdy P l.toArray Q DD B fuel (listed.setIfInBounds i true) (Xbd T o.dst av) H):Xdy P l.toArray Q DD B (fuel+1) listed T H:=
 Xfh i hi hg hc hpan av (fun V wr a w ok _=>by obtain ⟨v,hv,hd⟩:=h V a w ok;exact ⟨v,fun w' _=>hv w',hd⟩) hK
theorem XfN (i:Nat) {o:Oper} {l:List Oper} (hi:XcM l i=some o) (hg:o.guard=none) (hc:XbY l.toArray listed i DD=true) (hpan:∀c T H,Q (.panic c) T H→Q (.panic c) (Xbd T o.dst .top) H) (p:Nat) (t:TypeId) (x:Operand) (b off:Nat) (cells:List AV) (agg:Bool) (n:Nat)
  (ho:o.op=.load t x) (hx:ev T x=.x (.pointer (some ⟨b,off,none⟩))) (hb:B[p]?=some (.box b cells)) (ht:Xhq P t=some (agg,n)) (hn:off+n≤cells.length) (hn0:off < cells.length)
  (hK:Xdy P l.toArray Q DD B fuel (listed.setIfInBounds i true) (Xbd T o.dst (ldA agg n (cells.drop off))) H):Xdy P l.toArray Q DD B (fuel+1) listed T H:=
 Xfh i hi hg hc hpan _ (fun V wr a w ok hS=>by
  obtain ⟨vals,hd,hl,hcl⟩:=ok.hok.ok (.box b cells) (List.mem_append_left _ (List.mem_of_getElem? hb))
  obtain ⟨v,hr,hdv⟩:=XbW (P:=P) t agg n ht w _ b off (cells.drop off) (vals.drop off) (hd.drop off) (by simp;omega) (fun _=>by simp;omega)
  refine ⟨v,fun w' hS'=>?_,hdv⟩
  have hbk:Xcm B b:=⟨_,List.mem_of_getElem? hb,rfl⟩
  have hsame:w'.heap[b]?=w.heap[b]?:=(hS' b hbk).trans (hS b hbk).symm
  have:=hr w' fun j u hj=>by
   rw [World.cell?_of_block (a:=⟨b,off+j,none⟩) hsame];exact (hcl (off+j) u (by rwa [List.getElem?_drop] at hj)).1
  simp [execOp,ho,ok.evx (x:=x) (by simp [ho,Op.operands]) hx,Instr.loadAt,Instr.sureAddr,this]) hK
def Xue (X:List PanicEntry→List AV→List Hp→Prop) (Q:Xcl):Xcl
 | .panic c,T,H=>X c T H
 | e,T,H=>Q e T H
theorem Xoo {c:Code} (h:awp P c (Xue X Q) T H) (hX:∀ch T H,X ch T H→Q (.panic ch) T H):awp P c Q T H:=fun Δ V O w0 a w r=>wp_mono (h Δ V O w0 a w r) fun e a w ⟨T,H,r,q⟩=>⟨T,H,r,by
 cases e with
 | panic ch=>exact hX _ _ _ q
 | _=>exact q⟩
theorem Xjb (h:Q .normal T H):Xue X Q .normal T H:=h
def XrM (ks:List (Nat × AV)) (Y:List PanicEntry→List Hp→Prop):List PanicEntry→List AV→List Hp→Prop:=fun c T H=>Y c H∧∀p∈ks,T[p.1]?=some p.2
theorem Xo7 {ks:List (Nat × AV)} {Y:List PanicEntry→List Hp→Prop} {c:List PanicEntry} {d:Nat} {av:AV} (hd:∀p∈ks,p.1≠d) (h:XrM ks Y c T H):XrM ks Y c (Xbd T (some d) av) H:=⟨h.1,fun p hp=>by
 rw [←h.2 p hp]
 simp only [Xbd]
 exact List.getElem?_set_ne (fun e=>hd p hp e.symm)⟩
theorem Xng {ks:List (Nat × AV)} {Y:List PanicEntry→List Hp→Prop} {c:List PanicEntry} {d:Nat} {av:AV} (hd:(ks.all fun p=>p.1 != d)=true) (h:XrM ks Y c T H):XrM ks Y c (Xbd T (some d) av) H:=Xo7 (fun p hp=>by simpa using List.all_eq_true.1 hd p hp) h
theorem XeG {ks:List (Nat × AV)} {Y:List PanicEntry→List Hp→Prop} {c:List PanicEntry} {d:Nat} {av:AV} (hd:(ks.all fun p=>p.1 != d)=true) (h:Xue (XrM ks Y) Q (.panic c) T H):Xue (XrM ks Y) Q (.panic c) (Xbd T (some d) av) H:=Xng hd h
end
end Go.Proofs.YtdlblokjfoggpaaGreatDoor
--%old
namespace Go.Proofs.YtdlblokjfoggpaaGreatDoor
open Go.RowKit
theorem Xr6 {p:UInt8→Bool} {c:UInt8} {r:List UInt8} (h:p c=true):1≤spn p (c :: r):=by rw [Xgk p c r h];omega
theorem Xo1 {l:List UInt8} {a:Int} {t:List UInt8} {m:Nat} (h:one l=.ok (a,t,m)):a=2→1≤t.length:=by
 intro h2
 subst h2
 cases l with
 | nil=>cases h
 | cons c r=>
   unfold one at h
   simp only at h
   split at h
   ·cases h
   ·split at h
    ·rename_i hd
     split at h
     ·cases h
     ·cases h
      have:=Xr6 (r:=r) hd
      rw [List.length_take]
      have:=Xko XbX (c :: r)
      omega
    ·split at h
     ·split at h<;>cases h
     ·split at h
      ·split at h<;>cases h
      ·split at h<;>cases h
theorem Xsd {s:List UInt8} {ts:List Tok} (h:lex s=.ok ts):Xlx ts:=by
 obtain ⟨hp,hn,hv,-,hle⟩:=(XeD s).2 ts h
 obtain ⟨hN,hS⟩:=Xk9 s ts h
 refine ⟨by omega,hv,?_,hS⟩
 have h1:∀t∈ts,t.kind=2→1≤t.text.length:=by
  unfold lex at h
  split at h
  ·cases h
  ·exact Xf9 (P:=fun t=>t.kind=2→1≤t.text.length) (fun p q h=>by simp at h) (fun l a t m h p q=>Xo1 h) s.length (1,1) 0 s ts (Nat.le_refl _) h
 exact fun t ht h2=>⟨h1 t ht h2,(hN t ht h2).1,(hN t ht h2).2⟩
theorem Xk2 (s:List UInt8) (hl:s.length≤1000000) (f:Flt) (hx:lex s=.error f):XaM Tryz.prog 40 [] [.x (.string (bs s))] (fun r H'=>r=Xua (XcL s)∧H'=[]):=by
 have hall:=Xp6 s hl
 have hf0:=(XeD s).1 f hx
 have hg:XcL s=.error f:=by simp only [XcL,hx]
 rw [hg]
 rw [hx] at hall
 simp only [Xkq,XqZ,Flt.av] at hall
 clear hx hg
 refine XjK Tryz.func40 rfl ?_
 simp only [Tryz.ntmps40,Xvw,Xvz,XvA,XvB,XvE,XvD,Nat.reduceAdd,Nat.reduceSub]
 refine XdT ?_
 (repeat' (first|with_reducible (first|refine Xah ?_|refine Xay ?_|refine Xac ?_)|(refine Xaa rfl ?_;((refine XaQ 14 rfl ?_;(refine Xbq _ _ rfl Xb0.out rfl (fun b=>?_)));apply Xam;(case hT=>((try simp only [wtn,Xvx,Xvu,Xvv,Xvy,XvC,Nat.reduceAdd,Nat.reduceMul,Nat.reduceSub,↓reduceIte,Nat.reduceEqDiff]);rfl));(case hH=>((try simp only [wtn,Xvx,Xvu,Xvv,Xvy,XvC,Nat.reduceAdd,Nat.reduceMul,Nat.reduceSub,↓reduceIte,Nat.reduceEqDiff]);rfl))))|fail))
 refine XdT ?_
 (repeat' (first|with_reducible (first|refine Xah ?_|refine Xay ?_|refine Xac ?_)|((apply Xao rfl);(case h=>((try (intro (hp:(_:Bool)=true);((try simp only [Bool.and_eq_true,Bool.not_eq_true',Bool.not_eq_true] at hp);(try simp only [hp,wte]);(try simp only [whn] at hp))));(first|(apply Xad 0 rfl;(first|exact XaS _ rfl|exact Xa8 _ rfl))|(apply Xad 2 rfl;(exact XbE _ _ _ _ rfl rfl rfl))|(apply Xad 11 rfl;(exact XbL 73 Tryz.f73 _ _ rfl rfl Tryz.func73 (by decide) rfl (VwL.refl _ _) (hall))))));(case hT=>((try simp only [wtn,Xvx,Xvu,Xvv,Xvy,XvC,Nat.reduceAdd,Nat.reduceMul,Nat.reduceSub,↓reduceIte,Nat.reduceEqDiff]);rfl)))|(refine Xaa rfl ?_;((refine XaQ 16 rfl ?_;(refine XaH _ _ _ _ _ _ _ rfl rfl Xby.out Xa6.out (by first|rfl|fail) (by first|exact Xvs rfl|fail) ?_));apply Xam;(case hT=>((try simp only [wtn,Xvx,Xvu,Xvv,Xvy,XvC,Nat.reduceAdd,Nat.reduceMul,Nat.reduceSub,↓reduceIte,Nat.reduceEqDiff]);rfl));(case hH=>((try simp only [wtn,Xvx,Xvu,Xvv,Xvy,XvC,Nat.reduceAdd,Nat.reduceMul,Nat.reduceSub,↓reduceIte,Nat.reduceEqDiff]);rfl))))|fail))
 refine XdT ?_
 (repeat' (first|with_reducible (first|refine XaK ?_|refine Xah ?_|refine Xay ?_|refine Xac ?_)|(refine XaX _ rfl (fun h=>?_) (fun h=>?_)<;>((try (simp only [whn] at h));first|(exfalso;omega;done)|skip))|((apply Xao rfl);(case h=>((try (intro (hp:(_:Bool)=true);((try simp only [Bool.and_eq_true,Bool.not_eq_true',Bool.not_eq_true] at hp);(try simp only [hp,wte]);(try simp only [whn] at hp))));(first|(apply Xad 5 rfl;(exact Xal _ _ _ _ _ _ rfl rfl Xa1.out))|(apply Xad 6 rfl;(exact XaN _ _ _ _ _ _ _ _ rfl rfl Xby.out XaR.out (by first|exact Xvs rfl|fail) (by first|exact Xvs rfl|fail)))|(apply XbB;(case hs=>(intro _ _ h;cases h));(case hx=>rfl);(case hrun=>(intro w;simp [wtb,AV.val,go_sem];(try go_bits);rfl))))));(case hT=>((try simp only [wtn,Xvx,Xvu,Xvv,Xvy,XvC,Nat.reduceAdd,Nat.reduceMul,Nat.reduceSub,↓reduceIte,Nat.reduceEqDiff]);rfl)))|fail))
 refine XbO mixed ?_
 refine XjN 0 1 (by decide +kernel) rfl rfl rfl rfl ?_ ?_
 ·(first|(apply Xbr;(case h=>(apply Xad 6 rfl;(exact XaN _ _ _ _ _ _ _ _ rfl rfl Xby.out XaR.out (by first|exact Xvs rfl|fail) (by first|exact Xvs rfl|fail))));(apply Xag;(case hT=>((try simp only [wtn,Xvx,Xvu,Xvv,Xvy,XvC,Nat.reduceAdd,Nat.reduceMul,Nat.reduceSub,↓reduceIte,Nat.reduceEqDiff]);rfl));(case hH=>rfl)))|fail)
  (refine XbR 1 (by decide +kernel) rfl rfl ?_;(first|((refine XaQ 16 rfl ?_;(refine XaH _ _ _ _ _ _ _ rfl rfl Xby.out Xa6.out (by first|rfl|fail) (by first|exact Xvs rfl|fail) ?_));apply Xag;(case hT=>((try simp only [wtn,Xvx,Xvu,Xvv,Xvy,XvC,Nat.reduceAdd,Nat.reduceMul,Nat.reduceSub,↓reduceIte,Nat.reduceEqDiff]);rfl));(case hH=>((try simp only [wtn,Xvx,Xvu,Xvv,Xvy,XvC,Nat.reduceAdd,Nat.reduceMul,Nat.reduceSub,↓reduceIte,Nat.reduceEqDiff]);rfl)))|fail))
  (refine XbR 2 (by decide +kernel) rfl rfl ?_;(first|((refine XaQ 16 rfl ?_;(refine XaH _ _ _ _ _ _ _ rfl rfl Xby.out Xa6.out (by first|rfl|fail) (by first|exact Xvs rfl|fail) ?_));apply Xag;(case hT=>((try simp only [wtn,Xvx,Xvu,Xvv,Xvy,XvC,Nat.reduceAdd,Nat.reduceMul,Nat.reduceSub,↓reduceIte,Nat.reduceEqDiff]);rfl));(case hH=>((try simp only [wtn,Xvx,Xvu,Xvv,Xvy,XvC,Nat.reduceAdd,Nat.reduceMul,Nat.reduceSub,↓reduceIte,Nat.reduceEqDiff]);rfl)))|fail))
  refine Xar (by decide +kernel) ?_
  (repeat' (first|with_reducible (first|refine Xbn ?_|refine Xac ?_|refine XbP ?_)|fail))
  refine Xab _ _ (Xcn rfl (RV.cell 1 rfl rfl XaR.out (by simp) (by simp)) (RV.cell 0 rfl rfl XaR.out (by simp) (by simp)) (Xaq.mk' [_,_] [] (Xvt _) Xap.nil (VwL.cons Vw.nil (VwL.refl _ _)))) ⟨?_,rfl⟩
  rfl
 ·(first|((refine XaQ 16 rfl ?_;(refine XaH _ _ _ _ _ _ _ rfl rfl Xby.out Xa6.out (by first|rfl|fail) (by first|exact Xvs rfl|fail) ?_));apply Xag;(case hT=>((try simp only [wtn,Xvx,Xvu,Xvv,Xvy,XvC,Nat.reduceAdd,Nat.reduceMul,Nat.reduceSub,↓reduceIte,Nat.reduceEqDiff]);rfl));(case hH=>((try simp only [wtn,Xvx,Xvu,Xvv,Xvy,XvC,Nat.reduceAdd,Nat.reduceMul,Nat.reduceSub,↓reduceIte,Nat.reduceEqDiff]);rfl)))|fail)
  (refine XbR 0 (by decide +kernel) rfl rfl ?_;(first|(apply Xbr;(case h=>(apply Xad 6 rfl;(exact XaN _ _ _ _ _ _ _ _ rfl rfl Xby.out XaR.out (by first|exact Xvs rfl|fail) (by first|exact Xvs rfl|fail))));(apply Xag;(case hT=>((try simp only [wtn,Xvx,Xvu,Xvv,Xvy,XvC,Nat.reduceAdd,Nat.reduceMul,Nat.reduceSub,↓reduceIte,Nat.reduceEqDiff]);rfl));(case hH=>rfl)))|fail))
  (refine XbR 2 (by decide +kernel) rfl rfl ?_;(first|((refine XaQ 16 rfl ?_;(refine XaH _ _ _ _ _ _ _ rfl rfl Xby.out Xa6.out (by first|rfl|fail) (by first|exact Xvs rfl|fail) ?_));apply Xag;(case hT=>((try simp only [wtn,Xvx,Xvu,Xvv,Xvy,XvC,Nat.reduceAdd,Nat.reduceMul,Nat.reduceSub,↓reduceIte,Nat.reduceEqDiff]);rfl));(case hH=>((try simp only [wtn,Xvx,Xvu,Xvv,Xvy,XvC,Nat.reduceAdd,Nat.reduceMul,Nat.reduceSub,↓reduceIte,Nat.reduceEqDiff]);rfl)))|fail))
  refine Xar (by decide +kernel) ?_
  (repeat' (first|with_reducible (first|refine Xbn ?_|refine Xac ?_|refine XbP ?_)|fail))
  refine Xab _ _ (Xcn rfl (RV.cell 1 rfl rfl XaR.out (by simp) (by simp)) (RV.cell 0 rfl rfl XaR.out (by simp) (by simp)) (Xaq.mk' [_,_] [] (Xvt _) Xap.nil (VwL.cons Vw.nil (VwL.refl _ _)))) ⟨?_,rfl⟩
  rfl
theorem XsL (n:Nat):decide ((32:Int)≤(n:Int))=decide (32≤n):=decide_eq_decide.2 (by omega)
theorem XmD (s:List UInt8) (hl:s.length≤1000000) (ts:List Tok) (hx:lex s=.ok ts):XaM Tryz.prog 40 [] [.x (.string (bs s))] (fun r H'=>r=Xua (XcL s)∧H'=[]):=by
 have hall:=Xp6 s hl
 obtain ⟨hp,hn,-⟩:=(XeD s).2 ts hx
 have hT:=Xsd hx
 have hg:XcL s=Xd0 ts 0 []:=by simp only [XcL,hx]
 rw [hg]
 rw [hx] at hall
 simp only [Xkq,XqZ,Flt.av] at hall
 clear hx hg
 refine XjK Tryz.func40 rfl ?_
 simp only [Tryz.ntmps40,Xvw,Xvz,XvA,XvB,XvE,XvD,Nat.reduceAdd,Nat.reduceSub]
 refine XdT ?_
 (repeat' (first|with_reducible (first|refine Xah ?_|refine Xay ?_|refine Xac ?_)|(refine Xaa rfl ?_;((refine XaQ 14 rfl ?_;(refine Xbq _ _ rfl Xb0.out rfl (fun b=>?_)));apply Xam;(case hT=>((try simp only [wtn,Xvx,Xvu,Xvv,Xvy,XvC,Nat.reduceAdd,Nat.reduceMul,Nat.reduceSub,↓reduceIte,Nat.reduceEqDiff]);rfl));(case hH=>((try simp only [wtn,Xvx,Xvu,Xvv,Xvy,XvC,Nat.reduceAdd,Nat.reduceMul,Nat.reduceSub,↓reduceIte,Nat.reduceEqDiff]);rfl))))|fail))
 refine XdT ?_
 (repeat' (first|with_reducible (first|refine Xah ?_|refine Xay ?_|refine Xac ?_)|((apply Xao rfl);(case h=>((try (intro (hp:(_:Bool)=true);((try simp only [Bool.and_eq_true,Bool.not_eq_true',Bool.not_eq_true] at hp);(try simp only [hp,wte]);(try simp only [whn] at hp))));(first|(apply Xad 0 rfl;(first|exact XaS _ rfl|exact Xa8 _ rfl))|(apply Xad 2 rfl;(exact XbE _ _ _ _ rfl rfl rfl))|(apply Xad 11 rfl;(exact XbL 73 Tryz.f73 _ _ rfl rfl Tryz.func73 (by decide) rfl (VwL.refl _ _) (hall))))));(case hT=>((try simp only [wtn,Xvx,Xvu,Xvv,Xvy,XvC,Nat.reduceAdd,Nat.reduceMul,Nat.reduceSub,↓reduceIte,Nat.reduceEqDiff]);rfl)))|(refine Xaa rfl ?_;((refine XaQ 16 rfl ?_;(refine XaH _ _ _ _ _ _ _ rfl rfl Xby.out Xa6.out (by first|rfl|fail) (by first|exact Xvs rfl|fail) ?_));apply Xam;(case hT=>((try simp only [wtn,Xvx,Xvu,Xvv,Xvy,XvC,Nat.reduceAdd,Nat.reduceMul,Nat.reduceSub,↓reduceIte,Nat.reduceEqDiff]);rfl));(case hH=>((try simp only [wtn,Xvx,Xvu,Xvv,Xvy,XvC,Nat.reduceAdd,Nat.reduceMul,Nat.reduceSub,↓reduceIte,Nat.reduceEqDiff]);rfl))))|fail))
 refine XdT ?_
 (repeat' (first|with_reducible (first|refine XaK ?_|refine Xah ?_|refine Xa9 ?_|refine Xay ?_|refine Xac ?_)|(refine XaX _ rfl (fun h=>?_) (fun h=>?_)<;>first|(exact absurd h (by decide))|((try (simp only [whn] at h));skip))|((apply Xao rfl);(case h=>((try (intro (hp:(_:Bool)=true);((try simp only [Bool.and_eq_true,Bool.not_eq_true',Bool.not_eq_true] at hp);(try simp only [hp,wte]);(try simp only [whn] at hp))));(first|(apply Xad 5 rfl;(exact Xal _ _ _ _ _ _ rfl rfl Xa1.out))|(apply Xad 6 rfl;(exact XaN _ _ _ _ _ _ _ _ rfl rfl Xby.out XaR.out (by first|exact Xvs rfl|fail) (by first|exact Xvs rfl|fail)))|(apply XbB;(case hs=>(intro _ _ h;cases h));(case hx=>rfl);(case hrun=>(intro w;simp [wtb,AV.val,go_sem];(try go_bits);rfl))))));(case hT=>((try simp only [wtn,Xvx,Xvu,Xvv,Xvy,XvC,Nat.reduceAdd,Nat.reduceMul,Nat.reduceSub,↓reduceIte,Nat.reduceEqDiff]);rfl)))|fail))
 refine XiI (l:=[_,_]) ?_
 rename_i b2
 obtain ⟨b3,rfl⟩:∃x,x=b:=⟨b,rfl⟩
 refine Xl7 (T':=_) rfl (.x (.func (.func 74) #[] #[.pointer (some ⟨b2,0,none⟩),.pointer (some ⟨b3,0,none⟩)])) ?h rfl ?_
 case h=>(apply XbB;(case hs=>(intro _ _ h;cases h));(case hx=>rfl);(case hrun=>(intro w;simp [wtb,AV.val,go_sem];try rfl)))
 simp only [Xbd,XvH,XvI]
 refine XiH rfl rfl rfl rfl rfl ?_
 refine Xl8 ?_
 simp only
 refine XqH ?_
 refine Xa7 29 15 ?_
 (repeat' (first|with_reducible (first|refine XaK ?_|refine Xah ?_|refine Xbg ?_|refine Xay ?_|refine Xac ?_)|((apply Xao rfl);(case h=>((try (intro (hp:(_:Bool)=true);((try simp only [Bool.and_eq_true,Bool.not_eq_true',Bool.not_eq_true] at hp);(try simp only [hp,wte]);(try simp only [whn] at hp))));(first|(apply Xad 0 rfl;(first|exact XaS _ rfl|exact Xa8 _ rfl))|(apply Xad 10 rfl;(exact XbD _ _ _ _ _ rfl HPl.out (by first|rfl|fail) rfl)))));(case hT=>((try simp only [wtn,Xvx,Xvu,Xvv,Xvy,XvC,Nat.reduceAdd,Nat.reduceMul,Nat.reduceSub,↓reduceIte,Nat.reduceEqDiff]);rfl)))|(refine Xaa rfl ?_;((refine XaQ 15 rfl ?_;(refine XeT _ _ rfl (by first|rfl|fail) (fun b=>?_)));apply Xam;(case hT=>((try simp only [wtn,Xvx,Xvu,Xvv,Xvy,XvC,Nat.reduceAdd,Nat.reduceMul,Nat.reduceSub,↓reduceIte,Nat.reduceEqDiff]);rfl));(case hH=>((try simp only [wtn,Xvx,Xvu,Xvv,Xvy,XvC,Nat.reduceAdd,Nat.reduceMul,Nat.reduceSub,↓reduceIte,Nat.reduceEqDiff]);rfl))))|fail))
 obtain ⟨pb,rfl⟩:∃x,x=b:=⟨b,rfl⟩
 apply XaA (S:=Nat × List JF × Option Addr × Nat) (fun q=>frm 33 [(2,.x (.pointer (some ⟨b2,0,none⟩))),(3,.x (.pointer (some ⟨b3,0,none⟩))),(5,.x (.pointer (some ⟨pb,0,none⟩)))])
  (fun q=>[.box pb (tc ts q.1),.box b2 [.x (.slice q.2.2.1 q.2.1.length q.2.2.2)],.row q.2.2.1 q.2.1.length q.2.2.2 29 15 (jfa q.2.1),.box b3 [.x (.int .i64 0),.x (.int .i64 0),.x (.int .i64 0)]])
  (fun q=>q.1 < ts.length∧q.2.1.length≤q.1∧Xd0 ts q.1 q.2.1=Xd0 ts 0 []) (fun q=>ts.length - q.1) (0,[],none,0)
 case h0=>exact Xaq.mk' [] [.box pb _,.box b2 _,.row none 0 0 _ _ _,.box b3 _] (by (repeat' (first|exact Xvt _|refine XvJ _ ?_|refine (XvG (l₁:=[_,_])).trans (XvJ _ ?_)|fail))) (Xap.refl _ _) (by (repeat' (first|exact VwL.nil|(refine VwL.cons ?_ ?_)|exact Vw.refl _|exact Vw.top _|fail)))
 case hi=>exact ⟨hp,Nat.zero_le _,rfl⟩
 rintro ⟨kk,js,ad,cap⟩ ⟨g1,g4,g6⟩
 simp only at g1 g4 g6
 have g6':=Lib.hid g6
 clear g6
 have hPk:=Xkb ts kk g1 hT.len
 unfold Tok.av at hPk
 have hJ:=XuC pb ts kk (decide ((32:Int)≤(js.length:Int))) g1 hT
 simp only [tc] at hJ hPk ⊢
 simp only [frm,XvA,XvB,Xvu,Xvv,XvH,XvI]
 (repeat' (first|with_reducible (first|refine XaK ?_|refine Xah ?_|refine Xbg ?_|refine Xbn ?_|refine Xa9 ?_|refine Xdq ?_|refine Xay ?_|refine Xac ?_|refine XcA ?_|refine Xcg ?_)|(refine XaX _ rfl (fun h=>?_) (fun h=>?_)<;>((try (simp only [whn] at h));skip))|((apply Xao rfl);(case h=>((try (intro (hp:(_:Bool)=true);((try simp only [Bool.and_eq_true,Bool.not_eq_true',Bool.not_eq_true] at hp);(try simp only [hp,wte]);(try simp only [whn] at hp))));(first|(apply Xad 0 rfl;(exact XaS _ rfl))|(apply Xad 6 rfl;(exact XaN _ _ _ _ _ _ _ _ rfl rfl Xby.out XaR.out (by first|exact Xvs rfl|fail) (by first|exact Xvs rfl|fail)))|(apply Xad 10 rfl;(exact XbD _ _ _ _ _ rfl HPl.out (by first|rfl|fail) rfl))|(apply Xad 11 rfl;(exact Xcc 75 Tryz.f75 _ _ rfl rfl Tryz.func75 (by decide) rfl (by (repeat' (first|exact VwL.nil|(refine VwL.cons ?_ ?_)|exact Vw.box (List.Mem.head _) (VwL.refl _ _)|fail));done) (hPk)))|(apply Xad 12 rfl;(exact Xqv _ _ _ _ _ _ _ rfl rfl HFv.out (by first|(simp;done)|fail) (by first|(simp;done)|fail)))|(apply XbB;(case hs=>(intro _ _ h;cases h));(case hx=>rfl);(case hrun=>(intro w;simp [wtb,AV.val,go_sem];(try go_bits);rfl))))));(case hT=>((try simp only [wtn,Xvx,Xvu,Xvv,Xvy,XvC,Nat.reduceAdd,Nat.reduceMul,Nat.reduceSub,↓reduceIte,Nat.reduceEqDiff]);rfl)))|(refine Xaa rfl ?_;((refine XaQ 16 rfl ?_;(refine XaH _ _ _ _ _ _ _ rfl rfl Xby.out Xa6.out (by first|rfl|fail) (by first|exact Xvs rfl|fail) ?_));apply Xam;(case hT=>((try simp only [wtn,Xvx,Xvu,Xvv,Xvy,XvC,Nat.reduceAdd,Nat.reduceMul,Nat.reduceSub,↓reduceIte,Nat.reduceEqDiff]);rfl));(case hH=>((try simp only [wtn,Xvx,Xvu,Xvv,Xvy,XvC,Nat.reduceAdd,Nat.reduceMul,Nat.reduceSub,↓reduceIte,Nat.reduceEqDiff]);rfl))))|fail))
 ·have hk6:(tkA ts kk).kind≠6:=by rw [XaZ g1];exact h
  refine Xoo (X:=XrM [(2,.x (.pointer (some ⟨b2,0,none⟩))),(3,.x (.pointer (some ⟨b3,0,none⟩)))] fun c H=>∃f,c=Xn8 (fv f)∧Xd0 ts 0 []=.error f∧∃R:List Hp,H.Perm ([.box b2 [.x (.slice ad js.length cap)],.box b3 [.x (.int .i64 0),.x (.int .i64 0),.x (.int .i64 0)]]++R)) ?_ ?_
  ·refine XaP mixed [8] [.box b2 _] [.box pb _,.row ad _ _ _ _ _,.box b3 _] (by (repeat' (first|exact Xvt _|refine (XvG (l₁:=[_])).trans (XvJ _ ?_)|fail))) ?_
   (first|refine XfN 0 rfl rfl (by kernel_rfl) (fun _ _ _ hp=>XeG rfl hp) _ _ _ _ _ _ _ _ rfl rfl Xby.out XaR.out (by first|exact Xvs rfl|fail) (by first|exact Xvs rfl|fail) ?_|fail);(apply Xaf;(case hT=>((try simp only [wtn,Xvx,Xvu,Xvv,Xvy,XvC,Nat.reduceAdd,Nat.reduceMul,Nat.reduceSub,↓reduceIte,Nat.reduceEqDiff]);rfl));(case hH=>rfl));(first|(apply Xd8 1 rfl rfl (by kernel_rfl) (fun _ _ _ hp=>XeG rfl hp);(case h=>(exact Xbm _ rfl)))|fail);(apply Xaf;(case hT=>((try simp only [wtn,Xvx,Xvu,Xvv,Xvy,XvC,Nat.reduceAdd,Nat.reduceMul,Nat.reduceSub,↓reduceIte,Nat.reduceEqDiff]);rfl));(case hH=>rfl));(first|refine XfN 2 rfl rfl (by kernel_rfl) (fun _ _ _ hp=>XeG rfl hp) _ _ _ _ _ _ _ _ rfl rfl Xby.out XaR.out (by first|exact Xvs rfl|fail) (by first|exact Xvs rfl|fail) ?_|fail);(apply Xaf;(case hT=>((try simp only [wtn,Xvx,Xvu,Xvv,Xvy,XvC,Nat.reduceAdd,Nat.reduceMul,Nat.reduceSub,↓reduceIte,Nat.reduceEqDiff]);rfl));(case hH=>rfl));(first|(apply Xd8 3 rfl rfl (by kernel_rfl) (fun _ _ _ hp=>XeG rfl hp);(case h=>(apply XcW;(case hs=>(intro _ _ h;cases h));(case hx=>rfl);(case hrun=>(intro w;simp [wtb,AV.val,go_sem];(try go_bits);rfl)))))|fail);(apply Xaf;(case hT=>((try simp only [wtn,Xvx,Xvu,Xvv,Xvy,XvC,Nat.reduceAdd,Nat.reduceMul,Nat.reduceSub,↓reduceIte,Nat.reduceEqDiff]);rfl));(case hH=>rfl));(first|(apply Xd8 4 rfl rfl (by kernel_rfl) (fun _ _ _ hp=>XeG rfl hp);(case h=>(apply XcW;(case hs=>(intro _ _ h;cases h));(case hx=>rfl);(case hrun=>(intro w;simp [wtb,AV.val,go_sem];(try go_bits);rfl)))))|fail);(apply Xaf;(case hT=>((try simp only [wtn,Xvx,Xvu,Xvv,Xvy,XvC,Nat.reduceAdd,Nat.reduceMul,Nat.reduceSub,↓reduceIte,Nat.reduceEqDiff]);rfl));(case hH=>rfl))
   (first|(refine Xc6 5 (by decide +kernel) rfl rfl ?_;refine XaB 76 Tryz.f76 [.box pb _] _ _ _ _ rfl rfl Tryz.func76 (by decide) rfl (Xvt _) (VwL.refl _ _) (hJ) ?_ ?_;(case' refine_1=>(rintro _ _ ⟨j1,k1,rfl,rfl,hx,hk2,hj2,hk3⟩;(apply Xaf;(case hT=>((try simp (disch:=omega) only [wtn,JF.cells,Xvx,Xvu,Xvv,Xvy,XvC,Nat.reduceAdd,Nat.reduceMul,Nat.reduceSub,↓reduceIte,Nat.reduceEqDiff]);rfl));(case hH=>((try simp (disch:=omega) only [wtn,JF.cells,Xvx,Xvu,Xvv,Xvy,XvC,Nat.reduceAdd,Nat.reduceMul,Nat.reduceSub,↓reduceIte,Nat.reduceEqDiff]);rfl)))));(case' refine_2=>(rintro _ Hq ⟨f,hx,rfl⟩)))|fail)
   ·refine ⟨⟨f,rfl,g6'.out.symm.trans (Xmy hk6 (by rw [←XsL];exact hx)),Hq++[.row ad js.length cap 29 15 (jfa js)],?_⟩,?_⟩
    ·refine List.Perm.trans (List.Perm.of_eq ?_) (XvJ _ (List.perm_append_comm (l₁:=Hq++[.row ad js.length cap 29 15 (jfa js)]) (l₂:=[.box b3 [.x (.int .i64 0),.x (.int .i64 0),.x (.int .i64 0)]])))
     simp
    ·intro p hp
     simp only [List.mem_cons,List.not_mem_nil,or_false] at hp
     rcases hp with rfl|rfl<;>rfl
   ·(refine Xbk 6 (by decide +kernel) rfl rfl ?_;(first|((refine XaQ 17 rfl ?_;(refine Xbe _ _ _ _ _ _ _ _ rfl XbJ.out (by first|rfl|fail) rfl (by decide) rfl (fun b=>?_)));apply Xaf;(case hT=>((try simp (disch:=omega) only [wtn,JF.cells,Xvx,Xvu,Xvv,Xvy,XvC,Nat.reduceAdd,Nat.reduceMul,Nat.reduceSub,↓reduceIte,Nat.reduceEqDiff]);rfl));(case hH=>((try simp (disch:=omega) only [wtn,JF.cells,Xvx,Xvu,Xvv,Xvy,XvC,Nat.reduceAdd,Nat.reduceMul,Nat.reduceSub,↓reduceIte,Nat.reduceEqDiff]);rfl)))|fail))
    (refine Xbk 7 (by decide +kernel) rfl rfl ?_;(first|((refine XaQ 13 rfl ?_;(refine XbN _ _ _ _ _ _ _ _ _ _ _ _ _ _ rfl rfl Xdp.out (Src.row _ rfl Xdp.out) XbJ.out (by first|rfl|fail) (Xmv _ _ (by omega) (by decide)) (fun ad cap=>?_)));apply Xaf;(case hT=>((try simp (disch:=omega) only [wtn,JF.cells,Xvx,Xvu,Xvv,Xvy,XvC,Nat.reduceAdd,Nat.reduceMul,Nat.reduceSub,↓reduceIte,Nat.reduceEqDiff]);rfl));(case hH=>((try simp (disch:=omega) only [wtn,JF.cells,Xvx,Xvu,Xvv,Xvy,XvC,Nat.reduceAdd,Nat.reduceMul,Nat.reduceSub,↓reduceIte,Nat.reduceEqDiff]);rfl)))|fail))
    refine XaV (by decide +kernel) ?_
    refine Xag rfl (by simp only [XvE,XvD];rfl) ?_
    (refine XbR 8 (by decide +kernel) rfl rfl ?_;(first|((refine XaQ 16 rfl ?_;(refine XaH _ _ _ _ _ _ _ rfl rfl Xby.out Xa6.out (by first|rfl|fail) (by first|exact Xvs rfl|fail) ?_));apply Xag;(case hT=>((try simp only [wtn,Xvx,Xvu,Xvv,Xvy,XvC,Nat.reduceAdd,Nat.reduceMul,Nat.reduceSub,↓reduceIte,Nat.reduceEqDiff]);rfl));(case hH=>((try simp only [wtn,Xvx,Xvu,Xvv,Xvy,XvC,Nat.reduceAdd,Nat.reduceMul,Nat.reduceSub,↓reduceIte,Nat.reduceEqDiff]);rfl)))|fail))
    refine Xar (by decide +kernel) ?_
    refine Xjb ?_
    (repeat' (first|with_reducible (first|refine Xac ?_|refine Xaz ?_)|fail))
    refine ⟨(k1,js++[j1],ad,cap),by simp only;omega,⟨hk2,by simp only [XvF,Xvw,Xvz];omega,?_⟩,?_⟩
    ·rw [←g6'.out]
     exact (XkY (x:=(j1,k1)) hk6 (by rw [←XsL];exact hx) ⟨hk3,g1⟩).symm
    ·simp only [Xra,XvF,Xvw,Xvz]
     exact Xaq.mk' [.row (some ⟨b,0,none⟩) _ _ _ _ _] [.box pb _,.box b2 _,.row ad _ cap _ _ _,.box b3 _] (by (repeat' (first|exact Xvt _|refine (XvG (l₁:=[_])).trans (XvJ _ ?_)|fail))) (Xap.refl _ _) (by (repeat' (first|exact VwL.nil|(refine VwL.cons ?_ ?_)|exact Vw.refl _|exact Vw.top _|fail)))
  ·rintro ch T H ⟨⟨f,rfl,hg,R,hpm⟩,hs⟩
   (repeat (with_reducible first|refine Xae ?_|refine XaU ?_|fail))
   have h2:=hs (2,_) (List.Mem.head _)
   have h3:=hs (3,_) (List.Mem.tail _ (List.Mem.head _))
   simp only at h2 h3
   rw [hg]
   refine ⟨.panicking (Xn8 (fv f)),.panicking [{ v:=fv f,recovered:=true }],74,.func 74,#[.pointer (some ⟨b2,0,none⟩),.pointer (some ⟨b3,0,none⟩)],#[],[.pointer (some ⟨b2,0,none⟩),.pointer (some ⟨b3,0,none⟩)],[.box b2 _,.box b3 _],R,_,.inr (.inr ⟨_,rfl,rfl⟩),rfl,hpm,rfl,fun w=>by simp [go_sem],XqJ b2 b3 _ _ _ _ f,fun r' H' hh=>?_⟩
   subst hh
   exact ⟨_,[],Xcn rfl (RV.cell 0 (by simp [ev,List.getD_eq_getElem?_getD,h2]) rfl XaR.out (by simp) (by simp)) (RV.cell 1 (by simp [ev,List.getD_eq_getElem?_getD,h3]) rfl XaR.out (by simp) (by simp)) (Xaq.mk' (_ :: _ :: R) [] (by rw [List.append_nil];exact Xvt _) Xap.nil (VwL.cons Vw.nil (VwL.refl _ _))),rfl,rfl⟩
 ·have hk6:(tkA ts kk).kind=6:=by rw [XaZ g1];exact h
  have hg:Xd0 ts 0 []=.ok js:=g6'.out.symm.trans (Xmz hk6)
  rw [hg]
  refine ⟨.returning,.returning,74,.func 74,#[.pointer (some ⟨b2,0,none⟩),.pointer (some ⟨b3,0,none⟩)],#[],[.pointer (some ⟨b2,0,none⟩),.pointer (some ⟨b3,0,none⟩)],[.box b2 _,.box b3 _],[.row ad _ _ _ _ _,.box pb _],_,.inl ⟨rfl,rfl⟩,rfl,by (repeat' (first|exact Xvt _|refine (XvG (l₁:=[_])).trans (XvJ _ ?_)|refine (XvG (l₁:=[_,_])).trans (XvJ _ ?_)|fail)),rfl,fun w=>by simp [go_sem],Xta b2 b3 _,fun r' H' hh=>?_⟩
  subst hh
  exact ⟨_,[],Xcn rfl (RV.cell 0 rfl rfl XaR.out (by simp) (by simp)) (RV.cell 1 rfl rfl XaR.out (by simp) (by simp)) (Xaq.mk' [.row ad _ _ _ _ _,.box pb _,.box b2 _,.box b3 _] [] (by (repeat' (first|exact Xvt _|refine (XvG (l₁:=[_,_])).trans (XvJ _ ?_)|fail))) Xap.nil (VwL.cons (Vw.row (List.Mem.head _) (VwL.refl _ _)) (VwL.refl _ _))),rfl,rfl⟩
theorem XoE (s:List UInt8) (hl:s.length≤1000000):XaM Tryz.prog 40 [] [.x (.string (bs s))] (fun r H'=>r=Xua (XcL s)∧H'=[]):=by
 cases hx:lex s with
 | error f=>rw [show XcL s=.error f by simp only [XcL,hx]];exact (Xk2 s hl f hx).mono fun r H' ⟨h1,h2⟩=>⟨by rw [h1];simp only [XcL,hx],h2⟩
 | ok ts=>exact XmD s hl ts hx
end Go.Proofs.YtdlblokjfoggpaaGreatDoor

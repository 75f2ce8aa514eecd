import Derived.Test.YtdlblokjfoggpaaGreatDoorW29
import Derived.Test.YtdlblokjfoggpaaGreatDoorW33
import Derived.Test.YtdlblokjfoggpaaGreatDoorW34
import Derived.Test.YtdlblokjfoggpaaGreatDoorW36
/- A walk over symbolic memory: a panic in a region that draws, of which the end looks at slots. No program in sight. -/
set_option linter.unusedSimpArgs false
set_option linter.unusedVariables false
set_option maxRecDepth 100000
set_option maxHeartbeats 8000000
namespace Go.Proofs.YtdlblokjfoggpaaGreatDoor
open Go.RowKit
section
variable {P:Program} {Δ:List Deferred} {V O:Nat→Prop} {w0 w w':World} {B H H' D:List Hp} {T T':List AV} {a a':Act} {o:Oper} {ops:Array Oper} {Q:Xb9} {K:List AV→List Hp→Prop} {X:List PanicEntry→List AV→List Hp→Prop} {listed:Array Bool} {fuel:Nat} {DD:List Nat}
theorem Xj5 {c:List PanicEntry} {d:Option Tmp} {v:Value} (hpan:∀c T H,Q (.panic c) T H→Q (.panic c) (Xa9 T d .top) H) (h:Xe9 Δ V O w0 Q (.panic c) (a.put d v) w):Xe9 Δ V O w0 Q (.panic c) a w:=by
 obtain ⟨T,H,r,q⟩:=h
 obtain ⟨u,e⟩:=Xir a d v
 have r2:=r.put d (av:=.top) (v:=u) (by rw [Den];trivial)
 rw [e] at r2
 exact ⟨_,H,r2,hpan _ _ _ q⟩
theorem Xfu (i:Nat) {o:Oper} {l:List Oper} (hi:Xc3 l i=some o) (hg:o.guard=none) (hc:XbM l.toArray listed i DD=true) (hpan:∀c T H,Q (.panic c) T H→Q (.panic c) (Xa9 T o.dst .top) H) (av:AV)
  (h:∀V wr a w,OK V (B++H) (ev T) o a w→Xeb wr B w→∃v,(∀w',Xeb wr B w'→(execOp a.eval o).run P w'=.ok (.value v) w')∧Den (FB V (B++H)) w av v) (hK:Xds P l.toArray Q DD B fuel (listed.setIfInBounds i true) (Xa9 T o.dst av) H):Xds P l.toArray Q DD B (fuel+1) listed T H:=by
 have hi:l.toArray[i]?=some o:=by rw [List.getElem?_toArray,←Xbz];exact hi
 intro Δ V O w0 wr a w r hS
 obtain ⟨v,hv,hd⟩:=h V wr a w (r.oks o) hS
 have hD:=XgN hc
 unfold XbM Xel at hc
 simp only [Bool.and_eq_true] at hc
 exact Xcg.first hi hc.1.1.1 (fun c a w h=>Xj5 hpan h) hD (Region.free_spec hi hc.1.1.2) (by simpa using hc.1.2) (.inl ⟨by simp [Region.wanted,hg],hv⟩) hS (hK Δ V O w0 wr _ w (r.put _ hd) hS)
theorem Xep (i:Nat) {o:Oper} {l:List Oper} (hi:Xc3 l i=some o) (hg:o.guard=none) (hc:XbM l.toArray listed i DD=true) (hpan:∀c T H,Q (.panic c) T H→Q (.panic c) (Xa9 T o.dst .top) H) (av:AV) (h:XeE P o (ev T) (B++H) av) (hK:Xds P l.toArray Q DD B fuel (listed.setIfInBounds i true) (Xa9 T o.dst av) H):Xds P l.toArray Q DD B (fuel+1) listed T H:=
 Xfu i hi hg hc hpan av (fun V wr a w ok _=>by obtain ⟨v,hv,hd⟩:=h V a w ok;exact ⟨v,fun w' _=>hv w',hd⟩) hK
theorem Xga (i:Nat) {o:Oper} {l:List Oper} (hi:Xc3 l i=some o) (hg:o.guard=none) (hc:XbM l.toArray listed i DD=true) (hpan:∀c T H,Q (.panic c) T H→Q (.panic c) (Xa9 T o.dst .top) H) (p:Nat) (t:TypeId) (x:Operand) (b off:Nat) (cells:List AV) (agg:Bool) (n:Nat)
  (ho:o.op=.load t x) (hx:ev T x=.x (.pointer (some ⟨b,off,none⟩))) (hb:B[p]?=some (.box b cells)) (ht:Xis P t=some (agg,n)) (hn:off+n≤cells.length) (hn0:off < cells.length)
  (hK:Xds P l.toArray Q DD B fuel (listed.setIfInBounds i true) (Xa9 T o.dst (ldA agg n (cells.drop off))) H):Xds P l.toArray Q DD B (fuel+1) listed T H:=
 Xfu i hi hg hc hpan _ (fun V wr a w ok hS=>by
  obtain ⟨vals,hd,hl,hcl⟩:=ok.hok.ok (.box b cells) (List.mem_append_left _ (List.mem_of_getElem? hb))
  obtain ⟨v,hr,hdv⟩:=Xca (P:=P) t agg n ht w _ b off (cells.drop off) (vals.drop off) (hd.drop off) (by simp;omega) (fun _=>by simp;omega)
  refine ⟨v,fun w' hS'=>?_,hdv⟩
  have hbk:Xch B b:=⟨_,List.mem_of_getElem? hb,rfl⟩
  have hsame:w'.heap[b]?=w.heap[b]?:=(hS' b hbk).trans (hS b hbk).symm
  have:=hr w' fun j u hj=>by
   rw [World.cell?_of_block (a:=⟨b,off+j,none⟩) hsame];exact (hcl (off+j) u (by rwa [List.getElem?_drop] at hj)).1
  simp [execOp,ho,ok.evx (x:=x) (by simp [ho,Op.operands]) hx,Instr.loadAt,Instr.sureAddr,this]) hK
def Xw0 (X:List PanicEntry→List AV→List Hp→Prop) (Q:Xb9):Xb9
 | .panic c,T,H=>X c T H
 | e,T,H=>Q e T H
theorem Xqb {c:Code} (h:awp P c (Xw0 X Q) T H) (hX:∀ch T H,X ch T H→Q (.panic ch) T H):awp P c Q T H:=fun Δ V O w0 a w r=>wp_mono (h Δ V O w0 a w r) fun e a w ⟨T,H,r,q⟩=>⟨T,H,r,by
 cases e with
 | panic ch=>exact hX _ _ _ q
 | _=>exact q⟩
theorem Xkb (h:Q .normal T H):Xw0 X Q .normal T H:=h
def Xuh (ks:List (Nat × AV)) (Y:List PanicEntry→List Hp→Prop):List PanicEntry→List AV→List Hp→Prop:=fun c T H=>Y c H∧∀p∈ks,T[p.1]?=some p.2
theorem Xq4 {ks:List (Nat × AV)} {Y:List PanicEntry→List Hp→Prop} {c:List PanicEntry} {d:Nat} {av:AV} (hd:∀p∈ks,p.1≠d) (h:Xuh ks Y c T H):Xuh ks Y c (Xa9 T (some d) av) H:=⟨h.1,fun p hp=>by
 rw [←h.2 p hp]
 simp only [Xa9]
 exact List.getElem?_set_ne (fun e=>hd p hp e.symm)⟩
theorem XoK {ks:List (Nat × AV)} {Y:List PanicEntry→List Hp→Prop} {c:List PanicEntry} {d:Nat} {av:AV} (hd:(ks.all fun p=>p.1 != d)=true) (h:Xuh ks Y c T H):Xuh ks Y c (Xa9 T (some d) av) H:=Xq4 (fun p hp=>by simpa using List.all_eq_true.1 hd p hp) h
theorem XeY {ks:List (Nat × AV)} {Y:List PanicEntry→List Hp→Prop} {c:List PanicEntry} {d:Nat} {av:AV} (hd:(ks.all fun p=>p.1 != d)=true) (h:Xw0 (Xuh ks Y) Q (.panic c) T H):Xw0 (Xuh ks Y) Q (.panic c) (Xa9 T (some d) av) H:=XoK hd h
end
end Go.Proofs.YtdlblokjfoggpaaGreatDoor
--%old
namespace Go.Proofs.YtdlblokjfoggpaaGreatDoor
open Go.RowKit
theorem XuH {p:UInt8→Bool} {c:UInt8} {r:List UInt8} (h:p c=true):1≤spn p (c :: r):=by rw [XgL p c r h];omega
theorem XqY {l:List UInt8} {a:Int} {t:List UInt8} {m:Nat} (h:one l=.ok (a,t,m)):a=2→1≤t.length:=by
 intro h2
 subst h2
 cases l with
 | nil=>cases h
 | cons c r=>
   unfold one at h
   simp only at h
   split at h
   ·cases h
   ·split at h
    ·rename_i hd
     split at h
     ·cases h
     ·cases h
      have:=XuH (r:=r) hd
      rw [List.length_take]
      have:=Xlw XbK (c :: r)
      omega
    ·split at h
     ·split at h<;>cases h
     ·split at h
      ·split at h<;>cases h
      ·split at h<;>cases h
theorem XuQ {s:List UInt8} {ts:List Tok} (h:lex s=.ok ts):XmX ts:=by
 obtain ⟨hp,hn,hv,-,hle⟩:=(XeS s).2 ts h
 obtain ⟨hN,hS⟩:=XmA s ts h
 refine ⟨by omega,hv,?_,hS⟩
 have h1:∀t∈ts,t.kind=2→1≤t.text.length:=by
  unfold lex at h
  split at h
  ·cases h
  ·exact Xgu (P:=fun t=>t.kind=2→1≤t.text.length) (fun p q h=>by simp at h) (fun l a t m h p q=>XqY h) s.length (1,1) 0 s ts (Nat.le_refl _) h
 exact fun t ht h2=>⟨h1 t ht h2,(hN t ht h2).1,(hN t ht h2).2⟩
theorem Xmr (s:List UInt8) (hl:s.length≤1000000) (f:Flt) (hx:lex s=.error f):Xay Tryz.prog 40 [] [.x (.string (bs s))] (fun r H'=>r=XwX (XcR s)∧H'=[]):=by
 have hall:=Xsb s hl
 have hf0:=(XeS s).1 f hx
 have hg:XcR s=.error f:=by simp only [XcR,hx]
 rw [hg]
 rw [hx] at hall
 simp only [XlD,Xtx,Flt.av] at hall
 clear hx hg
 refine XkJ Tryz.func40 rfl ?_
 simp only [Tryz.ntmps40,Xyr,Xyu,Xyv,Xyw,Xyz,Xyy,Nat.reduceAdd,Nat.reduceSub]
 refine XdW ?_
 (repeat' (first|with_reducible (first|refine Xal ?_|refine Xat ?_|refine Xac ?_)|(refine Xab rfl ?_;((refine XaQ 14 rfl ?_;(refine Xbf _ _ rfl XbT.out rfl (fun b=>?_)));apply Xap;(case hT=>((try simp only [wtn,Xys,Xyp,Xyq,Xyt,Xyx,Nat.reduceAdd,Nat.reduceMul,Nat.reduceSub,↓reduceIte,Nat.reduceEqDiff]);rfl));(case hH=>((try simp only [wtn,Xys,Xyp,Xyq,Xyt,Xyx,Nat.reduceAdd,Nat.reduceMul,Nat.reduceSub,↓reduceIte,Nat.reduceEqDiff]);rfl))))|fail))
 refine XdW ?_
 (repeat' (first|with_reducible (first|refine Xal ?_|refine Xat ?_|refine Xac ?_)|((apply Xar rfl);(case h=>((try (intro (hp:(_:Bool)=true);((try simp only [Bool.and_eq_true,Bool.not_eq_true',Bool.not_eq_true] at hp);(try simp only [hp,wte]);(try simp only [whn] at hp))));(first|(apply Xag 0 rfl;(first|exact XaW _ rfl|exact Xbo _ rfl))|(apply Xag 2 rfl;(exact Xcd _ _ _ _ rfl rfl rfl))|(apply Xag 11 rfl;(exact Xby 73 Tryz.f73 _ _ rfl rfl Tryz.func73 (by decide) rfl (VwL.refl _ _) (hall))))));(case hT=>((try simp only [wtn,Xys,Xyp,Xyq,Xyt,Xyx,Nat.reduceAdd,Nat.reduceMul,Nat.reduceSub,↓reduceIte,Nat.reduceEqDiff]);rfl)))|(refine Xab rfl ?_;((refine XaQ 16 rfl ?_;(refine Xaw _ _ _ _ _ _ _ rfl rfl Xbt.out Xa1.out (by first|rfl|fail) (by first|exact Xyn rfl|fail) ?_));apply Xap;(case hT=>((try simp only [wtn,Xys,Xyp,Xyq,Xyt,Xyx,Nat.reduceAdd,Nat.reduceMul,Nat.reduceSub,↓reduceIte,Nat.reduceEqDiff]);rfl));(case hH=>((try simp only [wtn,Xys,Xyp,Xyq,Xyt,Xyx,Nat.reduceAdd,Nat.reduceMul,Nat.reduceSub,↓reduceIte,Nat.reduceEqDiff]);rfl))))|fail))
 refine XdW ?_
 (repeat' (first|with_reducible (first|refine XaH ?_|refine Xal ?_|refine Xat ?_|refine Xac ?_)|(refine XaR _ rfl (fun h=>?_) (fun h=>?_)<;>((try (simp only [whn] at h));first|(exfalso;omega;done)|skip))|((apply Xar rfl);(case h=>((try (intro (hp:(_:Bool)=true);((try simp only [Bool.and_eq_true,Bool.not_eq_true',Bool.not_eq_true] at hp);(try simp only [hp,wte]);(try simp only [whn] at hp))));(first|(apply Xag 5 rfl;(exact Xaq _ _ _ _ _ _ rfl rfl Xbc.out))|(apply Xag 6 rfl;(exact XaK _ _ _ _ _ _ _ _ rfl rfl Xbt.out XaI.out (by first|exact Xyn rfl|fail) (by first|exact Xyn rfl|fail)))|(apply XbI;(case hs=>(intro _ _ h;cases h));(case hx=>rfl);(case hrun=>(intro w;simp [wtb,AV.val,go_sem];(try go_bits);rfl))))));(case hT=>((try simp only [wtn,Xys,Xyp,Xyq,Xyt,Xyx,Nat.reduceAdd,Nat.reduceMul,Nat.reduceSub,↓reduceIte,Nat.reduceEqDiff]);rfl)))|fail))
 refine Xbu mixed ?_
 refine Xnq 0 1 (by decide +kernel) rfl rfl rfl rfl ?_ ?_
 ·(first|(apply Xbi;(case h=>(apply Xag 6 rfl;(exact XaK _ _ _ _ _ _ _ _ rfl rfl Xbt.out XaI.out (by first|exact Xyn rfl|fail) (by first|exact Xyn rfl|fail))));(apply Xai;(case hT=>((try simp only [wtn,Xys,Xyp,Xyq,Xyt,Xyx,Nat.reduceAdd,Nat.reduceMul,Nat.reduceSub,↓reduceIte,Nat.reduceEqDiff]);rfl));(case hH=>rfl)))|fail)
  (refine XbN 1 (by decide +kernel) rfl rfl ?_;(first|((refine XaQ 16 rfl ?_;(refine Xaw _ _ _ _ _ _ _ rfl rfl Xbt.out Xa1.out (by first|rfl|fail) (by first|exact Xyn rfl|fail) ?_));apply Xai;(case hT=>((try simp only [wtn,Xys,Xyp,Xyq,Xyt,Xyx,Nat.reduceAdd,Nat.reduceMul,Nat.reduceSub,↓reduceIte,Nat.reduceEqDiff]);rfl));(case hH=>((try simp only [wtn,Xys,Xyp,Xyq,Xyt,Xyx,Nat.reduceAdd,Nat.reduceMul,Nat.reduceSub,↓reduceIte,Nat.reduceEqDiff]);rfl)))|fail))
  (refine XbN 2 (by decide +kernel) rfl rfl ?_;(first|((refine XaQ 16 rfl ?_;(refine Xaw _ _ _ _ _ _ _ rfl rfl Xbt.out Xa1.out (by first|rfl|fail) (by first|exact Xyn rfl|fail) ?_));apply Xai;(case hT=>((try simp only [wtn,Xys,Xyp,Xyq,Xyt,Xyx,Nat.reduceAdd,Nat.reduceMul,Nat.reduceSub,↓reduceIte,Nat.reduceEqDiff]);rfl));(case hH=>((try simp only [wtn,Xys,Xyp,Xyq,Xyt,Xyx,Nat.reduceAdd,Nat.reduceMul,Nat.reduceSub,↓reduceIte,Nat.reduceEqDiff]);rfl)))|fail))
  refine Xao (by decide +kernel) ?_
  (repeat' (first|with_reducible (first|refine Xbj ?_|refine Xac ?_|refine XbB ?_)|fail))
  refine Xaa _ _ (XbR rfl (RV.cell 1 rfl rfl XaI.out (by simp) (by simp)) (RV.cell 0 rfl rfl XaI.out (by simp) (by simp)) (Xaj.mk' [_,_] [] (Xyo _) Xak.nil (VwL.cons Vw.nil (VwL.refl _ _)))) ⟨?_,rfl⟩
  rfl
 ·(first|((refine XaQ 16 rfl ?_;(refine Xaw _ _ _ _ _ _ _ rfl rfl Xbt.out Xa1.out (by first|rfl|fail) (by first|exact Xyn rfl|fail) ?_));apply Xai;(case hT=>((try simp only [wtn,Xys,Xyp,Xyq,Xyt,Xyx,Nat.reduceAdd,Nat.reduceMul,Nat.reduceSub,↓reduceIte,Nat.reduceEqDiff]);rfl));(case hH=>((try simp only [wtn,Xys,Xyp,Xyq,Xyt,Xyx,Nat.reduceAdd,Nat.reduceMul,Nat.reduceSub,↓reduceIte,Nat.reduceEqDiff]);rfl)))|fail)
  (refine XbN 0 (by decide +kernel) rfl rfl ?_;(first|(apply Xbi;(case h=>(apply Xag 6 rfl;(exact XaK _ _ _ _ _ _ _ _ rfl rfl Xbt.out XaI.out (by first|exact Xyn rfl|fail) (by first|exact Xyn rfl|fail))));(apply Xai;(case hT=>((try simp only [wtn,Xys,Xyp,Xyq,Xyt,Xyx,Nat.reduceAdd,Nat.reduceMul,Nat.reduceSub,↓reduceIte,Nat.reduceEqDiff]);rfl));(case hH=>rfl)))|fail))
  (refine XbN 2 (by decide +kernel) rfl rfl ?_;(first|((refine XaQ 16 rfl ?_;(refine Xaw _ _ _ _ _ _ _ rfl rfl Xbt.out Xa1.out (by first|rfl|fail) (by first|exact Xyn rfl|fail) ?_));apply Xai;(case hT=>((try simp only [wtn,Xys,Xyp,Xyq,Xyt,Xyx,Nat.reduceAdd,Nat.reduceMul,Nat.reduceSub,↓reduceIte,Nat.reduceEqDiff]);rfl));(case hH=>((try simp only [wtn,Xys,Xyp,Xyq,Xyt,Xyx,Nat.reduceAdd,Nat.reduceMul,Nat.reduceSub,↓reduceIte,Nat.reduceEqDiff]);rfl)))|fail))
  refine Xao (by decide +kernel) ?_
  (repeat' (first|with_reducible (first|refine Xbj ?_|refine Xac ?_|refine XbB ?_)|fail))
  refine Xaa _ _ (XbR rfl (RV.cell 1 rfl rfl XaI.out (by simp) (by simp)) (RV.cell 0 rfl rfl XaI.out (by simp) (by simp)) (Xaj.mk' [_,_] [] (Xyo _) Xak.nil (VwL.cons Vw.nil (VwL.refl _ _)))) ⟨?_,rfl⟩
  rfl
theorem Xvp (n:Nat):decide ((32:Int)≤(n:Int))=decide (32≤n):=decide_eq_decide.2 (by omega)
theorem Xn6 (s:List UInt8) (hl:s.length≤1000000) (ts:List Tok) (hx:lex s=.ok ts):Xay Tryz.prog 40 [] [.x (.string (bs s))] (fun r H'=>r=XwX (XcR s)∧H'=[]):=by
 have hall:=Xsb s hl
 obtain ⟨hp,hn,-⟩:=(XeS s).2 ts hx
 have hT:=XuQ hx
 have hg:XcR s=Xec ts 0 []:=by simp only [XcR,hx]
 rw [hg]
 rw [hx] at hall
 simp only [XlD,Xtx,Flt.av] at hall
 clear hx hg
 refine XkJ Tryz.func40 rfl ?_
 simp only [Tryz.ntmps40,Xyr,Xyu,Xyv,Xyw,Xyz,Xyy,Nat.reduceAdd,Nat.reduceSub]
 refine XdW ?_
 (repeat' (first|with_reducible (first|refine Xal ?_|refine Xat ?_|refine Xac ?_)|(refine Xab rfl ?_;((refine XaQ 14 rfl ?_;(refine Xbf _ _ rfl XbT.out rfl (fun b=>?_)));apply Xap;(case hT=>((try simp only [wtn,Xys,Xyp,Xyq,Xyt,Xyx,Nat.reduceAdd,Nat.reduceMul,Nat.reduceSub,↓reduceIte,Nat.reduceEqDiff]);rfl));(case hH=>((try simp only [wtn,Xys,Xyp,Xyq,Xyt,Xyx,Nat.reduceAdd,Nat.reduceMul,Nat.reduceSub,↓reduceIte,Nat.reduceEqDiff]);rfl))))|fail))
 refine XdW ?_
 (repeat' (first|with_reducible (first|refine Xal ?_|refine Xat ?_|refine Xac ?_)|((apply Xar rfl);(case h=>((try (intro (hp:(_:Bool)=true);((try simp only [Bool.and_eq_true,Bool.not_eq_true',Bool.not_eq_true] at hp);(try simp only [hp,wte]);(try simp only [whn] at hp))));(first|(apply Xag 0 rfl;(first|exact XaW _ rfl|exact Xbo _ rfl))|(apply Xag 2 rfl;(exact Xcd _ _ _ _ rfl rfl rfl))|(apply Xag 11 rfl;(exact Xby 73 Tryz.f73 _ _ rfl rfl Tryz.func73 (by decide) rfl (VwL.refl _ _) (hall))))));(case hT=>((try simp only [wtn,Xys,Xyp,Xyq,Xyt,Xyx,Nat.reduceAdd,Nat.reduceMul,Nat.reduceSub,↓reduceIte,Nat.reduceEqDiff]);rfl)))|(refine Xab rfl ?_;((refine XaQ 16 rfl ?_;(refine Xaw _ _ _ _ _ _ _ rfl rfl Xbt.out Xa1.out (by first|rfl|fail) (by first|exact Xyn rfl|fail) ?_));apply Xap;(case hT=>((try simp only [wtn,Xys,Xyp,Xyq,Xyt,Xyx,Nat.reduceAdd,Nat.reduceMul,Nat.reduceSub,↓reduceIte,Nat.reduceEqDiff]);rfl));(case hH=>((try simp only [wtn,Xys,Xyp,Xyq,Xyt,Xyx,Nat.reduceAdd,Nat.reduceMul,Nat.reduceSub,↓reduceIte,Nat.reduceEqDiff]);rfl))))|fail))
 refine XdW ?_
 (repeat' (first|with_reducible (first|refine XaH ?_|refine Xal ?_|refine Xa4 ?_|refine Xat ?_|refine Xac ?_)|(refine XaR _ rfl (fun h=>?_) (fun h=>?_)<;>first|(exact absurd h (by decide))|((try (simp only [whn] at h));skip))|((apply Xar rfl);(case h=>((try (intro (hp:(_:Bool)=true);((try simp only [Bool.and_eq_true,Bool.not_eq_true',Bool.not_eq_true] at hp);(try simp only [hp,wte]);(try simp only [whn] at hp))));(first|(apply Xag 5 rfl;(exact Xaq _ _ _ _ _ _ rfl rfl Xbc.out))|(apply Xag 6 rfl;(exact XaK _ _ _ _ _ _ _ _ rfl rfl Xbt.out XaI.out (by first|exact Xyn rfl|fail) (by first|exact Xyn rfl|fail)))|(apply XbI;(case hs=>(intro _ _ h;cases h));(case hx=>rfl);(case hrun=>(intro w;simp [wtb,AV.val,go_sem];(try go_bits);rfl))))));(case hT=>((try simp only [wtn,Xys,Xyp,Xyq,Xyt,Xyx,Nat.reduceAdd,Nat.reduceMul,Nat.reduceSub,↓reduceIte,Nat.reduceEqDiff]);rfl)))|fail))
 refine XjI (l:=[_,_]) ?_
 rename_i b2
 obtain ⟨b3,rfl⟩:∃x,x=b:=⟨b,rfl⟩
 refine Xnu (T':=_) rfl (.x (.func (.func 74) #[] #[.pointer (some ⟨b2,0,none⟩),.pointer (some ⟨b3,0,none⟩)])) ?h rfl ?_
 case h=>(apply XbI;(case hs=>(intro _ _ h;cases h));(case hx=>rfl);(case hrun=>(intro w;simp [wtb,AV.val,go_sem];try rfl)))
 simp only [Xa9,XyC,XyD]
 refine XjH rfl rfl rfl rfl rfl ?_
 refine Xnv ?_
 simp only
 refine Xs9 ?_
 refine Xa3 29 15 ?_
 (repeat' (first|with_reducible (first|refine XaH ?_|refine Xal ?_|refine Xbp ?_|refine Xat ?_|refine Xac ?_)|((apply Xar rfl);(case h=>((try (intro (hp:(_:Bool)=true);((try simp only [Bool.and_eq_true,Bool.not_eq_true',Bool.not_eq_true] at hp);(try simp only [hp,wte]);(try simp only [whn] at hp))));(first|(apply Xag 0 rfl;(first|exact XaW _ rfl|exact Xbo _ rfl))|(apply Xag 10 rfl;(exact XbS _ _ _ _ _ rfl HPl.out (by first|rfl|fail) rfl)))));(case hT=>((try simp only [wtn,Xys,Xyp,Xyq,Xyt,Xyx,Nat.reduceAdd,Nat.reduceMul,Nat.reduceSub,↓reduceIte,Nat.reduceEqDiff]);rfl)))|(refine Xab rfl ?_;((refine XaQ 15 rfl ?_;(refine Xfc _ _ rfl (by first|rfl|fail) (fun b=>?_)));apply Xap;(case hT=>((try simp only [wtn,Xys,Xyp,Xyq,Xyt,Xyx,Nat.reduceAdd,Nat.reduceMul,Nat.reduceSub,↓reduceIte,Nat.reduceEqDiff]);rfl));(case hH=>((try simp only [wtn,Xys,Xyp,Xyq,Xyt,Xyx,Nat.reduceAdd,Nat.reduceMul,Nat.reduceSub,↓reduceIte,Nat.reduceEqDiff]);rfl))))|fail))
 obtain ⟨pb,rfl⟩:∃x,x=b:=⟨b,rfl⟩
 apply Xah (S:=Nat × List JF × Option Addr × Nat) (fun q=>frm 33 [(2,.x (.pointer (some ⟨b2,0,none⟩))),(3,.x (.pointer (some ⟨b3,0,none⟩))),(5,.x (.pointer (some ⟨pb,0,none⟩)))])
  (fun q=>[.box pb (tc ts q.1),.box b2 [.x (.slice q.2.2.1 q.2.1.length q.2.2.2)],.row q.2.2.1 q.2.1.length q.2.2.2 29 15 (jfa q.2.1),.box b3 [.x (.int .i64 0),.x (.int .i64 0),.x (.int .i64 0)]])
  (fun q=>q.1 < ts.length∧q.2.1.length≤q.1∧Xec ts q.1 q.2.1=Xec ts 0 []) (fun q=>ts.length - q.1) (0,[],none,0)
 case h0=>exact Xaj.mk' [] [.box pb _,.box b2 _,.row none 0 0 _ _ _,.box b3 _] (by (repeat' (first|exact Xyo _|refine XyE _ ?_|refine (XyB (l₁:=[_,_])).trans (XyE _ ?_)|fail))) (Xak.refl _ _) (by (repeat' (first|exact VwL.nil|(refine VwL.cons ?_ ?_)|exact Vw.refl _|exact Vw.top _|fail)))
 case hi=>exact ⟨hp,Nat.zero_le _,rfl⟩
 rintro ⟨kk,js,ad,cap⟩ ⟨g1,g4,g6⟩
 simp only at g1 g4 g6
 have g6':=Lib.hid g6
 clear g6
 have hPk:=Xlh ts kk g1 hT.len
 unfold Tok.av at hPk
 have hJ:=Xxq pb ts kk (decide ((32:Int)≤(js.length:Int))) g1 hT
 simp only [tc] at hJ hPk ⊢
 simp only [frm,Xyv,Xyw,Xyp,Xyq,XyC,XyD]
 (repeat' (first|with_reducible (first|refine XaH ?_|refine Xal ?_|refine Xbp ?_|refine Xbj ?_|refine Xa4 ?_|refine XdV ?_|refine Xat ?_|refine Xac ?_|refine XcU ?_|refine Xcz ?_)|(refine XaR _ rfl (fun h=>?_) (fun h=>?_)<;>((try (simp only [whn] at h));skip))|((apply Xar rfl);(case h=>((try (intro (hp:(_:Bool)=true);((try simp only [Bool.and_eq_true,Bool.not_eq_true',Bool.not_eq_true] at hp);(try simp only [hp,wte]);(try simp only [whn] at hp))));(first|(apply Xag 0 rfl;(exact XaW _ rfl))|(apply Xag 6 rfl;(exact XaK _ _ _ _ _ _ _ _ rfl rfl Xbt.out XaI.out (by first|exact Xyn rfl|fail) (by first|exact Xyn rfl|fail)))|(apply Xag 10 rfl;(exact XbS _ _ _ _ _ rfl HPl.out (by first|rfl|fail) rfl))|(apply Xag 11 rfl;(exact Xb4 75 Tryz.f75 _ _ rfl rfl Tryz.func75 (by decide) rfl (by (repeat' (first|exact VwL.nil|(refine VwL.cons ?_ ?_)|exact Vw.box (List.Mem.head _) (VwL.refl _ _)|fail));done) (hPk)))|(apply Xag 12 rfl;(exact XsT _ _ _ _ _ _ _ rfl rfl HFv.out (by first|(simp;done)|fail) (by first|(simp;done)|fail)))|(apply XbI;(case hs=>(intro _ _ h;cases h));(case hx=>rfl);(case hrun=>(intro w;simp [wtb,AV.val,go_sem];(try go_bits);rfl))))));(case hT=>((try simp only [wtn,Xys,Xyp,Xyq,Xyt,Xyx,Nat.reduceAdd,Nat.reduceMul,Nat.reduceSub,↓reduceIte,Nat.reduceEqDiff]);rfl)))|(refine Xab rfl ?_;((refine XaQ 16 rfl ?_;(refine Xaw _ _ _ _ _ _ _ rfl rfl Xbt.out Xa1.out (by first|rfl|fail) (by first|exact Xyn rfl|fail) ?_));apply Xap;(case hT=>((try simp only [wtn,Xys,Xyp,Xyq,Xyt,Xyx,Nat.reduceAdd,Nat.reduceMul,Nat.reduceSub,↓reduceIte,Nat.reduceEqDiff]);rfl));(case hH=>((try simp only [wtn,Xys,Xyp,Xyq,Xyt,Xyx,Nat.reduceAdd,Nat.reduceMul,Nat.reduceSub,↓reduceIte,Nat.reduceEqDiff]);rfl))))|fail))
 ·have hk6:(tkA ts kk).kind≠6:=by rw [XaN g1];exact h
  refine Xqb (X:=Xuh [(2,.x (.pointer (some ⟨b2,0,none⟩))),(3,.x (.pointer (some ⟨b3,0,none⟩)))] fun c H=>∃f,c=XpQ (fv f)∧Xec ts 0 []=.error f∧∃R:List Hp,H.Perm ([.box b2 [.x (.slice ad js.length cap)],.box b3 [.x (.int .i64 0),.x (.int .i64 0),.x (.int .i64 0)]]++R)) ?_ ?_
  ·refine XaE mixed [8] [.box b2 _] [.box pb _,.row ad _ _ _ _ _,.box b3 _] (by (repeat' (first|exact Xyo _|refine (XyB (l₁:=[_])).trans (XyE _ ?_)|fail))) ?_
   (first|refine Xga 0 rfl rfl (by kernel_rfl) (fun _ _ _ hp=>XeY rfl hp) _ _ _ _ _ _ _ _ rfl rfl Xbt.out XaI.out (by first|exact Xyn rfl|fail) (by first|exact Xyn rfl|fail) ?_|fail);(apply Xaf;(case hT=>((try simp only [wtn,Xys,Xyp,Xyq,Xyt,Xyx,Nat.reduceAdd,Nat.reduceMul,Nat.reduceSub,↓reduceIte,Nat.reduceEqDiff]);rfl));(case hH=>rfl));(first|(apply Xep 1 rfl rfl (by kernel_rfl) (fun _ _ _ hp=>XeY rfl hp);(case h=>(exact Xbq _ rfl)))|fail);(apply Xaf;(case hT=>((try simp only [wtn,Xys,Xyp,Xyq,Xyt,Xyx,Nat.reduceAdd,Nat.reduceMul,Nat.reduceSub,↓reduceIte,Nat.reduceEqDiff]);rfl));(case hH=>rfl));(first|refine Xga 2 rfl rfl (by kernel_rfl) (fun _ _ _ hp=>XeY rfl hp) _ _ _ _ _ _ _ _ rfl rfl Xbt.out XaI.out (by first|exact Xyn rfl|fail) (by first|exact Xyn rfl|fail) ?_|fail);(apply Xaf;(case hT=>((try simp only [wtn,Xys,Xyp,Xyq,Xyt,Xyx,Nat.reduceAdd,Nat.reduceMul,Nat.reduceSub,↓reduceIte,Nat.reduceEqDiff]);rfl));(case hH=>rfl));(first|(apply Xep 3 rfl rfl (by kernel_rfl) (fun _ _ _ hp=>XeY rfl hp);(case h=>(apply Xiq;(case hs=>(intro _ _ h;cases h));(case hx=>rfl);(case hrun=>(intro w;simp [wtb,AV.val,go_sem];(try go_bits);rfl)))))|fail);(apply Xaf;(case hT=>((try simp only [wtn,Xys,Xyp,Xyq,Xyt,Xyx,Nat.reduceAdd,Nat.reduceMul,Nat.reduceSub,↓reduceIte,Nat.reduceEqDiff]);rfl));(case hH=>rfl));(first|(apply Xep 4 rfl rfl (by kernel_rfl) (fun _ _ _ hp=>XeY rfl hp);(case h=>(apply Xiq;(case hs=>(intro _ _ h;cases h));(case hx=>rfl);(case hrun=>(intro w;simp [wtb,AV.val,go_sem];(try go_bits);rfl)))))|fail);(apply Xaf;(case hT=>((try simp only [wtn,Xys,Xyp,Xyq,Xyt,Xyx,Nat.reduceAdd,Nat.reduceMul,Nat.reduceSub,↓reduceIte,Nat.reduceEqDiff]);rfl));(case hH=>rfl))
   (first|(refine Xde 5 (by decide +kernel) rfl rfl ?_;refine Xas 76 Tryz.f76 [.box pb _] _ _ _ _ rfl rfl Tryz.func76 (by decide) rfl (Xyo _) (VwL.refl _ _) (hJ) ?_ ?_;(case' refine_1=>(rintro _ _ ⟨j1,k1,rfl,rfl,hx,hk2,hj2,hk3⟩;(apply Xaf;(case hT=>((try simp (disch:=omega) only [wtn,JF.cells,Xys,Xyp,Xyq,Xyt,Xyx,Nat.reduceAdd,Nat.reduceMul,Nat.reduceSub,↓reduceIte,Nat.reduceEqDiff]);rfl));(case hH=>((try simp (disch:=omega) only [wtn,JF.cells,Xys,Xyp,Xyq,Xyt,Xyx,Nat.reduceAdd,Nat.reduceMul,Nat.reduceSub,↓reduceIte,Nat.reduceEqDiff]);rfl)))));(case' refine_2=>(rintro _ Hq ⟨f,hx,rfl⟩)))|fail)
   ·refine ⟨⟨f,rfl,g6'.out.symm.trans (Xn0 hk6 (by rw [←Xvp];exact hx)),Hq++[.row ad js.length cap 29 15 (jfa js)],?_⟩,?_⟩
    ·refine List.Perm.trans (List.Perm.of_eq ?_) (XyE _ (List.perm_append_comm (l₁:=Hq++[.row ad js.length cap 29 15 (jfa js)]) (l₂:=[.box b3 [.x (.int .i64 0),.x (.int .i64 0),.x (.int .i64 0)]])))
     simp
    ·intro p hp
     simp only [List.mem_cons,List.not_mem_nil,or_false] at hp
     rcases hp with rfl|rfl<;>rfl
   ·(refine Xba 6 (by decide +kernel) rfl rfl ?_;(first|((refine XaQ 17 rfl ?_;(refine Xbx _ _ _ _ _ _ _ _ rfl XbY.out (by first|rfl|fail) rfl (by decide) rfl (fun b=>?_)));apply Xaf;(case hT=>((try simp (disch:=omega) only [wtn,JF.cells,Xys,Xyp,Xyq,Xyt,Xyx,Nat.reduceAdd,Nat.reduceMul,Nat.reduceSub,↓reduceIte,Nat.reduceEqDiff]);rfl));(case hH=>((try simp (disch:=omega) only [wtn,JF.cells,Xys,Xyp,Xyq,Xyt,Xyx,Nat.reduceAdd,Nat.reduceMul,Nat.reduceSub,↓reduceIte,Nat.reduceEqDiff]);rfl)))|fail))
    (refine Xba 7 (by decide +kernel) rfl rfl ?_;(first|((refine XaQ 13 rfl ?_;(refine Xcy _ _ _ _ _ _ _ _ _ _ _ _ _ _ rfl rfl XfM.out (Src.row _ rfl XfM.out) XbY.out (by first|rfl|fail) (Xqs _ _ (by omega) (by decide)) (fun ad cap=>?_)));apply Xaf;(case hT=>((try simp (disch:=omega) only [wtn,JF.cells,Xys,Xyp,Xyq,Xyt,Xyx,Nat.reduceAdd,Nat.reduceMul,Nat.reduceSub,↓reduceIte,Nat.reduceEqDiff]);rfl));(case hH=>((try simp (disch:=omega) only [wtn,JF.cells,Xys,Xyp,Xyq,Xyt,Xyx,Nat.reduceAdd,Nat.reduceMul,Nat.reduceSub,↓reduceIte,Nat.reduceEqDiff]);rfl)))|fail))
    refine XaG (by decide +kernel) ?_
    refine Xai rfl (by simp only [Xyz,Xyy];rfl) ?_
    (refine XbN 8 (by decide +kernel) rfl rfl ?_;(first|((refine XaQ 16 rfl ?_;(refine Xaw _ _ _ _ _ _ _ rfl rfl Xbt.out Xa1.out (by first|rfl|fail) (by first|exact Xyn rfl|fail) ?_));apply Xai;(case hT=>((try simp only [wtn,Xys,Xyp,Xyq,Xyt,Xyx,Nat.reduceAdd,Nat.reduceMul,Nat.reduceSub,↓reduceIte,Nat.reduceEqDiff]);rfl));(case hH=>((try simp only [wtn,Xys,Xyp,Xyq,Xyt,Xyx,Nat.reduceAdd,Nat.reduceMul,Nat.reduceSub,↓reduceIte,Nat.reduceEqDiff]);rfl)))|fail))
    refine Xao (by decide +kernel) ?_
    refine Xkb ?_
    (repeat' (first|with_reducible (first|refine Xac ?_|refine Xax ?_)|fail))
    refine ⟨(k1,js++[j1],ad,cap),by simp only;omega,⟨hk2,by simp only [XyA,Xyr,Xyu];omega,?_⟩,?_⟩
    ·rw [←g6'.out]
     exact (Xmn (x:=(j1,k1)) hk6 (by rw [←Xvp];exact hx) ⟨hk3,g1⟩).symm
    ·simp only [XtJ,XyA,Xyr,Xyu]
     exact Xaj.mk' [.row (some ⟨b,0,none⟩) _ _ _ _ _] [.box pb _,.box b2 _,.row ad _ cap _ _ _,.box b3 _] (by (repeat' (first|exact Xyo _|refine (XyB (l₁:=[_])).trans (XyE _ ?_)|fail))) (Xak.refl _ _) (by (repeat' (first|exact VwL.nil|(refine VwL.cons ?_ ?_)|exact Vw.refl _|exact Vw.top _|fail)))
  ·rintro ch T H ⟨⟨f,rfl,hg,R,hpm⟩,hs⟩
   (repeat (with_reducible first|refine Xae ?_|refine XaL ?_|fail))
   have h2:=hs (2,_) (List.Mem.head _)
   have h3:=hs (3,_) (List.Mem.tail _ (List.Mem.head _))
   simp only at h2 h3
   rw [hg]
   refine ⟨.panicking (XpQ (fv f)),.panicking [{ v:=fv f,recovered:=true }],74,.func 74,#[.pointer (some ⟨b2,0,none⟩),.pointer (some ⟨b3,0,none⟩)],#[],[.pointer (some ⟨b2,0,none⟩),.pointer (some ⟨b3,0,none⟩)],[.box b2 _,.box b3 _],R,_,.inr (.inr ⟨_,rfl,rfl⟩),rfl,hpm,rfl,fun w=>by simp [go_sem],Xte b2 b3 _ _ _ _ f,fun r' H' hh=>?_⟩
   subst hh
   exact ⟨_,[],XbR rfl (RV.cell 0 (by simp [ev,List.getD_eq_getElem?_getD,h2]) rfl XaI.out (by simp) (by simp)) (RV.cell 1 (by simp [ev,List.getD_eq_getElem?_getD,h3]) rfl XaI.out (by simp) (by simp)) (Xaj.mk' (_ :: _ :: R) [] (by rw [List.append_nil];exact Xyo _) Xak.nil (VwL.cons Vw.nil (VwL.refl _ _))),rfl,rfl⟩
 ·have hk6:(tkA ts kk).kind=6:=by rw [XaN g1];exact h
  have hg:Xec ts 0 []=.ok js:=g6'.out.symm.trans (Xn1 hk6)
  rw [hg]
  refine ⟨.returning,.returning,74,.func 74,#[.pointer (some ⟨b2,0,none⟩),.pointer (some ⟨b3,0,none⟩)],#[],[.pointer (some ⟨b2,0,none⟩),.pointer (some ⟨b3,0,none⟩)],[.box b2 _,.box b3 _],[.row ad _ _ _ _ _,.box pb _],_,.inl ⟨rfl,rfl⟩,rfl,by (repeat' (first|exact Xyo _|refine (XyB (l₁:=[_])).trans (XyE _ ?_)|refine (XyB (l₁:=[_,_])).trans (XyE _ ?_)|fail)),rfl,fun w=>by simp [go_sem],XvL b2 b3 _,fun r' H' hh=>?_⟩
  subst hh
  exact ⟨_,[],XbR rfl (RV.cell 0 rfl rfl XaI.out (by simp) (by simp)) (RV.cell 1 rfl rfl XaI.out (by simp) (by simp)) (Xaj.mk' [.row ad _ _ _ _ _,.box pb _,.box b2 _,.box b3 _] [] (by (repeat' (first|exact Xyo _|refine (XyB (l₁:=[_,_])).trans (XyE _ ?_)|fail))) Xak.nil (VwL.cons (Vw.row (List.Mem.head _) (VwL.refl _ _)) (VwL.refl _ _))),rfl,rfl⟩
theorem XqA (s:List UInt8) (hl:s.length≤1000000):Xay Tryz.prog 40 [] [.x (.string (bs s))] (fun r H'=>r=XwX (XcR s)∧H'=[]):=by
 cases hx:lex s with
 | error f=>rw [show XcR s=.error f by simp only [XcR,hx]];exact (Xmr s hl f hx).mono fun r H' ⟨h1,h2⟩=>⟨by rw [h1];simp only [XcR,hx],h2⟩
 | ok ts=>exact Xn6 s hl ts hx
end Go.Proofs.YtdlblokjfoggpaaGreatDoor

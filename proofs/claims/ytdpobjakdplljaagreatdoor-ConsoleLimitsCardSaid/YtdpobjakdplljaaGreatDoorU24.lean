import Derived.Test.YtdpobjakdplljaaGreatDoorU23
import Derived.Test.YtdpobjakdplljaaGreatDoorU14
import Derived.Test.YtdpobjakdplljaaGreatDoorU17
import Derived.Test.YtdpobjakdplljaaGreatDoorU15
/- The text of events: what it is, and that it is read back. No program in sight. -/
set_option linter.unusedSimpArgs false
set_option linter.unusedVariables false
set_option maxRecDepth 100000
set_option maxHeartbeats 8000000
namespace Go.Proofs.YtdpobjakdplljaaGreatDoor
open Go.RowKit
def dcI (n:Int):List UInt8:=if n < 0 then 45 :: Xcn (-n).toNat else Xcn n.toNat
theorem XhG {n:Int} (h:0≤n):dcI n=Xcn n.toNat:=if_neg (by omega)
def Xfq (e:EF) (f:UInt8):List UInt8:=
 if f.toNat=78 then e.job else if f.toNat=75 then (if e.ok then wOk else XcS) else if f.toNat=68 then Xc1 e.data
 else if f.toNat=84 then Xcn e.time.toNat else if f.toNat=67 then dcI e.code else if f.toNat=76 then dcI e.client else dcI e.num
def Xc3 (e:EF) (fs:List UInt8):List UInt8:=fs.flatMap fun f=>32 :: Xfq e f
def Xil (k:Nat) (e:EF):List UInt8:=Xbl.getD k []++Xc3 e (Xbj.getD k [])
def XcW (e:EF):List UInt8:=if 1≤e.kind∧e.kind≤14 then Xil (e.kind.toNat - 1) e else []
def Xbc (l:List EF):List UInt8:=l.flatMap fun e=>XcW e++[10]
def cKT (e:EF) (f:UInt8):KT:=
 if f.toNat=78 then (1,e.job) else if f.toNat=75 then (1,if e.ok then wOk else XcS) else if f.toNat=68 then (3,e.data)
 else if f.toNat=84 then (2,Xcn e.time.toNat) else if f.toNat=67 then (2,Xcn e.code.toNat) else if f.toNat=76 then (2,Xcn e.client.toNat) else (2,Xcn e.num.toNat)
def Xpz (e a:EF) (f:UInt8):EF:=
 if f.toNat=78 then { a with job:=e.job } else if f.toNat=75 then { a with ok:=e.ok } else if f.toNat=68 then { a with data:=e.data }
 else if f.toNat=84 then { a with time:=e.time } else if f.toNat=67 then { a with code:=e.code } else if f.toNat=76 then { a with client:=e.client } else { a with num:=e.num }
def Sm (n:Int):Prop:=0≤n∧n≤999999999
def FOk (e:EF) (f:UInt8):Prop:=
 if f.toNat=78 then Xdz e.job else if f.toNat=75 then True else if f.toNat=68 then True
 else if f.toNat=84 then Xls e.time else if f.toNat=67 then Sm e.code else if f.toNat=76 then Sm e.client else Sm e.num
theorem Sm.b {n:Int} (h:Sm n):Xls n:=⟨h.1,by have:=h.2;omega⟩
def Xep (e:EF):Prop:=∃k,k < 14∧e.kind=((k+1:Nat):Int)∧(∀f∈Xbj.getD k [],FOk e f)∧(Xbj.getD k []).foldl (Xpz e) (ev0 (k+1:Nat))=e
theorem Xj5 {e a:EF} {f:UInt8} {t:Tok} (h:FOk e f) (hk:(t.kind,t.text)=cKT e f):XdS a f t=some (Xpz e a f):=by
 unfold FOk at h
 unfold cKT at hk
 unfold XdS Xpz
 by_cases h1:f.toNat=78
 ·simp only [h1,if_true,Prod.mk.injEq] at hk ⊢
  rw [if_pos hk.1,hk.2]
 by_cases h2:f.toNat=75
 ·simp only [h2,if_true,Nat.reduceEqDiff,if_false] at hk ⊢
  simp only [Prod.mk.injEq] at hk
  obtain ⟨q1,q2⟩:=hk
  cases he:e.ok with
  | true=>rw [he] at q2;simp only [if_true] at q2;rw [if_pos ⟨q1,.inl q2⟩,q2];simp
  | false=>rw [he] at q2;simp only [Bool.false_eq_true,if_false] at q2;rw [if_pos ⟨q1,.inr q2⟩,q2];simp [wOk,XcS]
 by_cases h3:f.toNat=68
 ·simp only [h3,if_true,Nat.reduceEqDiff,if_false] at hk ⊢
  simp only [Prod.mk.injEq] at hk
  obtain ⟨q1,q2⟩:=hk
  simp [q1,q2]
 simp only [h1,h2,h3,if_false] at h hk ⊢
 by_cases h4:f.toNat=84
 ·simp only [h4,if_true,Nat.reduceEqDiff,if_false,Prod.mk.injEq] at h hk ⊢
  obtain ⟨q1,q2⟩:=hk
  simp [q1,q2,XiB h]
 simp only [h4,if_false] at h hk ⊢
 by_cases h5:f.toNat=67
 ·simp only [h5,if_true,Nat.reduceEqDiff,if_false,Prod.mk.injEq] at h hk ⊢
  obtain ⟨q1,q2⟩:=hk
  rw [if_neg (by omega),q2,XiB h.b,if_neg (by have:=h.2;omega)]
 simp only [h5,if_false] at h hk ⊢
 by_cases h6:f.toNat=76
 ·simp only [h6,if_true,Prod.mk.injEq] at h hk ⊢
  obtain ⟨q1,q2⟩:=hk
  rw [if_neg (by omega),q2,XiB h.b,if_neg (by have:=h.2;omega)]
 simp only [h6,if_false,Prod.mk.injEq] at h hk ⊢
 obtain ⟨q1,q2⟩:=hk
 rw [if_neg (by omega),q2,XiB h.b,if_neg (by have:=h.2;omega)]
theorem XfG {e:EF}:∀(fs:List UInt8) (ts:List Tok) (a:EF),(∀f∈fs,FOk e f)→kts ts=fs.map (cKT e)→Xc4 a fs ts=some (fs.foldl (Xpz e) a)
 | [],ts,a,_,_=>rfl
 | f :: fs,[],a,_,h=>by simp [kts] at h
 | f :: fs,t :: ts,a,h,hk=>by
   simp only [kts,XqA,List.cons.injEq] at hk
   rw [Xc4,Xj5 (h f (by simp)) hk.1,Option.bind_some,Xqw]
   exact XfG fs ts _ (fun g hg=>h g (by simp [hg])) hk.2
/-! ### Lines are read -/
theorem Xa9.any {C:List UInt8→Prop} {l:List UInt8} {ks:List KT} (h:Xa9 Any l ks):Xa9 C l ks:=fun p n t _ hn=>h p n t trivial hn
theorem Xld {e:EF} {f:UInt8} (h:FOk e f):Xa9 Brk (Xfq e f) [cKT e f]:=by
 unfold FOk at h
 unfold Xfq cKT
 by_cases h1:f.toNat=78
 ·simp only [h1,if_true] at h ⊢;exact Xa9.word h
 by_cases h2:f.toNat=75
 ·simp only [h2,if_true,Nat.reduceEqDiff,if_false]
  cases e.ok with
  | true=>exact Xa9.word (Xd6 (by decide))
  | false=>exact Xa9.word (Xd6 (by decide))
 by_cases h3:f.toNat=68
 ·simp only [h3,if_true,Nat.reduceEqDiff,if_false];exact (Xa9.str e.data).any
 simp only [h1,h2,h3,if_false] at h ⊢
 by_cases h4:f.toNat=84
 ·simp only [h4,if_true] at h ⊢;exact Xa9.num (Xip h)
 simp only [h4,if_false] at h ⊢
 by_cases h5:f.toNat=67
 ·simp only [h5,if_true] at h ⊢;rw [XhG h.1];exact Xa9.num (Xip h.b)
 simp only [h5,if_false] at h ⊢
 by_cases h6:f.toNat=76
 ·simp only [h6,if_true] at h ⊢;rw [XhG h.1];exact Xa9.num (Xip h.b)
 simp only [h6,if_false] at h ⊢
 rw [XhG h.1];exact Xa9.num (Xip h.b)
theorem XfQ {e:EF}:∀(fs:List UInt8) (w:List UInt8) (kw:List KT),(∀f∈fs,FOk e f)→Xa9 Brk w kw→Xa9 Brk (w++Xc3 e fs) (kw++fs.map (cKT e))
 | [],w,kw,_,h=>by simpa [Xc3] using h
 | f :: fs,w,kw,hf,h=>by
   have h1:Xa9 Brk (w++32 :: Xfq e f) (kw++[cKT e f]):=h.brk (by decide) (.bl 32 (by unfold XpQ;decide) (Xld (hf f (by simp))))
   have h2:=XfQ fs _ _ (fun g hg=>hf g (by simp [hg])) h1
   simpa [Xc3] using h2
theorem Xko {k:Nat} (h:k < 14):Xdz (Xbl.getD k []):=by
 match k,h with
 | 0,_|1,_|2,_|3,_|4,_|5,_|6,_|7,_|8,_|9,_|10,_|11,_|12,_|13,_=>exact Xd6 (by decide)
theorem XpJ {k:Nat} (h:k < 14):(Xbl.getD k []).length≤8:=by
 match k,h with
 | 0,_|1,_|2,_|3,_|4,_|5,_|6,_|7,_|8,_|9,_|10,_|11,_|12,_|13,_=>decide
theorem Xjw {k:Nat} (hk:k < 14) {e:EF} (h:∀f∈Xbj.getD k [],FOk e f):Xa9 Brk (Xil k e) ((1,Xbl.getD k []) :: (Xbj.getD k []).map (cKT e)):=
 XfQ _ _ [_] h (Xa9.word (Xko hk))
theorem Xm2 {l:List UInt8} {ks:List KT} (h:Xa9 Brk l ks) (h1:ks.length≤2000) (h2:l.length≤8192):∃ts e,lex l=.ok (ts++[e])∧kts ts=ks:=by
 obtain ⟨ts,q1,q2⟩:=h (1,1) 0 [] trivial (by omega)
 rw [List.append_nil,XcI _ _ [] (by rw [Xgk];rfl)] at q2
 unfold lex
 rw [if_neg (by omega),q2]
 exact ⟨ts,_,rfl,q1⟩
theorem Xhz {e:EF} (h:Xep e) {ts:List Tok} (hk:∀k,e.kind=((k+1:Nat):Int)→kts ts=(1,Xbl.getD k []) :: (Xbj.getD k []).map (cKT e)):XbZ ts=some e:=by
 obtain ⟨k,h14,hkd,hf,hw⟩:=h
 have h1:=hk k hkd
 cases ts with
 | nil=>cases h1
 | cons t r=>
   simp only [kts,XqA,List.cons.injEq,Prod.mk.injEq] at h1
   obtain ⟨⟨q1,q2⟩,q3⟩:=h1
   have hl:=congrArg List.length q3
   simp only [List.length_map] at hl
   rw [Xdg (by simp) (by exact q1) h14 (by exact q2.symm),if_neg (by simp [hl]),List.drop_succ_cons,List.drop_zero,XfG _ _ _ hf q3,hw]
/-! ### Lines do not go over line feeds -/
def XdC (l:List UInt8):Prop:=∀b∈l,b.toNat≠10
theorem XdC.app {a b:List UInt8} (h1:XdC a) (h2:XdC b):XdC (a++b):=fun x hx=>by
 rcases List.mem_append.1 hx with h|h
 ·exact h1 x h
 ·exact h2 x h
theorem XdC.cons {c:UInt8} {b:List UInt8} (h1:c.toNat≠10) (h2:XdC b):XdC (c :: b):=fun x hx=>by
 rcases List.mem_cons.1 hx with rfl|h
 ·exact h1
 ·exact h2 x h
theorem XiU {b:UInt8} (h:Xb6 b=true):b.toNat≠10:=by
 simp only [Xb6,Xa0,XbS,Bool.or_eq_true,decide_eq_true_eq] at h;omega
theorem Xn6 {b:UInt8} (h:XbS b=true):Xb6 b=true:=by simp [Xb6,h]
theorem Xdz.lf {w:List UInt8} (h:Xdz w):XdC w:=by
 cases w with
 | nil=>exact h.elim
 | cons c r=>
   exact XdC.cons (XiU (Xn6 h.1)) fun b hb=>XiU (h.2 b hb)
theorem XhK (n:Nat):XdC (Xcn n):=by
 obtain ⟨c,r,h1,h2,h3,-⟩:=XfJ n
 rw [h1]
 exact XdC.cons (XiU (Xe3 h2)) fun b hb=>XiU (Xe3 (h3 b hb))
theorem Xks (i:Nat):(Xfl.getD i 0).toNat≠10:=by
 by_cases h:i < 16
 ·have:∀i,i < 16→(Xfl.getD i 0).toNat≠10:=by decide
  exact this i h
 ·rw [List.getD_eq_getElem?_getD,List.getElem?_eq_none (by rw [Xit];omega)];decide
theorem XnE (b:UInt8):XdC (Xdv b):=by
 unfold Xdv
 split
 ·rename_i h;exact XdC.cons (by decide) (XdC.cons (by omega) (by intro x hx;cases hx))
 split
 ·intro x hx;simp at hx;rcases hx with rfl|rfl<;>decide
 split
 ·intro x hx;simp at hx;rcases hx with rfl|rfl<;>decide
 split
 ·exact XdC.cons (by decide) (XdC.cons (by decide) (XdC.cons (Xks _) (XdC.cons (Xks _) (by intro x hx;cases hx))))
 ·exact XdC.cons (by omega) (by intro x hx;cases hx)
theorem Xlc (s:List UInt8):XdC (Xc1 s):=by
 unfold Xc1 Xes
 refine XdC.app (XdC.cons (by decide) ?_) (XdC.cons (by decide) (by intro x hx;cases hx))
 intro x hx
 obtain ⟨b,-,hb⟩:=List.mem_flatMap.1 hx
 exact XnE b x hb
theorem XmX (n:Int):XdC (dcI n):=by
 unfold dcI
 split
 ·exact XdC.cons (by decide) (XhK _)
 ·exact XhK _
theorem Xnr {e:EF} {f:UInt8} (h:FOk e f):XdC (Xfq e f):=by
 unfold FOk at h
 unfold Xfq
 split
 ·rename_i h1;rw [if_pos h1] at h;exact h.lf
 split
 ·split<;>(intro x hx;revert x;decide)
 split
 ·exact Xlc _
 split
 ·exact XhK _
 split
 ·exact XmX _
 split<;>exact XmX _
theorem Xka {k:Nat} (hk:k < 14) {e:EF} (h:∀f∈Xbj.getD k [],FOk e f):XdC (Xil k e):=by
 refine (Xko hk).lf.app ?_
 intro x hx
 obtain ⟨f,hf,hb⟩:=List.mem_flatMap.1 hx
 exact XdC.cons (by decide) (Xnr (h f hf)) x hb
theorem XeV:∀(x cur r:List UInt8),XdC x→XbL cur (x++10 :: r)=(cur++x) :: XbL [] r
 | [],cur,r,_=>by rw [XqF,XbL,if_pos (by decide),List.append_nil]
 | c :: x,cur,r,h=>by
   rw [XqG,XbL,if_neg (h c (by simp)),XeV x (cur++[c]) r (fun b hb=>h b (by simp [hb]))]
   simp
theorem XeT:∀l:List EF,(∀e∈l,XdC (XcW e))→XbG (Xbc l)=l.map XcW
 | [],_=>rfl
 | e :: l,h=>by
   have ih:=XeT l fun g hg=>h g (by simp [hg])
   unfold XbG at ih ⊢
   have e1:Xbc (e :: l)=XcW e++10 :: Xbc l:=by simp [Xbc]
   rw [e1,XeV _ _ _ (h e (by simp)),ih]
   rfl
theorem Xep.line {e:EF} (h:Xep e):∃k,k < 14∧e.kind=((k+1:Nat):Int)∧XcW e=Xil k e∧∀f∈Xbj.getD k [],FOk e f:=by
 obtain ⟨k,h14,hkd,hf,hw⟩:=h
 refine ⟨k,h14,hkd,?_,hf⟩
 unfold XcW
 rw [if_pos (by omega),show e.kind.toNat - 1=k from by omega]
theorem Xep.lf {e:EF} (h:Xep e):XdC (XcW e):=by
 obtain ⟨k,h14,hkd,hl,hf⟩:=h.line
 rw [hl];exact Xka h14 hf
theorem Xep.lex {e:EF} (h:Xep e) (h8:(XcW e).length≤8192):∃ts,lex (XcW e)=.ok ts∧¬ts.length≤1∧XbZ ts.dropLast=some e:=by
 obtain ⟨k,h14,hkd,hl,hf⟩:=h.line
 have hfl:=Xki h14
 obtain ⟨ts,x,q1,q2⟩:=Xm2 (hl▸Xjw h14 hf) (by simp only [Xqy,List.length_map];omega) h8
 have hlen:=congrArg List.length q2
 simp only [kts,Xqy,List.length_map] at hlen
 refine ⟨_,q1,by simp only [XqH,Xqy,XqB];omega,?_⟩
 rw [List.dropLast_concat]
 refine Xhz h fun k' hk'=>?_
 obtain rfl:k'=k:=by omega
 exact q2
theorem Xik:∀(l:List EF) (n:Nat) (out:List EF),(∀e∈l,Xep e∧(XcW e).length≤8192)→out.length+l.length≤1000→cGo (l.map XcW) n out=(out++l,n+l.length,0)
 | [],n,out,_,_=>by simp [cGo]
 | e :: l,n,out,h,hn=>by
   obtain ⟨ts,q1,q2,q3⟩:=(h e (by simp)).1.lex (h e (by simp)).2
   simp only [Xqy] at hn
   rw [XqA,cGo,q1]
   simp only [if_neg q2,q3]
   rw [if_neg (by omega),Xik l (n+1) (out++[e]) (fun g hg=>h g (by simp [hg])) (by simp;omega)]
   simp;omega
theorem XhB {l:List EF} (h:∀e∈l,Xep e∧(XcW e).length≤8192) (hn:l.length≤1000) (ht:(Xbc l).length≤65536):XbQ (Xbc l)=(l,l.length,0):=by
 unfold XbQ
 rw [if_neg (by omega),XeT l fun e he=>(h e he).1.lf,Xik l 0 [] h (by simpa using hn)]
 simp
/-! ### Which events are equal; the text, or why there is none -/
def Xdw (a b:EF):Bool:=a.kind == b.kind && a.job == b.job && a.ok == b.ok && a.code == b.code && a.data == b.data && a.time == b.time && a.client == b.client && a.num == b.num
def XdF (a b:List EF):Bool:=decide (a.length=b.length) && (a.zip b).all fun p=>Xdw p.1 p.2
theorem Xlj (a:EF):Xdw a a=true:=by simp [Xdw]
theorem XiV:∀l:List EF,((l.zip l).all fun p=>Xdw p.1 p.2)=true
 | []=>rfl
 | a :: l=>by rw [List.zip_cons_cons,List.all_cons,Xlj,XiV l];rfl
theorem Xg9 (l:List EF):XdF l l=true:=by unfold XdF;rw [XiV l];simp
theorem XfR {a b:List EF} {k:Nat} (ha:k < a.length) (hb:k < b.length) (h:(((a.take k).zip (b.take k)).all fun p=>Xdw p.1 p.2)=true) (h2:Xdw a[k] b[k]=true):(((a.take (k+1)).zip (b.take (k+1))).all fun p=>Xdw p.1 p.2)=true:=by
 rw [Xce a k ha,Xce b k hb,List.zip_append (by simp;omega)]
 simp only [List.all_append,h,Bool.true_and]
 simp [h2]
theorem XiM {a b:List EF} {k:Nat} (ha:k < a.length) (hb:k < b.length) (h2:Xdw a[k] b[k]=false):XdF a b=false:=by
 unfold XdF
 rw [Bool.and_eq_false_iff];right
 rw [List.all_eq_false]
 refine ⟨(a[k],b[k]),List.mem_iff_getElem.2 ⟨k,by simp;omega,by simp⟩,by simp [h2]⟩
def XbD (l:List EF):List UInt8 × Int:=
 if 1000 < l.length then ([],1) else if 65536 < (Xbc l).length then ([],1)
 else if (XbQ (Xbc l)).2.2=0∧XdF l (XbQ (Xbc l)).1=true then (Xbc l,0) else ([],320)
theorem XgI {l:List EF} (h:∀e∈l,Xep e∧(XcW e).length≤8192) (hn:l.length≤1000) (ht:(Xbc l).length≤65536):XbD l=(Xbc l,0):=by
 unfold XbD
 rw [if_neg (by omega),if_neg (by omega),XhB h hn ht,if_pos ⟨rfl,Xg9 l⟩]
theorem Xk1 {l:List UInt8} {a:Int} {t:List UInt8} {m:Nat} (h:one l=.ok (a,t,m)):a=2→1≤t.length:=by
 intro h2
 subst h2
 cases l with
 | nil=>cases h
 | cons c r=>
   unfold one at h
   simp only at h
   split at h
   ·cases h
   ·split at h
    ·rename_i hd
     split at h
     ·cases h
     ·cases h
      have:=XdG Xa0 c r hd
      rw [List.length_take]
      have:=XfT Xa0 (c :: r)
      omega
    ·split at h
     ·split at h<;>cases h
     ·split at h
      ·split at h<;>cases h
      ·split at h<;>cases h
theorem Xme {s:List UInt8} {ts:List Tok} (h:lex s=.ok ts):∀t∈ts,t.kind=2→1≤t.text.length:=by
 unfold lex at h
 split at h
 ·cases h
 ·exact Xe7 (P:=fun t=>t.kind=2→1≤t.text.length) (fun p q h=>by simp at h) (fun l a t m h p q=>Xk1 h) s.length (1,1) 0 s ts (Nat.le_refl _) h
structure TkE (m:Nat) (t:Tok):Prop where
 word:t.kind=1→Xdz t.text
 num:t.kind=2→Xls (Xdb t.text)
 len:t.text.length≤m
/-! ### Scripts -/
open Go.RowKit Go.Lib
section
variable {P:Program} {Δ Δ':List Deferred} {V O:Nat→Prop} {w0 w w':World} {H H':List Hp} {T T':List AV} {a a':Act} {o:Oper} {ops:Array Oper}
variable {Θ:List (Nat × Obj)} {Q:Xd8}
def Wk (H H':List Hp):Prop:=∃D R,H.Perm (D++R)∧XaF D R H'
theorem Wk.mk' (D R:List Hp) (hp:H.Perm (D++R)) (hH:XaF D R H'):Wk H H':=⟨D,R,hp,hH⟩
theorem Wk.weak (h:Wk H H') (T:List AV):XaH H T H' T:=by
 obtain ⟨D,R,hp,hH⟩:=h
 exact XaH.mk' D R hp hH (VwL.refl _ _)
theorem XfE {rest:List Oper} (hw:XaH H T H' T') (h:XcM P Δ Θ ops Q rest T' H'):XcM P Δ Θ ops Q rest T H:=fun V O w0 a w r t=>h V O w0 a w (r.weaken hw) fun p hp=>(t p hp).same (Xde hw)
theorem XdR {c:Code} (hw:XaH H T H' T') (h:Xdo P Δ Θ c Q T' H'):Xdo P Δ Θ c Q T H:=fun V O w0 a w r t=>h V O w0 a w (r.weaken hw) fun p hp=>(t p hp).same (Xde hw)
theorem Xkv {fn:Func} {Q:AV→List Hp→Prop} {e:Exit} (hw:XaH H T H' T') (h:XbF P fn Q e T' H'):XbF P fn Q e T H:=by
 obtain ⟨h1,r,H1,h2,h3⟩:=h
 refine ⟨h1,r,H1,fun Δ V O w0 a w rel=>?_,h3⟩
 obtain ⟨v,g1,g2,g3,g4⟩:=h2 Δ V O w0 a w (rel.weaken hw)
 exact ⟨v,g1,g2,g3,fun x hx k e=>Xde hw k (g4 x hx k e)⟩
theorem DenA.set {F:Nat→Prop} {l:List AV} {vs:Array Value} (h:XaN F w l vs.toList) (i:Nat) (v:Value):XaN F w (l.set i (.x v)) (vs.setIfInBounds i v).toList:=by
 rw [Array.toList_setIfInBounds]
 exact h.set i (by rw [Den])
theorem XgF {rest:List Oper} {cal:Operand} {args:Array Operand} {tys:Array TypeId} {v1 v2:Value} {p1 p2:Tmp} {l:Nat} {ρ:Loop} {Tp0:List AV} (hg:o.guard=none) (ho:o.op=.call { callee:=.value cal,args:=args,argTypes:=tys }) (hc:ev T cal=.x (.func (.yield l) #[] #[]))
  (ha:args.toList.map (ev T)=[.x v1,.x v2]) (hps:ρ.params=#[p1,p2]) (hst:ρ.state=.ready) (hpe:ρ.pending=none) (hT:T.all dull=true) {QB:XcB}
  (hTa:∀F w,XaN F w Tp0 ρ.tmps.toList) (hne:∀p∈Θ,p.1≠l)
  (h:Xgv P ρ.assign (fun e T1 H1=>e=.normal∧Xgv P ρ.body QB T1 H1) ((Tp0.set p1 (.x v1)).set p2 (.x v2)) H) (hQB:∀e T H,QB e T H→e=.normal∨e=.ret)
  (hn:∀T1 H1,QB .normal T1 H1→XcM P Δ ((l,.loop ρ) :: Θ) ops Q rest (XbW T o.dst (.x (.bool true))) H1)
  (hr:∀T1 H1,QB .ret T1 H1→XcM P Δ ((l,.loop (XeX ρ)) :: Θ) ops Q rest (XbW T o.dst (.x (.bool false))) H1) :
  XcM P Δ ((l,.loop ρ) :: Θ) ops Q (o :: rest) T H:=
 Xhy (vals:=#[v1,v2]) hg ho hc ha (by rw [hps];rfl) hst hpe hT (fun F w=>by
  have q:=DenA.set (DenA.set (hTa F w) p1 v1) p2 v2
  rw [hps,show (#[p1,p2].zip #[v1,v2])=#[(p1,v1),(p2,v2)] by simp]
  exact q) hne h hQB hn hr
end
end Go.Proofs.YtdpobjakdplljaaGreatDoor

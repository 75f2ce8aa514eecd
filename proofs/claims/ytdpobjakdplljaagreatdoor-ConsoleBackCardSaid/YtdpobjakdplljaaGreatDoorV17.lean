import Derived.Test.YtdpobjakdplljaaGreatDoorV15
import Derived.Test.YtdpobjakdplljaaGreatDoorV16
import Derived.Test.YtdpobjakdplljaaGreatDoorV14
import Derived.Test.YtdpobjakdplljaaGreatDoorV9
/- The text of events: what it is, and that it is read back. No program in sight. -/
set_option linter.unusedSimpArgs false
set_option linter.unusedVariables false
set_option maxRecDepth 100000
set_option maxHeartbeats 8000000
namespace Go.Proofs.YtdpobjakdplljaaGreatDoor
open Go.RowKit
def dcI (n:Int):List UInt8:=if n < 0 then 45 :: Xb5 (-n).toNat else Xb5 n.toNat
theorem Xeu {n:Int} (h:0≤n):dcI n=Xb5 n.toNat:=if_neg (by omega)
def Xcs (e:EF) (f:UInt8):List UInt8:=
 if f.toNat=78 then e.job else if f.toNat=75 then (if e.ok then wOk else Xdn) else if f.toNat=68 then Xcq e.data
 else if f.toNat=84 then Xb5 e.time.toNat else if f.toNat=67 then dcI e.code else if f.toNat=76 then dcI e.client else dcI e.num
def XbP (e:EF) (fs:List UInt8):List UInt8:=fs.flatMap fun f=>32 :: Xcs e f
def XfE (k:Nat) (e:EF):List UInt8:=XcU.getD k []++XbP e (Xa6.getD k [])
def Xcr (e:EF):List UInt8:=if 1≤e.kind∧e.kind≤14 then XfE (e.kind.toNat - 1) e else []
def Xbr (l:List EF):List UInt8:=l.flatMap fun e=>Xcr e++[10]
def cKT (e:EF) (f:UInt8):KT:=
 if f.toNat=78 then (1,e.job) else if f.toNat=75 then (1,if e.ok then wOk else Xdn) else if f.toNat=68 then (3,e.data)
 else if f.toNat=84 then (2,Xb5 e.time.toNat) else if f.toNat=67 then (2,Xb5 e.code.toNat) else if f.toNat=76 then (2,Xb5 e.client.toNat) else (2,Xb5 e.num.toNat)
def XpE (e a:EF) (f:UInt8):EF:=
 if f.toNat=78 then { a with job:=e.job } else if f.toNat=75 then { a with ok:=e.ok } else if f.toNat=68 then { a with data:=e.data }
 else if f.toNat=84 then { a with time:=e.time } else if f.toNat=67 then { a with code:=e.code } else if f.toNat=76 then { a with client:=e.client } else { a with num:=e.num }
def Sm (n:Int):Prop:=0≤n∧n≤999999999
def FOk (e:EF) (f:UInt8):Prop:=
 if f.toNat=78 then XbZ e.job else if f.toNat=75 then True else if f.toNat=68 then True
 else if f.toNat=84 then XgX e.time else if f.toNat=67 then Sm e.code else if f.toNat=76 then Sm e.client else Sm e.num
theorem Sm.b {n:Int} (h:Sm n):XgX n:=⟨h.1,by have:=h.2;omega⟩
def Xc3 (e:EF):Prop:=∃k,k < 14∧e.kind=((k+1:Nat):Int)∧(∀f∈Xa6.getD k [],FOk e f)∧(Xa6.getD k []).foldl (XpE e) (ev0 (k+1:Nat))=e
theorem Xnm {e a:EF} {f:UInt8} {t:Tok} (h:FOk e f) (hk:(t.kind,t.text)=cKT e f):XeU a f t=some (XpE e a f):=by
 unfold FOk at h
 unfold cKT at hk
 unfold XeU XpE
 by_cases h1:f.toNat=78
 ·simp only [h1,if_true,Prod.mk.injEq] at hk ⊢
  rw [if_pos hk.1,hk.2]
 by_cases h2:f.toNat=75
 ·simp only [h2,if_true,Nat.reduceEqDiff,if_false] at hk ⊢
  simp only [Prod.mk.injEq] at hk
  obtain ⟨q1,q2⟩:=hk
  cases he:e.ok with
  | true=>rw [he] at q2;simp only [if_true] at q2;rw [if_pos ⟨q1,.inl q2⟩,q2];simp
  | false=>rw [he] at q2;simp only [Bool.false_eq_true,if_false] at q2;rw [if_pos ⟨q1,.inr q2⟩,q2];simp [wOk,Xdn]
 by_cases h3:f.toNat=68
 ·simp only [h3,if_true,Nat.reduceEqDiff,if_false] at hk ⊢
  simp only [Prod.mk.injEq] at hk
  obtain ⟨q1,q2⟩:=hk
  simp [q1,q2]
 simp only [h1,h2,h3,if_false] at h hk ⊢
 by_cases h4:f.toNat=84
 ·simp only [h4,if_true,Nat.reduceEqDiff,if_false,Prod.mk.injEq] at h hk ⊢
  obtain ⟨q1,q2⟩:=hk
  simp [q1,q2,Xjg h]
 simp only [h4,if_false] at h hk ⊢
 by_cases h5:f.toNat=67
 ·simp only [h5,if_true,Nat.reduceEqDiff,if_false,Prod.mk.injEq] at h hk ⊢
  obtain ⟨q1,q2⟩:=hk
  rw [if_neg (by omega),q2,Xjg h.b,if_neg (by have:=h.2;omega)]
 simp only [h5,if_false] at h hk ⊢
 by_cases h6:f.toNat=76
 ·simp only [h6,if_true,Prod.mk.injEq] at h hk ⊢
  obtain ⟨q1,q2⟩:=hk
  rw [if_neg (by omega),q2,Xjg h.b,if_neg (by have:=h.2;omega)]
 simp only [h6,if_false,Prod.mk.injEq] at h hk ⊢
 obtain ⟨q1,q2⟩:=hk
 rw [if_neg (by omega),q2,Xjg h.b,if_neg (by have:=h.2;omega)]
theorem Xhd {e:EF}:∀(fs:List UInt8) (ts:List Tok) (a:EF),(∀f∈fs,FOk e f)→kts ts=fs.map (cKT e)→Xci a fs ts=some (fs.foldl (XpE e) a)
 | [],ts,a,_,_=>rfl
 | f :: fs,[],a,_,h=>by simp [kts] at h
 | f :: fs,t :: ts,a,h,hk=>by
   simp only [kts,Xva,List.cons.injEq] at hk
   rw [Xci,Xnm (h f (by simp)) hk.1,Option.bind_some,Xu6]
   exact Xhd fs ts _ (fun g hg=>h g (by simp [hg])) hk.2
/-! ### Lines are read -/
theorem XaV.any {C:List UInt8→Prop} {l:List UInt8} {ks:List KT} (h:XaV Any l ks):XaV C l ks:=fun p n t _ hn=>h p n t trivial hn
theorem XoY {e:EF} {f:UInt8} (h:FOk e f):XaV Brk (Xcs e f) [cKT e f]:=by
 unfold FOk at h
 unfold Xcs cKT
 by_cases h1:f.toNat=78
 ·simp only [h1,if_true] at h ⊢;exact XaV.word h
 by_cases h2:f.toNat=75
 ·simp only [h2,if_true,Nat.reduceEqDiff,if_false]
  cases e.ok with
  | true=>exact XaV.word (Xbz (by decide))
  | false=>exact XaV.word (Xbz (by decide))
 by_cases h3:f.toNat=68
 ·simp only [h3,if_true,Nat.reduceEqDiff,if_false];exact (XaV.str e.data).any
 simp only [h1,h2,h3,if_false] at h ⊢
 by_cases h4:f.toNat=84
 ·simp only [h4,if_true] at h ⊢;exact XaV.num (XdJ h)
 simp only [h4,if_false] at h ⊢
 by_cases h5:f.toNat=67
 ·simp only [h5,if_true] at h ⊢;rw [Xeu h.1];exact XaV.num (XdJ h.b)
 simp only [h5,if_false] at h ⊢
 by_cases h6:f.toNat=76
 ·simp only [h6,if_true] at h ⊢;rw [Xeu h.1];exact XaV.num (XdJ h.b)
 simp only [h6,if_false] at h ⊢
 rw [Xeu h.1];exact XaV.num (XdJ h.b)
theorem Xhp {e:EF}:∀(fs:List UInt8) (w:List UInt8) (kw:List KT),(∀f∈fs,FOk e f)→XaV Brk w kw→XaV Brk (w++XbP e fs) (kw++fs.map (cKT e))
 | [],w,kw,_,h=>by simpa [XbP] using h
 | f :: fs,w,kw,hf,h=>by
   have h1:XaV Brk (w++32 :: Xcs e f) (kw++[cKT e f]):=h.brk (by decide) (.bl 32 (by unfold Xc0;decide) (XoY (hf f (by simp))))
   have h2:=Xhp fs _ _ (fun g hg=>hf g (by simp [hg])) h1
   simpa [XbP] using h2
theorem XnF {k:Nat} (h:k < 14):XbZ (XcU.getD k []):=by
 match k,h with
 | 0,_|1,_|2,_|3,_|4,_|5,_|6,_|7,_|8,_|9,_|10,_|11,_|12,_|13,_=>exact Xbz (by decide)
theorem XrI {k:Nat} (h:k < 14):(XcU.getD k []).length≤8:=by
 match k,h with
 | 0,_|1,_|2,_|3,_|4,_|5,_|6,_|7,_|8,_|9,_|10,_|11,_|12,_|13,_=>decide
theorem XmG {k:Nat} (hk:k < 14) {e:EF} (h:∀f∈Xa6.getD k [],FOk e f):XaV Brk (XfE k e) ((1,XcU.getD k []) :: (Xa6.getD k []).map (cKT e)):=
 Xhp _ _ [_] h (XaV.word (XnF hk))
theorem Xrh {l:List UInt8} {ks:List KT} (h:XaV Brk l ks) (h1:ks.length≤2000) (h2:l.length≤8192):∃ts e,lex l=.ok (ts++[e])∧kts ts=ks:=by
 obtain ⟨ts,q1,q2⟩:=h (1,1) 0 [] trivial (by omega)
 rw [List.append_nil,XcR _ _ [] (by rw [XgJ];rfl)] at q2
 unfold lex
 rw [if_neg (by omega),q2]
 exact ⟨ts,_,rfl,q1⟩
theorem Xj0 {e:EF} (h:Xc3 e) {ts:List Tok} (hk:∀k,e.kind=((k+1:Nat):Int)→kts ts=(1,XcU.getD k []) :: (Xa6.getD k []).map (cKT e)):Xcz ts=some e:=by
 obtain ⟨k,h14,hkd,hf,hw⟩:=h
 have h1:=hk k hkd
 cases ts with
 | nil=>cases h1
 | cons t r=>
   simp only [kts,Xva,List.cons.injEq,Prod.mk.injEq] at h1
   obtain ⟨⟨q1,q2⟩,q3⟩:=h1
   have hl:=congrArg List.length q3
   simp only [List.length_map] at hl
   rw [Xgg (by simp) (by exact q1) h14 (by exact q2.symm),if_neg (by simp [hl]),List.drop_succ_cons,List.drop_zero,Xhd _ _ _ hf q3,hw]
/-! ### Lines do not go over line feeds -/
def Xer (l:List UInt8):Prop:=∀b∈l,b.toNat≠10
theorem Xer.app {a b:List UInt8} (h1:Xer a) (h2:Xer b):Xer (a++b):=fun x hx=>by
 rcases List.mem_append.1 hx with h|h
 ·exact h1 x h
 ·exact h2 x h
theorem Xer.cons {c:UInt8} {b:List UInt8} (h1:c.toNat≠10) (h2:Xer b):Xer (c :: b):=fun x hx=>by
 rcases List.mem_cons.1 hx with rfl|h
 ·exact h1
 ·exact h2 x h
theorem XlL {b:UInt8} (h:Xb3 b=true):b.toNat≠10:=by
 simp only [Xb3,Xbg,XbW,Bool.or_eq_true,decide_eq_true_eq] at h;omega
theorem Xoo {b:UInt8} (h:XbW b=true):Xb3 b=true:=by simp [Xb3,h]
theorem XbZ.lf {w:List UInt8} (h:XbZ w):Xer w:=by
 cases w with
 | nil=>exact h.elim
 | cons c r=>
   exact Xer.cons (XlL (Xoo h.1)) fun b hb=>XlL (h.2 b hb)
theorem Xka (n:Nat):Xer (Xb5 n):=by
 obtain ⟨c,r,h1,h2,h3,-⟩:=Xhf n
 rw [h1]
 exact Xer.cons (XlL (Xgt h2)) fun b hb=>XlL (Xgt (h3 b hb))
theorem XnH (i:Nat):(XgU.getD i 0).toNat≠10:=by
 by_cases h:i < 16
 ·have:∀i,i < 16→(XgU.getD i 0).toNat≠10:=by decide
  exact this i h
 ·rw [List.getD_eq_getElem?_getD,List.getElem?_eq_none (by rw [Xk7];omega)];decide
theorem XrO (b:UInt8):Xer (XdM b):=by
 unfold XdM
 split
 ·rename_i h;exact Xer.cons (by decide) (Xer.cons (by omega) (by intro x hx;cases hx))
 split
 ·intro x hx;simp at hx;rcases hx with rfl|rfl<;>decide
 split
 ·intro x hx;simp at hx;rcases hx with rfl|rfl<;>decide
 split
 ·exact Xer.cons (by decide) (Xer.cons (by decide) (Xer.cons (XnH _) (Xer.cons (XnH _) (by intro x hx;cases hx))))
 ·exact Xer.cons (by omega) (by intro x hx;cases hx)
theorem XoT (s:List UInt8):Xer (Xcq s):=by
 unfold Xcq XfG
 refine Xer.app (Xer.cons (by decide) ?_) (Xer.cons (by decide) (by intro x hx;cases hx))
 intro x hx
 obtain ⟨b,-,hb⟩:=List.mem_flatMap.1 hx
 exact XrO b x hb
theorem Xrc (n:Int):Xer (dcI n):=by
 unfold dcI
 split
 ·exact Xer.cons (by decide) (Xka _)
 ·exact Xka _
theorem XrE {e:EF} {f:UInt8} (h:FOk e f):Xer (Xcs e f):=by
 unfold FOk at h
 unfold Xcs
 split
 ·rename_i h1;rw [if_pos h1] at h;exact h.lf
 split
 ·split<;>(intro x hx;revert x;decide)
 split
 ·exact XoT _
 split
 ·exact Xka _
 split
 ·exact Xrc _
 split<;>exact Xrc _
theorem Xnq {k:Nat} (hk:k < 14) {e:EF} (h:∀f∈Xa6.getD k [],FOk e f):Xer (XfE k e):=by
 refine (XnF hk).lf.app ?_
 intro x hx
 obtain ⟨f,hf,hb⟩:=List.mem_flatMap.1 hx
 exact Xer.cons (by decide) (XrE (h f hf)) x hb
theorem Xgl:∀(x cur r:List UInt8),Xer x→XcA cur (x++10 :: r)=(cur++x) :: XcA [] r
 | [],cur,r,_=>by rw [Xvf,XcA,if_pos (by decide),List.append_nil]
 | c :: x,cur,r,h=>by
   rw [Xvg,XcA,if_neg (h c (by simp)),Xgl x (cur++[c]) r (fun b hb=>h b (by simp [hb]))]
   simp
theorem Xgi:∀l:List EF,(∀e∈l,Xer (Xcr e))→XbR (Xbr l)=l.map Xcr
 | [],_=>rfl
 | e :: l,h=>by
   have ih:=Xgi l fun g hg=>h g (by simp [hg])
   unfold XbR at ih ⊢
   have e1:Xbr (e :: l)=Xcr e++10 :: Xbr l:=by simp [Xbr]
   rw [e1,Xgl _ _ _ (h e (by simp)),ih]
   rfl
theorem Xc3.line {e:EF} (h:Xc3 e):∃k,k < 14∧e.kind=((k+1:Nat):Int)∧Xcr e=XfE k e∧∀f∈Xa6.getD k [],FOk e f:=by
 obtain ⟨k,h14,hkd,hf,hw⟩:=h
 refine ⟨k,h14,hkd,?_,hf⟩
 unfold Xcr
 rw [if_pos (by omega),show e.kind.toNat - 1=k from by omega]
theorem Xc3.lf {e:EF} (h:Xc3 e):Xer (Xcr e):=by
 obtain ⟨k,h14,hkd,hl,hf⟩:=h.line
 rw [hl];exact Xnq h14 hf
theorem Xc3.lex {e:EF} (h:Xc3 e) (h8:(Xcr e).length≤8192):∃ts,lex (Xcr e)=.ok ts∧¬ts.length≤1∧Xcz ts.dropLast=some e:=by
 obtain ⟨k,h14,hkd,hl,hf⟩:=h.line
 have hfl:=Xny h14
 obtain ⟨ts,x,q1,q2⟩:=Xrh (hl▸XmG h14 hf) (by simp only [Xu8,List.length_map];omega) h8
 have hlen:=congrArg List.length q2
 simp only [kts,Xu8,List.length_map] at hlen
 refine ⟨_,q1,by simp only [Xvh,Xu8,Xvb];omega,?_⟩
 rw [List.dropLast_concat]
 refine Xj0 h fun k' hk'=>?_
 obtain rfl:k'=k:=by omega
 exact q2
theorem XkZ:∀(l:List EF) (n:Nat) (out:List EF),(∀e∈l,Xc3 e∧(Xcr e).length≤8192)→out.length+l.length≤1000→cGo (l.map Xcr) n out=(out++l,n+l.length,0)
 | [],n,out,_,_=>by simp [cGo]
 | e :: l,n,out,h,hn=>by
   obtain ⟨ts,q1,q2,q3⟩:=(h e (by simp)).1.lex (h e (by simp)).2
   simp only [Xu8] at hn
   rw [Xva,cGo,q1]
   simp only [if_neg q2,q3]
   rw [if_neg (by omega),XkZ l (n+1) (out++[e]) (fun g hg=>h g (by simp [hg])) (by simp;omega)]
   simp;omega
theorem Xet {l:List EF} (h:∀e∈l,Xc3 e∧(Xcr e).length≤8192) (hn:l.length≤1000) (ht:(Xbr l).length≤65536):XbS (Xbr l)=(l,l.length,0):=by
 unfold XbS
 rw [if_neg (by omega),Xgi l fun e he=>(h e he).1.lf,XkZ l 0 [] h (by simpa using hn)]
 simp
/-! ### Which events are equal; the text, or why there is none -/
def Xek (a b:EF):Bool:=a.kind == b.kind && a.job == b.job && a.ok == b.ok && a.code == b.code && a.data == b.data && a.time == b.time && a.client == b.client && a.num == b.num
def XeC (a b:List EF):Bool:=decide (a.length=b.length) && (a.zip b).all fun p=>Xek p.1 p.2
theorem Xo5 (a:EF):Xek a a=true:=by simp [Xek]
theorem XlM:∀l:List EF,((l.zip l).all fun p=>Xek p.1 p.2)=true
 | []=>rfl
 | a :: l=>by rw [List.zip_cons_cons,List.all_cons,Xo5,XlM l];rfl
theorem XgI (l:List EF):XeC l l=true:=by unfold XeC;rw [XlM l];simp
theorem Xhu {a b:List EF} {k:Nat} (ha:k < a.length) (hb:k < b.length) (h:(((a.take k).zip (b.take k)).all fun p=>Xek p.1 p.2)=true) (h2:Xek a[k] b[k]=true):(((a.take (k+1)).zip (b.take (k+1))).all fun p=>Xek p.1 p.2)=true:=by
 rw [XaX a k ha,XaX b k hb,List.zip_append (by simp;omega)]
 simp only [List.all_append,h,Bool.true_and]
 simp [h2]
theorem Xlz {a b:List EF} {k:Nat} (ha:k < a.length) (hb:k < b.length) (h2:Xek a[k] b[k]=false):XeC a b=false:=by
 unfold XeC
 rw [Bool.and_eq_false_iff];right
 rw [List.all_eq_false]
 refine ⟨(a[k],b[k]),List.mem_iff_getElem.2 ⟨k,by simp;omega,by simp⟩,by simp [h2]⟩
def Xdj (l:List EF):List UInt8 × Int:=
 if 1000 < l.length then ([],1) else if 65536 < (Xbr l).length then ([],1)
 else if (XbS (Xbr l)).2.2=0∧XeC l (XbS (Xbr l)).1=true then (Xbr l,0) else ([],320)
theorem XfD {l:List EF} (h:∀e∈l,Xc3 e∧(Xcr e).length≤8192) (hn:l.length≤1000) (ht:(Xbr l).length≤65536):Xdj l=(Xbr l,0):=by
 unfold Xdj
 rw [if_neg (by omega),if_neg (by omega),Xet h hn ht,if_pos ⟨rfl,XgI l⟩]
theorem XiP (v:Int) (h0:0≤v) (h1:v≤18446744073709551615):Xa8 Tryz.prog 199 [] [.x (.int .u64 v)] (fun r H'=>r=.x (.string (bs (Xb5 v.toNat)))∧H'=[]):=by
 have:=XnG v.toNat (by omega)
 rwa [show ((v.toNat:Nat):Int)=v by omega] at this
theorem XdK (v:Int) (h1:v≤18446744073709551615):(Xb5 v.toNat).length≤20:=Xds _ (by omega)
theorem XcG (s:List UInt8):(Xcq s).length≤4*s.length+2:=by
 unfold Xcq;rw [Xvh];have:=XhR s;simp;omega
theorem Xid (n:Int):(Xg6 n).length≤4:=by
 unfold Xg6
 cases h:XcX.find? (fun s=>XsF s == n) with
 | none=>simp
 | some s=>
   have:=List.mem_of_find?_eq_some h
   simp only [XcX,List.mem_cons,List.not_mem_nil,or_false] at this
   rcases this with rfl|rfl|rfl|rfl|rfl|rfl<;>simp
theorem Xey (n:Int):(XdD n).length≤10:=by
 unfold XdD;repeat' (first|split|(simp;done)|fail)
def NmE (s:List UInt8):Prop:=XbZ s∧s.length=1
theorem Xsf {v:Nat} (hv:v < 5):NmE (Xkw.getD v []):=by
 match v,hv with
 | 0,_|1,_|2,_|3,_|4,_=>exact ⟨Xbz (by decide),rfl⟩
structure SK (m k:Nat) (e:EF):Prop where
 kind:e.kind=((k+1:Nat):Int)
 job:if 78∈Xa6.getD k [] then NmE e.job else e.job=[]
 ok:if 75∈Xa6.getD k [] then True else e.ok=false
 code:if 67∈Xa6.getD k [] then -1≤e.code∧e.code≤1 else e.code=0
 data:if 68∈Xa6.getD k []∨k=12 then e.data.length≤m else e.data=[]
 time:if 84∈Xa6.getD k [] then 0≤e.time∧e.time≤18446744073709551615 else e.time=0
 client:if 76∈Xa6.getD k [] then 0≤e.client∧e.client≤3 else e.client=0
 num:if 77∈Xa6.getD k [] then -5≤e.num∧e.num≤294 else e.num=0
def SE (m:Nat) (e:EF):Prop:=∃k,k < 14∧SK m k e
section
variable {m:Nat} {s d:List UInt8} {b:Bool} {c n:Int} {K:Int}
theorem Xhv (hs:NmE s) (h:K=1):SE m ⟨K,s,b,0,[],0,0,0⟩:=by subst h;exact ⟨0,by decide,⟨rfl,hs,trivial,rfl,rfl,rfl,rfl,rfl⟩⟩
theorem XsB (hs:NmE s) (h1 : -1≤c) (h2:c≤1) (h:K=2):SE m ⟨K,s,false,c,[],0,0,0⟩:=by subst h;exact ⟨1,by decide,⟨rfl,hs,rfl,⟨h1,h2⟩,rfl,rfl,rfl,rfl⟩⟩
theorem Xpa (hs:NmE s) (hd:d.length≤m) (h:K=3):SE m ⟨K,s,false,0,d,0,0,0⟩:=by subst h;exact ⟨2,by decide,⟨rfl,hs,rfl,rfl,hd,rfl,rfl,rfl⟩⟩
theorem XsD (h1:0≤n) (h2:n≤18446744073709551615) (h:K=4):SE m ⟨K,[],false,0,[],n,0,0⟩:=by subst h;exact ⟨3,by decide,⟨rfl,rfl,rfl,rfl,rfl,⟨h1,h2⟩,rfl,rfl⟩⟩
theorem XsA (h1:0≤n) (h2:n≤18446744073709551615) (h:K=5):SE m ⟨K,[],false,0,[],n,0,0⟩:=by subst h;exact ⟨4,by decide,⟨rfl,rfl,rfl,rfl,rfl,⟨h1,h2⟩,rfl,rfl⟩⟩
theorem Xic (hs:NmE s) (h:K=6∨K=7∨K=8):SE m ⟨K,s,false,0,[],0,0,0⟩:=by
 rcases h with rfl|rfl|rfl
 ·exact ⟨5,by decide,⟨rfl,hs,rfl,rfl,rfl,rfl,rfl,rfl⟩⟩
 ·exact ⟨6,by decide,⟨rfl,hs,rfl,rfl,rfl,rfl,rfl,rfl⟩⟩
 ·exact ⟨7,by decide,⟨rfl,hs,rfl,rfl,rfl,rfl,rfl,rfl⟩⟩
theorem XsC (hd:d.length≤m) (h:K=9):SE m ⟨K,[],false,0,d,0,0,0⟩:=by subst h;exact ⟨8,by decide,⟨rfl,rfl,rfl,rfl,hd,rfl,rfl,rfl⟩⟩
theorem Xsz (h:K=10):SE m ⟨K,[],false,0,[],0,0,0⟩:=by subst h;exact ⟨9,by decide,⟨rfl,rfl,rfl,rfl,rfl,rfl,rfl,rfl⟩⟩
theorem Xo9 (h1:0≤c) (h2:c≤3) (h:K=11):SE m ⟨K,[],false,0,[],0,c,0⟩:=by subst h;exact ⟨10,by decide,⟨rfl,rfl,rfl,rfl,rfl,rfl,⟨h1,h2⟩,rfl⟩⟩
theorem Xe7 (h1:0≤c) (h2:c≤3) (hd:d.length≤m) (h:K=12):SE m ⟨K,[],false,0,d,0,c,0⟩:=by subst h;exact ⟨11,by decide,⟨rfl,rfl,rfl,rfl,hd,rfl,⟨h1,h2⟩,rfl⟩⟩
theorem XqJ (h1:0≤c) (h2:c≤3) (hd:d.length≤m) (h:K=13):SE m ⟨K,[],false,0,d,0,c,0⟩:=by subst h;exact ⟨12,by decide,⟨rfl,rfl,rfl,rfl,hd,rfl,⟨h1,h2⟩,rfl⟩⟩
theorem XqK (h1:0≤c) (h2:c≤3) (h3 : -5≤n) (h4:n≤294) (h:K=14):SE m ⟨K,[],false,0,[],0,c,n⟩:=by subst h;exact ⟨13,by decide,⟨rfl,rfl,rfl,rfl,rfl,rfl,⟨h1,h2⟩,⟨h3,h4⟩⟩⟩
end
def m0 (n:Int):Int:=if 0 < n then n else 0
def clE (e:EF):EF:=⟨e.kind,e.job,e.ok,m0 e.code,if e.kind=13 then [] else e.data,if 1125899906842624 < e.time then 7 else e.time,m0 e.client,m0 e.num⟩
theorem Xmr {n:Int} (h:n≤999):Sm (m0 n):=by unfold m0 Sm;split<;>omega
theorem Xuo {v:Int} (h0:0≤v) (h1:v≤999):(Xb5 v.toNat).length≤3:=Xeb 2 v.toNat (Nat.lt_of_lt_of_le (show v.toNat < 1000 by omega) (by decide))
theorem Xhj {n:Int} (h:n≤999):(dcI (m0 n)).length≤3:=by
 have h0:0≤m0 n:=by unfold m0;split<;>omega
 have h1:m0 n≤999:=by unfold m0;split<;>omega
 rw [Xeu h0]
 exact Xuo h0 h1
theorem Xj8 {n:Int} (h0:0≤n):XgX (if 1125899906842624 < n then 7 else n):=by unfold XgX;split<;>omega
theorem Xix (e:EF) (f:UInt8):(XbP e [f]).length=(Xcs e f).length+1:=by simp [XbP]
theorem Xm0 (e:EF) (f g:UInt8):(XbP e [f,g]).length=(Xcs e f).length+(Xcs e g).length+2:=by simp [XbP];omega
theorem Xt9 (e:EF):(Xcs e 75).length≤6:=by
 show (if e.ok then wOk else Xdn).length≤6
 split<;>decide
theorem SK.good {m k:Nat} {e:EF} (hk:k < 14) (h:SK m k e):Xc3 (clE e)∧(Xcr (clE e)).length≤4*(clE e).data.length+39∧(clE e).data.length≤e.data.length:=by
 obtain ⟨q1,q2,q3,q4,q5,q6,q7,q8⟩:=h
 have hdl:(clE e).data.length≤e.data.length:=by simp only [clE];split<;>simp
 have hq:=XcG (clE e).data
 suffices hs:(∀f∈Xa6.getD k [],FOk (clE e) f)∧(Xa6.getD k []).foldl (XpE (clE e)) (ev0 (k+1:Nat))=clE e∧(XbP (clE e) (Xa6.getD k [])).length≤4*(clE e).data.length+30 by
  obtain ⟨s1,s2,s3⟩:=hs
  have hg:Xc3 (clE e):=⟨k,hk,q1,s1,s2⟩
  refine ⟨hg,?_,hdl⟩
  obtain ⟨k',p1,p2,p3,p4⟩:=hg.line
  obtain rfl:k'=k:=by have:(clE e).kind=e.kind:=rfl;omega
  have:=XrI hk
  rw [p3,XfE,Xvh]
  omega
 clear hdl
 obtain ⟨kind,job,ok,code,data,time,client,num⟩:=e
 have hm0:m0 0=0:=rfl
 have ht0:(if (1125899906842624:Int) < 0 then 7 else 0)=(0:Int):=rfl
 have htl:0≤time→(Xb5 (if 1125899906842624 < time then 7 else time).toNat).length≤18:=fun h0=>Xfl (Xj8 h0)
 match k,hk with
 | 0,_=>
   obtain rfl:kind=((1:Nat):Int):=q1
   obtain rfl:code=0:=q4
   obtain rfl:data=[]:=q5
   obtain rfl:time=0:=q6
   obtain rfl:client=0:=q7
   obtain rfl:num=0:=q8
   refine ⟨fun f hf=>?_,rfl,?_⟩
   ·rcases List.mem_cons.1 (show f∈[78,75] from hf) with rfl|hf
    ·exact (show NmE job from q2).1
    ·obtain rfl:f=75:=List.mem_singleton.1 hf
     exact trivial
   ·have t0:(Xcs (clE ⟨((1:Nat):Int),job,ok,0,[],0,0,0⟩) 78).length≤1:=show job.length≤1 from Nat.le_of_eq (show NmE job from q2).2
    have t1:(Xcs (clE ⟨((1:Nat):Int),job,ok,0,[],0,0,0⟩) 75).length≤6:=Xt9 _
    rw [show (XbP (clE ⟨((1:Nat):Int),job,ok,0,[],0,0,0⟩) (Xa6.getD 0 [])).length=(Xcs (clE ⟨((1:Nat):Int),job,ok,0,[],0,0,0⟩) 78).length+(Xcs (clE ⟨((1:Nat):Int),job,ok,0,[],0,0,0⟩) 75).length+2 from Xm0 _ _ _];omega
 | 1,_=>
   obtain rfl:kind=((2:Nat):Int):=q1
   obtain rfl:ok=false:=q3
   obtain rfl:data=[]:=q5
   obtain rfl:time=0:=q6
   obtain rfl:client=0:=q7
   obtain rfl:num=0:=q8
   refine ⟨fun f hf=>?_,rfl,?_⟩
   ·rcases List.mem_cons.1 (show f∈[78,67] from hf) with rfl|hf
    ·exact (show NmE job from q2).1
    ·obtain rfl:f=67:=List.mem_singleton.1 hf
     exact Xmr (n:=code) (by have:=(show -1≤code∧code≤1 from q4).2;omega)
   ·have t0:(Xcs (clE ⟨((2:Nat):Int),job,false,code,[],0,0,0⟩) 78).length≤1:=show job.length≤1 from Nat.le_of_eq (show NmE job from q2).2
    have t1:(Xcs (clE ⟨((2:Nat):Int),job,false,code,[],0,0,0⟩) 67).length≤3:=Xhj (n:=code) (by have:=(show -1≤code∧code≤1 from q4).2;omega)
    rw [show (XbP (clE ⟨((2:Nat):Int),job,false,code,[],0,0,0⟩) (Xa6.getD 1 [])).length=(Xcs (clE ⟨((2:Nat):Int),job,false,code,[],0,0,0⟩) 78).length+(Xcs (clE ⟨((2:Nat):Int),job,false,code,[],0,0,0⟩) 67).length+2 from Xm0 _ _ _];omega
 | 2,_=>
   obtain rfl:kind=((3:Nat):Int):=q1
   obtain rfl:ok=false:=q3
   obtain rfl:code=0:=q4
   obtain rfl:time=0:=q6
   obtain rfl:client=0:=q7
   obtain rfl:num=0:=q8
   refine ⟨fun f hf=>?_,rfl,?_⟩
   ·rcases List.mem_cons.1 (show f∈[78,68] from hf) with rfl|hf
    ·exact (show NmE job from q2).1
    ·obtain rfl:f=68:=List.mem_singleton.1 hf
     exact trivial
   ·have t0:(Xcs (clE ⟨((3:Nat):Int),job,false,0,data,0,0,0⟩) 78).length≤1:=show job.length≤1 from Nat.le_of_eq (show NmE job from q2).2
    have t1:(Xcs (clE ⟨((3:Nat):Int),job,false,0,data,0,0,0⟩) 68).length≤4*(clE ⟨((3:Nat):Int),job,false,0,data,0,0,0⟩).data.length+2:=hq
    rw [show (XbP (clE ⟨((3:Nat):Int),job,false,0,data,0,0,0⟩) (Xa6.getD 2 [])).length=(Xcs (clE ⟨((3:Nat):Int),job,false,0,data,0,0,0⟩) 78).length+(Xcs (clE ⟨((3:Nat):Int),job,false,0,data,0,0,0⟩) 68).length+2 from Xm0 _ _ _];omega
 | 3,_=>
   obtain rfl:kind=((4:Nat):Int):=q1
   obtain rfl:job=[]:=q2
   obtain rfl:ok=false:=q3
   obtain rfl:code=0:=q4
   obtain rfl:data=[]:=q5
   obtain rfl:client=0:=q7
   obtain rfl:num=0:=q8
   refine ⟨fun f hf=>?_,rfl,?_⟩
   ·obtain rfl:f=84:=List.mem_singleton.1 hf
    exact Xj8 (show 0≤time∧time≤18446744073709551615 from q6).1
   ·have t0:(Xcs (clE ⟨((4:Nat):Int),[],false,0,[],time,0,0⟩) 84).length≤18:=htl (show 0≤time∧time≤18446744073709551615 from q6).1
    rw [show (XbP (clE ⟨((4:Nat):Int),[],false,0,[],time,0,0⟩) (Xa6.getD 3 [])).length=(Xcs (clE ⟨((4:Nat):Int),[],false,0,[],time,0,0⟩) 84).length+1 from Xix _ _];omega
 | 4,_=>
   obtain rfl:kind=((5:Nat):Int):=q1
   obtain rfl:job=[]:=q2
   obtain rfl:ok=false:=q3
   obtain rfl:code=0:=q4
   obtain rfl:data=[]:=q5
   obtain rfl:client=0:=q7
   obtain rfl:num=0:=q8
   refine ⟨fun f hf=>?_,rfl,?_⟩
   ·obtain rfl:f=84:=List.mem_singleton.1 hf
    exact Xj8 (show 0≤time∧time≤18446744073709551615 from q6).1
   ·have t0:(Xcs (clE ⟨((5:Nat):Int),[],false,0,[],time,0,0⟩) 84).length≤18:=htl (show 0≤time∧time≤18446744073709551615 from q6).1
    rw [show (XbP (clE ⟨((5:Nat):Int),[],false,0,[],time,0,0⟩) (Xa6.getD 4 [])).length=(Xcs (clE ⟨((5:Nat):Int),[],false,0,[],time,0,0⟩) 84).length+1 from Xix _ _];omega
 | 5,_=>
   obtain rfl:kind=((6:Nat):Int):=q1
   obtain rfl:ok=false:=q3
   obtain rfl:code=0:=q4
   obtain rfl:data=[]:=q5
   obtain rfl:time=0:=q6
   obtain rfl:client=0:=q7
   obtain rfl:num=0:=q8
   refine ⟨fun f hf=>?_,rfl,?_⟩
   ·obtain rfl:f=78:=List.mem_singleton.1 hf
    exact (show NmE job from q2).1
   ·have t0:(Xcs (clE ⟨((6:Nat):Int),job,false,0,[],0,0,0⟩) 78).length≤1:=show job.length≤1 from Nat.le_of_eq (show NmE job from q2).2
    rw [show (XbP (clE ⟨((6:Nat):Int),job,false,0,[],0,0,0⟩) (Xa6.getD 5 [])).length=(Xcs (clE ⟨((6:Nat):Int),job,false,0,[],0,0,0⟩) 78).length+1 from Xix _ _];omega
 | 6,_=>
   obtain rfl:kind=((7:Nat):Int):=q1
   obtain rfl:ok=false:=q3
   obtain rfl:code=0:=q4
   obtain rfl:data=[]:=q5
   obtain rfl:time=0:=q6
   obtain rfl:client=0:=q7
   obtain rfl:num=0:=q8
   refine ⟨fun f hf=>?_,rfl,?_⟩
   ·obtain rfl:f=78:=List.mem_singleton.1 hf
    exact (show NmE job from q2).1
   ·have t0:(Xcs (clE ⟨((7:Nat):Int),job,false,0,[],0,0,0⟩) 78).length≤1:=show job.length≤1 from Nat.le_of_eq (show NmE job from q2).2
    rw [show (XbP (clE ⟨((7:Nat):Int),job,false,0,[],0,0,0⟩) (Xa6.getD 6 [])).length=(Xcs (clE ⟨((7:Nat):Int),job,false,0,[],0,0,0⟩) 78).length+1 from Xix _ _];omega
 | 7,_=>
   obtain rfl:kind=((8:Nat):Int):=q1
   obtain rfl:ok=false:=q3
   obtain rfl:code=0:=q4
   obtain rfl:data=[]:=q5
   obtain rfl:time=0:=q6
   obtain rfl:client=0:=q7
   obtain rfl:num=0:=q8
   refine ⟨fun f hf=>?_,rfl,?_⟩
   ·obtain rfl:f=78:=List.mem_singleton.1 hf
    exact (show NmE job from q2).1
   ·have t0:(Xcs (clE ⟨((8:Nat):Int),job,false,0,[],0,0,0⟩) 78).length≤1:=show job.length≤1 from Nat.le_of_eq (show NmE job from q2).2
    rw [show (XbP (clE ⟨((8:Nat):Int),job,false,0,[],0,0,0⟩) (Xa6.getD 7 [])).length=(Xcs (clE ⟨((8:Nat):Int),job,false,0,[],0,0,0⟩) 78).length+1 from Xix _ _];omega
 | 8,_=>
   obtain rfl:kind=((9:Nat):Int):=q1
   obtain rfl:job=[]:=q2
   obtain rfl:ok=false:=q3
   obtain rfl:code=0:=q4
   obtain rfl:time=0:=q6
   obtain rfl:client=0:=q7
   obtain rfl:num=0:=q8
   refine ⟨fun f hf=>?_,rfl,?_⟩
   ·obtain rfl:f=68:=List.mem_singleton.1 hf
    exact trivial
   ·have t0:(Xcs (clE ⟨((9:Nat):Int),[],false,0,data,0,0,0⟩) 68).length≤4*(clE ⟨((9:Nat):Int),[],false,0,data,0,0,0⟩).data.length+2:=hq
    rw [show (XbP (clE ⟨((9:Nat):Int),[],false,0,data,0,0,0⟩) (Xa6.getD 8 [])).length=(Xcs (clE ⟨((9:Nat):Int),[],false,0,data,0,0,0⟩) 68).length+1 from Xix _ _];omega
 | 9,_=>
   obtain rfl:kind=((10:Nat):Int):=q1
   obtain rfl:job=[]:=q2
   obtain rfl:ok=false:=q3
   obtain rfl:code=0:=q4
   obtain rfl:data=[]:=q5
   obtain rfl:time=0:=q6
   obtain rfl:client=0:=q7
   obtain rfl:num=0:=q8
   exact ⟨(fun f hf=>(by cases hf)),rfl,(by simp [XbP,Xa6])⟩
 | 10,_=>
   obtain rfl:kind=((11:Nat):Int):=q1
   obtain rfl:job=[]:=q2
   obtain rfl:ok=false:=q3
   obtain rfl:code=0:=q4
   obtain rfl:data=[]:=q5
   obtain rfl:time=0:=q6
   obtain rfl:num=0:=q8
   refine ⟨fun f hf=>?_,rfl,?_⟩
   ·obtain rfl:f=76:=List.mem_singleton.1 hf
    exact Xmr (n:=client) (by have:=(show 0≤client∧client≤3 from q7).2;omega)
   ·have t0:(Xcs (clE ⟨((11:Nat):Int),[],false,0,[],0,client,0⟩) 76).length≤3:=Xhj (n:=client) (by have:=(show 0≤client∧client≤3 from q7).2;omega)
    rw [show (XbP (clE ⟨((11:Nat):Int),[],false,0,[],0,client,0⟩) (Xa6.getD 10 [])).length=(Xcs (clE ⟨((11:Nat):Int),[],false,0,[],0,client,0⟩) 76).length+1 from Xix _ _];omega
 | 11,_=>
   obtain rfl:kind=((12:Nat):Int):=q1
   obtain rfl:job=[]:=q2
   obtain rfl:ok=false:=q3
   obtain rfl:code=0:=q4
   obtain rfl:time=0:=q6
   obtain rfl:num=0:=q8
   refine ⟨fun f hf=>?_,rfl,?_⟩
   ·rcases List.mem_cons.1 (show f∈[76,68] from hf) with rfl|hf
    ·exact Xmr (n:=client) (by have:=(show 0≤client∧client≤3 from q7).2;omega)
    ·obtain rfl:f=68:=List.mem_singleton.1 hf
     exact trivial
   ·have t0:(Xcs (clE ⟨((12:Nat):Int),[],false,0,data,0,client,0⟩) 76).length≤3:=Xhj (n:=client) (by have:=(show 0≤client∧client≤3 from q7).2;omega)
    have t1:(Xcs (clE ⟨((12:Nat):Int),[],false,0,data,0,client,0⟩) 68).length≤4*(clE ⟨((12:Nat):Int),[],false,0,data,0,client,0⟩).data.length+2:=hq
    rw [show (XbP (clE ⟨((12:Nat):Int),[],false,0,data,0,client,0⟩) (Xa6.getD 11 [])).length=(Xcs (clE ⟨((12:Nat):Int),[],false,0,data,0,client,0⟩) 76).length+(Xcs (clE ⟨((12:Nat):Int),[],false,0,data,0,client,0⟩) 68).length+2 from Xm0 _ _ _];omega
 | 12,_=>
   obtain rfl:kind=((13:Nat):Int):=q1
   obtain rfl:job=[]:=q2
   obtain rfl:ok=false:=q3
   obtain rfl:code=0:=q4
   obtain rfl:time=0:=q6
   obtain rfl:num=0:=q8
   refine ⟨fun f hf=>?_,rfl,?_⟩
   ·obtain rfl:f=76:=List.mem_singleton.1 hf
    exact Xmr (n:=client) (by have:=(show 0≤client∧client≤3 from q7).2;omega)
   ·have t0:(Xcs (clE ⟨((13:Nat):Int),[],false,0,data,0,client,0⟩) 76).length≤3:=Xhj (n:=client) (by have:=(show 0≤client∧client≤3 from q7).2;omega)
    rw [show (XbP (clE ⟨((13:Nat):Int),[],false,0,data,0,client,0⟩) (Xa6.getD 12 [])).length=(Xcs (clE ⟨((13:Nat):Int),[],false,0,data,0,client,0⟩) 76).length+1 from Xix _ _];omega
 | 13,_=>
   obtain rfl:kind=((14:Nat):Int):=q1
   obtain rfl:job=[]:=q2
   obtain rfl:ok=false:=q3
   obtain rfl:code=0:=q4
   obtain rfl:data=[]:=q5
   obtain rfl:time=0:=q6
   refine ⟨fun f hf=>?_,rfl,?_⟩
   ·rcases List.mem_cons.1 (show f∈[76,77] from hf) with rfl|hf
    ·exact Xmr (n:=client) (by have:=(show 0≤client∧client≤3 from q7).2;omega)
    ·obtain rfl:f=77:=List.mem_singleton.1 hf
     exact Xmr (n:=num) (by have:=(show -5≤num∧num≤294 from q8).2;omega)
   ·have t0:(Xcs (clE ⟨((14:Nat):Int),[],false,0,[],0,client,num⟩) 76).length≤3:=Xhj (n:=client) (by have:=(show 0≤client∧client≤3 from q7).2;omega)
    have t1:(Xcs (clE ⟨((14:Nat):Int),[],false,0,[],0,client,num⟩) 77).length≤3:=Xhj (n:=num) (by have:=(show -5≤num∧num≤294 from q8).2;omega)
    rw [show (XbP (clE ⟨((14:Nat):Int),[],false,0,[],0,client,num⟩) (Xa6.getD 13 [])).length=(Xcs (clE ⟨((14:Nat):Int),[],false,0,[],0,client,num⟩) 76).length+(Xcs (clE ⟨((14:Nat):Int),[],false,0,[],0,client,num⟩) 77).length+2 from Xm0 _ _ _];omega
theorem SE.good {m:Nat} {e:EF} (h:SE m e):Xc3 (clE e)∧(Xcr (clE e)).length≤4*e.data.length+39:=by
 obtain ⟨k,hk,h⟩:=h
 obtain ⟨h1,h2,h3⟩:=h.good hk
 exact ⟨h1,by omega⟩
theorem SE.data {m:Nat} {e:EF} (h:SE m e):e.data.length≤m:=by
 obtain ⟨k,hk,h⟩:=h
 have:=h.data
 split at this
 ·exact this
 ·rw [this];simp
def sw (l:List EF):Nat:=(l.map fun e=>4*e.data.length+40).sum
theorem Xpi:∀l:List EF,(∀e∈l,∃m,SE m e)→(Xbr (l.map clE)).length≤sw l
 | [],_=>by simp [Xbr,sw]
 | e :: l,h=>by
   obtain ⟨m,hm⟩:=h e (by simp)
   have h1:=hm.good.2
   have h2:=Xpi l fun g hg=>h g (by simp [hg])
   simp only [Xbr,sw,Xva,List.flatMap_cons,Xvh,Xu8,Xvb,List.sum_cons] at h2 ⊢
   omega
end Go.Proofs.YtdpobjakdplljaaGreatDoor

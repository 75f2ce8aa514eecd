import Derived.Test.YtdlblokjfoggpaaGreatDoorW28
import Derived.Test.YtdlblokjfoggpaaGreatDoorW27
import Derived.Test.YtdlblokjfoggpaaGreatDoorW7
import Derived.Test.YtdlblokjfoggpaaGreatDoorW26
import Derived.Test.YtdlblokjfoggpaaGreatDoorW40
import Derived.Test.YtdlblokjfoggpaaGreatDoorW13
import Derived.Test.YtdlblokjfoggpaaGreatDoorW10
import Derived.Test.YtdlblokjfoggpaaGreatDoorW22
import Derived.Test.YtdlblokjfoggpaaGreatDoorW9
/- What a text is read as, reckoned out: the same functions with a bound on their rounds. No program in sight. -/
set_option linter.unusedSimpArgs false
set_option linter.unusedVariables false
set_option maxRecDepth 100000
set_option maxHeartbeats 8000000
namespace Go.Proofs.YtdlblokjfoggpaaGreatDoor
open Go.RowKit
def Xug:Nat→List UInt8→Option (List UInt8 × Nat)
 | 0,_=>none
 | _+1,[]=>none
 | q+1,c :: r=>if c.toNat=34 then some ([],1) else match part (c :: r) with
   | none=>none
   | some x=>(Xug q ((c :: r).drop (max x.2 1))).map fun y=>(x.1 :: y.1,x.2+y.2)
theorem Xnt:∀(q:Nat) (l:List UInt8),l.length < q→Xug q l=quo l
 | 0,_,h=>by omega
 | q+1,[],_=>by rw [quo];rfl
 | q+1,c :: r,h=>by
   rw [quo,Xug]
   split
   ·rfl
   ·cases part (c :: r) with
    | none=>rfl
    | some x=>
      simp only
      rw [Xnt q _ (by simp only [List.length_drop,Xvw] at *;omega)]
def XlD:Nat→List UInt8→Nat
 | 0,_=>0
 | _+1,[]=>0
 | q+1,c :: r=>if c.toNat=32∨c.toNat=9∨c.toNat=10∨c.toNat=13 then XlD q r+1 else if c.toNat=35 then cmt (c :: r)+XlD q ((c :: r).drop (max (cmt (c :: r)) 1)) else 0
theorem Xju:∀(q:Nat) (l:List UInt8),l.length < q→XlD q l=skp l
 | 0,_,h=>by omega
 | q+1,[],_=>by rw [skp];rfl
 | q+1,c :: r,h=>by
   rw [skp,XlD]
   split
   ·rw [Xju q r (by simp only [Xvw] at h;omega)]
   ·split
    ·rw [Xju q _ (by simp only [List.length_drop,Xvw] at *;omega)]
    ·rfl
def XuJ (q:Nat):List UInt8→Except Int (Int × List UInt8 × Nat)
 | []=>.error 50
 | c :: r=>
   if Xez c then .ok (1,(c :: r).take (spn XeA (c :: r)),spn XeA (c :: r))
   else if XbX c then
    if 18 < spn XbX (c :: r)∨1 < spn XbX (c :: r)∧c.toNat=48 then .error 53 else .ok (2,(c :: r).take (spn XbX (c :: r)),spn XbX (c :: r))
   else if c.toNat=34 then match Xug q r with
    | none=>.error 51
    | some x=>.ok (3,x.1,x.2+1)
   else if c.toNat=47 then match sla r with
    | none=>.error 52
    | some x=>.ok (4,x.1,x.2+1)
   else if c.toNat=123∨c.toNat=125∨c.toNat=44∨c.toNat=61 then .ok (5,[c],1)
   else .error 50
theorem XrA (q:Nat):∀l:List UInt8,l.length≤q→XuJ q l=one l
 | [],_=>rfl
 | c :: r,h=>by
   unfold XuJ one
   simp only
   rw [Xnt q r (by simp only [Xvw] at h;omega)]
   rfl
def Xub:Nat→Nat × Nat→Nat→List UInt8→Except Flt (List Tok)
 | 0,_,_,_=>.ok []
 | q+1,p,n,l=>
   match l.drop (XlD (q+2) l) with
   | []=>.ok [⟨6,[],(plc p l).1,(plc p l).2⟩]
   | c :: r=>
     match XuJ (q+2) (c :: r) with
     | .error e=>.error ⟨e,(plc p (l.take (XlD (q+2) l))).1,(plc p (l.take (XlD (q+2) l))).2⟩
     | .ok x=>if 2000≤n then .error ⟨1,(plc p (l.take (XlD (q+2) l))).1,(plc p (l.take (XlD (q+2) l))).2⟩
       else (Xub q (plc p (l.take (XlD (q+2) l+x.2.2))) (n+1) ((c :: r).drop (max x.2.2 1))).map (⟨x.1,x.2.1,(plc p (l.take (XlD (q+2) l))).1,(plc p (l.take (XlD (q+2) l))).2⟩ :: ·)
theorem XmX:∀(q:Nat) (p:Nat × Nat) (n:Nat) (l:List UInt8),l.length < q→Xub q p n l=Xcu p n l
 | 0,_,_,_,h=>by omega
 | q+1,p,n,l,h=>by
   unfold Xub
   rw [Xju (q+2) l (by omega)]
   cases hd:l.drop (skp l) with
   | nil=>rw [XdK p n l hd]
   | cons c r=>
     have hlen:=congrArg List.length hd
     simp only [List.length_drop,Xvw] at hlen
     simp only
     rw [XrA (q+2) (c :: r) (by simp only [Xvw];omega)]
     cases h1:one (c :: r) with
     | error e=>rw [XdJ p n l c r e hd h1]
     | ok x=>
       simp only
       by_cases hn:2000≤n
       ·rw [if_pos hn,Xdh p n l c r x hd h1 hn]
       ·obtain ⟨a,b,k⟩:=x
        have g:=Xgb h1
        simp only at g
        rw [if_neg hn,XdL p n l c r a b k hd h1 g.1 (by omega),show max k 1=k from by omega,XmX q _ _ _ (by simp only [List.length_drop,Xvw];omega)]
def XuG (l:List UInt8):Except Flt (List Tok):=if 8192 < l.length then .error ⟨1,0,0⟩ else Xub (l.length+1) (1,1) 0 l
theorem Xrn (l:List UInt8):XuG l=lex l:=by
 unfold XuG lex
 rw [XmX _ _ _ _ (Nat.lt_succ_self _)]
def XhU {α:Type} (el:Nat→List α→Except Flt α) (st:Nat) (ts:List Tok):Nat→Nat→List α→Except Flt (List α × Nat)
 | 0,_,_=>.ok ([],0)
 | q+1,k,out=>match el k out with
   | .error f=>.error f
   | .ok x=>if k+st < ts.length∧gIs ts (k+st) [44]=true then XhU el st ts q (k+st+1) (out++[x]) else .ok (out++[x],k+st)
theorem Xf4 {α:Type} (el:Nat→List α→Except Flt α) (st:Nat) (ts:List Tok):∀(q k:Nat) (out:List α),ts.length - k < q→XhU el st ts q k out=Xc7 el st ts k out
 | 0,_,_,h=>by omega
 | q+1,k,out,h=>by
   rw [Xc7,XhU]
   cases el k out with
   | error f=>rfl
   | ok x=>
     simp only
     by_cases hc:k+st < ts.length∧gIs ts (k+st) [44]=true
     ·rw [if_pos hc,dif_pos hc,Xf4 el st ts q _ _ (by omega)]
     ·rw [if_neg hc,dif_neg hc]
def Xmw (ts:List Tok) (k:Nat) (w:List UInt8) (j:JF):Except Flt (JF × Nat):=
 if w=Xku then (XcY ts k 3 512).map fun t=>({ j with run:=t.text },k+1)
 else if w=Xhr then (Xq3 ts k j.env).map fun v=>({ j with env:=j.env++[v] },k+3)
 else if w=XdP then (XhU (Xfr ts) 1 ts (ts.length+1) k []).map fun x=>({ j with needs:=x.1 },x.2)
 else if w=Xfp then (XcY ts k 4 128).map fun t=>({ j with hasr:=true,ready:=t.text },k+1)
 else if w=Xc4 then (XoD ts k).map fun n=>({ j with restart:=n },k+1)
 else if w=XcE then do
  let a ←Xel ts k
  let b ←Xel ts (k+1)
  let c ←Xel ts (k+2)
  .ok ({ j with base:=a,cap:=b,stable:=c },k+3)
 else if w=XeP then do
  let n ←Xel ts k
  if n < 1∨16 < n then .error (flt 2 (tkA ts k)) else
  let m ←Xel ts (k+1)
  .ok ({ j with burst:=n,window:=m },k+2)
 else (XhU (Xe1 ts) 2 ts (ts.length+1) k []).map fun x=>({ j with ladder:=x.1 },x.2)
theorem Xmx (ts:List Tok) (k:Nat) (w:List UInt8) (j:JF):Xmw ts k w j=XcG ts k w j:=by
 unfold Xmw XcG
 rw [Xf4 _ _ _ _ _ _ (by omega),Xf4 _ _ _ _ _ _ (by omega)]
def Xf2 (ts:List Tok) (name:Tok):Nat→Nat→List (List UInt8)→JF→Except Flt (JF × Nat)
 | 0,_,_,j=>.ok (j,0)
 | q+1,k,seen,j=>
   if gIs ts k [125] then (if seen.contains Xku then .ok (j,k+1) else .error (flt 6 name))
   else if (tkA ts k).kind≠1∨¬Xf6.contains (tkA ts k).text then .error (flt 60 (tkA ts k))
   else if (tkA ts k).text≠Xhr∧seen.contains (tkA ts k).text then .error (flt 5 (tkA ts k))
   else match Xmw ts (k+1) (tkA ts k).text j with
    | .error f=>.error f
    | .ok x=>if k < x.2∧k < ts.length then Xf2 ts name q x.2 (if (tkA ts k).text=Xhr then seen else seen++[(tkA ts k).text]) x.1 else .error (flt 60 (tkA ts k))
theorem XgF (ts:List Tok) (name:Tok):∀(q k:Nat) (seen:List (List UInt8)) (j:JF),ts.length - k < q→Xf2 ts name q k seen j=Xcq ts name k seen j
 | 0,_,_,_,h=>by omega
 | q+1,k,seen,j,h=>by
   rw [Xcq,Xf2,Xmx]
   split
   ·rfl
   split
   ·rfl
   split
   ·rfl
   cases XcG ts (k+1) (tkA ts k).text j with
   | error f=>rfl
   | ok x=>
     simp only
     by_cases hc:k < x.2∧k < ts.length
     ·rw [if_pos hc,dif_pos hc,XgF ts name q _ _ _ (by omega)]
     ·rw [if_neg hc,dif_neg hc]
def Xq0 (ts:List Tok) (k:Nat) (full:Bool):Except Flt (JF × Nat):=do
 let w ←XcY ts k 1 8192
 if w.text≠XuZ then .error (flt 60 w) else
 let t ←XeZ ts (k+1) full
 Xgu ts (k+2) [123]
 Xf2 ts t (ts.length+1) (k+3) [] (Xj3 t)
theorem XoC (ts:List Tok) (k:Nat) (full:Bool):Xq0 ts k full=XjZ ts k full:=by
 unfold Xq0 XjZ
 have e:∀t,Xf2 ts t (ts.length+1) (k+3) [] (Xj3 t)=Xcq ts t (k+3) [] (Xj3 t):=fun t=>XgF _ _ _ _ _ _ (by omega)
 simp only [e]
def Xj0 (ts:List Tok):Nat→Nat→List JF→Except Flt (List JF)
 | 0,_,out=>.ok out
 | q+1,k,out=>if (tkA ts k).kind=6 then .ok out
   else match Xq0 ts k (decide (32≤out.length)) with
    | .error f=>.error f
    | .ok x=>if k < x.2∧k < ts.length then Xj0 ts q x.2 (out++[x.1]) else .ok out
theorem XhT (ts:List Tok):∀(q k:Nat) (out:List JF),ts.length - k < q→Xj0 ts q k out=Xd0 ts k out
 | 0,_,_,h=>by omega
 | q+1,k,out,h=>by
   rw [Xd0,Xj0,XoC]
   split
   ·rfl
   cases XjZ ts k (decide (32≤out.length)) with
   | error f=>rfl
   | ok x=>
     simp only
     by_cases hc:k < x.2∧k < ts.length
     ·rw [if_pos hc,dif_pos hc,XhT ts q _ _ (by omega)]
     ·rw [if_neg hc,dif_neg hc]
def XmA (s:List UInt8):Except Flt (List JF):=match XuG s with
 | .error f=>.error f
 | .ok ts=>Xj0 ts (ts.length+1) 0 []
theorem Xe0 (s:List UInt8):XmA s=XcL s:=by
 unfold XmA XcL
 rw [Xrn]
 cases lex s with
 | error f=>rfl
 | ok ts=>exact XhT ts _ _ _ (by omega)
def ex1:List UInt8:=[106,111,98,32,97,32,123,32,114,117,110,32,34,120,34,32,125]
theorem XkZ:XcL ex1=.ok [{ Xj3 ⟨1,[97],1,5⟩ with run:=[120] }]:=by rw [←Xe0];rfl
def exA:List UInt8:=[106,111,98,32,97,32,123,32,114,117,110,32,34,120,34,32,110,101,101,100,115,32,97,32,125]
def exB:List UInt8:=[106,111,98,32,97,32,123,32,114,117,110,32,34,120,34,32,110,101,101,100,115,32,98,32,125]
def Xt9:JF:={ Xj3 ⟨1,[97],1,5⟩ with run:=[120] }
def XuA:JF:={ Xt9 with needs:=[[97]] }
def XuB:JF:={ Xt9 with needs:=[[98]] }
theorem Xk0:XcL exA=.ok [XuA]:=by rw [←Xe0];rfl
theorem Xk1:XcL exB=.ok [XuB]:=by rw [←Xe0];rfl
theorem XsF:Xly [XuA]=(70,1,5):=by decide +kernel
theorem XsG:Xly [XuB]=(4,1,5):=by decide +kernel
theorem XsH:Xly [Xt9]=(0,0,0):=by decide +kernel
theorem XmZ (ad:Nat→Addr) (hinj:Xfg ad) (s:List UInt8) (hs:s.length≤1000000) (l:List JF) (hp:XcL s=.ok l) (hl:l.length≤32) (hj:∀j∈l,Xt1 j) (c a b:Int) (h0:Xly l=(c,a,b)):XaM Tryz.prog 15 [.sen ad] [.x (.string (bs s))] (fun r H'=>r=(if c=0 then .tup [.sq l.length (jfa l),.x (.agg #[.int .i64 0,.int .i64 0,.int .i64 0])] else .tup [.x (.slice none 0 0),.x (.agg #[.int .i64 c,.int .i64 a,.int .i64 b])])∧H'=[.sen ad]):=by
 have h1:=XoE s hs
 rw [hp] at h1
 simp only [Xua] at h1
 have h2:=Xme ad hinj l hl hj
 rw [h0] at h2
 simp only at h2
 have h2:=Lib.hid h2
 clear hp h0
 by_cases hc:c=0
 ·rw [if_pos hc]
  subst hc
  refine Xbs Tryz.func15 Tryz.ntmps15 ?_
  (repeat' (first|refine Wkx.go ?_|refine XaJ ?_|refine XaG ?_|(refine XaE (fun h=>?_) (fun h=>?_)<;>first|(exact absurd h (by decide))|(exfalso;omega;done)|skip)|refine XaF ?_|refine Xai ?_ (h:=by first|exact fun _=>Xb3 rfl rfl Tryz.func40 (h1)|fail)|refine Xai ?_|(refine Xaa rfl ?_;(first|((refine Xa5 Tryz.func6 [_] rfl rfl (by (repeat' (first|exact Xvt _|exact List.Perm.nil|refine XvJ _ ?_|refine (XvG (l₁:=[_])).trans (XvJ _ ?_)|refine (XvG (l₁:=[_,_])).trans (XvJ _ ?_)|refine (XvG (l₁:=[_,_,_])).trans (XvJ _ ?_)|refine (XvG (l₁:=[_,_,_,_])).trans (XvJ _ ?_)|refine (XvG (l₁:=[_,_,_,_,_])).trans (XvJ _ ?_)|refine (XvG (l₁:=[_,_,_,_,_,_])).trans (XvJ _ ?_)|refine (XvG (l₁:=[_,_,_,_,_,_,_])).trans (XvJ _ ?_)|refine (XvG (l₁:=[_,_,_,_,_,_,_,_])).trans (XvJ _ ?_)))) h2.out ?_;rintro _ _ ⟨rfl,rfl⟩);refine XaO ?_)|refine Xax ?_|refine Xaw ?_|refine Xav (fun ad cap=>?_)|refine Xat (fun b=>?_)|refine Xas (fun b=>?_)|refine Xau (fun b=>?_)|fail))|fail))
  refine Xab _ _ (Xcn rfl (RV.tmp _) (RV.cell 2 rfl rfl XaR.out (by simp) (by simp)) (Xaq.mk' [.box _ _,.box _ _] [.sen ad] (by (repeat' (first|exact Xvt _|exact List.Perm.nil|refine XvJ _ ?_|refine (XvG (l₁:=[_])).trans (XvJ _ ?_)|refine (XvG (l₁:=[_,_])).trans (XvJ _ ?_)|refine (XvG (l₁:=[_,_,_])).trans (XvJ _ ?_)|refine (XvG (l₁:=[_,_,_,_])).trans (XvJ _ ?_)|refine (XvG (l₁:=[_,_,_,_,_])).trans (XvJ _ ?_)|refine (XvG (l₁:=[_,_,_,_,_,_])).trans (XvJ _ ?_)|refine (XvG (l₁:=[_,_,_,_,_,_,_])).trans (XvJ _ ?_)|refine (XvG (l₁:=[_,_,_,_,_,_,_,_])).trans (XvJ _ ?_)))) (Xap.refl _ _) (VwL.refl _ _))) ⟨rfl,rfl⟩
 ·rw [if_neg hc]
  refine Xbs Tryz.func15 Tryz.ntmps15 ?_
  (repeat' (first|refine Wkx.go ?_|refine XaJ ?_|refine XaG ?_|(refine XaE (fun h=>?_) (fun h=>?_)<;>first|(exact absurd h (by decide))|(exfalso;omega;done)|skip)|refine XaF ?_|refine Xai ?_ (h:=by first|exact fun _=>Xb3 rfl rfl Tryz.func40 (h1)|fail)|refine Xai ?_|(refine Xaa rfl ?_;(first|((refine Xa5 Tryz.func6 [_] rfl rfl (by (repeat' (first|exact Xvt _|exact List.Perm.nil|refine XvJ _ ?_|refine (XvG (l₁:=[_])).trans (XvJ _ ?_)|refine (XvG (l₁:=[_,_])).trans (XvJ _ ?_)|refine (XvG (l₁:=[_,_,_])).trans (XvJ _ ?_)|refine (XvG (l₁:=[_,_,_,_])).trans (XvJ _ ?_)|refine (XvG (l₁:=[_,_,_,_,_])).trans (XvJ _ ?_)|refine (XvG (l₁:=[_,_,_,_,_,_])).trans (XvJ _ ?_)|refine (XvG (l₁:=[_,_,_,_,_,_,_])).trans (XvJ _ ?_)|refine (XvG (l₁:=[_,_,_,_,_,_,_,_])).trans (XvJ _ ?_)))) h2.out ?_;rintro _ _ ⟨rfl,rfl⟩);refine XaO ?_)|refine Xax ?_|refine Xaw ?_|refine Xav (fun ad cap=>?_)|refine Xat (fun b=>?_)|refine Xas (fun b=>?_)|refine Xau (fun b=>?_)|fail))|fail))
  refine XbO mixed ?_
  (refine Xhp 1 ?_)
  (refine Xdn 0 ?_;(first|refine Xcb ?_|refine Xax ?_|refine Xaw ?_|refine Xav (fun ad cap=>?_)|refine Xat (fun b=>?_)|refine Xas (fun b=>?_)|refine Xau (fun b=>?_)|fail))
  (refine Xdn 2 ?_;(first|refine Xcb ?_|refine Xax ?_|refine Xaw ?_|refine Xav (fun ad cap=>?_)|refine Xat (fun b=>?_)|refine Xas (fun b=>?_)|refine Xau (fun b=>?_)|fail))
  refine Xar (by decide +kernel) ?_
  (repeat' (first|refine Wkx.go ?_|refine XaJ ?_|refine XaG ?_|(refine XaE (fun h=>?_) (fun h=>?_)<;>first|(exact absurd h (by decide))|(exfalso;omega;done)|skip)|refine XaF ?_|refine Xai ?_|(refine Xaa rfl ?_;(first|refine Xax ?_|refine Xaw ?_|refine Xav (fun ad cap=>?_)|refine Xat (fun b=>?_)|refine Xas (fun b=>?_)|refine Xau (fun b=>?_)|fail))|fail))
  refine Xab _ _ (Xcn rfl (RV.tmp _) (RV.cell 2 rfl rfl XaR.out (by simp) (by simp)) (Xaq.mk' [.box _ _,.box _ _] [.sen ad] (by (repeat' (first|exact Xvt _|exact List.Perm.nil|refine XvJ _ ?_|refine (XvG (l₁:=[_])).trans (XvJ _ ?_)|refine (XvG (l₁:=[_,_])).trans (XvJ _ ?_)|refine (XvG (l₁:=[_,_,_])).trans (XvJ _ ?_)|refine (XvG (l₁:=[_,_,_,_])).trans (XvJ _ ?_)|refine (XvG (l₁:=[_,_,_,_,_])).trans (XvJ _ ?_)|refine (XvG (l₁:=[_,_,_,_,_,_])).trans (XvJ _ ?_)|refine (XvG (l₁:=[_,_,_,_,_,_,_])).trans (XvJ _ ?_)|refine (XvG (l₁:=[_,_,_,_,_,_,_,_])).trans (XvJ _ ?_)))) (Xap.refl _ _) (VwL.refl _ _))) ⟨rfl,rfl⟩
structure DK (l:List Int):Prop where
 len:l.length≤140737488355328
 vals:I64 l
theorem XoX (l:List Int) (k n:Nat) (hn:1≤n):∃v:Nat,Xm9 l k n=v∧v < n:=by
 unfold Xm9
 split
 ·refine ⟨(l[k] % n).toNat,?_,?_⟩
  ·have:=Int.emod_nonneg l[k] (show (n:Int)≠0 by omega);omega
  ·have h1:=Int.emod_nonneg l[k] (show (n:Int)≠0 by omega)
   have h2:=Int.emod_lt_of_pos l[k] (show (0:Int) < n by omega);omega
 ·exact ⟨0,rfl,by omega⟩
theorem Xbh (b:Nat) (l:List Int) (k n:Nat) (hd:DK l) (hk:k≤l.length) (hn:1≤n) (hn2:n≤1000000):XaM Tryz.prog 34 [.box b [.sq l.length (ia l),.x (.int .i64 k)]] [.x (.pointer (some ⟨b,0,none⟩)),.x (.int .i64 n)] (fun r H'=>∃v k':Nat,r=.x (.int .i64 v)∧H'=[.box b [.sq l.length (ia l),.x (.int .i64 k')]]∧v < n∧k'≤l.length):=by
 refine (Xm8 b l k n hd.len hk hn hn2 hd.vals).mono ?_
 rintro r H' ⟨rfl,rfl⟩
 obtain ⟨v,e,hv⟩:=XoX l k n hn
 exact ⟨v,min (k+1) l.length,by rw [e],rfl,hv,by omega⟩
theorem Xch (b:Nat) (l:List Int) (k lo hi:Nat) (hd:DK l) (hk:k≤l.length) (hn:lo≤hi) (hn2:hi≤1000):XaM Tryz.prog 66 [.box b [.sq l.length (ia l),.x (.int .i64 k)]] [.x (.pointer (some ⟨b,0,none⟩)),.x (.int .i64 lo),.x (.int .i64 hi)] (fun r H'=>∃v k':Nat,r=.x (.int .i64 v)∧H'=[.box b [.sq l.length (ia l),.x (.int .i64 k')]]∧lo≤v∧v≤hi∧k'≤l.length):=by
 refine Xbs Tryz.func66 Tryz.ntmps66 ?_
 have e:(hi:Int) - lo+1=((hi - lo+1:Nat):Int):=by omega
 (have wx:=@e;(repeat' (first|refine Wkx.go ?_|refine XaJ ?_|refine XaG ?_|(refine XaE (fun h=>?_) (fun h=>?_)<;>first|(exact absurd h (by decide))|(exfalso;omega;done)|skip)|refine XaF ?_|refine Xai ?_|(refine Xaa rfl ?_;(first|((refine Xa5 Tryz.func34 ([_]) rfl rfl (.refl _) (Xbh b l k (hi - lo+1) hd hk (by omega) (by omega)) ?_;rintro _ _ ⟨v,k',rfl,rfl,hv,hk'⟩);refine XaO ?_)|refine Xax ?_|refine Xaw ?_|refine Xav (fun ad cap=>?_)|refine Xat (fun b=>?_)|refine Xas (fun b=>?_)|refine Xau (fun b=>?_)|fail))|fail)))<;>(try clear wx)
 refine Xab _ _ (Xa0 rfl (RV.tmp _) (XcJ (D:=[]))) ?_
 exact ⟨lo+v,k',by congr 2,rfl,by omega,by omega,hk'⟩
theorem Xvk (l:List (List UInt8)) (k:Nat) (h:k < l.length):(sa l).drop k=.x (.string (bs (l.getD k []))) :: sa (l.drop (k+1)):=by
 rw [Xei l k h,List.getD_eq_getElem?_getD,List.getElem?_eq_getElem h];rfl
theorem Xgf (l:List (List UInt8)) (v:Nat) (h:v < l.length):((sa l).drop v).getD 0 .top=.x (.string (bs (l.getD v []))):=by
 rw [Xvk l v h];rfl
theorem Xsx (l:List (List UInt8)) (p:List UInt8→Prop) (h:∀s∈l,p s) (v:Nat) (hv:v < l.length):p (l.getD v []):=by
 rw [List.getD_eq_getElem?_getD,List.getElem?_eq_getElem hv];exact h _ (List.getElem_mem hv)
def names:List (List UInt8):=[[97],[98],[99],[100],[120]]
theorem Xp8 (bd:Nat) (l:List Int) (k:Nat) (hd:DK l) (hk:k≤l.length):XaM Tryz.prog 35 [.box bd [.sq l.length (ia l),.x (.int .i64 k)]] [.x (.pointer (some ⟨bd,0,none⟩))] (fun r H'=>∃(s:List UInt8) (k':Nat),r=.x (.string (bs s))∧H'=[.box bd [.sq l.length (ia l),.x (.int .i64 k')]]∧s.length=1∧k'≤l.length):=by
 refine Xbs Tryz.func35 Tryz.ntmps35 ?_
 (repeat' (first|refine Wkx.go ?_|refine XaJ ?_|refine XaG ?_|(refine XaE (fun h=>?_) (fun h=>?_)<;>first|(exact absurd h (by decide))|(exfalso;omega;done)|skip)|refine XaF ?_|refine Xlw ?_|refine Xai ?_|(refine Xaa rfl ?_;(first|((refine Xa5 Tryz.func34 [_] rfl rfl (.refl _) (Xbh _ l k 5 hd hk (by omega) (by omega)) ?_;rintro _ _ ⟨v,k',rfl,rfl,hv,hk'⟩);refine XaO ?_)|((refine Xa5 Tryz.func34 [_] rfl rfl (XvG (l₁:=[_])) (Xbh _ l k 5 hd hk (by omega) (by omega)) ?_;rintro _ _ ⟨v,k',rfl,rfl,hv,hk'⟩);refine XaO ?_)|refine Xax ?_|refine Xaw ?_|refine Xav (fun ad cap=>?_)|refine Xat (fun b=>?_)|refine Xas (fun b=>?_)|refine Xau (fun b=>?_)|fail))|fail))
 refine Xab _ _ (Xa0 rfl (RV.tmp _) (Xaq.mk' [] [_] (Xvt _) (Xap.refl _ _) (VwL.refl _ _))) ⟨names.getD v [],k',Xgf names v hv,rfl,?_,hk'⟩
 exact Xsx names (fun s=>s.length=1) (by decide) v hv
def Xo8:List (List UInt8):=[[111,107],[],[114,46,42,121,36],[94,117,112,124,103,111,43],[91,48,45,57,93,43,120,63],[40,97,98,41,42,99],[94,36]]
theorem Xlh:XaM Tryz.prog 96 [] [] (fun r H'=>r=.sq 7 (sa Xo8)∧H'=[]):=by
 refine Xbs Tryz.func96 Tryz.ntmps96 ?_
 (repeat' (first|refine Wkx.go ?_|refine XaJ ?_|refine XaG ?_|(refine XaE (fun h=>?_) (fun h=>?_)<;>first|(exact absurd h (by decide))|(exfalso;omega;done)|skip)|refine XaF ?_|refine Xlw ?_|refine Xai ?_|(refine Xaa rfl ?_;(first|refine Xax ?_|refine Xaw ?_|refine Xav (fun ad cap=>?_)|refine Xat (fun b=>?_)|refine Xas (fun b=>?_)|refine Xau (fun b=>?_)|fail))|fail))
 refine Xab _ _ (Xa0 rfl (RV.tmp _) (XcJ (D:=[]))) ?_
 exact ⟨rfl,rfl⟩
end Go.Proofs.YtdlblokjfoggpaaGreatDoor

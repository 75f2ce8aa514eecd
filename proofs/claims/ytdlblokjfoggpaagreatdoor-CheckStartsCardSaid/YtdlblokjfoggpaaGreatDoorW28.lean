import Derived.Test.YtdlblokjfoggpaaGreatDoorW21
import Derived.Test.YtdlblokjfoggpaaGreatDoorW27
import Derived.Test.YtdlblokjfoggpaaGreatDoorW8
import Derived.Test.YtdlblokjfoggpaaGreatDoorW13
import Derived.Test.YtdlblokjfoggpaaGreatDoorW6
import Derived.Test.YtdlblokjfoggpaaGreatDoorW26
/- The jobs of a Procfile, in plain Lean: what both parsers compute. No program in sight. -/
set_option linter.unusedSimpArgs false
set_option linter.unusedVariables false
set_option maxRecDepth 100000
set_option maxHeartbeats 8000000
namespace Go.Proofs.YtdlblokjfoggpaaGreatDoor
open Go.RowKit
def tkA (ts:List Tok) (k:Nat):Tok:=ts.getD k ⟨6,[],0,0⟩
def flt (e:Int) (t:Tok):Flt:=⟨e,t.line,t.col⟩
def XcY (ts:List Tok) (k:Nat) (kind:Int) (most:Nat):Except Flt Tok:=
 if (tkA ts k).kind≠kind then .error (flt 60 (tkA ts k)) else if most < (tkA ts k).text.length then .error (flt 1 (tkA ts k)) else .ok (tkA ts k)
def gIs (ts:List Tok) (k:Nat) (s:List UInt8):Bool:=(tkA ts k).kind == 5 && (tkA ts k).text == s
def Xgu (ts:List Tok) (k:Nat) (s:List UInt8):Except Flt Unit:=if gIs ts k s then .ok () else .error (flt 60 (tkA ts k))
def XlC (l:List UInt8):Int:=l.foldl (fun n c=>10*n+(c.toNat - 48)) 0
def Xel (ts:List Tok) (k:Nat):Except Flt Int:=(XcY ts k 2 8192).map fun t=>XlC t.text
def Xku:List UInt8:=[114,117,110]
def Xhr:List UInt8:=[101,110,118]
def XdP:List UInt8:=[110,101,101,100,115]
def Xfp:List UInt8:=[114,101,97,100,121]
def Xc4:List UInt8:=[114,101,115,116,97,114,116]
def XcE:List UInt8:=[98,97,99,107,111,102,102]
def XeP:List UInt8:=[98,117,114,115,116]
def Xlt:List UInt8:=[115,116,111,112]
def XuZ:List UInt8:=[106,111,98]
def Xf6:List (List UInt8):=[Xku,Xhr,XdP,Xfp,Xc4,XcE,XeP,Xlt]
def XrX (s:List UInt8):Int:=
 if s=[72,85,80] then 1 else if s=[73,78,84] then 2 else if s=[81,85,73,84] then 3 else if s=[85,83,82,49] then 10 else if s=[85,83,82,50] then 12 else if s=[84,69,82,77] then 15 else 0
def XeZ (ts:List Tok) (k:Nat) (full:Bool):Except Flt Tok:=do
 let t ←XcY ts k 1 32
 if full then .error (flt 1 t) else .ok t
def Xq3 (ts:List Tok) (k:Nat) (env:List (List UInt8 × List UInt8)):Except Flt (List UInt8 × List UInt8):=do
 let t ←XeZ ts k (decide (16≤env.length))
 if env.any (·.1 == t.text) then .error (flt 5 t) else
 Xgu ts (k+1) [61]
 let v ←XcY ts (k+2) 3 512
 .ok (t.text,v.text)
def Xfr (ts:List Tok) (k:Nat) (out:List (List UInt8)):Except Flt (List UInt8):=do
 let t ←XeZ ts k (decide (16≤out.length))
 if out.contains t.text then .error (flt 5 t) else .ok t.text
def Xe1 (ts:List Tok) (k:Nat) (out:List (Int × Int)):Except Flt (Int × Int):=do
 let t ←XcY ts k 1 8192
 if 5≤out.length then .error (flt 1 t) else
 if XrX t.text=0 then .error (flt 4 t) else
 let n ←Xel ts (k+1)
 .ok (XrX t.text,n)
def Xc7 {α:Type} (el:Nat→List α→Except Flt α) (st:Nat) (ts:List Tok) (k:Nat) (out:List α):Except Flt (List α × Nat):=
 match el k out with
 | .error f=>.error f
 | .ok x=>if h:k+st < ts.length∧gIs ts (k+st) [44]=true then Xc7 el st ts (k+st+1) (out++[x]) else .ok (out++[x],k+st)
termination_by ts.length - k
decreasing_by omega
def XoD (ts:List Tok) (k:Nat):Except Flt Int:=do
 let t ←XcY ts k 1 8192
 if t.text=[97,108,119,97,121,115] then .ok 3 else if t.text=[111,110,45,102,97,105,108,117,114,101] then .ok 2 else if t.text=[110,101,118,101,114] then .ok 1 else .error (flt 60 t)
def XcG (ts:List Tok) (k:Nat) (w:List UInt8) (j:JF):Except Flt (JF × Nat):=
 if w=Xku then (XcY ts k 3 512).map fun t=>({ j with run:=t.text },k+1)
 else if w=Xhr then (Xq3 ts k j.env).map fun v=>({ j with env:=j.env++[v] },k+3)
 else if w=XdP then (Xc7 (Xfr ts) 1 ts k []).map fun x=>({ j with needs:=x.1 },x.2)
 else if w=Xfp then (XcY ts k 4 128).map fun t=>({ j with hasr:=true,ready:=t.text },k+1)
 else if w=Xc4 then (XoD ts k).map fun n=>({ j with restart:=n },k+1)
 else if w=XcE then do
  let a ←Xel ts k
  let b ←Xel ts (k+1)
  let c ←Xel ts (k+2)
  .ok ({ j with base:=a,cap:=b,stable:=c },k+3)
 else if w=XeP then do
  let n ←Xel ts k
  if n < 1∨16 < n then .error (flt 2 (tkA ts k)) else
  let m ←Xel ts (k+1)
  .ok ({ j with burst:=n,window:=m },k+2)
 else (Xc7 (Xe1 ts) 2 ts k []).map fun x=>({ j with ladder:=x.1 },x.2)
def Xcq (ts:List Tok) (name:Tok) (k:Nat) (seen:List (List UInt8)) (j:JF):Except Flt (JF × Nat):=
 if gIs ts k [125] then (if seen.contains Xku then .ok (j,k+1) else .error (flt 6 name))
 else if (tkA ts k).kind≠1∨¬Xf6.contains (tkA ts k).text then .error (flt 60 (tkA ts k))
 else if (tkA ts k).text≠Xhr∧seen.contains (tkA ts k).text then .error (flt 5 (tkA ts k))
 else match XcG ts (k+1) (tkA ts k).text j with
  | .error f=>.error f
  | .ok x=>if h:k < x.2∧k < ts.length then Xcq ts name x.2 (if (tkA ts k).text=Xhr then seen else seen++[(tkA ts k).text]) x.1 else .error (flt 60 (tkA ts k))
termination_by ts.length - k
decreasing_by omega
def Xj3 (t:Tok):JF:={ name:=t.text,run:=[],env:=[],needs:=[],hasr:=false,ready:=[],restart:=2,base:=100,cap:=10000,stable:=10000,burst:=5,window:=60000,ladder:=[(15,5000)],line:=t.line,col:=t.col }
def XjZ (ts:List Tok) (k:Nat) (full:Bool):Except Flt (JF × Nat):=do
 let w ←XcY ts k 1 8192
 if w.text≠XuZ then .error (flt 60 w) else
 let t ←XeZ ts (k+1) full
 Xgu ts (k+2) [123]
 Xcq ts t (k+3) [] (Xj3 t)
def Xd0 (ts:List Tok) (k:Nat) (out:List JF):Except Flt (List JF):=
 if (tkA ts k).kind=6 then .ok out
 else match XjZ ts k (decide (32≤out.length)) with
  | .error f=>.error f
  | .ok x=>if h:k < x.2∧k < ts.length then Xd0 ts x.2 (out++[x.1]) else .ok out
termination_by ts.length - k
decreasing_by omega
def XcL (s:List UInt8):Except Flt (List JF):=match lex s with
 | .error f=>.error f
 | .ok ts=>Xd0 ts 0 []
theorem XaZ {ts:List Tok} {k:Nat} (h:k < ts.length):tkA ts k=ts[k]:=by simp [tkA,List.getD_eq_getElem?_getD,h]
structure PS where
 k:Nat
 e:Int
 l:Int
 c:Int
def PS.cells (s:PS) (ts:List Tok) (sv:AV):List AV:=pc ts s.k s.e s.l s.c sv
def PS.fail (s:PS) (e:Int) (t:Tok):PS:=if s.e=0 then ⟨s.k,e,t.line,t.col⟩ else s
def PS.flt (s:PS) (f:Flt):PS:=if s.e=0 then ⟨s.k,f.code,f.line,f.col⟩ else s
def PS.on (s:PS) (n:Nat):PS:=if s.e=0 then ⟨s.k+n,0,s.l,s.c⟩ else s
def PS.upon {α:Type} (s:PS) (x:Except Flt α) (n:Nat):PS:=match x with
 | .ok _=>s.on n
 | .error f=>s.flt f
def Xem (l:List UInt8):Prop:=∀c∈l,48≤c.toNat∧c.toNat≤57
def Xsq (ts:List Tok):Prop:=∀t∈ts,t.kind=2→t.text.length≤18∧Xem t.text
def Got {α:Type} (ts:List Tok) (s:PS) (x:Except Flt (α × Nat)) (s':PS) (v:α):Prop:=
 s'.k < ts.length∧s.k≤s'.k∧(s.e≠0→s'=s)∧(s.e=0→match x with
  | .ok p=>v=p.1∧s'=⟨p.2,0,s.l,s.c⟩
  | .error f=>f.code≠0∧s'.e=f.code∧s'.l=f.line∧s'.c=f.col)
theorem Got.bind {α β:Type} {ts:List Tok} {s s1 s2:PS} {x:Except Flt (α × Nat)} {y:α→Nat→Except Flt (β × Nat)} {a:α} {b:β} (h1:Got ts s x s1 a) (h2:Got ts s1 (y a s1.k) s2 b):Got ts s (x >>= fun p=>y p.1 p.2) s2 b:=by
 obtain ⟨_,hq1,h1n,h1z⟩:=h1
 obtain ⟨hk,hq2,h2n,h2z⟩:=h2
 refine ⟨hk,Nat.le_trans hq1 hq2,fun h=>?_,fun h=>?_⟩
 ·have e:=h1n h
  subst e
  exact h2n h
 ·have h1':=h1z h
  cases x with
  | ok p=>
    obtain ⟨e1,e2⟩:=h1'
    subst e1 e2
    exact h2z rfl
  | error f=>
    obtain ⟨g1,g2,g3,g4⟩:=h1'
    have e:=h2n (by rw [g2];exact g1)
    subst e
    exact ⟨g1,g2,g3,g4⟩
theorem Got.of {α:Type} {ts:List Tok} {s s':PS} {x y:Except Flt (α × Nat)} {v:α} (h:Got ts s x s' v) (e:y=x):Got ts s y s' v:=e▸h
theorem Got.val {α β:Type} {ts:List Tok} {s s':PS} {x:Except Flt (α × Nat)} {v:α} (f:α→β) (h:Got ts s x s' v):Got ts s (x.map fun p=>(f p.1,p.2)) s' (f v):=by
 obtain ⟨hk,hq,hn,hz⟩:=h
 refine ⟨hk,hq,hn,fun e=>?_⟩
 have h':=hz e
 cases x with
 | ok p=>exact ⟨by rw [h'.1],h'.2⟩
 | error g=>exact h'
theorem Got.any {α:Type} {ts:List Tok} {s s':PS} {x:Except Flt (α × Nat)} {v w:α} (h:Got ts s x s' v) (hb:s'.e≠0):Got ts s x s' w:=by
 obtain ⟨hk,hq,hn,hz⟩:=h
 refine ⟨hk,hq,hn,fun e=>?_⟩
 have h':=hz e
 cases x with
 | ok p=>exfalso;rw [h'.2] at hb;exact hb rfl
 | error g=>exact h'
theorem Got.test {α:Type} {ts:List Tok} {s:PS} (hk:s.k < ts.length) (e2:Int) (h2:e2≠0) (t:Tok) (v:α):Got ts s (.error (flt e2 t)) (s.fail e2 t) v:=by
 refine ⟨by simp only [PS.fail];split<;>exact hk,by simp only [PS.fail];split<;>exact Nat.le_refl _,fun e=>by simp only [PS.fail,if_neg e],fun e=>?_⟩
 simp only [PS.fail,if_pos e]
 exact ⟨h2,rfl,rfl,rfl⟩
theorem Got.bad {α:Type} {ts:List Tok} {s:PS} (hk:s.k < ts.length) (hb:s.e≠0) (x:Except Flt (α × Nat)) (v:α):Got ts s x s v:=⟨hk,Nat.le_refl _,fun _=>rfl,fun e=>absurd e hb⟩
theorem Got.lt {α:Type} {ts:List Tok} {s s':PS} {x:Except Flt (α × Nat)} {v:α} (h:Got ts s x s' v):s'.k < ts.length:=h.1
theorem Got.ok {α:Type} {ts:List Tok} {s s':PS} {x:Except Flt (α × Nat)} {v:α} (h:Got ts s x s' v) (hz:s'.e=0):s.e=0∧x=.ok (v,s'.k)∧s'.l=s.l∧s'.c=s.c:=by
 obtain ⟨hk,-,hn,hz'⟩:=h
 by_cases e:s.e=0
 ·have h':=hz' e
  cases x with
  | ok p=>obtain ⟨h1,h2⟩:=h';subst h1 h2;exact ⟨e,rfl,rfl,rfl⟩
  | error g=>exact absurd (h'.2.1▸hz) h'.1
 ·exact absurd ((hn e)▸hz) e
def Xtz (t:Tok):Except Flt Int:=if t.text=[97,108,119,97,121,115] then .ok 3 else if t.text=[111,110,45,102,97,105,108,117,114,101] then .ok 2 else if t.text=[110,101,118,101,114] then .ok 1 else .error (flt 60 t)
theorem Got.step {α:Type} {ts:List Tok} {k k2:Nat} {e l c:Int} {s':PS} {x:Except Flt (α × Nat)} {v:α} (h:Got ts ⟨k2,e,l,c⟩ x s' v) (he:e=0) (hq:k≤k2):Got ts ⟨k,e,l,c⟩ x s' v:=
 ⟨h.1,Nat.le_trans hq h.2.1,fun hn=>absurd he hn,h.2.2.2⟩
theorem Got.next {α:Type} {x:Except Flt α} {k k2:Nat} {v:α} (h:(x.map fun a=>(a,k))=.ok (v,k2)):k2=k:=by
 cases x with
 | ok a=>cases h;rfl
 | error f=>cases h
theorem Xfy {ts:List Tok} (hv:VT ts) {s:List UInt8} (k:Nat) (hk:k < ts.length) (h:gIs ts k s=true):k+1 < ts.length:=by
 simp only [gIs,Bool.and_eq_true,beq_iff_eq,XaZ hk] at h
 exact hv k hk (by omega)
def XhS (ts:List Tok) (k:Nat) (j:JF):Except Flt (JF × Nat):=do
 let n ←Xel ts k
 if n < 1∨16 < n then .error (flt 2 (tkA ts k)) else
 let m ←Xel ts (k+1)
 .ok ({ j with burst:=n,window:=m },k+2)
def Xvr:List (List UInt8):=[[114,117,110],[101,110,118],[110,101,101,100,115],[114,101,97,100,121],[114,101,115,116,97,114,116],[98,97,99,107,111,102,102],[98,117,114,115,116],[115,116,111,112]]
structure JB (j:JF) (k:Nat):Prop where
 env:j.env.length≤k
 needs:j.needs.length≤k
 ladder:j.ladder.length≤k
theorem JB.mono {j:JF} {k k':Nat} (h:JB j k) (hk:k≤k'):JB j k':=⟨Nat.le_trans h.1 hk,Nat.le_trans h.2 hk,Nat.le_trans h.3 hk⟩
section
variable (ts:List Tok) (k:Nat) (j:JF)
theorem Xf1:XcG ts k Xku j=((XcY ts k 3 512).map fun t=>(t,k+1)).map fun p=>({ j with run:=p.1.text },p.2):=by
 unfold XcG
 rw [if_pos rfl]
 cases XcY ts k 3 512<;>rfl
theorem XfY:XcG ts k Xhr j=(Xq3 ts k j.env).map fun v=>({ j with env:=j.env++[v] },k+3):=by
 unfold XcG
 rw [if_neg (by decide),if_pos rfl]
theorem XfZ:XcG ts k XdP j=(Xc7 (Xfr ts) 1 ts k []).map fun p=>({ j with needs:=p.1 },p.2):=by
 unfold XcG
 rw [if_neg (by decide),if_neg (by decide),if_pos rfl]
theorem Xf0:XcG ts k Xfp j=((XcY ts k 4 128).map fun t=>(t,k+1)).map fun p=>({ j with hasr:=true,ready:=p.1.text },p.2):=by
 unfold XcG
 rw [if_neg (by decide),if_neg (by decide),if_neg (by decide),if_pos rfl]
 cases XcY ts k 4 128<;>rfl
theorem Xev:XcG ts k Xc4 j=((XoD ts k).map fun n=>(n,k+1)).map fun p=>({ j with restart:=p.1 },p.2):=by
 unfold XcG
 rw [if_neg (by decide),if_neg (by decide),if_neg (by decide),if_neg (by decide),if_pos rfl]
 cases XoD ts k<;>rfl
theorem XcR:XcG ts k XcE j=((Xel ts k).map fun n=>(n,k+1)) >>= fun p=>((Xel ts p.2).map fun n=>(n,p.2+1)) >>= fun q=>((Xel ts q.2).map fun n=>(n,q.2+1)).map fun r=>({ j with base:=p.1,cap:=q.1,stable:=r.1 },r.2):=by
 unfold XcG
 rw [if_neg (by decide),if_neg (by decide),if_neg (by decide),if_neg (by decide),if_neg (by decide),if_pos rfl]
 cases h1:Xel ts k with
 | error f=>rfl
 | ok a=>
   simp only [Except.map,bind,Except.bind]
   cases h2:Xel ts (k+1) with
   | error f=>rfl
   | ok b=>
     simp only [Except.map,bind,Except.bind]
     cases h3:Xel ts (k+2)<;>simp [h3]
theorem Xdu:XcG ts k XeP j=XhS ts k j:=by
 unfold XcG
 rw [if_neg (by decide),if_neg (by decide),if_neg (by decide),if_neg (by decide),if_neg (by decide),if_neg (by decide),if_pos rfl]
 rfl
theorem XgE:XcG ts k Xlt j=(Xc7 (Xe1 ts) 2 ts k []).map fun p=>({ j with ladder:=p.1 },p.2):=by
 unfold XcG
 rw [if_neg (by decide),if_neg (by decide),if_neg (by decide),if_neg (by decide),if_neg (by decide),if_neg (by decide),if_neg (by decide)]
end
open Go.RowKit
def JF.zero:JF:=⟨[],[],[],[],false,[],0,0,0,0,0,0,[],0,0⟩
def Xst (ts:List Tok):Prop:=∀t∈ts,t.text.length≤8192
theorem XgG {ts:List Tok} {name:Tok} {k:Nat} {seen:List (List UInt8)} {j:JF} (h:gIs ts k [125]=false) (h2:(tkA ts k).kind≠1∨¬(tkA ts k).text∈Xf6):Xcq ts name k seen j=.error (flt 60 (tkA ts k)):=by
 rw [Xcq,if_neg (by rw [h];decide),if_pos (by simpa using h2)]
theorem XkX {ts:List Tok} {name:Tok} {k:Nat} {seen:List (List UInt8)} {j:JF} (h:gIs ts k [125]=false) (h2:(tkA ts k).kind=1) (h3:(tkA ts k).text∈Xf6) (h4:(tkA ts k).text≠Xhr) (h5:seen.contains (tkA ts k).text=true):Xcq ts name k seen j=.error (flt 5 (tkA ts k)):=by
 rw [Xcq,if_neg (by rw [h];decide),if_neg (by simp [h2,h3]),if_pos ⟨h4,h5⟩]
theorem Xdv {ts:List Tok} {name:Tok} {k:Nat} {seen:List (List UInt8)} {j:JF} (h:gIs ts k [125]=false) (h2:(tkA ts k).kind=1) (h3:(tkA ts k).text∈Xf6) (h4:¬((tkA ts k).text≠Xhr∧seen.contains (tkA ts k).text=true)):Xcq ts name k seen j=XcG ts (k+1) (tkA ts k).text j >>= fun x=>if k < x.2∧k < ts.length then Xcq ts name x.2 (if (tkA ts k).text=Xhr then seen else seen++[(tkA ts k).text]) x.1 else .error (flt 60 (tkA ts k)):=by
 rw [Xcq,if_neg (by rw [h];decide),if_neg (by simp [h2,h3]),if_neg h4]
 cases XcG ts (k+1) (tkA ts k).text j with
 | error f=>rfl
 | ok x=>simp only [bind,Except.bind];split<;>rfl
theorem Got.off {α β:Type} {ts:List Tok} {s s':PS} {x:Except Flt (α × Nat)} {y:Except Flt (β × Nat)} {v:α} {w:β} (h:Got ts s x s' v) (hb:s.e≠0):Got ts s y s' w:=⟨h.1,h.2.1,h.2.2.1,fun e=>absurd e hb⟩
theorem Got.flt {α β:Type} {ts:List Tok} {s s':PS} {f:Flt} {v:α} {w:β} (h:Got ts s (.error f:Except Flt (α × Nat)) s' v):Got ts s (.error f:Except Flt (β × Nat)) s' w:=h
theorem Xh2:∀(n:Nat) (p:Nat × Nat) (i:Nat) (l:List UInt8),l.length≤n→i≤2000→(∀ts,Xcu p i l=.ok ts→ts.length+i≤2001)∧∀f,Xcu p i l=.error f→f.code≠0
 | n,p,i,l,hn,hi0=>by
   cases hd:l.drop (skp l) with
   | nil=>
     rw [XdK p i l hd]
     exact ⟨fun ts h=>(by cases h;simp;omega),fun f h=>by cases h⟩
   | cons c r=>
     have hlen:=congrArg List.length hd
     simp only [List.length_drop,Xvw] at hlen
     cases h1:one (c :: r) with
     | error e=>
       rw [XdJ p i l c r e hd h1]
       refine ⟨fun ts h=>(by cases h),fun f h=>?_⟩
       cases h
       have:=XrE h1
       simp only;omega
     | ok x=>
       by_cases hi:2000≤i
       ·rw [Xdh p i l c r x hd h1 hi]
        exact ⟨fun ts h=>(by cases h),fun f h=>by cases h;simp⟩
       ·obtain ⟨a,t,m⟩:=x
        obtain ⟨g1,g2,g3,g4⟩:=Xgb h1
        simp only at g1 g2 g3 g4
        rw [XdL p i l c r a t m hd h1 g1 (by omega)]
        cases n with
        | zero=>omega
        | succ n=>
          obtain ⟨h2,h3⟩:=Xh2 n (plc p (l.take (skp l+m))) (i+1) ((c :: r).drop m) (by simp only [List.length_drop,Xvw];omega) (by omega)
          cases hr:Xcu (plc p (l.take (skp l+m))) (i+1) ((c :: r).drop m) with
          | error e=>exact ⟨fun ts h=>(by cases h),fun f h=>by cases h;exact h3 _ hr⟩
          | ok y=>
            refine ⟨fun ts h=>?_,fun f h=>by cases h⟩
            cases h
            have:=h2 y hr
            simp only [Xvw];omega
theorem XeD (l:List UInt8):(∀f,lex l=.error f→f.code≠0)∧∀ts,lex l=.ok ts→0 < ts.length∧ts.length≤2001∧VT ts∧(∀t∈ts,t.text.length≤1000000)∧l.length≤8192:=by
 unfold lex
 split
 ·exact ⟨fun f h=>(by cases h;simp),fun ts h=>by cases h⟩
 ·rename_i hl
  obtain ⟨h2,h3⟩:=Xh2 l.length (1,1) 0 l (Nat.le_refl _) (by omega)
  refine ⟨h3,fun ts h=>?_⟩
  have hc:=h2 ts h
  obtain ⟨qs,e,rfl,he,hq,ht⟩:=Xhb l.length (1,1) 0 l ts (Nat.le_refl _) h
  refine ⟨by simp,by omega,fun k hk hne=>?_,fun t h=>(by have:=ht t h;omega),by omega⟩
  simp only [XvF,Xvw,Xvz] at hk ⊢
  by_cases hlt:k < qs.length
  ·omega
  ·exfalso
   rw [List.getElem_append_right (by omega)] at hne
   simp at hne
   exact hne he
theorem Src.bytes {ρ:Operand→AV} {H:List Hp} {x:Operand} (q:Nat) (l:List UInt8) {ad:Option Addr} {n cap:Nat} {e:TypeId} {size:Nat} {cells:List AV} (hx:ρ x=.x (.slice ad n cap)) (hq:H[q]?=some (.row ad n cap e size cells)) (hn:n=l.length) (hc:cells=u8a l):Src ρ H x l.length (u8a l):=by
 subst hn hc;exact Src.row q hx hq
theorem Xra (l m:List JF):jfa (l++m)=jfa l++jfa m:=by simp [jfa]
theorem Xf9 {P:Tok→Prop} (hE:∀p q:Nat,P ⟨6,[],p,q⟩) (hO:∀(l:List UInt8) a t m,one l=.ok (a,t,m)→∀p q:Nat,P ⟨a,t,p,q⟩):∀(n:Nat) (p:Nat × Nat) (i:Nat) (l:List UInt8) (ts:List Tok),l.length≤n→Xcu p i l=.ok ts→∀t∈ts,P t
 | n,p,i,l,ts,hn,h=>by
   cases hd:l.drop (skp l) with
   | nil=>
     rw [XdK p i l hd] at h;cases h
     simpa using hE _ _
   | cons c r=>
     have hlen:=congrArg List.length hd
     simp only [List.length_drop,Xvw] at hlen
     cases h1:one (c :: r) with
     | error e=>rw [XdJ p i l c r e hd h1] at h;cases h
     | ok x=>
       by_cases hi:2000≤i
       ·rw [Xdh p i l c r x hd h1 hi] at h;cases h
       ·obtain ⟨a,t,m⟩:=x
        obtain ⟨g1,g2,g3,g4⟩:=Xgb h1
        simp only at g1 g2 g3 g4
        rw [XdL p i l c r a t m hd h1 g1 (by omega)] at h
        cases hr:Xcu (plc p (l.take (skp l+m))) (i+1) ((c :: r).drop m) with
        | error e=>rw [hr] at h;cases h
        | ok y=>
          rw [hr] at h
          simp only [Except.map] at h
          cases h
          cases n with
          | zero=>omega
          | succ n=>
            have ht:=Xf9 hE hO n _ _ _ y (by simp only [List.length_drop,Xvw];omega) hr
            intro t ht2
            rcases List.mem_cons.1 ht2 with rfl|ht2
            ·exact hO _ _ _ _ h1 _ _
            ·exact ht t ht2
theorem Xps (p:UInt8→Bool) (l:List UInt8):l.take (spn p l)=l.takeWhile p:=(List.prefix_iff_eq_take.1 (List.takeWhile_prefix p)).symm
theorem XrD {l:List UInt8} {a:Int} {t:List UInt8} {m:Nat} (h:one l=.ok (a,t,m)):a=2→t.length≤18∧Xem t:=by
 intro ha
 subst ha
 cases l with
 | nil=>simp [one] at h
 | cons c r=>
   simp only [one] at h
   split at h
   ·cases h
   ·split at h
    ·split at h
     ·cases h
     ·rename_i h2
      cases h
      rw [Xps]
      refine ⟨?_,fun x hx=>?_⟩
      ·have:((c :: r).takeWhile XbX).length=spn XbX (c :: r):=rfl
       omega
      ·have:=List.all_takeWhile (p:=XbX) (l:=c :: r)
       have hx':=(List.all_eq_true.1 this) x hx
       simpa [XbX] using hx'
    ·split at h
     ·split at h<;>cases h
     ·split at h
      ·split at h<;>cases h
      ·split at h<;>cases h
theorem Xk9 (l:List UInt8) (ts:List Tok) (h:lex l=.ok ts):Xsq ts∧Xst ts:=by
 have hf:=(XeD l).2 ts h
 unfold lex at h
 split at h
 ·cases h
 ·rename_i hl
  refine ⟨Xf9 (P:=fun t=>t.kind=2→t.text.length≤18∧Xem t.text) (fun p q h=>by simp at h) (fun l a t m h p q=>XrD h) l.length (1,1) 0 l ts (Nat.le_refl _) h,?_⟩
  obtain ⟨qs,e,rfl,he,hq,ht⟩:=Xhb l.length (1,1) 0 l ts (Nat.le_refl _) h
  exact fun t h=>Nat.le_trans (ht t h) (by omega)
def Xua (x:Except Flt (List JF)):AV:=match x with
 | .ok js=>.tup [.sq js.length (jfa js),.x (.agg #[.int .i64 0,.int .i64 0,.int .i64 0])]
 | .error f=>.tup [.sq 0 [],f.av]
theorem Xmy {ts:List Tok} {k:Nat} {out:List JF} {f:Flt} (h:(tkA ts k).kind≠6) (h2:XjZ ts k (decide (32≤out.length))=.error f):Xd0 ts k out=.error f:=by rw [Xd0,if_neg h,h2]
theorem XkY {ts:List Tok} {k:Nat} {out:List JF} {x:JF × Nat} (h:(tkA ts k).kind≠6) (h2:XjZ ts k (decide (32≤out.length))=.ok x) (h3:k < x.2∧k < ts.length):Xd0 ts k out=Xd0 ts x.2 (out++[x.1]):=by rw [Xd0,if_neg h,h2];simp only;rw [dif_pos h3]
theorem Xmz {ts:List Tok} {k:Nat} {out:List JF} (h:(tkA ts k).kind=6):Xd0 ts k out=.ok out:=by rw [Xd0,if_pos h]
theorem Got.no {α:Type} {ts:List Tok} {s s':PS} {x:Except Flt (α × Nat)} {v:α} (h:Got ts s x s' v) (he:s.e=0) (hb:s'.e≠0):∃f:Flt,x=.error f∧f.code≠0∧s'.e=f.code∧s'.l=f.line∧s'.c=f.col:=by
 have h':=h.2.2.2 he
 cases x with
 | ok p=>exfalso;rw [h'.2] at hb;exact hb rfl
 | error f=>exact ⟨f,rfl,h'⟩
end Go.Proofs.YtdlblokjfoggpaaGreatDoor

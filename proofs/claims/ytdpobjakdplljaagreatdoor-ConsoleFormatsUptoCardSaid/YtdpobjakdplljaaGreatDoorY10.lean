import Derived.Test.YtdpobjakdplljaaGreatDoorY9
/- The jobs of a Procfile, in plain Lean: what both parsers compute. No program in sight. -/
set_option linter.unusedSimpArgs false
set_option linter.unusedVariables false
set_option maxRecDepth 100000
set_option maxHeartbeats 8000000
namespace Go.Proofs.YtdpobjakdplljaaGreatDoor
open Go.RowKit
def tkA (ts:List Tok) (k:Nat):Tok:=ts.getD k ⟨6,[],0,0⟩
def flt (e:Int) (t:Tok):Flt:=⟨e,t.line,t.col⟩
def Xbf (ts:List Tok) (k:Nat) (kind:Int) (most:Nat):Except Flt Tok:=
 if (tkA ts k).kind≠kind then .error (flt 60 (tkA ts k)) else if most < (tkA ts k).text.length then .error (flt 1 (tkA ts k)) else .ok (tkA ts k)
def gIs (ts:List Tok) (k:Nat) (s:List UInt8):Bool:=(tkA ts k).kind == 5 && (tkA ts k).text == s
def Xb5 (ts:List Tok) (k:Nat) (s:List UInt8):Except Flt Unit:=if gIs ts k s then .ok () else .error (flt 60 (tkA ts k))
def Xdm (l:List UInt8):Int:=l.foldl (fun n c=>10*n+(c.toNat - 48)) 0
def Xc1 (ts:List Tok) (k:Nat):Except Flt Int:=(Xbf ts k 2 8192).map fun t=>Xdm t.text
def XlP:List UInt8:=[114,117,110]
def Xis:List UInt8:=[101,110,118]
def XgP:List UInt8:=[110,101,101,100,115]
def Xe7:List UInt8:=[114,101,97,100,121]
def XcO:List UInt8:=[114,101,115,116,97,114,116]
def XcA:List UInt8:=[98,97,99,107,111,102,102]
def Xeq:List UInt8:=[98,117,114,115,116]
def XgQ:List UInt8:=[115,116,111,112]
def Xtm:List UInt8:=[106,111,98]
def items:List (List UInt8):=[XlP,Xis,XgP,Xe7,XcO,XcA,Xeq,XgQ]
def XmZ (s:List UInt8):Int:=
 if s=[72,85,80] then 1 else if s=[73,78,84] then 2 else if s=[81,85,73,84] then 3 else if s=[85,83,82,49] then 10 else if s=[85,83,82,50] then 12 else if s=[84,69,82,77] then 15 else 0
def Xek (ts:List Tok) (k:Nat) (full:Bool):Except Flt Tok:=do
 let t ←Xbf ts k 1 32
 if full then .error (flt 1 t) else .ok t
def Xiy (ts:List Tok) (k:Nat) (env:List (List UInt8 × List UInt8)):Except Flt (List UInt8 × List UInt8):=do
 let t ←Xek ts k (decide (16≤env.length))
 if env.any (·.1 == t.text) then .error (flt 5 t) else
 Xb5 ts (k+1) [61]
 let v ←Xbf ts (k+2) 3 512
 .ok (t.text,v.text)
def Xc9 (ts:List Tok) (k:Nat) (out:List (List UInt8)):Except Flt (List UInt8):=do
 let t ←Xek ts k (decide (16≤out.length))
 if out.contains t.text then .error (flt 5 t) else .ok t.text
def Xdd (ts:List Tok) (k:Nat) (out:List (Int × Int)):Except Flt (Int × Int):=do
 let t ←Xbf ts k 1 8192
 if 5≤out.length then .error (flt 1 t) else
 if XmZ t.text=0 then .error (flt 4 t) else
 let n ←Xc1 ts (k+1)
 .ok (XmZ t.text,n)
def XbR {α:Type} (el:Nat→List α→Except Flt α) (st:Nat) (ts:List Tok) (k:Nat) (out:List α):Except Flt (List α × Nat):=
 match el k out with
 | .error f=>.error f
 | .ok x=>if h:k+st < ts.length∧gIs ts (k+st) [44]=true then XbR el st ts (k+st+1) (out++[x]) else .ok (out++[x],k+st)
termination_by ts.length - k
decreasing_by omega
def Xix (ts:List Tok) (k:Nat):Except Flt Int:=do
 let t ←Xbf ts k 1 8192
 if t.text=[97,108,119,97,121,115] then .ok 3 else if t.text=[111,110,45,102,97,105,108,117,114,101] then .ok 2 else if t.text=[110,101,118,101,114] then .ok 1 else .error (flt 60 t)
def XbU (ts:List Tok) (k:Nat) (w:List UInt8) (j:JF):Except Flt (JF × Nat):=
 if w=XlP then (Xbf ts k 3 512).map fun t=>({ j with run:=t.text },k+1)
 else if w=Xis then (Xiy ts k j.env).map fun v=>({ j with env:=j.env++[v] },k+3)
 else if w=XgP then (XbR (Xc9 ts) 1 ts k []).map fun x=>({ j with needs:=x.1 },x.2)
 else if w=Xe7 then (Xbf ts k 4 128).map fun t=>({ j with hasr:=true,ready:=t.text },k+1)
 else if w=XcO then (Xix ts k).map fun n=>({ j with restart:=n },k+1)
 else if w=XcA then do
  let a ←Xc1 ts k
  let b ←Xc1 ts (k+1)
  let c ←Xc1 ts (k+2)
  .ok ({ j with base:=a,cap:=b,stable:=c },k+3)
 else if w=Xeq then do
  let n ←Xc1 ts k
  if n < 1∨16 < n then .error (flt 2 (tkA ts k)) else
  let m ←Xc1 ts (k+1)
  .ok ({ j with burst:=n,window:=m },k+2)
 else (XbR (Xdd ts) 2 ts k []).map fun x=>({ j with ladder:=x.1 },x.2)
def Xbg (ts:List Tok) (name:Tok) (k:Nat) (seen:List (List UInt8)) (j:JF):Except Flt (JF × Nat):=
 if gIs ts k [125] then (if seen.contains XlP then .ok (j,k+1) else .error (flt 6 name))
 else if (tkA ts k).kind≠1∨¬items.contains (tkA ts k).text then .error (flt 60 (tkA ts k))
 else if (tkA ts k).text≠Xis∧seen.contains (tkA ts k).text then .error (flt 5 (tkA ts k))
 else match XbU ts (k+1) (tkA ts k).text j with
  | .error f=>.error f
  | .ok x=>if h:k < x.2∧k < ts.length then Xbg ts name x.2 (if (tkA ts k).text=Xis then seen else seen++[(tkA ts k).text]) x.1 else .error (flt 60 (tkA ts k))
termination_by ts.length - k
decreasing_by omega
def Xg1 (t:Tok):JF:={ name:=t.text,run:=[],env:=[],needs:=[],hasr:=false,ready:=[],restart:=2,base:=100,cap:=10000,stable:=10000,burst:=5,window:=60000,ladder:=[(15,5000)],line:=t.line,col:=t.col }
def Xiw (ts:List Tok) (k:Nat) (full:Bool):Except Flt (JF × Nat):=do
 let w ←Xbf ts k 1 8192
 if w.text≠Xtm then .error (flt 60 w) else
 let t ←Xek ts (k+1) full
 Xb5 ts (k+2) [123]
 Xbg ts t (k+3) [] (Xg1 t)
def XdZ (ts:List Tok) (k:Nat) (out:List JF):Except Flt (List JF):=
 if (tkA ts k).kind=6 then .ok out
 else match Xiw ts k (decide (32≤out.length)) with
  | .error f=>.error f
  | .ok x=>if h:k < x.2∧k < ts.length then XdZ ts x.2 (out++[x.1]) else .ok out
termination_by ts.length - k
decreasing_by omega
def Xds (s:List UInt8):Except Flt (List JF):=match lex s with
 | .error f=>.error f
 | .ok ts=>XdZ ts 0 []
structure Ag (ts us:List Tok) (m:Nat):Prop where
 same:∀k,k < m→tkA us k=tkA ts k
 ne:∀k,k < m→(tkA ts k).kind≠6
 fin:(tkA ts m).kind=6
 lt:ts.length=m+1
 lu:m+1 < us.length
 kw:(tkA us m).kind=1
 tw:(tkA us m).text=Xtm
 kn:(tkA us (m+1)).kind=1
 tn:(tkA us (m+1)).text ∉ items
section
variable {α β:Type} {ts us:List Tok} {m k:Nat}
def A3 (x y:Except Flt α) (n m:Nat):Prop:=(∃a,x=.ok a∧y=.ok a∧n≤m)∨((∃f,x=.error f)∧((∃f,y=.error f)∨∃a,y=.ok a∧n=m+1))
def A2 (x y:Except Flt α) (n m:Nat):Prop:=(∃a,x=.ok a∧y=.ok a∧n≤m)∨((∃f,x=.error f)∧∃f,y=.error f)
theorem A2.a3 {x y:Except Flt α} {n m:Nat} (h:A2 x y n m):A3 x y n m:=h.imp (fun h=>h) fun ⟨h1,h2⟩=>⟨h1,.inl h2⟩
theorem A2.bad {x y:Except Flt α} {n m:Nat} {f g:Flt} (hx:x=.error f) (hy:y=.error g):A2 x y n m:=.inr ⟨⟨f,hx⟩,g,hy⟩
theorem A2.of {x y:Except Flt α} {n m:Nat} (h:y=x) (hn:n≤m):A2 x y n m:=by
 subst h
 cases y with
 | error f=>exact .bad rfl rfl
 | ok a=>exact .inl ⟨a,rfl,rfl,hn⟩
theorem A2.bind {x y:Except Flt α} {f g:α→Except Flt β} {n n' m:Nat} (h:A2 x y n m) (hf:∀a,n≤m→A2 (f a) (g a) n' m):A2 (x >>= f) (y >>= g) n' m:=by
 rcases h with ⟨a,rfl,rfl,hn⟩|⟨⟨f1,rfl⟩,f2,rfl⟩
 ·exact hf a hn
 ·exact .bad rfl rfl
theorem A2.map {x y:Except Flt α} {f:α→β} {n m:Nat} (h:A2 x y n m):A2 (x.map f) (y.map f) n m:=by
 rcases h with ⟨a,rfl,rfl,hn⟩|⟨⟨f1,rfl⟩,f2,rfl⟩
 ·exact .inl ⟨_,rfl,rfl,hn⟩
 ·exact .bad rfl rfl
theorem Ag.is (h:Ag ts us m) (hk:k≤m) (s:List UInt8):gIs us k s=gIs ts k s:=by
 unfold gIs
 by_cases h1:k < m
 ·rw [h.same k h1]
 ·obtain rfl:k=m:=by omega
  rw [h.kw,h.fin];rfl
theorem Ag.is_m (h:Ag ts us m) (s:List UInt8):gIs ts m s=false:=by unfold gIs;rw [h.fin];rfl
theorem Ag.is_n (h:Ag ts us m) (s:List UInt8):gIs us (m+1) s=false:=by unfold gIs;rw [h.kn];rfl
theorem Ag.take_m (h:Ag ts us m) {kind:Int} {most:Nat} (hk:kind≠6):∃f,Xbf ts m kind most=.error f:=⟨_,by unfold Xbf;rw [if_pos (by rw [h.fin];exact fun e=>hk e.symm)]⟩
theorem Ag.take_lt (h:Ag ts us m) {kind:Int} {most:Nat} (hk:k < m):Xbf us k kind most=Xbf ts k kind most:=by unfold Xbf;rw [h.same k hk]
theorem Ag.take (h:Ag ts us m) {kind:Int} {most:Nat} (hk:k≤m) (h1:kind≠1) (h6:kind≠6):A2 (Xbf ts k kind most) (Xbf us k kind most) (k+1) m:=by
 by_cases hlt:k < m
 ·exact .of (h.take_lt hlt) hlt
 ·obtain rfl:k=m:=by omega
  obtain ⟨f,hf⟩:=h.take_m (most:=most) h6
  exact .bad hf (by unfold Xbf;rw [if_pos (by rw [h.kw];exact fun e=>h1 e.symm)])
theorem Ag.num (h:Ag ts us m) (hk:k≤m):A2 (Xc1 ts k) (Xc1 us k) (k+1) m:=(h.take hk (by decide) (by decide)).map
theorem Ag.sign (h:Ag ts us m) (hk:k≤m) (s:List UInt8):A2 (Xb5 ts k s) (Xb5 us k s) (k+1) m:=by
 unfold Xb5
 rw [h.is hk]
 by_cases hlt:k < m
 ·exact .of (by rw [h.same k hlt]) hlt
 ·obtain rfl:k=m:=by omega
  rw [h.is_m];exact .bad rfl rfl
theorem Ag.sign_n (h:Ag ts us m) (s:List UInt8):∃f,Xb5 us (m+1) s=.error f:=by
 unfold Xb5;rw [h.is_n];exact ⟨_,rfl⟩
theorem XpE {x:Except Flt α} {g:α→Except Flt β} (h:∀a,∃f,g a=.error f):∃f,(x >>= g)=.error f:=by
 cases x with
 | error f=>exact ⟨f,rfl⟩
 | ok a=>exact h a
theorem Ag.name_lt (h:Ag ts us m) (hk:k < m) (full:Bool):A2 (Xek ts k full) (Xek us k full) (k+1) m:=by
 unfold Xek
 rw [h.take_lt hk]
 exact .of rfl hk
theorem Ag.name_m (h:Ag ts us m) (full:Bool):∃f,Xek ts m full=.error f:=by
 obtain ⟨f,hf⟩:=h.take_m (kind:=1) (most:=32) (by decide)
 exact ⟨f,by unfold Xek;rw [hf];rfl⟩
theorem Ag.var (h:Ag ts us m) (hk:k≤m) (env:List (List UInt8 × List UInt8)):A2 (Xiy ts k env) (Xiy us k env) (k+3) m:=by
 by_cases hlt:k < m
 ·unfold Xiy
  refine (h.name_lt hlt _).bind fun t _=>?_
  split
  ·exact .bad rfl rfl
  ·refine (h.sign (by omega) _).bind fun _ h2=>?_
   exact (h.take (by omega) (by decide) (by decide)).bind fun v h3=>.of rfl (by omega)
 ·obtain rfl:k=m:=by omega
  obtain ⟨f,hf⟩:=h.name_m (decide (16≤env.length))
  have e:Xiy ts k env=.error f:=by unfold Xiy;rw [hf];rfl
  obtain ⟨g,hg⟩:∃g,Xiy us k env=.error g:=by
   unfold Xiy
   refine XpE fun t=>?_
   split
   ·exact ⟨_,rfl⟩
   ·obtain ⟨g,hg⟩:=h.sign_n [61]
    exact ⟨g,by rw [hg];rfl⟩
  exact .bad e hg
theorem Ag.need (h:Ag ts us m) (hk:k≤m) (out:List (List UInt8)):A3 (Xc9 ts k out) (Xc9 us k out) (k+1) m:=by
 by_cases hlt:k < m
 ·refine A2.a3 ?_
  unfold Xc9
  refine (h.name_lt hlt _).bind fun t _=>.of rfl hlt
 ·obtain rfl:k=m:=by omega
  obtain ⟨f,hf⟩:=h.name_m (decide (16≤out.length))
  refine .inr ⟨⟨f,by unfold Xc9;rw [hf];rfl⟩,?_⟩
  cases hy:Xc9 us k out with
  | error g=>exact .inl ⟨g,rfl⟩
  | ok a=>exact .inr ⟨a,rfl,rfl⟩
theorem Ag.rung (h:Ag ts us m) (hk:k≤m) (out:List (Int × Int)):A3 (Xdd ts k out) (Xdd us k out) (k+2) m:=by
 refine A2.a3 ?_
 by_cases hlt:k < m
 ·unfold Xdd
  rw [h.take_lt hlt]
  refine A2.bind (.of rfl hlt:A2 _ _ (k+1) m) fun t _=>?_
  split
  ·exact .bad rfl rfl
  ·split
   ·exact .bad rfl rfl
   ·exact (h.num (by omega)).bind fun n h3=>.of rfl (by omega)
 ·obtain rfl:k=m:=by omega
  obtain ⟨f,hf⟩:=h.take_m (kind:=1) (most:=8192) (by decide)
  obtain ⟨g,hg⟩:∃g,Xdd us k out=.error g:=by
   unfold Xdd
   have e:Xbf us k 1 8192=.ok (tkA us k):=by
    unfold Xbf
    rw [if_neg (fun hn=>hn h.kw),h.tw,if_neg (by decide)]
   rw [e]
   simp only [bind,Except.bind]
   split
   ·exact ⟨_,rfl⟩
   ·rw [if_pos (by rw [h.tw];decide)];exact ⟨_,rfl⟩
  exact .bad (by unfold Xdd;rw [hf];rfl) hg
theorem Ag.list (h:Ag ts us m) {ex ey:Nat→List α→Except Flt α} {st:Nat} (hst:1≤st) (he:∀k,k≤m→∀out,A3 (ex k out) (ey k out) (k+st) m):∀(q k:Nat) (out:List α),m - k≤q→k≤m →
  (∃v k',XbR ex st ts k out=.ok (v,k')∧XbR ey st us k out=.ok (v,k')∧k≤k'∧k'≤m)∨((∃f,XbR ex st ts k out=.error f)∧((∃f,XbR ey st us k out=.error f)∨∃v,XbR ey st us k out=.ok (v,m+1)))
 | q,k,out,hq,hk=>by
   rcases he k hk out with ⟨a,hx,hy,hn⟩|⟨⟨f,hx⟩,⟨g,hy⟩|⟨a,hy,hn⟩⟩
   ·rw [XbR,XbR,hx,hy]
    simp only
    rw [h.is hn,h.lt]
    have hlu:=h.lu
    by_cases hc:gIs ts (k+st) [44]=true
    ·have hne:k+st≠m:=fun e=>by rw [e,h.is_m] at hc;cases hc
     rw [dif_pos ⟨by omega,hc⟩,dif_pos ⟨by omega,hc⟩]
     cases q with
     | zero=>omega
     | succ q=>
       rcases Ag.list h hst he q (k+st+1) (out++[a]) (by omega) (by omega) with ⟨v,k',h1,h2,h3,h4⟩|h1
       ·exact .inl ⟨v,k',h1,h2,by omega,h4⟩
       ·exact .inr h1
    ·rw [dif_neg (fun e=>hc e.2),dif_neg (fun e=>hc e.2)]
     exact .inl ⟨_,_,rfl,rfl,by omega,hn⟩
   ·rw [XbR,XbR,hx,hy]
    exact .inr ⟨⟨_,rfl⟩,.inl ⟨_,rfl⟩⟩
   ·rw [XbR,XbR,hx,hy]
    simp only
    rw [hn,dif_neg (fun e=>by rw [h.is_n] at e;cases e.2)]
    exact .inr ⟨⟨_,rfl⟩,.inr ⟨_,rfl⟩⟩
theorem Ag.pol (h:Ag ts us m) (hk:k≤m):A2 (Xix ts k) (Xix us k) (k+1) m:=by
 by_cases hlt:k < m
 ·unfold Xix
  rw [h.take_lt hlt]
  exact .of rfl hlt
 ·obtain rfl:k=m:=by omega
  obtain ⟨f,hf⟩:=h.take_m (kind:=1) (most:=8192) (by decide)
  obtain ⟨g,hg⟩:∃g,Xix us k=.error g:=by
   unfold Xix
   have e:Xbf us k 1 8192=.ok (tkA us k):=by
    unfold Xbf
    rw [if_neg (fun hn=>hn h.kw),h.tw,if_neg (by decide)]
   rw [e]
   simp only [bind,Except.bind]
   rw [h.tw,if_neg (by decide),if_neg (by decide),if_neg (by decide)]
   exact ⟨_,rfl⟩
  exact .bad (by unfold Xix;rw [hf];rfl) hg
def AI (x y:Except Flt (JF × Nat)) (k m:Nat):Prop:=(∃j k',x=.ok (j,k')∧y=.ok (j,k')∧k≤k'∧k'≤m)∨((∃f,x=.error f)∧((∃f,y=.error f)∨∃j,y=.ok (j,m+1)))
theorem AI.of {x y:Except Flt α} {k d m:Nat} {f:α→JF} (h:A2 x y (k+d) m):AI (x.map fun t=>(f t,k+d)) (y.map fun t=>(f t,k+d)) k m:=by
 rcases h with ⟨a,rfl,rfl,hn⟩|⟨⟨f1,rfl⟩,f2,rfl⟩
 ·exact .inl ⟨_,_,rfl,rfl,by omega,hn⟩
 ·exact .inr ⟨⟨_,rfl⟩,.inl ⟨_,rfl⟩⟩
theorem AI.of2 {x y:Except Flt (JF × Nat)} {k d m:Nat} (h:A2 x y (k+d) m) (hx:∀a,x=.ok a→a.2=k+d):AI x y k m:=by
 rcases h with ⟨a,rfl,rfl,hn⟩|⟨⟨f1,rfl⟩,f2,rfl⟩
 ·exact .inl ⟨a.1,a.2,rfl,rfl,by rw [hx a rfl];omega,by rw [hx a rfl];exact hn⟩
 ·exact .inr ⟨⟨_,rfl⟩,.inl ⟨_,rfl⟩⟩
theorem AI.list {x y:Except Flt (α × Nat)} {k m:Nat} {f:α→JF} (h:(∃v k',x=.ok (v,k')∧y=.ok (v,k')∧k≤k'∧k'≤m)∨((∃f,x=.error f)∧((∃f,y=.error f)∨∃v,y=.ok (v,m+1)))):AI (x.map fun t=>(f t.1,t.2)) (y.map fun t=>(f t.1,t.2)) k m:=by
 rcases h with ⟨v,k',rfl,rfl,h1,h2⟩|⟨⟨f,rfl⟩,⟨g,rfl⟩|⟨v,rfl⟩⟩
 ·exact .inl ⟨_,_,rfl,rfl,h1,h2⟩
 ·exact .inr ⟨⟨_,rfl⟩,.inl ⟨_,rfl⟩⟩
 ·exact .inr ⟨⟨_,rfl⟩,.inr ⟨_,rfl⟩⟩
theorem Ag.item (h:Ag ts us m) (hk:k≤m) (w:List UInt8) (j:JF):AI (XbU ts k w j) (XbU us k w j) k m:=by
 unfold XbU
 split
 ·exact AI.of (h.take hk (by decide) (by decide))
 split
 ·exact AI.of (h.var hk _)
 split
 ·exact AI.list (f:=fun v=>{ j with needs:=v }) (h.list (by decide) (fun k hk out=>h.need hk out) (m - k) k [] (Nat.le_refl _) hk)
 split
 ·exact AI.of (h.take hk (by decide) (by decide))
 split
 ·exact AI.of (h.pol hk)
 split
 ·refine AI.of2 (d:=3) ((h.num hk).bind fun a h1=>(h.num h1).bind fun b h2=>(h.num h2).bind fun c h3=>.of rfl h3) fun a ha=>?_
  cases h1:Xc1 ts k with
  | error f=>rw [h1] at ha;cases ha
  | ok a1=>
    cases h2:Xc1 ts (k+1) with
    | error f=>rw [h1] at ha;simp only [bind,Except.bind,h2] at ha;cases ha
    | ok a2=>
      cases h3:Xc1 ts (k+2) with
      | error f=>rw [h1] at ha;simp only [bind,Except.bind,h2,h3] at ha;cases ha
      | ok a3=>rw [h1] at ha;simp only [bind,Except.bind,h2,h3] at ha;cases ha;rfl
 split
 ·by_cases hlt:k < m
  ·refine AI.of2 (d:=2) ((h.num hk).bind fun a h1=>?_) fun a ha=>?_
   ·rw [h.same k hlt]
    split
    ·exact .bad rfl rfl
    ·exact (h.num h1).bind fun b h2=>.of rfl h2
   ·cases h1:Xc1 ts k with
    | error f=>rw [h1] at ha;cases ha
    | ok a1=>
      rw [h1] at ha
      simp only [bind,Except.bind] at ha
      split at ha
      ·cases ha
      ·cases h2:Xc1 ts (k+1) with
       | error f=>rw [h2] at ha;cases ha
       | ok a2=>rw [h2] at ha;cases ha;rfl
  ·obtain rfl:k=m:=by omega
   rcases h.num hk with ⟨a,-,-,hn⟩|⟨⟨f,hf⟩,g,hg⟩
   ·omega
   ·exact .inr ⟨⟨f,by rw [hf];rfl⟩,.inl ⟨g,by rw [hg];rfl⟩⟩
 ·exact AI.list (f:=fun v=>{ j with ladder:=v }) (h.list (by decide) (fun k hk out=>h.rung hk out) (m - k) k [] (Nat.le_refl _) hk)
def AJ (x y:Except Flt (JF × Nat)) (k m:Nat):Prop:=(∃j k',x=.ok (j,k')∧y=.ok (j,k')∧k < k'∧k'≤m)∨((∃f,x=.error f)∧∃f,y=.error f)
theorem Ag.items (h:Ag ts us m) (name:Tok):∀(q k:Nat) (seen:List (List UInt8)) (j:JF),m - k≤q→k≤m→AJ (Xbg ts name k seen j) (Xbg us name k seen j) k m
 | q,k,seen,j,hq,hk=>by
   by_cases hlt:k < m
   ·rw [Xbg,Xbg,h.is hk,h.same k hlt]
    split
    ·split
     ·exact .inl ⟨_,_,rfl,rfl,Nat.lt_succ_self k,hlt⟩
     ·exact .inr ⟨⟨_,rfl⟩,_,rfl⟩
    split
    ·exact .inr ⟨⟨_,rfl⟩,_,rfl⟩
    split
    ·exact .inr ⟨⟨_,rfl⟩,_,rfl⟩
    have hl:=h.lt
    have hu:=h.lu
    rcases h.item (show k+1≤m from hlt) (tkA ts k).text j with ⟨j',k',h1,h2,h3,h4⟩|⟨⟨f,h1⟩,⟨g,h2⟩|⟨j',h2⟩⟩
    ·rw [h1,h2]
     simp only
     rw [dif_pos ⟨by omega,by omega⟩,dif_pos ⟨by omega,by omega⟩]
     cases q with
     | zero=>omega
     | succ q=>
       rcases Ag.items h name q k' (if (tkA ts k).text=Xis then seen else seen++[(tkA ts k).text]) j' (by omega) h4 with ⟨j2,k2,g1,g2,g3,g4⟩|g1
       ·exact .inl ⟨j2,k2,g1,g2,by omega,g4⟩
       ·exact .inr g1
    ·rw [h1,h2]
     exact .inr ⟨⟨_,rfl⟩,_,rfl⟩
    ·rw [h1,h2]
     refine .inr ⟨⟨_,rfl⟩,?_⟩
     simp only
     rw [dif_pos ⟨by omega,by omega⟩,Xbg,if_neg (by rw [h.is_n];decide),if_pos (.inr (by rw [List.contains_iff_mem];exact h.tn))]
     exact ⟨_,rfl⟩
   ·obtain rfl:k=m:=by omega
    exact .inr ⟨⟨_,by rw [Xbg,if_neg (by rw [h.is_m];decide),if_pos (.inl (by rw [h.fin];decide))]⟩,_,by rw [Xbg,if_neg (by rw [h.is (Nat.le_refl _),h.is_m];decide),if_pos (.inr (by rw [h.tw];decide))]⟩
theorem Ag.job (h:Ag ts us m) (hk:k < m) (full:Bool):AJ (Xiw ts k full) (Xiw us k full) k m:=by
 unfold Xiw
 rw [h.take_lt hk]
 cases Xbf ts k 1 8192 with
 | error f=>exact .inr ⟨⟨_,rfl⟩,_,rfl⟩
 | ok w=>
   simp only [bind,Except.bind]
   split
   ·exact .inr ⟨⟨_,rfl⟩,_,rfl⟩
   ·by_cases h1:k+1 < m
    ·rcases h.name_lt h1 full with ⟨t,hx,hy,hn⟩|⟨⟨f,hx⟩,g,hy⟩
     ·rw [hx,hy]
      simp only
      rcases h.sign (show k+2≤m from h1) [123] with ⟨u,hx2,hy2,hn2⟩|⟨⟨f,hx2⟩,g,hy2⟩
      ·rw [hx2,hy2]
       rcases h.items t (m - (k+3)) (k+3) [] (Xg1 t) (Nat.le_refl _) hn2 with ⟨j2,k2,g1,g2,g3,g4⟩|g1
       ·exact .inl ⟨j2,k2,g1,g2,by omega,g4⟩
       ·exact .inr g1
      ·rw [hx2,hy2];exact .inr ⟨⟨_,rfl⟩,_,rfl⟩
     ·rw [hx,hy];exact .inr ⟨⟨_,rfl⟩,_,rfl⟩
    ·have e:k+1=m:=by omega
     subst e
     obtain ⟨f,hf⟩:=h.name_m full
     rw [hf]
     refine .inr ⟨⟨_,rfl⟩,?_⟩
     obtain ⟨g,hg⟩:=h.sign_n [123]
     rw [show k+2=k+1+1 from rfl,hg]
     cases Xek us (k+1) full with
     | error f=>exact ⟨_,rfl⟩
     | ok t=>exact ⟨_,rfl⟩
structure Sh (ts us:List Tok) (d:Nat):Prop where
 kind:∀k,(tkA us (k+d)).kind=(tkA ts k).kind
 text:∀k,(tkA us (k+d)).text=(tkA ts k).text
 len:us.length=ts.length+d
def RE (R:α→β→Prop):Except Flt α→Except Flt β→Prop
 | .error f,.error g=>f.code=g.code
 | .ok a,.ok b=>R a b
 | _,_=>False
theorem RE.bind {α' β':Type} {R:α→β→Prop} {S:α'→β'→Prop} {x:Except Flt α} {y:Except Flt β} {f:α→Except Flt α'} {g:β→Except Flt β'} (h:RE R x y) (hf:∀a b,R a b→RE S (f a) (g b)):RE S (x >>= f) (y >>= g):=by
 cases x with
 | error e=>cases y with
   | error e'=>exact h
   | ok b=>exact h.elim
 | ok a=>cases y with
   | error e'=>exact h.elim
   | ok b=>exact hf a b h
theorem RE.map {α' β':Type} {R:α→β→Prop} {S:α'→β'→Prop} {x:Except Flt α} {y:Except Flt β} {f:α→α'} {g:β→β'} (h:RE R x y) (hf:∀a b,R a b→S (f a) (g b)):RE S (x.map f) (y.map g):=by
 cases x with
 | error e=>cases y with
   | error e'=>exact h
   | ok b=>exact h.elim
 | ok a=>cases y with
   | error e'=>exact h.elim
   | ok b=>exact hf a b h
def Xvf (t u:Tok):Prop:=u.kind=t.kind∧u.text=t.text
variable {d:Nat}
theorem Sh.is (h:Sh ts us d) (k:Nat) (s:List UInt8):gIs us (k+d) s=gIs ts k s:=by unfold gIs;rw [h.kind,h.text]
theorem Sh.take (h:Sh ts us d) (k:Nat) (kind:Int) (most:Nat):RE Xvf (Xbf ts k kind most) (Xbf us (k+d) kind most):=by
 unfold Xbf
 rw [h.kind,h.text]
 split
 ·rfl
 ·split
  ·rfl
  ·exact ⟨h.kind k,h.text k⟩
theorem Sh.num (h:Sh ts us d) (k:Nat):RE Eq (Xc1 ts k) (Xc1 us (k+d)):=(h.take k 2 8192).map fun t u e=>by rw [e.2]
theorem Sh.sign (h:Sh ts us d) (k:Nat) (s:List UInt8):RE Eq (Xb5 ts k s) (Xb5 us (k+d) s):=by
 unfold Xb5
 rw [h.is]
 split<;>rfl
theorem Sh.name (h:Sh ts us d) (k:Nat) (full:Bool):RE Xvf (Xek ts k full) (Xek us (k+d) full):=
 (h.take k 1 32).bind fun t u e=>by
  cases full with
  | true=>exact rfl
  | false=>exact e
theorem Sh.at (h:Sh ts us d) (k i:Nat):k+d+i=k+i+d:=by omega
theorem Sh.var (h:Sh ts us d) (k:Nat) (env:List (List UInt8 × List UInt8)):RE Eq (Xiy ts k env) (Xiy us (k+d) env):=by
 unfold Xiy
 rw [h.at,h.at]
 refine (h.name k _).bind fun t u e=>?_
 rw [e.2]
 split
 ·rfl
 ·refine (h.sign _ _).bind fun _ _ _=>?_
  refine (h.take _ _ _).bind fun v v' e'=>?_
  rw [e'.2];rfl
theorem Sh.need (h:Sh ts us d) (k:Nat) (out:List (List UInt8)):RE Eq (Xc9 ts k out) (Xc9 us (k+d) out):=by
 unfold Xc9
 refine (h.name k _).bind fun t u e=>?_
 rw [e.2]
 split<;>rfl
theorem Sh.rung (h:Sh ts us d) (k:Nat) (out:List (Int × Int)):RE Eq (Xdd ts k out) (Xdd us (k+d) out):=by
 unfold Xdd
 rw [h.at]
 refine (h.take k _ _).bind fun t u e=>?_
 rw [e.2]
 split
 ·rfl
 ·split
  ·rfl
  ·exact (h.num _).bind fun a b e'=>by rw [e'];rfl
def RP (d:Nat) (x:α × Nat) (y:α × Nat):Prop:=y.1=x.1∧y.2=x.2+d
theorem Sh.list (h:Sh ts us d) {ex ey:Nat→List α→Except Flt α} {st:Nat} (he:∀k out,RE Eq (ex k out) (ey (k+d) out)):∀(q k:Nat) (out:List α),ts.length - k≤q→RE (RP d) (XbR ex st ts k out) (XbR ey st us (k+d) out)
 | q,k,out,hq=>by
   have hk:=he k out
   rw [XbR,XbR]
   cases hx:ex k out with
   | error f=>cases hy:ey (k+d) out with
     | error g=>rw [hx,hy] at hk;exact hk
     | ok b=>rw [hx,hy] at hk;exact hk.elim
   | ok a=>cases hy:ey (k+d) out with
     | error g=>rw [hx,hy] at hk;exact hk.elim
     | ok b=>
       rw [hx,hy] at hk
       obtain rfl:a=b:=hk
       simp only
       rw [h.at,h.is,h.len]
       by_cases hc:k+st < ts.length∧gIs ts (k+st) [44]=true
       ·rw [dif_pos hc,dif_pos ⟨by omega,hc.2⟩,h.at]
        cases q with
        | zero=>omega
        | succ q=>exact Sh.list h he q (k+st+1) _ (by omega)
       ·rw [dif_neg hc,dif_neg (fun e=>hc ⟨by omega,e.2⟩)]
        exact ⟨rfl,rfl⟩
theorem Sh.pol (h:Sh ts us d) (k:Nat):RE Eq (Xix ts k) (Xix us (k+d)):=by
 unfold Xix
 refine (h.take k _ _).bind fun t u e=>?_
 rw [e.2]
 repeat' (first|split|rfl|fail)
def RJ (j j':JF):Prop:=∃l c,j'={ j with line:=l,col:=c }
theorem RJ.refl (j:JF):RJ j j:=⟨j.line,j.col,rfl⟩
def RQ (d:Nat) (x y:JF × Nat):Prop:=RJ x.1 y.1∧y.2=x.2+d
theorem Sh.item (h:Sh ts us d) (k:Nat) (w:List UInt8) {j j':JF} (hj:RJ j j'):RE (RQ d) (XbU ts k w j) (XbU us (k+d) w j'):=by
 obtain ⟨l,c,rfl⟩:=hj
 unfold XbU
 simp only [h.at]
 split
 ·exact (h.take k _ _).map fun t u e=>⟨⟨l,c,by rw [e.2]⟩,rfl⟩
 split
 ·exact (h.var k _).map fun t u e=>⟨⟨l,c,by rw [e]⟩,rfl⟩
 split
 ·exact (h.list (fun k out=>h.need k out) _ k [] (Nat.le_refl _)).map fun t u e=>⟨⟨l,c,by rw [e.1]⟩,e.2⟩
 split
 ·exact (h.take k _ _).map fun t u e=>⟨⟨l,c,by rw [e.2]⟩,rfl⟩
 split
 ·exact (h.pol k).map fun t u e=>⟨⟨l,c,by rw [e]⟩,rfl⟩
 split
 ·exact (h.num k).bind fun a a' e1=>(h.num _).bind fun b b' e2=>(h.num _).bind fun x x' e3=>⟨⟨l,c,by rw [e1,e2,e3]⟩,rfl⟩
 split
 ·refine (h.num k).bind fun a a' e1=>?_
  rw [e1]
  split
  ·exact rfl
  ·exact (h.num _).bind fun b b' e2=>⟨⟨l,c,by rw [e2]⟩,rfl⟩
 ·exact (h.list (fun k out=>h.rung k out) _ k [] (Nat.le_refl _)).map fun t u e=>⟨⟨l,c,by rw [e.1]⟩,e.2⟩
theorem Sh.items (h:Sh ts us d) (name name':Tok):∀(q k:Nat) (seen:List (List UInt8)) (j j':JF),ts.length - k≤q→RJ j j'→RE (RQ d) (Xbg ts name k seen j) (Xbg us name' (k+d) seen j')
 | q,k,seen,j,j',hq,hj=>by
   rw [Xbg,Xbg,h.is,h.kind,h.text]
   split
   ·split
    ·exact ⟨hj,by simp only;omega⟩
    ·exact rfl
   split
   ·exact rfl
   split
   ·exact rfl
   have hi:=h.item (k+1) (tkA ts k).text hj
   rw [←h.at] at hi
   cases hx:XbU ts (k+1) (tkA ts k).text j with
   | error f=>cases hy:XbU us (k+d+1) (tkA ts k).text j' with
     | error g=>rw [hx,hy] at hi;exact hi
     | ok b=>rw [hx,hy] at hi;exact hi.elim
   | ok a=>cases hy:XbU us (k+d+1) (tkA ts k).text j' with
     | error g=>rw [hx,hy] at hi;exact hi.elim
     | ok b=>
       rw [hx,hy] at hi
       obtain ⟨h1,h2⟩:=hi
       simp only
       rw [h.len]
       by_cases hc:k < a.2∧k < ts.length
       ·rw [dif_pos hc,dif_pos ⟨by omega,by omega⟩,h2]
        cases q with
        | zero=>omega
        | succ q=>exact Sh.items h name name' q a.2 _ a.1 b.1 (by omega) h1
       ·rw [dif_neg hc,dif_neg (by omega)]
        exact rfl
theorem Sh.job (h:Sh ts us d) (k:Nat) (full:Bool):RE (RQ d) (Xiw ts k full) (Xiw us (k+d) full):=by
 unfold Xiw
 simp only [h.at]
 refine (h.take k _ _).bind fun t u e=>?_
 rw [e.2]
 split
 ·exact rfl
 ·refine (h.name _ _).bind fun t u e=>?_
  refine (h.sign _ _).bind fun _ _ _=>?_
  refine h.items t u _ _ _ _ _ (Nat.le_refl _) ⟨u.line,u.col,?_⟩
  simp only [Xg1,e.2]
def RL:List JF→List JF→Prop
 | [],[]=>True
 | a :: l,b :: m=>RJ a b∧RL l m
 | _,_=>False
theorem RL.refl:∀l:List JF,RL l l
 | []=>trivial
 | a :: l=>⟨RJ.refl a,RL.refl l⟩
theorem RL.len:∀{l m:List JF},RL l m→m.length=l.length
 | [],[],_=>rfl
 | a :: l,b :: m,h=>by simp [RL.len h.2]
 | [],b :: m,h=>h.elim
 | a :: l,[],h=>h.elim
theorem RL.app:∀{l m l' m':List JF},RL l m→RL l' m'→RL (l++l') (m++m')
 | [],[],_,_,_,h=>h
 | a :: l,b :: m,_,_,h,h'=>⟨h.1,RL.app h.2 h'⟩
 | [],b :: m,_,_,h,_=>h.elim
 | a :: l,[],_,_,h,_=>h.elim
theorem XlM (h:(tkA ts k).kind≠6):k < ts.length:=by
 rcases Nat.lt_or_ge k ts.length with h1|h1
 ·exact h1
 ·exfalso
  apply h
  unfold tkA
  rw [List.getD_eq_getElem?_getD,List.getElem?_eq_none h1]
  rfl
end
open Go.RowKit
theorem Xta (p:UInt8→Bool):spn p []=0:=rfl
theorem XeA (p:UInt8→Bool) (c:UInt8) (r:List UInt8) (h:p c=true):spn p (c :: r)=spn p r+1:=by simp [spn,List.takeWhile_cons,h]
theorem XlJ (p:UInt8→Bool) (c:UInt8) (r:List UInt8) (h:p c=false):spn p (c :: r)=0:=by simp [spn,List.takeWhile_cons,h]
theorem XhC (p:UInt8→Bool) (l:List UInt8):spn p l≤l.length:=(List.takeWhile_prefix p).length_le
theorem Xig:quo []=none:=by rw [quo]
theorem XgE (c:UInt8) (r:List UInt8) (h:c.toNat=34):quo (c :: r)=some ([],1):=by rw [quo,if_pos h]
theorem Xjp (c:UInt8) (r:List UInt8) (h:c.toNat≠34) (h2:part (c :: r)=none):quo (c :: r)=none:=by rw [quo,if_neg h,h2]
theorem Xeg (c:UInt8) (r:List UInt8) (b:UInt8) (n:Nat) (h:c.toNat≠34) (h2:part (c :: r)=some (b,n)):quo (c :: r)=(quo ((c :: r).drop n)).map fun y=>(b :: y.1,n+y.2):=by
 rw [quo,if_neg h,h2];simp only [];rw [show max n 1=n from by have:=Xid h2;omega]
theorem XoV (l:List UInt8):∀x,quo l=some x→1≤x.2∧x.2≤l.length∧x.1.length < x.2:=by
 match h:l with
 | []=>intro x hx;rw [Xig] at hx;cases hx
 | c :: r=>
   intro x hx
   by_cases h1:c.toNat=34
   ·rw [XgE c r h1] at hx;cases hx;simp
   ·cases hp:part (c :: r) with
    | none=>rw [Xjp c r h1 hp] at hx;cases hx
    | some y=>
      obtain ⟨b,n⟩:=y
      have hle:=Xid hp
      rw [Xeg c r b n h1 hp] at hx
      cases hq:quo ((c :: r).drop n) with
      | none=>rw [hq] at hx;cases hx
      | some z=>
        have:=XoV ((c :: r).drop n) z hq
        rw [hq] at hx;cases hx
        simp only [List.length_drop,Xvy] at *;omega
termination_by l.length
decreasing_by subst h;simp;omega
theorem Xim:sla []=none:=by rw [sla]
theorem Xfu (c:UInt8) (r:List UInt8) (h:c.toNat=47):sla (c :: r)=some ([],1):=by rw [sla.eq_def];simp only [if_pos h]
theorem Xil (c:UInt8) (r:List UInt8) (h:c.toNat < 32):sla (c :: r)=none:=by rw [sla.eq_def];simp only [if_neg (show ¬c.toNat=47 by omega),if_pos h]
theorem Xf5 (c:UInt8) (h:c.toNat=92):sla [c]=none:=by rw [sla,if_neg (by omega),if_neg (by omega),if_pos h]
theorem Xf4 (c d:UInt8) (r:List UInt8) (h:c.toNat=92) (h2:d.toNat < 32):sla (c :: d :: r)=none:=by rw [sla,if_neg (by omega),if_neg (by omega),if_pos h];simp only [if_pos h2]
theorem XgK (c d:UInt8) (r:List UInt8) (h:c.toNat=92) (h2:d.toNat=47):sla (c :: d :: r)=(sla r).map fun x=>(d :: x.1,2+x.2):=by
 rw [sla,if_neg (by omega),if_neg (by omega),if_pos h];simp only [if_neg (show ¬d.toNat < 32 by omega),if_pos h2]
theorem XgN (c d:UInt8) (r:List UInt8) (h:c.toNat=92) (h2:32≤d.toNat) (h3:d.toNat≠47):sla (c :: d :: r)=(sla r).map fun x=>(c :: d :: x.1,2+x.2):=by
 rw [sla,if_neg (by omega),if_neg (by omega),if_pos h];simp only [if_neg (show ¬d.toNat < 32 by omega),if_neg h3]
theorem XgL (c:UInt8) (r:List UInt8) (h:c.toNat≠47) (h2:32≤c.toNat) (h3:c.toNat≠92):sla (c :: r)=(sla r).map fun x=>(c :: x.1,1+x.2):=by
 rw [sla.eq_def];simp only [if_neg h,if_neg (show ¬c.toNat < 32 by omega),if_neg h3]
theorem XjC (l:List UInt8):∀x,sla l=some x→1≤x.2∧x.2≤l.length∧x.1.length < x.2:=by
 match h:l with
 | []=>intro x hx;rw [Xim] at hx;cases hx
 | c :: r=>
   intro x hx
   by_cases h1:c.toNat=47
   ·rw [Xfu c r h1] at hx;cases hx;simp
   by_cases h2:c.toNat < 32
   ·rw [Xil c r h2] at hx;cases hx
   by_cases h3:c.toNat=92
   ·match r,hx with
    | [],hx=>rw [Xf5 c h3] at hx;cases hx
    | d :: r,hx=>
      by_cases h4:d.toNat < 32
      ·rw [Xf4 c d r h3 h4] at hx;cases hx
      by_cases h5:d.toNat=47
      ·rw [XgK c d r h3 h5] at hx
       cases hq:sla r with
       | none=>rw [hq] at hx;cases hx
       | some z=>have:=XjC r z hq;rw [hq] at hx;cases hx;simp only [Xvy];omega
      ·rw [XgN c d r h3 (by omega) h5] at hx
       cases hq:sla r with
       | none=>rw [hq] at hx;cases hx
       | some z=>have:=XjC r z hq;rw [hq] at hx;cases hx;simp only [Xvy];omega
   ·rw [XgL c r h1 (by omega) h3] at hx
    cases hq:sla r with
    | none=>rw [hq] at hx;cases hx
    | some z=>have:=XjC r z hq;rw [hq] at hx;cases hx;simp only [Xvy];omega
termination_by l.length
decreasing_by
 all_goals subst h;simp;try omega
theorem XcU (p:Nat × Nat) (n:Nat) (l:List UInt8) (h:l.drop (skp l)=[]):Xci p n l=.ok [⟨6,[],(plc p l).1,(plc p l).2⟩]:=by
 rw [Xci]
 split
 ·rfl
 ·rename_i h2;rw [h] at h2;cases h2
theorem Xdt (p:Nat × Nat) (n:Nat) (l:List UInt8) (c:UInt8) (r:List UInt8) (e:Int) (h:l.drop (skp l)=c :: r) (h1:one (c :: r)=.error e):Xci p n l=.error ⟨e,(plc p (l.take (skp l))).1,(plc p (l.take (skp l))).2⟩:=by
 rw [Xci]
 split
 ·rename_i h2;rw [h] at h2;cases h2
 ·rename_i c' r' h2
  rw [h] at h2;cases h2
  rw [h1]
theorem Xc3 (p:Nat × Nat) (n:Nat) (l:List UInt8) (c:UInt8) (r:List UInt8) (x:Int × List UInt8 × Nat) (h:l.drop (skp l)=c :: r) (h1:one (c :: r)=.ok x) (hn:2000≤n):Xci p n l=.error ⟨1,(plc p (l.take (skp l))).1,(plc p (l.take (skp l))).2⟩:=by
 rw [Xci]
 split
 ·rename_i h2;rw [h] at h2;cases h2
 ·rename_i c' r' h2
  rw [h] at h2;cases h2
  rw [h1]
  simp only [if_pos hn]
theorem Xda (p:Nat × Nat) (n:Nat) (l:List UInt8) (c:UInt8) (r:List UInt8) (k:Int) (t:List UInt8) (m:Nat) (h:l.drop (skp l)=c :: r) (h1:one (c :: r)=.ok (k,t,m)) (hm:1≤m) (hn:n < 2000) :
  Xci p n l=(Xci (plc p (l.take (skp l+m))) (n+1) ((c :: r).drop m)).map (⟨k,t,(plc p (l.take (skp l))).1,(plc p (l.take (skp l))).2⟩ :: ·):=by
 rw [Xci]
 split
 ·rename_i h2;rw [h] at h2;cases h2
 ·rename_i c' r' h2
  rw [h] at h2;cases h2
  rw [h1]
  simp only [if_neg (show ¬2000≤n by omega),show max m 1=m from by omega]
end Go.Proofs.YtdpobjakdplljaaGreatDoor

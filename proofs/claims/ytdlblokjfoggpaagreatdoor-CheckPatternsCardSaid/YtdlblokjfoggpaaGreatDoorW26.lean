import Derived.Test.YtdlblokjfoggpaaGreatDoorW25
import Derived.Test.YtdlblokjfoggpaaGreatDoorW6
import Derived.Test.YtdlblokjfoggpaaGreatDoorW7
import Derived.Test.YtdlblokjfoggpaaGreatDoorW15
import Derived.Test.YtdlblokjfoggpaaGreatDoorW23
import Derived.Test.YtdlblokjfoggpaaGreatDoorW8
import Derived.Test.YtdlblokjfoggpaaGreatDoorW12
/- The tokens of a text, one after the other: what lies read. No program in sight. -/
set_option linter.unusedSimpArgs false
set_option linter.unusedVariables false
set_option maxRecDepth 100000
set_option maxHeartbeats 8000000
namespace Go.Proofs.YtdlblokjfoggpaaGreatDoor
open Go.RowKit
theorem Xq7 (p:Nat × Nat) (a b:List UInt8):plc p (a++b)=plc (plc p a) b:=by
 induction a generalizing p with
 | nil=>rfl
 | cons c a ih=>simp only [Xyz,plc];exact ih _
theorem XfA (l:List UInt8) (k s:Nat):plc (plc (1,1) (l.take k)) ((l.drop k).take s)=plc (1,1) (l.take (k+s)):=by
 rw [←Xq7,←List.take_add]
theorem XuA (l:List UInt8):skp l≤l.length:=by
 induction h:l.length using Nat.strongRecOn generalizing l with
 | _ n ih=>
   cases l with
   | nil=>simp [Xpg]
   | cons c r=>
     by_cases h1:c.toNat=32∨c.toNat=9∨c.toNat=10∨c.toNat=13
     ·rw [Xjb c r h1]
      have:=ih r.length (by simp at h;omega) r rfl
      simp at h;omega
     ·by_cases h2:c.toNat=35
      ·rw [Xpf c r h2]
       have h3:=Xgf c r (by omega)
       have:=ih ((c :: r).drop (cmt (c :: r))).length (by simp at h ⊢;omega) _ rfl
       have h4:=XrR (c :: r)
       rw [List.length_drop] at this
       omega
      ·rw [Xsr c r h1 h2];exact Nat.zero_le _
theorem Xgy {l:List UInt8} {x:Int × List UInt8 × Nat} (h:one l=.ok x):1≤x.2.2∧x.2.2≤l.length∧x.2.1.length≤l.length∧x.1≠6:=by
 cases l with
 | nil=>simp [one] at h
 | cons c r=>
   have hs:=fun p=>Xlw p (c :: r)
   simp only [one] at h
   split at h
   ·cases h
    rename_i hc
    have:=XgL XeR c r (by simp [XeR,hc])
    refine ⟨by simp only;omega,hs _,by simp only [List.length_take];omega,by simp⟩
   ·split at h
    ·rename_i hc
     have:=XgL XbK c r hc
     split at h
     ·cases h
     ·cases h;refine ⟨by simp only;omega,hs _,by simp only [List.length_take];omega,by simp⟩
    ·split at h
     ·cases hq:quo r with
      | none=>rw [hq] at h;cases h
      | some y=>
        rw [hq] at h;cases h
        have:=Xsl r y hq
        simp only [Xyr]
        refine ⟨by omega,by omega,by omega,by simp⟩
     ·split at h
      ·cases hq:sla r with
       | none=>rw [hq] at h;cases h
       | some y=>
         rw [hq] at h;cases h
         have:=Xlr r y hq
         simp only [Xyr]
         refine ⟨by omega,by omega,by omega,by simp⟩
      ·split at h
       ·cases h;simp
       ·cases h
structure Xjl (l:List UInt8) (k:Nat) (ts:List Tok):Prop where
 le:k≤l.length
 cnt:ts.length≤2000
 eq:Xct (1,1) 0 l=(Xct (plc (1,1) (l.take k)) ts.length (l.drop k)).map (ts++·)
theorem XhI {ε α:Type} (x:Except ε α) (f:α→α) (h:∀a,f a=a):x.map f=x:=by cases x<;>simp [Except.map,h]
theorem Xjl.start (l:List UInt8):Xjl l 0 [] where
 le:=Nat.zero_le _
 cnt:=Nat.zero_le _
 eq:=by simp [plc,XhI]
section
variable {l:List UInt8} {k:Nat} {ts:List Tok}
def nxk (l:List UInt8) (k:Nat):Nat:=k+skp (l.drop k)
theorem Xv3 (h:k≤l.length):nxk l k≤l.length:=by
 have:=XuA (l.drop k)
 rw [List.length_drop] at this
 unfold nxk;omega
theorem Xjl.fin (h:Xjl l k ts) (he:l.length≤nxk l k):Xct (1,1) 0 l=.ok (ts++[⟨6,[],(plc (1,1) (l.take (nxk l k))).1,(plc (1,1) (l.take (nxk l k))).2⟩]):=by
 have hd:(l.drop k).drop (skp (l.drop k))=[]:=by
  rw [List.drop_drop];exact List.drop_eq_nil_of_le (by unfold nxk at he;omega)
 rw [h.eq,XdK _ _ _ hd]
 have:plc (plc (1,1) (l.take k)) (l.drop k)=plc (1,1) (l.take (nxk l k)):=by
  have h2:=XfA l k (l.length - k)
  rw [List.take_of_length_le (show (l.drop k).length≤l.length - k by rw [List.length_drop];exact Nat.le_refl _),List.take_of_length_le (show l.length≤k+(l.length - k) by omega)] at h2
  rw [h2,List.take_of_length_le he]
 rw [this];rfl
theorem Xjl.cons (h:Xjl l k ts) (he:nxk l k < l.length):∃c r,l.drop (nxk l k)=c :: r∧(l.drop k).drop (skp (l.drop k))=c :: r:=by
 refine ⟨l[nxk l k],l.drop (nxk l k+1),List.drop_eq_getElem_cons he,?_⟩
 rw [List.drop_drop];exact List.drop_eq_getElem_cons he
theorem Xjl.bad (h:Xjl l k ts) {c:UInt8} {r:List UInt8} (hc:(l.drop k).drop (skp (l.drop k))=c :: r) {e:Int} (h1:one (c :: r)=.error e):Xct (1,1) 0 l=.error ⟨e,(plc (1,1) (l.take (nxk l k))).1,(plc (1,1) (l.take (nxk l k))).2⟩:=by
 rw [h.eq,XdJ _ _ _ c r e hc h1,XfA];rfl
theorem Xjl.full (h:Xjl l k ts) {c:UInt8} {r:List UInt8} (hc:(l.drop k).drop (skp (l.drop k))=c :: r) {x:Int × List UInt8 × Nat} (h1:one (c :: r)=.ok x) (hn:2000≤ts.length):Xct (1,1) 0 l=.error ⟨1,(plc (1,1) (l.take (nxk l k))).1,(plc (1,1) (l.take (nxk l k))).2⟩:=by
 rw [h.eq,Xdn _ _ _ c r x hc h1 hn,XfA];rfl
theorem Xjl.next (h:Xjl l k ts) {c:UInt8} {r:List UInt8} (hc:(l.drop k).drop (skp (l.drop k))=c :: r) {a:Int} {t:List UInt8} {m:Nat} (h1:one (c :: r)=.ok (a,t,m)) (hn:ts.length < 2000) :
  Xjl l (nxk l k+m) (ts++[⟨a,t,(plc (1,1) (l.take (nxk l k))).1,(plc (1,1) (l.take (nxk l k))).2⟩]):=by
 obtain ⟨g1,g2,g3,g4⟩:=Xgy h1
 simp only at g1 g2
 have hlen:=congrArg List.length hc
 simp only [List.length_drop] at hlen
 have hle:=h.le
 refine ⟨by unfold nxk;omega,by simp;omega,?_⟩
 rw [h.eq,XdL _ _ _ c r a t m hc h1 g1 hn,XfA,XfA]
 have e1:(c :: r).drop m=l.drop (nxk l k+m):=by rw [←hc,List.drop_drop,List.drop_drop];congr 1;unfold nxk;omega
 rw [e1,show k+(skp (l.drop k)+m)=nxk l k+m from by unfold nxk;omega]
 simp only [XyA,Xyr,Xyu,Nat.zero_add]
 cases Xct (plc (1,1) (l.take (nxk l k+m))) (ts.length+1) (l.drop (nxk l k+m)) with
 | error e=>rfl
 | ok y=>simp only [Except.map,nxk,List.append_assoc,List.singleton_append]
end
theorem XhT:∀(n:Nat) (p:Nat × Nat) (i:Nat) (l:List UInt8) (ts:List Tok),l.length≤n→Xct p i l=.ok ts→∃qs e,ts=qs++[e]∧e.kind=6∧(∀t∈qs,t.kind≠6)∧∀t∈ts,t.text.length≤l.length
 | n,p,i,l,ts,hn,h=>by
   cases hd:l.drop (skp l) with
   | nil=>
     rw [XdK p i l hd] at h;cases h
     exact ⟨[],_,rfl,rfl,by simp,by simp⟩
   | cons c r=>
     have hlen:=congrArg List.length hd
     simp only [List.length_drop,Xyr] at hlen
     cases h1:one (c :: r) with
     | error e=>rw [XdJ p i l c r e hd h1] at h;cases h
     | ok x=>
       by_cases hi:2000≤i
       ·rw [Xdn p i l c r x hd h1 hi] at h;cases h
       ·obtain ⟨a,t,m⟩:=x
        obtain ⟨g1,g2,g3,g4⟩:=Xgy h1
        simp only at g1 g2 g3 g4
        rw [XdL p i l c r a t m hd h1 g1 (by omega)] at h
        cases hr:Xct (plc p (l.take (skp l+m))) (i+1) ((c :: r).drop m) with
        | error e=>rw [hr] at h;cases h
        | ok y=>
          rw [hr] at h
          simp only [Except.map] at h
          cases h
          cases n with
          | zero=>omega
          | succ n=>
            obtain ⟨qs,e,rfl,he,has,ht⟩:=XhT n _ _ _ y (by simp only [List.length_drop,Xyr];omega) hr
            refine ⟨_ :: qs,e,rfl,he,?_,?_⟩
            ·intro t ht
             rcases List.mem_cons.1 ht with rfl|ht
             ·exact g4
             ·exact has t ht
            ·intro t ht2
             rcases List.mem_cons.1 ht2 with rfl|ht2
             ·show t.length≤l.length
              rw [Xyr] at g3;omega
             ·have:=ht t ht2
              rw [List.length_drop,Xyr] at this;omega
open Go.RowKit
def Tok.cells (t:Tok):List AV:=[.x (.int .i64 t.kind),.x (.string (bs t.text)),.x (.int .i64 (t.line:Nat)),.x (.int .i64 (t.col:Nat))]
def ta (l:List Tok):List AV:=l.flatMap Tok.cells
@[simp] theorem Xx6 (l:List Tok):(ta l).length=l.length*4:=by
 induction l with
 | nil=>rfl
 | cons j l ih=>simp only [ta,List.flatMap_cons,XyA,Xyr] at ih ⊢;rw [ih];simp [Tok.cells];omega
theorem XsC (l m:List Tok):ta (l++m)=ta l++ta m:=by simp [ta]
theorem Xfp (l:List Tok) (k:Nat) (h:k < l.length):(ta l).drop (k*4)=l[k].cells++ta (l.drop (k+1)):=by
 induction l generalizing k with
 | nil=>simp at h
 | cons j l ih=>
   have hc:j.cells.length=4:=rfl
   cases k with
   | zero=>simp [ta]
   | succ k=>
     simp only [ta,List.flatMap_cons,List.drop_succ_cons,List.getElem_cons_succ] at ih ⊢
     rw [show (k+1)*4=4+k*4 from by omega,←List.drop_drop,List.drop_append_of_le_length (by omega),show j.cells.drop 4=[] from rfl,Xyy]
     exact ih k (by simpa using h)
def XlD:Except Flt (List Tok)→List Tok|.ok l=>l|.error _=>[]
def Xtx:Except Flt (List Tok)→Flt|.ok _=>⟨0,0,0⟩|.error f=>f
def Flt.av (f:Flt):AV:=.x (.agg #[.int .i64 f.code,.int .i64 (f.line:Nat),.int .i64 (f.col:Nat)])
theorem Xua {l:List UInt8} {e:Int} (h:one l=.error e):50≤e∧e≤53:=by
 cases l with
 | nil=>simp [one] at h;omega
 | cons c r=>
   simp only [one] at h
   repeat' (first|(split at h)|(cases h;done)|(cases h;omega)|fail)
   all_goals (first|(cases h;omega)|fail)
def pc (ts:List Tok) (k:Nat) (e l c:Int) (sv:AV):List AV:=[.sq ts.length (ta ts),.x (.int .i64 k),.x (.int .i64 e),.x (.int .i64 l),.x (.int .i64 c),sv]
def Tok.av (t:Tok):AV:=.x (.agg #[.int .i64 t.kind,.string (bs t.text),.int .i64 (t.line:Nat),.int .i64 (t.col:Nat)])
def VT (ts:List Tok):Prop:=∀k,(h:k < ts.length)→ts[k].kind≠6→k+1 < ts.length
structure St (ts:List Tok) (k:Nat) (e:Int) (k':Nat) (e':Int):Prop where
 le:k≤k'
 lt:k' < ts.length
 bad:e'=0→e=0
def tkA (ts:List Tok) (k:Nat):Tok:=ts.getD k ⟨6,[],0,0⟩
def flt (e:Int) (t:Tok):Flt:=⟨e,t.line,t.col⟩
def XcZ (ts:List Tok) (k:Nat) (kind:Int) (most:Nat):Except Flt Tok:=
 if (tkA ts k).kind≠kind then .error (flt 60 (tkA ts k)) else if most < (tkA ts k).text.length then .error (flt 1 (tkA ts k)) else .ok (tkA ts k)
def gIs (ts:List Tok) (k:Nat) (s:List UInt8):Bool:=(tkA ts k).kind == 5 && (tkA ts k).text == s
def XgY (ts:List Tok) (k:Nat) (s:List UInt8):Except Flt Unit:=if gIs ts k s then .ok () else .error (flt 60 (tkA ts k))
def Xm0 (l:List UInt8):Int:=l.foldl (fun n c=>10*n+(c.toNat - 48)) 0
def XeA (ts:List Tok) (k:Nat):Except Flt Int:=(XcZ ts k 2 8192).map fun t=>Xm0 t.text
def XlH:List UInt8:=[114,117,110]
def Xij:List UInt8:=[101,110,118]
def XdQ:List UInt8:=[110,101,101,100,115]
def XfE:List UInt8:=[114,101,97,100,121]
def Xda:List UInt8:=[114,101,115,116,97,114,116]
def XcD:List UInt8:=[98,97,99,107,111,102,102]
def Xe7:List UInt8:=[98,117,114,115,116]
def XmV:List UInt8:=[115,116,111,112]
def XxQ:List UInt8:=[106,111,98]
def Xgs:List (List UInt8):=[XlH,Xij,XdQ,XfE,Xda,XcD,Xe7,XmV]
def Xuz (s:List UInt8):Int:=
 if s=[72,85,80] then 1 else if s=[73,78,84] then 2 else if s=[81,85,73,84] then 3 else if s=[85,83,82,49] then 10 else if s=[85,83,82,50] then 12 else if s=[84,69,82,77] then 15 else 0
def Xfh (ts:List Tok) (k:Nat) (full:Bool):Except Flt Tok:=do
 let t ←XcZ ts k 1 32
 if full then .error (flt 1 t) else .ok t
def XtB (ts:List Tok) (k:Nat) (env:List (List UInt8 × List UInt8)):Except Flt (List UInt8 × List UInt8):=do
 let t ←Xfh ts k (decide (16≤env.length))
 if env.any (·.1 == t.text) then .error (flt 5 t) else
 XgY ts (k+1) [61]
 let v ←XcZ ts (k+2) 3 512
 .ok (t.text,v.text)
def XfI (ts:List Tok) (k:Nat) (out:List (List UInt8)):Except Flt (List UInt8):=do
 let t ←Xfh ts k (decide (16≤out.length))
 if out.contains t.text then .error (flt 5 t) else .ok t.text
def Xfj (ts:List Tok) (k:Nat) (out:List (Int × Int)):Except Flt (Int × Int):=do
 let t ←XcZ ts k 1 8192
 if 5≤out.length then .error (flt 1 t) else
 if Xuz t.text=0 then .error (flt 4 t) else
 let n ←XeA ts (k+1)
 .ok (Xuz t.text,n)
def Xdf {α:Type} (el:Nat→List α→Except Flt α) (st:Nat) (ts:List Tok) (k:Nat) (out:List α):Except Flt (List α × Nat):=
 match el k out with
 | .error f=>.error f
 | .ok x=>if h:k+st < ts.length∧gIs ts (k+st) [44]=true then Xdf el st ts (k+st+1) (out++[x]) else .ok (out++[x],k+st)
termination_by ts.length - k
decreasing_by omega
def Xqy (ts:List Tok) (k:Nat):Except Flt Int:=do
 let t ←XcZ ts k 1 8192
 if t.text=[97,108,119,97,121,115] then .ok 3 else if t.text=[111,110,45,102,97,105,108,117,114,101] then .ok 2 else if t.text=[110,101,118,101,114] then .ok 1 else .error (flt 60 t)
def XcI (ts:List Tok) (k:Nat) (w:List UInt8) (j:JF):Except Flt (JF × Nat):=
 if w=XlH then (XcZ ts k 3 512).map fun t=>({ j with run:=t.text },k+1)
 else if w=Xij then (XtB ts k j.env).map fun v=>({ j with env:=j.env++[v] },k+3)
 else if w=XdQ then (Xdf (XfI ts) 1 ts k []).map fun x=>({ j with needs:=x.1 },x.2)
 else if w=XfE then (XcZ ts k 4 128).map fun t=>({ j with hasr:=true,ready:=t.text },k+1)
 else if w=Xda then (Xqy ts k).map fun n=>({ j with restart:=n },k+1)
 else if w=XcD then do
  let a ←XeA ts k
  let b ←XeA ts (k+1)
  let c ←XeA ts (k+2)
  .ok ({ j with base:=a,cap:=b,stable:=c },k+3)
 else if w=Xe7 then do
  let n ←XeA ts k
  if n < 1∨16 < n then .error (flt 2 (tkA ts k)) else
  let m ←XeA ts (k+1)
  .ok ({ j with burst:=n,window:=m },k+2)
 else (Xdf (Xfj ts) 2 ts k []).map fun x=>({ j with ladder:=x.1 },x.2)
def Xcn (ts:List Tok) (name:Tok) (k:Nat) (seen:List (List UInt8)) (j:JF):Except Flt (JF × Nat):=
 if gIs ts k [125] then (if seen.contains XlH then .ok (j,k+1) else .error (flt 6 name))
 else if (tkA ts k).kind≠1∨¬Xgs.contains (tkA ts k).text then .error (flt 60 (tkA ts k))
 else if (tkA ts k).text≠Xij∧seen.contains (tkA ts k).text then .error (flt 5 (tkA ts k))
 else match XcI ts (k+1) (tkA ts k).text j with
  | .error f=>.error f
  | .ok x=>if h:k < x.2∧k < ts.length then Xcn ts name x.2 (if (tkA ts k).text=Xij then seen else seen++[(tkA ts k).text]) x.1 else .error (flt 60 (tkA ts k))
termination_by ts.length - k
decreasing_by omega
def Xk6 (t:Tok):JF:={ name:=t.text,run:=[],env:=[],needs:=[],hasr:=false,ready:=[],restart:=2,base:=100,cap:=10000,stable:=10000,burst:=5,window:=60000,ladder:=[(15,5000)],line:=t.line,col:=t.col }
def Xk2 (ts:List Tok) (k:Nat) (full:Bool):Except Flt (JF × Nat):=do
 let w ←XcZ ts k 1 8192
 if w.text≠XxQ then .error (flt 60 w) else
 let t ←Xfh ts (k+1) full
 XgY ts (k+2) [123]
 Xcn ts t (k+3) [] (Xk6 t)
def Xec (ts:List Tok) (k:Nat) (out:List JF):Except Flt (List JF):=
 if (tkA ts k).kind=6 then .ok out
 else match Xk2 ts k (decide (32≤out.length)) with
  | .error f=>.error f
  | .ok x=>if h:k < x.2∧k < ts.length then Xec ts x.2 (out++[x.1]) else .ok out
termination_by ts.length - k
decreasing_by omega
def XcR (s:List UInt8):Except Flt (List JF):=match lex s with
 | .error f=>.error f
 | .ok ts=>Xec ts 0 []
theorem XaN {ts:List Tok} {k:Nat} (h:k < ts.length):tkA ts k=ts[k]:=by simp [tkA,List.getD_eq_getElem?_getD,h]
structure PS where
 k:Nat
 e:Int
 l:Int
 c:Int
def PS.cells (s:PS) (ts:List Tok) (sv:AV):List AV:=pc ts s.k s.e s.l s.c sv
def PS.fail (s:PS) (e:Int) (t:Tok):PS:=if s.e=0 then ⟨s.k,e,t.line,t.col⟩ else s
def PS.flt (s:PS) (f:Flt):PS:=if s.e=0 then ⟨s.k,f.code,f.line,f.col⟩ else s
def PS.on (s:PS) (n:Nat):PS:=if s.e=0 then ⟨s.k+n,0,s.l,s.c⟩ else s
def PS.upon {α:Type} (s:PS) (x:Except Flt α) (n:Nat):PS:=match x with
 | .ok _=>s.on n
 | .error f=>s.flt f
def XeB (l:List UInt8):Prop:=∀c∈l,48≤c.toNat∧c.toNat≤57
def Xu2 (ts:List Tok):Prop:=∀t∈ts,t.kind=2→t.text.length≤18∧XeB t.text
def Got {α:Type} (ts:List Tok) (s:PS) (x:Except Flt (α × Nat)) (s':PS) (v:α):Prop:=
 s'.k < ts.length∧s.k≤s'.k∧(s.e≠0→s'=s)∧(s.e=0→match x with
  | .ok p=>v=p.1∧s'=⟨p.2,0,s.l,s.c⟩
  | .error f=>f.code≠0∧s'.e=f.code∧s'.l=f.line∧s'.c=f.col)
theorem Got.bind {α β:Type} {ts:List Tok} {s s1 s2:PS} {x:Except Flt (α × Nat)} {y:α→Nat→Except Flt (β × Nat)} {a:α} {b:β} (h1:Got ts s x s1 a) (h2:Got ts s1 (y a s1.k) s2 b):Got ts s (x >>= fun p=>y p.1 p.2) s2 b:=by
 obtain ⟨_,hq1,h1n,h1z⟩:=h1
 obtain ⟨hk,hq2,h2n,h2z⟩:=h2
 refine ⟨hk,Nat.le_trans hq1 hq2,fun h=>?_,fun h=>?_⟩
 ·have e:=h1n h
  subst e
  exact h2n h
 ·have h1':=h1z h
  cases x with
  | ok p=>
    obtain ⟨e1,e2⟩:=h1'
    subst e1 e2
    exact h2z rfl
  | error f=>
    obtain ⟨g1,g2,g3,g4⟩:=h1'
    have e:=h2n (by rw [g2];exact g1)
    subst e
    exact ⟨g1,g2,g3,g4⟩
theorem Got.of {α:Type} {ts:List Tok} {s s':PS} {x y:Except Flt (α × Nat)} {v:α} (h:Got ts s x s' v) (e:y=x):Got ts s y s' v:=e▸h
theorem Got.val {α β:Type} {ts:List Tok} {s s':PS} {x:Except Flt (α × Nat)} {v:α} (f:α→β) (h:Got ts s x s' v):Got ts s (x.map fun p=>(f p.1,p.2)) s' (f v):=by
 obtain ⟨hk,hq,hn,hz⟩:=h
 refine ⟨hk,hq,hn,fun e=>?_⟩
 have h':=hz e
 cases x with
 | ok p=>exact ⟨by rw [h'.1],h'.2⟩
 | error g=>exact h'
theorem Got.any {α:Type} {ts:List Tok} {s s':PS} {x:Except Flt (α × Nat)} {v w:α} (h:Got ts s x s' v) (hb:s'.e≠0):Got ts s x s' w:=by
 obtain ⟨hk,hq,hn,hz⟩:=h
 refine ⟨hk,hq,hn,fun e=>?_⟩
 have h':=hz e
 cases x with
 | ok p=>exfalso;rw [h'.2] at hb;exact hb rfl
 | error g=>exact h'
theorem Got.test {α:Type} {ts:List Tok} {s:PS} (hk:s.k < ts.length) (e2:Int) (h2:e2≠0) (t:Tok) (v:α):Got ts s (.error (flt e2 t)) (s.fail e2 t) v:=by
 refine ⟨by simp only [PS.fail];split<;>exact hk,by simp only [PS.fail];split<;>exact Nat.le_refl _,fun e=>by simp only [PS.fail,if_neg e],fun e=>?_⟩
 simp only [PS.fail,if_pos e]
 exact ⟨h2,rfl,rfl,rfl⟩
theorem Got.bad {α:Type} {ts:List Tok} {s:PS} (hk:s.k < ts.length) (hb:s.e≠0) (x:Except Flt (α × Nat)) (v:α):Got ts s x s v:=⟨hk,Nat.le_refl _,fun _=>rfl,fun e=>absurd e hb⟩
theorem Got.lt {α:Type} {ts:List Tok} {s s':PS} {x:Except Flt (α × Nat)} {v:α} (h:Got ts s x s' v):s'.k < ts.length:=h.1
theorem Got.ok {α:Type} {ts:List Tok} {s s':PS} {x:Except Flt (α × Nat)} {v:α} (h:Got ts s x s' v) (hz:s'.e=0):s.e=0∧x=.ok (v,s'.k)∧s'.l=s.l∧s'.c=s.c:=by
 obtain ⟨hk,-,hn,hz'⟩:=h
 by_cases e:s.e=0
 ·have h':=hz' e
  cases x with
  | ok p=>obtain ⟨h1,h2⟩:=h';subst h1 h2;exact ⟨e,rfl,rfl,rfl⟩
  | error g=>exact absurd (h'.2.1▸hz) h'.1
 ·exact absurd ((hn e)▸hz) e
def Xwa (t:Tok):Except Flt Int:=if t.text=[97,108,119,97,121,115] then .ok 3 else if t.text=[111,110,45,102,97,105,108,117,114,101] then .ok 2 else if t.text=[110,101,118,101,114] then .ok 1 else .error (flt 60 t)
theorem Got.err {α:Type} {ts:List Tok} {s:PS} (hk:s.k < ts.length) (he:s.e=0) (e2:Int) (h2:e2≠0) (t:Tok) (v:α):Got ts s (.error (flt e2 t)) ⟨s.k,e2,t.line,t.col⟩ v:=
 ⟨hk,Nat.le_refl _,fun h=>absurd he h,fun _=>⟨h2,rfl,rfl,rfl⟩⟩
theorem Got.step {α:Type} {ts:List Tok} {k k2:Nat} {e l c:Int} {s':PS} {x:Except Flt (α × Nat)} {v:α} (h:Got ts ⟨k2,e,l,c⟩ x s' v) (he:e=0) (hq:k≤k2):Got ts ⟨k,e,l,c⟩ x s' v:=
 ⟨h.1,Nat.le_trans hq h.2.1,fun hn=>absurd he hn,h.2.2.2⟩
theorem Got.next {α:Type} {x:Except Flt α} {k k2:Nat} {v:α} (h:(x.map fun a=>(a,k))=.ok (v,k2)):k2=k:=by
 cases x with
 | ok a=>cases h;rfl
 | error f=>cases h
theorem XfR {ts:List Tok} (hv:VT ts) {s:List UInt8} (k:Nat) (hk:k < ts.length) (h:gIs ts k s=true):k+1 < ts.length:=by
 simp only [gIs,Bool.and_eq_true,beq_iff_eq,XaN hk] at h
 exact hv k hk (by omega)
def XiN (ts:List Tok) (k:Nat) (j:JF):Except Flt (JF × Nat):=do
 let n ←XeA ts k
 if n < 1∨16 < n then .error (flt 2 (tkA ts k)) else
 let m ←XeA ts (k+1)
 .ok ({ j with burst:=n,window:=m },k+2)
def Xyl:List (List UInt8):=[[114,117,110],[101,110,118],[110,101,101,100,115],[114,101,97,100,121],[114,101,115,116,97,114,116],[98,97,99,107,111,102,102],[98,117,114,115,116],[115,116,111,112]]
structure JB (j:JF) (k:Nat):Prop where
 env:j.env.length≤k
 needs:j.needs.length≤k
 ladder:j.ladder.length≤k
theorem JB.mono {j:JF} {k k':Nat} (h:JB j k) (hk:k≤k'):JB j k':=⟨Nat.le_trans h.1 hk,Nat.le_trans h.2 hk,Nat.le_trans h.3 hk⟩
section
variable (ts:List Tok) (k:Nat) (j:JF)
theorem Xgl:XcI ts k XlH j=((XcZ ts k 3 512).map fun t=>(t,k+1)).map fun p=>({ j with run:=p.1.text },p.2):=by
 unfold XcI
 rw [if_pos rfl]
 cases XcZ ts k 3 512<;>rfl
theorem Xgi:XcI ts k Xij j=(XtB ts k j.env).map fun v=>({ j with env:=j.env++[v] },k+3):=by
 unfold XcI
 rw [if_neg (by decide),if_pos rfl]
theorem Xgj:XcI ts k XdQ j=(Xdf (XfI ts) 1 ts k []).map fun p=>({ j with needs:=p.1 },p.2):=by
 unfold XcI
 rw [if_neg (by decide),if_neg (by decide),if_pos rfl]
theorem Xgk:XcI ts k XfE j=((XcZ ts k 4 128).map fun t=>(t,k+1)).map fun p=>({ j with hasr:=true,ready:=p.1.text },p.2):=by
 unfold XcI
 rw [if_neg (by decide),if_neg (by decide),if_neg (by decide),if_pos rfl]
 cases XcZ ts k 4 128<;>rfl
theorem XeN:XcI ts k Xda j=((Xqy ts k).map fun n=>(n,k+1)).map fun p=>({ j with restart:=p.1 },p.2):=by
 unfold XcI
 rw [if_neg (by decide),if_neg (by decide),if_neg (by decide),if_neg (by decide),if_pos rfl]
 cases Xqy ts k<;>rfl
theorem XcT:XcI ts k XcD j=((XeA ts k).map fun n=>(n,k+1)) >>= fun p=>((XeA ts p.2).map fun n=>(n,p.2+1)) >>= fun q=>((XeA ts q.2).map fun n=>(n,q.2+1)).map fun r=>({ j with base:=p.1,cap:=q.1,stable:=r.1 },r.2):=by
 unfold XcI
 rw [if_neg (by decide),if_neg (by decide),if_neg (by decide),if_neg (by decide),if_neg (by decide),if_pos rfl]
 cases h1:XeA ts k with
 | error f=>rfl
 | ok a=>
   simp only [Except.map,bind,Except.bind]
   cases h2:XeA ts (k+1) with
   | error f=>rfl
   | ok b=>
     simp only [Except.map,bind,Except.bind]
     cases h3:XeA ts (k+2)<;>simp [h3]
theorem Xdy:XcI ts k Xe7 j=XiN ts k j:=by
 unfold XcI
 rw [if_neg (by decide),if_neg (by decide),if_neg (by decide),if_neg (by decide),if_neg (by decide),if_neg (by decide),if_pos rfl]
 rfl
theorem Xhb:XcI ts k XmV j=(Xdf (Xfj ts) 2 ts k []).map fun p=>({ j with ladder:=p.1 },p.2):=by
 unfold XcI
 rw [if_neg (by decide),if_neg (by decide),if_neg (by decide),if_neg (by decide),if_neg (by decide),if_neg (by decide),if_neg (by decide)]
end
open Go.RowKit
def JF.zero:JF:=⟨[],[],[],[],false,[],0,0,0,0,0,0,[],0,0⟩
def Xu5 (ts:List Tok):Prop:=∀t∈ts,t.text.length≤8192
theorem Xhd {ts:List Tok} {name:Tok} {k:Nat} {seen:List (List UInt8)} {j:JF} (h:gIs ts k [125]=false) (h2:(tkA ts k).kind≠1∨¬(tkA ts k).text∈Xgs):Xcn ts name k seen j=.error (flt 60 (tkA ts k)):=by
 rw [Xcn,if_neg (by rw [h];decide),if_pos (by simpa using h2)]
theorem Xmm {ts:List Tok} {name:Tok} {k:Nat} {seen:List (List UInt8)} {j:JF} (h:gIs ts k [125]=false) (h2:(tkA ts k).kind=1) (h3:(tkA ts k).text∈Xgs) (h4:(tkA ts k).text≠Xij) (h5:seen.contains (tkA ts k).text=true):Xcn ts name k seen j=.error (flt 5 (tkA ts k)):=by
 rw [Xcn,if_neg (by rw [h];decide),if_neg (by simp [h2,h3]),if_pos ⟨h4,h5⟩]
theorem Xdz {ts:List Tok} {name:Tok} {k:Nat} {seen:List (List UInt8)} {j:JF} (h:gIs ts k [125]=false) (h2:(tkA ts k).kind=1) (h3:(tkA ts k).text∈Xgs) (h4:¬((tkA ts k).text≠Xij∧seen.contains (tkA ts k).text=true)):Xcn ts name k seen j=XcI ts (k+1) (tkA ts k).text j >>= fun x=>if k < x.2∧k < ts.length then Xcn ts name x.2 (if (tkA ts k).text=Xij then seen else seen++[(tkA ts k).text]) x.1 else .error (flt 60 (tkA ts k)):=by
 rw [Xcn,if_neg (by rw [h];decide),if_neg (by simp [h2,h3]),if_neg h4]
 cases XcI ts (k+1) (tkA ts k).text j with
 | error f=>rfl
 | ok x=>simp only [bind,Except.bind];split<;>rfl
theorem Got.off {α β:Type} {ts:List Tok} {s s':PS} {x:Except Flt (α × Nat)} {y:Except Flt (β × Nat)} {v:α} {w:β} (h:Got ts s x s' v) (hb:s.e≠0):Got ts s y s' w:=⟨h.1,h.2.1,h.2.2.1,fun e=>absurd e hb⟩
theorem Got.flt {α β:Type} {ts:List Tok} {s s':PS} {f:Flt} {v:α} {w:β} (h:Got ts s (.error f:Except Flt (α × Nat)) s' v):Got ts s (.error f:Except Flt (β × Nat)) s' w:=h
theorem XiY:∀(n:Nat) (p:Nat × Nat) (i:Nat) (l:List UInt8),l.length≤n→i≤2000→(∀ts,Xct p i l=.ok ts→ts.length+i≤2001)∧∀f,Xct p i l=.error f→f.code≠0
 | n,p,i,l,hn,hi0=>by
   cases hd:l.drop (skp l) with
   | nil=>
     rw [XdK p i l hd]
     exact ⟨fun ts h=>(by cases h;simp;omega),fun f h=>by cases h⟩
   | cons c r=>
     have hlen:=congrArg List.length hd
     simp only [List.length_drop,Xyr] at hlen
     cases h1:one (c :: r) with
     | error e=>
       rw [XdJ p i l c r e hd h1]
       refine ⟨fun ts h=>(by cases h),fun f h=>?_⟩
       cases h
       have:=Xua h1
       simp only;omega
     | ok x=>
       by_cases hi:2000≤i
       ·rw [Xdn p i l c r x hd h1 hi]
        exact ⟨fun ts h=>(by cases h),fun f h=>by cases h;simp⟩
       ·obtain ⟨a,t,m⟩:=x
        obtain ⟨g1,g2,g3,g4⟩:=Xgy h1
        simp only at g1 g2 g3 g4
        rw [XdL p i l c r a t m hd h1 g1 (by omega)]
        cases n with
        | zero=>omega
        | succ n=>
          obtain ⟨h2,h3⟩:=XiY n (plc p (l.take (skp l+m))) (i+1) ((c :: r).drop m) (by simp only [List.length_drop,Xyr];omega) (by omega)
          cases hr:Xct (plc p (l.take (skp l+m))) (i+1) ((c :: r).drop m) with
          | error e=>exact ⟨fun ts h=>(by cases h),fun f h=>by cases h;exact h3 _ hr⟩
          | ok y=>
            refine ⟨fun ts h=>?_,fun f h=>by cases h⟩
            cases h
            have:=h2 y hr
            simp only [Xyr];omega
theorem XeS (l:List UInt8):(∀f,lex l=.error f→f.code≠0)∧∀ts,lex l=.ok ts→0 < ts.length∧ts.length≤2001∧VT ts∧(∀t∈ts,t.text.length≤1000000)∧l.length≤8192:=by
 unfold lex
 split
 ·exact ⟨fun f h=>(by cases h;simp),fun ts h=>by cases h⟩
 ·rename_i hl
  obtain ⟨h2,h3⟩:=XiY l.length (1,1) 0 l (Nat.le_refl _) (by omega)
  refine ⟨h3,fun ts h=>?_⟩
  have hc:=h2 ts h
  obtain ⟨qs,e,rfl,he,hq,ht⟩:=XhT l.length (1,1) 0 l ts (Nat.le_refl _) h
  refine ⟨by simp,by omega,fun k hk hne=>?_,fun t h=>(by have:=ht t h;omega),by omega⟩
  simp only [XyA,Xyr,Xyu] at hk ⊢
  by_cases hlt:k < qs.length
  ·omega
  ·exfalso
   rw [List.getElem_append_right (by omega)] at hne
   simp at hne
   exact hne he
theorem Src.bytes {ρ:Operand→AV} {H:List Hp} {x:Operand} (q:Nat) (l:List UInt8) {ad:Option Addr} {n cap:Nat} {e:TypeId} {size:Nat} {cells:List AV} (hx:ρ x=.x (.slice ad n cap)) (hq:H[q]?=some (.row ad n cap e size cells)) (hn:n=l.length) (hc:cells=u8a l):Src ρ H x l.length (u8a l):=by
 subst hn hc;exact Src.row q hx hq
theorem XtJ (l m:List JF):jfa (l++m)=jfa l++jfa m:=by simp [jfa]
theorem Xgu {P:Tok→Prop} (hE:∀p q:Nat,P ⟨6,[],p,q⟩) (hO:∀(l:List UInt8) a t m,one l=.ok (a,t,m)→∀p q:Nat,P ⟨a,t,p,q⟩):∀(n:Nat) (p:Nat × Nat) (i:Nat) (l:List UInt8) (ts:List Tok),l.length≤n→Xct p i l=.ok ts→∀t∈ts,P t
 | n,p,i,l,ts,hn,h=>by
   cases hd:l.drop (skp l) with
   | nil=>
     rw [XdK p i l hd] at h;cases h
     simpa using hE _ _
   | cons c r=>
     have hlen:=congrArg List.length hd
     simp only [List.length_drop,Xyr] at hlen
     cases h1:one (c :: r) with
     | error e=>rw [XdJ p i l c r e hd h1] at h;cases h
     | ok x=>
       by_cases hi:2000≤i
       ·rw [Xdn p i l c r x hd h1 hi] at h;cases h
       ·obtain ⟨a,t,m⟩:=x
        obtain ⟨g1,g2,g3,g4⟩:=Xgy h1
        simp only at g1 g2 g3 g4
        rw [XdL p i l c r a t m hd h1 g1 (by omega)] at h
        cases hr:Xct (plc p (l.take (skp l+m))) (i+1) ((c :: r).drop m) with
        | error e=>rw [hr] at h;cases h
        | ok y=>
          rw [hr] at h
          simp only [Except.map] at h
          cases h
          cases n with
          | zero=>omega
          | succ n=>
            have ht:=Xgu hE hO n _ _ _ y (by simp only [List.length_drop,Xyr];omega) hr
            intro t ht2
            rcases List.mem_cons.1 ht2 with rfl|ht2
            ·exact hO _ _ _ _ h1 _ _
            ·exact ht t ht2
theorem Xrv (p:UInt8→Bool) (l:List UInt8):l.take (spn p l)=l.takeWhile p:=(List.prefix_iff_eq_take.1 (List.takeWhile_prefix p)).symm
theorem Xt9 {l:List UInt8} {a:Int} {t:List UInt8} {m:Nat} (h:one l=.ok (a,t,m)):a=2→t.length≤18∧XeB t:=by
 intro ha
 subst ha
 cases l with
 | nil=>simp [one] at h
 | cons c r=>
   simp only [one] at h
   split at h
   ·cases h
   ·split at h
    ·split at h
     ·cases h
     ·rename_i h2
      cases h
      rw [Xrv]
      refine ⟨?_,fun x hx=>?_⟩
      ·have:((c :: r).takeWhile XbK).length=spn XbK (c :: r):=rfl
       omega
      ·have:=List.all_takeWhile (p:=XbK) (l:=c :: r)
       have hx':=(List.all_eq_true.1 this) x hx
       simpa [XbK] using hx'
    ·split at h
     ·split at h<;>cases h
     ·split at h
      ·split at h<;>cases h
      ·split at h<;>cases h
theorem XmA (l:List UInt8) (ts:List Tok) (h:lex l=.ok ts):Xu2 ts∧Xu5 ts:=by
 have hf:=(XeS l).2 ts h
 unfold lex at h
 split at h
 ·cases h
 ·rename_i hl
  refine ⟨Xgu (P:=fun t=>t.kind=2→t.text.length≤18∧XeB t.text) (fun p q h=>by simp at h) (fun l a t m h p q=>Xt9 h) l.length (1,1) 0 l ts (Nat.le_refl _) h,?_⟩
  obtain ⟨qs,e,rfl,he,hq,ht⟩:=XhT l.length (1,1) 0 l ts (Nat.le_refl _) h
  exact fun t h=>Nat.le_trans (ht t h) (by omega)
def XwX (x:Except Flt (List JF)):AV:=match x with
 | .ok js=>.tup [.sq js.length (jfa js),.x (.agg #[.int .i64 0,.int .i64 0,.int .i64 0])]
 | .error f=>.tup [.sq 0 [],f.av]
theorem Xn0 {ts:List Tok} {k:Nat} {out:List JF} {f:Flt} (h:(tkA ts k).kind≠6) (h2:Xk2 ts k (decide (32≤out.length))=.error f):Xec ts k out=.error f:=by rw [Xec,if_neg h,h2]
theorem Xmn {ts:List Tok} {k:Nat} {out:List JF} {x:JF × Nat} (h:(tkA ts k).kind≠6) (h2:Xk2 ts k (decide (32≤out.length))=.ok x) (h3:k < x.2∧k < ts.length):Xec ts k out=Xec ts x.2 (out++[x.1]):=by rw [Xec,if_neg h,h2];simp only;rw [dif_pos h3]
theorem Xn1 {ts:List Tok} {k:Nat} {out:List JF} (h:(tkA ts k).kind=6):Xec ts k out=.ok out:=by rw [Xec,if_pos h]
theorem Got.no {α:Type} {ts:List Tok} {s s':PS} {x:Except Flt (α × Nat)} {v:α} (h:Got ts s x s' v) (he:s.e=0) (hb:s'.e≠0):∃f:Flt,x=.error f∧f.code≠0∧s'.e=f.code∧s'.l=f.line∧s'.c=f.col:=by
 have h':=h.2.2.2 he
 cases x with
 | ok p=>exfalso;rw [h'.2] at hb;exact hb rfl
 | error f=>exact ⟨f,rfl,h'⟩
end Go.Proofs.YtdlblokjfoggpaaGreatDoor

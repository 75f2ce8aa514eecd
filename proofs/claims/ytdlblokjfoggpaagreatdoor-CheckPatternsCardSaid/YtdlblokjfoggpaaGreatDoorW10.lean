import Derived.Test.YtdlblokjfoggpaaGreatDoorW7
import Derived.Test.YtdlblokjfoggpaaGreatDoorW9
import Derived.Test.YtdlblokjfoggpaaGreatDoorW0
import Derived.Test.YtdlblokjfoggpaaGreatDoorW6
/- The walk's rules as lemmas, the rest of them: regions that draw. No program in sight. -/
set_option linter.unusedSimpArgs false
set_option linter.unusedVariables false
set_option maxRecDepth 100000
set_option maxHeartbeats 8000000
namespace Go.Proofs.YtdlblokjfoggpaaGreatDoor
open Go.RowKit
set_option linter.defProp false
section
variable {P:Program} {ops:Array Oper} {Q:Xb9} {rest l:List Oper} {o:Oper} {T T':List AV} {H H' R:List Hp} {K:List AV→List Hp→Prop} {B:List Hp} {D L:List Nat} {fuel:Nat} {listed:Array Bool} {av:AV} {fin:List AV→List Hp→Prop} {i:Nat} {pi:List Nat}
theorem XcV (i:Nat) (h:Stp P o T H (Xds P l.toArray Q D B fuel (listed.setIfInBounds i true))) (hr:Region.ready .any l.toArray listed=[i]:=by first|decide +kernel|fail) (hi:Xc3 l i=some o:=by first|rfl|fail) (hg:o.guard=none:=by first|rfl|fail):Xds P l.toArray Q D B (fuel+1) listed T H:=Xba i hr hi hg h
theorem Xm3 (i:Nat) (h:Stp P o T H (Xs7 P l.toArray Q R fuel (listed.setIfInBounds i true))) (hr:Region.ready .any l.toArray listed=[i]:=by first|decide +kernel|fail) (hi:Xc3 l i=some o:=by first|rfl|fail) (hg:o.guard=none:=by first|rfl|fail):Xs7 P l.toArray Q R (fuel+1) listed T H:=Xvb i hr hi hg h
theorem Xdr (i:Nat) {p:Nat} {t:TypeId} {x:Operand} {b off:Nat} {cells:List AV} {agg:Bool} {n:Nat} (hK:Xds P l.toArray Q D B fuel (listed.setIfInBounds i true) T' H) (hi:Xc3 l i=some o:=by first|rfl|fail) (hg:o.guard=none:=by first|rfl|fail) (hc:XbM l.toArray listed i D=true:=by first|kernel_rfl|fail) (hpan:∀c T H,¬Q (.panic c) T H:=by first|(intro c T H hp;simp [XbH,XaA,XbP,Xdx] at hp;done)|fail) (ho:o.op=.load t x:=by first|rfl|fail) (hx:ev T x=.x (.pointer (some ⟨b,off,none⟩)):=by first|rfl|fail) (hb:B[p]?=some (.box b cells):=by first|exact Xbt.out|fail) (ht:Xis P t=some (agg,n):=by first|exact XaI.out|fail) (hn:off+n≤cells.length:=by first|exact Xyn rfl|(simp [wlq];first|done|omega)|fail) (hn0:off < cells.length:=by first|exact Xyn rfl|(simp [wlq];first|done|omega)|fail) (hT:Xa9 T o.dst (ldA agg n (cells.drop off))=T':=by first|((try simp (disch:=first|assumption|omega) only [wtn,wtf,wx,Nat.reduceAdd,Nat.reduceMul,Nat.reduceSub,↓reduceIte,Nat.reduceEqDiff]);rfl)|fail):Xds P l.toArray Q D B (fuel+1) listed T H:=Xns i hi hg hc hpan p t x b off cells agg n ho hx hb ht hn hn0 (by rw [hT];exact hK)
theorem XbQ (i:Nat) (hK:Xds P l.toArray Q D B fuel (listed.setIfInBounds i true) T' H) (hi:Xc3 l i=some o:=by first|rfl|fail) (hg:o.guard=none:=by first|rfl|fail) (hc:XbM l.toArray listed i D=true:=by first|kernel_rfl|fail) (hpan:∀c T H,¬Q (.panic c) T H:=by first|(intro c T H hp;simp [XbH,XaA,XbP,Xdx] at hp;done)|fail) (h:XeE P o (ev T) (B++H) av:=by (first|exact Xbq _ rfl|exact Xjn _ rfl|exact XdU _ _ _ rfl rfl|exact XbC _ _ _ _ _ _ rfl rfl Xbc.out|exact WInd_nil_at _ _ rfl rfl|exact WInd_index_str _ _ _ _ _ _ _ rfl rfl rfl (by kernel_rfl) rfl (by omega)|exact WInd_field_at _ _ _ _ _ rfl rfl Xbc.out|exact WInd_index_sq _ _ _ _ _ _ _ _ _ _ rfl rfl rfl HEl.out rfl (by first|omega|assumption) (by simp;first|done|omega)|exact Xdc _ _ _ _ _ _ _ _ _ _ _ _ rfl rfl rfl HEl.out rfl (by first|omega|assumption)|(apply Xiq;(case hs=>(intro _ _ h;cases h));(case hx=>rfl);(case hrun=>(intro w;simp [wtb,AV.val,go_sem];(try go_bits);rfl)))|fail)) (hT:Xa9 T o.dst (av)=T':=by first|((try simp (disch:=first|assumption|omega) only [wtn,wtf,wx,Nat.reduceAdd,Nat.reduceMul,Nat.reduceSub,↓reduceIte,Nat.reduceEqDiff]);rfl)|fail):Xds P l.toArray Q D B (fuel+1) listed T H:=XiB i hi hg hc hpan av h (by rw [hT];exact hK)
theorem Xjh (hK:dm P B l L pi T' H fin) (hi:Xc3 l i=some o:=by first|rfl|fail) (hL:L.contains i=false:=by first|rfl|fail) (h:∀H1,Evl P o (ev T) (B++H1) av:=by intro H1;(try simp only [Xyz,Xyy]);(first|(apply Xag 0 rfl;(first|exact XaW _ rfl|exact Xbo _ rfl))|(apply Xag 1 rfl;(first|exact XcW _ _ _ rfl rfl|exact Xdj _ _ _ rfl rfl|exact Xem _ _ _ _ _ rfl rfl rfl rfl|exact Xf0 _ _ _ _ _ rfl rfl rfl rfl|exact XeC _ _ _ _ _ rfl rfl rfl rfl|exact Xf1 _ _ _ _ _ rfl rfl rfl rfl))|(apply Xag 2 rfl;(exact Xcd _ _ _ _ rfl rfl rfl))|(apply Xag 3 rfl;(exact Xen _ _ _ _ _ _ HEl.out rfl rfl))|(apply Xag 4 rfl;(exact Xbl _ rfl (by first|exact .inl ⟨_,rfl⟩|exact .inr ⟨_,rfl⟩)))|(apply Xag 5 rfl;(first|exact Xaq _ _ _ _ _ _ rfl rfl Xbc.out|exact XcE _ _ _ _ _ rfl rfl Xbc.out))|(apply Xag 6 rfl;(first|exact Xbg _ _ _ _ _ rfl rfl XaI.out (by first|exact Xyn rfl|(simp [wlq];first|done|omega)) (by first|exact Xyn rfl|(simp [wlq];first|done|omega))|exact XaK _ _ _ _ _ _ _ _ rfl rfl Xbt.out XaI.out (by first|exact Xyn rfl|(simp [wlq];first|done|omega)) (by first|exact Xyn rfl|(simp [wlq];first|done|omega))|exact XcF _ _ _ _ _ _ _ _ _ _ _ _ rfl rfl XfM.out XaI.out (by first|exact Xyn rfl|(simp [wlq];first|done|omega)) (by first|exact Xyn rfl|(simp [wlq];first|done|omega))))|(apply Xag 7 rfl;(first|exact Xbv _ _ _ _ _ _ _ _ _ _ rfl rfl rfl HEl.out rfl (by first|omega|assumption) (by simp;first|done|omega)|exact XbD _ _ _ _ _ _ _ _ _ _ _ _ rfl rfl rfl HEl.out rfl (by first|omega|assumption)))|(apply Xag 8 rfl;(exact Xam _ _ _ _ _ _ _ rfl rfl rfl (by kernel_rfl) rfl (by omega)))|(apply Xag 9 rfl;(first|exact Xcj _ _ _ _ _ _ _ rfl rfl (by kernel_rfl) (by first|exact .inl ⟨rfl,rfl⟩|exact .inr ⟨_,_,rfl,rfl⟩) (by first|exact .inl ⟨rfl,rfl⟩|exact .inr ⟨_,_,rfl,rfl⟩) (by omega) (by omega)|exact XcG _ _ _ _ _ _ _ _ _ _ rfl rfl HEl.out (by first|exact .inl ⟨rfl,rfl⟩|exact .inr ⟨_,_,rfl,rfl⟩) (by first|exact .inl ⟨rfl,rfl⟩|exact .inr ⟨_,_,rfl,rfl⟩) (by omega) (by omega)|exact Xci _ _ _ _ _ _ _ _ _ _ _ _ rfl rfl HEl.out (by first|exact .inl ⟨rfl,rfl⟩|exact .inr ⟨_,_,rfl,rfl⟩) (by first|exact .inl ⟨rfl,rfl⟩|exact .inr ⟨_,_,rfl,rfl⟩) (by omega) (by omega)))|(apply Xag 10 rfl;(exact XbS _ _ _ _ _ rfl HPl.out (by first|rfl|(simp;done)) rfl))|(apply XbI;(case hs=>(intro _ _ h;cases h));(case hx=>rfl);(case hrun=>(intro w;simp [wtb,AV.val,go_sem];(try go_bits);rfl)))|fail)) (hT:Xa9 T o.dst (av)=T':=by first|((try simp (disch:=first|assumption|omega) only [wtn,wtf,wx,Nat.reduceAdd,Nat.reduceMul,Nat.reduceSub,↓reduceIte,Nat.reduceEqDiff]);rfl)|fail):dm P B l L (i :: pi) T H fin:=Xqp hi hL av h hT hK
theorem XxY (h:Stp P o (msk (looks l o) 0 T) H (fun T' H'=>∃e,T'=Xa9 (msk (looks l o) 0 T) o.dst e∧dm P B l L pi (Xa9 T o.dst e) H' fin)) (hi:Xc3 l i=some o:=by first|rfl|fail) (hL:L.contains i=true:=by first|rfl|fail):dm P B l L (i :: pi) T H fin:=Xtm hi hL h
theorem Xxg (h:dm P B l L pi T' H' fin) (hT:T=T':=by first|((try simp (disch:=first|assumption|omega) only [wtn,wtf,wx,Nat.reduceAdd,Nat.reduceMul,Nat.reduceSub,↓reduceIte,Nat.reduceEqDiff]);rfl)|fail) (hH:H=H':=by first|((try simp (disch:=first|assumption|omega) only [wtn,wtf,wx,Nat.reduceAdd,Nat.reduceMul,Nat.reduceSub,↓reduceIte,Nat.reduceEqDiff]);rfl)|fail):dm P B l L pi T H fin:=Xtl hT hH h
theorem XjQ {z:List AV} {k:Nat} (h:Xfd P l.toArray Q k (XcQ l.length D) T' H') (hT:T=T':=by first|((try simp (disch:=first|assumption|omega) only [wtn,wtf,wx,Nat.reduceAdd,Nat.reduceMul,Nat.reduceSub,↓reduceIte,Nat.reduceEqDiff]);rfl)|fail) (hH:B++H=H':=by first|((try simp only [Xyz,Xyy]);rfl)|fail):dm P B l L [] T H (Xml P B l D none z Q k):=XjR (by rw [hT,hH];exact h)
theorem Xqo {d:Nat} {z:List AV} {k:Nat} {T1:Nat→List AV} {H1:Nat→List Hp} (h:∀b,Xfd P l.toArray Q k (XcQ l.length D) (T1 b) (H1 b)) (hd:(Xc3 l i).bind (·.dst)=some d:=by first|rfl|fail) (hT:∀b,T.set d (.x (.pointer (some ⟨b,0,none⟩)))=T1 b:=by intro b;first|((try simp (disch:=first|assumption|omega) only [wtn,wtf,wx,Nat.reduceAdd,Nat.reduceMul,Nat.reduceSub,↓reduceIte,Nat.reduceEqDiff]);rfl)|fail) (hH:∀b,B++(.box b z :: H)=H1 b:=by intro b;first|((try simp only [Xyz,Xyy]);rfl)|fail):dm P B l L [] T H (Xml P B l D (some i) z Q k):=XiH hd fun b=>by rw [hT,hH];exact h b
theorem XpL {g:Prop} {k:List AV→Prop} {u:AV} [L:Wkl g P ops o T H k u] {ρ:Operand→AV} {p:Prop} {f:AV→AV} (hK:k T') (hg:Wkg ops T o ρ p f:=by first|exact .no rfl|exact .yes rfl rfl rfl|fail) (h:p→Evl P o ρ H av:=by first|((first|(refine fun (_:True)=>?_)|(intro hp;(try simp only [wgp] at hp);(try simp only [hp,wte]);(try simp only [whn] at hp)));(first|(apply Xag 0 rfl;(first|exact XaW _ rfl|exact Xbo _ rfl))|(apply Xag 1 rfl;(first|exact XcW _ _ _ rfl rfl|exact Xdj _ _ _ rfl rfl|exact Xem _ _ _ _ _ rfl rfl rfl rfl|exact Xf0 _ _ _ _ _ rfl rfl rfl rfl|exact XeC _ _ _ _ _ rfl rfl rfl rfl|exact Xf1 _ _ _ _ _ rfl rfl rfl rfl))|(apply Xag 2 rfl;(exact Xcd _ _ _ _ rfl rfl rfl))|(apply Xag 3 rfl;(exact Xen _ _ _ _ _ _ HEl.out rfl rfl))|(apply Xag 4 rfl;(exact Xbl _ rfl (by first|exact .inl ⟨_,rfl⟩|exact .inr ⟨_,rfl⟩)))|(apply Xag 5 rfl;(first|exact Xaq _ _ _ _ _ _ rfl rfl Xbc.out|exact XcE _ _ _ _ _ rfl rfl Xbc.out))|(apply Xag 6 rfl;(first|exact Xbg _ _ _ _ _ rfl rfl XaI.out (by first|exact Xyn rfl|(simp [wlq];first|done|omega)) (by first|exact Xyn rfl|(simp [wlq];first|done|omega))|exact XaK _ _ _ _ _ _ _ _ rfl rfl Xbt.out XaI.out (by first|exact Xyn rfl|(simp [wlq];first|done|omega)) (by first|exact Xyn rfl|(simp [wlq];first|done|omega))|exact XcF _ _ _ _ _ _ _ _ _ _ _ _ rfl rfl XfM.out XaI.out (by first|exact Xyn rfl|(simp [wlq];first|done|omega)) (by first|exact Xyn rfl|(simp [wlq];first|done|omega))))|(apply Xag 7 rfl;(first|exact Xbv _ _ _ _ _ _ _ _ _ _ rfl rfl rfl HEl.out rfl (by first|omega|assumption) (by simp;first|done|omega)|exact XbD _ _ _ _ _ _ _ _ _ _ _ _ rfl rfl rfl HEl.out rfl (by first|omega|assumption)))|(apply Xag 8 rfl;(exact Xam _ _ _ _ _ _ _ rfl rfl rfl (by kernel_rfl) rfl (by omega)))|(apply Xag 9 rfl;(first|exact Xcj _ _ _ _ _ _ _ rfl rfl (by kernel_rfl) (by first|exact .inl ⟨rfl,rfl⟩|exact .inr ⟨_,_,rfl,rfl⟩) (by first|exact .inl ⟨rfl,rfl⟩|exact .inr ⟨_,_,rfl,rfl⟩) (by omega) (by omega)|exact XcG _ _ _ _ _ _ _ _ _ _ rfl rfl HEl.out (by first|exact .inl ⟨rfl,rfl⟩|exact .inr ⟨_,_,rfl,rfl⟩) (by first|exact .inl ⟨rfl,rfl⟩|exact .inr ⟨_,_,rfl,rfl⟩) (by omega) (by omega)|exact Xci _ _ _ _ _ _ _ _ _ _ _ _ rfl rfl HEl.out (by first|exact .inl ⟨rfl,rfl⟩|exact .inr ⟨_,_,rfl,rfl⟩) (by first|exact .inl ⟨rfl,rfl⟩|exact .inr ⟨_,_,rfl,rfl⟩) (by omega) (by omega)))|(apply Xag 10 rfl;(exact XbS _ _ _ _ _ rfl HPl.out (by first|rfl|(simp;done)) rfl))|(apply Xag 17 rfl;(first|exact XlP _ _ _ _ _ _ rfl XbY.out rfl (by first|rfl|(simp [wtb,AV.one,Value.oneCell'];done)) rfl rfl (by decide)|exact Xil _ _ _ _ _ _ _ _ rfl XbY.out (by first|rfl|(simp [wtb,AV.cells,AV.one,Value.oneCell',Value.cells];done)) rfl (by decide) rfl))|(apply XbI;(case hs=>(intro _ _ h;cases h));(case hx=>rfl);(case hrun=>(intro w;simp [wtb,AV.val,go_sem];(try go_bits);rfl)))|fail))|fail) (hT:Xa9 T o.dst (f av)=T':=by first|((try simp (disch:=first|assumption|omega) only [wtn,wtf,wx,Nat.reduceAdd,Nat.reduceMul,Nat.reduceSub,↓reduceIte,Nat.reduceEqDiff]);rfl)|fail):g:=L.go hg h hT hK
end
structure Nd where
 kind:Nat
 left:Nat:=0
 right:Nat:=0
 set:Nat:=0
 deriving Inhabited,DecidableEq
structure RS where
 at_:Nat
 opn:Nat
 ns:List Nd
structure RxR where
 v:Nat
 c:Nat
 p:RS
def chr (s:List UInt8) (k:Nat):Nat:=(s.getD k 0).toNat
def XaM (a b:Nat):Nat:=(List.range' a (b+1 - a)).foldl (fun n c=>n ||| 1 <<< c) 0
def Xfg (n:Nat):Nat:=n ^^^ (2 ^ 256 - 1)
def Xsf (c:Nat):Bool:=(decide (33≤c) && decide (c≤47)) || (decide (58≤c) && decide (c≤64)) || (decide (91≤c) && decide (c≤96)) || (decide (123≤c) && decide (c≤126))
def XbL (s:List UInt8) (k:Nat):Int × Nat × Nat × Nat:=
 if k+1=s.length then (0,0,82,k) else
 if chr s (k+1)=100 then (-1,XaM 48 57,0,k+2) else
 if chr s (k+1)=119 then (-1,(XaM 65 90 ||| XaM 97 122) ||| (XaM 48 57 ||| XaM 95 95),0,k+2) else
 if chr s (k+1)=115 then (-1,(XaM 32 32 ||| XaM 9 9) ||| (XaM 13 13 ||| XaM 10 10),0,k+2) else
 if chr s (k+1)=110 then (10,XaM 10 10,0,k+2) else
 if chr s (k+1)=116 then (9,XaM 9 9,0,k+2) else
 if chr s (k+1)=114 then (13,XaM 13 13,0,k+2) else
 if Xsf (chr s (k+1)) then (chr s (k+1),XaM (chr s (k+1)) (chr s (k+1)),0,k+2) else (0,0,82,k+2)
def Xbd (s:List UInt8) (k:Nat):Int × Nat × Nat × Nat:=
 if chr s k=93∨chr s k=94∨chr s k=45 then (0,0,80,k) else
 if chr s k=92 then XbL s k else (chr s k,XaM (chr s k) (chr s k),0,k+1)
def XaP (s:List UInt8) (k:Nat):Nat × Nat × Nat:=
 let a:=Xbd s k
 if a.2.2.1≠0∨a.1 < 0∨a.2.2.2=s.length∨chr s a.2.2.2≠45 then (a.2.1,a.2.2.1,a.2.2.2) else
 if a.2.2.2+1=s.length then (0,80,a.2.2.2+1) else
 let b:=Xbd s (a.2.2.2+1)
 if b.2.2.1≠0 then (0,b.2.2.1,b.2.2.2) else
 if b.1 < a.1 then (0,80,b.2.2.2) else (XaM a.1.toNat b.1.toNat,0,b.2.2.2)
def XcA (neg:Bool):Nat→List UInt8→Nat→Nat→Bool→Nat × Nat × Nat
 | 0,_,k,_,_=>(0,80,k)
 | n+1,s,k,set,some_=>
   if k=s.length then (0,80,k) else
   if chr s k=93∧some_=true then (if neg then Xfg set else set,0,k+1) else
   let e:=XaP s k
   if e.2.1≠0 then (0,e.2.1,e.2.2) else XcA neg n s e.2.2 (set ||| e.1) true
def Xbn (s:List UInt8) (k:Nat):Nat × Nat × Nat:=
 if k≠s.length∧chr s k=94 then XcA true (s.length+1) s (k+1) 0 false else XcA false (s.length+1) s k 0 false
def RS.add (p:RS) (n:Nd):RS:={ p with ns:=p.ns++[n] }
def RS.ok (p:RS) (n:Nd):RxR:=⟨p.ns.length,0,p.add n⟩
def Xcf:Nat→List UInt8→RS→Nat→RxR
 | 0,_,p,v=>⟨v,0,p⟩
 | n+1,s,p,v=>
   if p.at_=s.length then ⟨v,0,p⟩ else
   if chr s p.at_=42 then Xcf n s ({ p with at_:=p.at_+1 }.add { kind:=5,left:=v }) p.ns.length else
   if chr s p.at_=43 then Xcf n s ({ p with at_:=p.at_+1 }.add { kind:=6,left:=v }) p.ns.length else
   if chr s p.at_=63 then Xcf n s ({ p with at_:=p.at_+1 }.add { kind:=7,left:=v }) p.ns.length else ⟨v,0,p⟩
mutual
def Xa6:Nat→List UInt8→RS→RxR
 | 0,_,p=>⟨0,99,p⟩
 | n+1,s,p=>
   let c:=chr s p.at_
   if c=42∨c=43∨c=63 then ⟨0,81,p⟩ else
   if c=93 then ⟨0,80,p⟩ else
   if c=40 then
    if p.opn=24 then ⟨0,84,p⟩ else
    let r:=rxPat n s { p with at_:=p.at_+1,opn:=p.opn+1 }
    if r.c≠0 then ⟨0,r.c,r.p⟩ else
    if r.p.at_=s.length then ⟨0,83,r.p⟩ else ⟨r.v,0,{ r.p with at_:=r.p.at_+1,opn:=r.p.opn - 1 }⟩
   else
   if c=91 then
    let k:=Xbn s (p.at_+1)
    if k.2.1≠0 then ⟨0,k.2.1,{ p with at_:=k.2.2 }⟩ else ({ p with at_:=k.2.2 }:RS).ok { kind:=2,set:=k.1 }
   else
   if c=92 then
    let k:=XbL s p.at_
    if k.2.2.1≠0 then ⟨0,k.2.2.1,{ p with at_:=k.2.2.2 }⟩ else ({ p with at_:=k.2.2.2 }:RS).ok { kind:=2,set:=k.2.1 }
   else
   ({ p with at_:=p.at_+1 }:RS).ok (if c=94 then { kind:=8 } else if c=36 then { kind:=9 } else if c=46 then { kind:=2,set:=Xfg (XaM 10 10) } else { kind:=2,set:=XaM c c })
def XaC:Nat→List UInt8→RS→RxR
 | 0,_,p=>⟨0,99,p⟩
 | n+1,s,p=>
   let a:=Xa6 n s p
   if a.c≠0 then ⟨0,a.c,a.p⟩ else Xcf (s.length+1) s a.p a.v
def XaO:Nat→List UInt8→RS→Option Nat→RxR
 | 0,_,p,_=>⟨0,99,p⟩
 | n+1,s,p,left=>
   if p.at_≠s.length∧chr s p.at_≠124∧chr s p.at_≠41 then
    let r:=XaC n s p
    if r.c≠0 then ⟨0,r.c,r.p⟩ else
    match left with
    | none=>XaO n s r.p (some r.v)
    | some l=>XaO n s (r.p.add { kind:=3,left:=l,right:=r.v }) (some r.p.ns.length)
   else
    match left with
    | none=>p.ok { kind:=1 }
    | some l=>⟨l,0,p⟩
def Xb7:Nat→List UInt8→RxR→RxR
 | 0,_,r=>r
 | n+1,s,r=>
   if r.c=0∧r.p.at_≠s.length∧chr s r.p.at_=124 then
    let q:=XaO n s { r.p with at_:=r.p.at_+1 } none
    Xb7 n s (if q.c=0 then (q.p.ok { kind:=4,left:=r.v,right:=q.v }) else ⟨r.v,q.c,q.p⟩)
   else r
def rxPat:Nat→List UInt8→RS→RxR
 | 0,_,p=>⟨0,99,p⟩
 | n+1,s,p=>Xb7 n s (XaO n s p none)
end
def XbG (s:List UInt8):Except Nat (List Nd):=
 if 128 < s.length then .error 1 else
 let r:=rxPat (5*s.length+5) s ⟨0,0,[]⟩
 if r.c≠0 then .error r.c else
 if r.p.at_≠s.length then .error 83 else
 if 256 < r.p.ns.length then .error 1 else .ok r.p.ns
open Go.RowKit
set_option linter.defProp false
def wd (n k:Nat):Nat:=n / 2 ^ (64*k) % 2 ^ 64
theorem XcM (n k:Nat):wd n k < 18446744073709551616:=Nat.mod_lt _ (by decide)
theorem XaU (k:Nat):wd 0 k=0:=by simp [wd]
theorem Xey (n k i:Nat):(wd n k).testBit i=(decide (i < 64) && n.testBit (64*k+i)):=by
 unfold wd
 rw [Nat.testBit_mod_two_pow,Nat.testBit_div_two_pow,Nat.add_comm]
theorem XuW (m n k:Nat):wd (m ||| n) k=wd m k ||| wd n k:=by
 apply Nat.eq_of_testBit_eq
 intro i
 rw [Nat.testBit_or,Xey,Xey,Xey,Nat.testBit_or,Bool.and_or_distrib_left]
theorem XwJ (c k:Nat):wd (1 <<< c) k=if c / 64=k then 1 <<< (c % 64) else 0:=by
 apply Nat.eq_of_testBit_eq
 intro i
 rw [Xey]
 have h1:∀a b:Nat,(1 <<< a).testBit b=decide (a=b):=fun a b=>by rw [Nat.one_shiftLeft,Nat.testBit_two_pow]
 rw [h1]
 split
 ·rw [h1]
  by_cases hi:i < 64
  ·simp [hi];omega
  ·simp [hi];omega
 ·rw [Nat.zero_testBit]
  by_cases hi:i < 64
  ·simp [hi];omega
  ·simp [hi]
theorem XlK (n k:Nat) (hk:k < 4):wd (Xfg n) k=wd n k ^^^ 18446744073709551615:=by
 apply Nat.eq_of_testBit_eq
 intro i
 rw [Nat.testBit_xor,Xey,Xey]
 unfold Xfg
 rw [Nat.testBit_xor,show (18446744073709551615:Nat)=2 ^ 64 - 1 from rfl,Nat.testBit_two_pow_sub_one,Nat.testBit_two_pow_sub_one]
 by_cases hi:i < 64
 ·have h1:64*k+i < 256:=by omega
  simp [hi,h1]
 ·simp [hi]
theorem XuV (n c:Nat) (hc:c < 256):((wd n (c / 64) >>> (c % 64)) &&& 1)=if n.testBit c then 1 else 0:=by
 have h:=Xey n (c / 64) (c % 64)
 rw [show 64*(c / 64)+c % 64=c from by omega,show decide (c % 64 < 64)=true from by simp;omega,Bool.true_and] at h
 rw [←h,Nat.testBit]
 rw [Nat.and_comm 1,bne,Nat.and_one_is_mod]
 rcases Nat.mod_two_eq_zero_or_one (wd n (c / 64) >>> (c % 64)) with e|e<;>rw [e]<;>rfl
def Xqf (j:Nat):Nat:=1 <<< j
def Xw4 (n j:Nat):Nat:=n >>> j
theorem XcN {j:Nat} (h:j < 64):Xqf j < 18446744073709551616:=by
 have:(2:Nat) ^ j < 2 ^ 64:=Nat.pow_lt_pow_right (by decide) h
 simpa [Xqf,Nat.one_shiftLeft] using this
theorem Xcr {n:Nat} (j:Nat) (h:n < 18446744073709551616):Xw4 n j < 18446744073709551616:=Nat.lt_of_le_of_lt (Nat.shiftRight_le _ _) h
theorem XsN (n c:Nat) (hc:c < 256):(Xw4 (wd n (c / 64)) (c % 64) &&& 1)=if n.testBit c then 1 else 0:=XuV n c hc
def w4 (n:Nat):List AV:=[.x (.int .u64 (wd n 0:Nat)),.x (.int .u64 (wd n 1:Nat)),.x (.int .u64 (wd n 2:Nat)),.x (.int .u64 (wd n 3:Nat))]
def v4 (n:Nat):Value:=.agg #[.int .u64 (wd n 0:Nat),.int .u64 (wd n 1:Nat),.int .u64 (wd n 2:Nat),.int .u64 (wd n 3:Nat)]
@[simp] theorem Xx7 (n:Nat):(w4 n).length=4:=rfl
theorem Xfq:w4 0=[.x (.int .u64 0),.x (.int .u64 0),.x (.int .u64 0),.x (.int .u64 0)]:=by simp [w4,XaU]
theorem XuU (n k:Nat) (hk:k < 4):∃l,(w4 n).drop k=.x (.int .u64 (wd n k:Nat)) :: l:=by
 match k,hk with
 | 0,_=>exact ⟨_,rfl⟩
 | 1,_=>exact ⟨_,rfl⟩
 | 2,_=>exact ⟨_,rfl⟩
 | 3,_=>exact ⟨_,rfl⟩
theorem XmU (n k:Nat) (hk:k < 4):((w4 n).drop k).getD 0 .top=.x (.int .u64 (wd n k:Nat)):=by
 obtain ⟨l,h⟩:=XuU n k hk;rw [h];rfl
theorem XsM (n c:Nat) (hc:c < 256):spl (w4 n) (c / 64) [.x (.int .u64 ((wd n (c / 64) ||| Xqf (c % 64):Nat):Int))]=w4 (n ||| 1 <<< c):=by
 have h:∀k,wd (n ||| 1 <<< c) k=if c / 64=k then wd n k ||| 1 <<< (c % 64) else wd n k:=fun k=>by
  rw [XuW,XwJ];split
  ·rfl
  ·simp
 have:c / 64 < 4:=by omega
 unfold w4 Xqf
 rw [h,h,h,h]
 match hq:c / 64,this with
 | 0,_=>simp [spl]
 | 1,_=>simp [spl]
 | 2,_=>simp [spl]
 | 3,_=>simp [spl]
theorem XrG (n:Nat):List.take 4 (w4 n)=w4 n:=rfl
theorem XrF (n:Nat):List.drop 4 (w4 n)=[]:=rfl
theorem XxO (n:Nat):(w4 n).all AV.ex=true:=rfl
theorem XwI (n:Nat):(List.map AV.val (w4 n)).toArray=#[.int .u64 (wd n 0:Nat),.int .u64 (wd n 1:Nat),.int .u64 (wd n 2:Nat),.int .u64 (wd n 3:Nat)]:=rfl
def w4r (n:Nat):=And.intro (XrG n) (And.intro (XrF n) (And.intro (XxO n) (XwI n)))
class XrI (P:Program) (t:TypeId) (L:outParam Nat) (e:outParam TypeId) (size:outParam Nat):Prop where out:P.underlying t=some (.array L e)∧(P.info? e).map (·.size)=some size
class Xdi (i:Int) (j:outParam Nat):Prop where out:i=(j:Int)
instance {n:Nat}:Xdi (n:Int) n:=⟨rfl⟩
instance:Xdi 64 64:=⟨rfl⟩
instance:Xdi 1 1:=⟨rfl⟩
instance {i j:Int} {m n:Nat} [h:Xdi i m] [k:Xdi j n]:Xdi (i+j) (m+n):=⟨by rw [h.out,k.out];simp⟩
instance {i j:Int} {m n:Nat} [h:Xdi i m] [k:Xdi j n]:Xdi (i / j) (m / n):=⟨by rw [h.out,k.out];simp⟩
instance {i j:Int} {m n:Nat} [h:Xdi i m] [k:Xdi j n]:Xdi (i % j) (m % n):=⟨by rw [h.out,k.out];simp⟩
def w4m (m n k:Nat):List AV:=(List.range 4).map fun i=>.x (.int .u64 ((if i < k then wd n i else wd m i:Nat):Int))
theorem XfX (m n:Nat):w4m m n 4=w4 n:=rfl
@[simp] theorem XxP (m n k:Nat):(w4m m n k).length=4:=rfl
theorem XlG (m n k:Nat) (hk:k < 4):((w4m m n k).drop k).getD 0 .top=.x (.int .u64 (wd m k:Nat)):=by
 match k,hk with
 | 0,_=>rfl
 | 1,_=>rfl
 | 2,_=>rfl
 | 3,_=>rfl
theorem Xih (m n k:Nat) (hk:k < 4):spl (w4m m n k) k [.x (.int .u64 (wd n k:Nat))]=w4m m n (k+1):=by
 match k,hk with
 | 0,_=>rfl
 | 1,_=>rfl
 | 2,_=>rfl
 | 3,_=>rfl
section
variable {P:Program} {V O:Nat→Prop} {w0 w w':World} {H H' D:List Hp} {T T':List AV} {a:Act} {o:Oper} {ρ:Operand→AV}
theorem XlE (n:Nat) (h:n < 18446744073709551616):IntKind.u64.wrap (n:Int)=n:=by
 simp only [IntKind.wrap,IntKind.bits,IntKind.signed];simp;omega
theorem XrP (n:Nat) (h:n < 18446744073709551616):(BitVec.ofInt 64 (n:Int)).toNat=n:=by
 simp;omega
def bop:BinOp→Nat→Nat→Option Nat
 | .or,m,n=>some (m ||| n)
 | .and,m,n=>some (m &&& n)
 | .xor,m,n=>some (m ^^^ n)
 | _,_,_=>none
theorem Xnx (op:BinOp) (m n r:Nat) (hm:m < 18446744073709551616) (hn:n < 18446744073709551616) (hr:bop op m n=some r) (w:World):(Op.intBits op .u64 m n).run P w=.ok (.int .u64 r) w:=by
 unfold Op.intBits
 have hl:r < 2 ^ 64:=by
  cases op<;>simp [bop] at hr<;>subst hr
  ·exact Nat.lt_of_le_of_lt Nat.and_le_left hm
  ·exact Nat.or_lt_two_pow hm hn
  ·exact Nat.xor_lt_two_pow hm hn
 cases op<;>simp only [bop,reduceCtorEq,Option.some.injEq] at hr<;>subst hr
 all_goals
  simp only [Sem.run_pure]
  rw [show IntKind.bits .u64=64 from rfl]
  first|rw [BitVec.toNat_or]|rw [BitVec.toNat_and]|rw [BitVec.toNat_xor]
  rw [XrP _ hm,XrP _ hn,XlE _ hl]
theorem Xdb {av:AV} (h:XeE P o ρ H av):Evl P o ρ H av:=by
 intro V a w Kc Q ok hKc
 obtain ⟨v,h1,h2⟩:=h V a w ok
 unfold Oper.wp
 rw [h1 w]
 exact hKc _ _ (Below.refl _ _) h2
theorem Xhu (op:BinOp) (t u:TypeId) (x y:Operand) (m n r:Nat) (ho:o.op=.binOp op t x y u) (hx:ρ x=.x (.int .u64 m)) (hy:ρ y=.x (.int .u64 n)) (hm:m < 18446744073709551616) (hn:n < 18446744073709551616) (hr:bop op m n=some r) :
  XeE P o ρ H (.x (.int .u64 r)):=by
 intro V a w ok
 have e1:=ok.evx (by simp [ho,Op.operands]) hx
 have e2:=ok.evx (by simp [ho,Op.operands]) hy
 refine ⟨_,fun w'=>?_,by rw [Den]⟩
 have hb:=Xnx (P:=P) op m n r hm hn hr w'
 cases op<;>simp only [bop,reduceCtorEq] at hr<;>simp [execOp,ho,e1,e2,eqGuard,binOp,hb,Result.andThen]
theorem Xip (t u:TypeId) (x y:Operand) (k:IntKind) (i:Int) (j:Nat) (ho:o.op=.binOp .shl t x y u) (hx:ρ x=.x (.int .u64 1)) (hy:ρ y=.x (.int k i)) (hi:i=(j:Int)) (hj:j < 64) :
  XeE P o ρ H (.x (.int .u64 (Xqf j:Nat))):=by
 subst hi
 intro V a w ok
 have e1:=ok.evx (by simp [ho,Op.operands]) hx
 have e2:=ok.evx (by simp [ho,Op.operands]) hy
 refine ⟨_,fun w'=>?_,by rw [Den]⟩
 have hm:min j 64=j:=by omega
 have hp:(2:Nat) ^ j < 18446744073709551616:=by
  have:(2:Nat) ^ j < 2 ^ 64:=Nat.pow_lt_pow_right (by decide) hj
  simpa using this
 have hw:IntKind.u64.wrap (2 ^ j:Int)=(2 ^ j:Int):=by
  have:=XlE (2 ^ j) hp
  simpa using this
 have hn:¬(j:Int) < 0:=by omega
 simp [execOp,ho,e1,e2,eqGuard,binOp,Op.shift,hn,IntKind.bits,hm,hw,Xqf,Nat.one_shiftLeft,Result.andThen]
theorem XkL (t u:TypeId) (x y:Operand) (k:IntKind) (n:Nat) (i:Int) (j:Nat) (ho:o.op=.binOp .shr t x y u) (hx:ρ x=.x (.int .u64 n)) (hy:ρ y=.x (.int k i)) (hi:i=(j:Int)) (hj:j < 64) :
  XeE P o ρ H (.x (.int .u64 (Xw4 n j:Nat))):=by
 subst hi
 intro V a w ok
 have e1:=ok.evx (by simp [ho,Op.operands]) hx
 have e2:=ok.evx (by simp [ho,Op.operands]) hy
 refine ⟨_,fun w'=>?_,by rw [Den]⟩
 have hm:min j 64=j:=by omega
 have hn:¬(j:Int) < 0:=by omega
 have hd:(n:Int).fdiv (2 ^ j)=((n >>> j:Nat):Int):=by
  rw [Int.fdiv_eq_ediv_of_nonneg _ (by exact_mod_cast Nat.zero_le (2 ^ j))]
  simp [Int.shiftRight_eq_div_pow]
 simp [execOp,ho,e1,e2,eqGuard,binOp,Op.shift,hn,IntKind.bits,hm,hd,Xw4,Int.shiftRight_eq_div_pow,Result.andThen]
theorem Xio (t:TypeId) (x:Operand) (n:Nat) (ho:o.op=.unOp .xor t x) (hx:ρ x=.x (.int .u64 n)) (hn:n < 18446744073709551616) :
  XeE P o ρ H (.x (.int .u64 (n ^^^ 18446744073709551615:Nat))):=by
 intro V a w ok
 have e1:=ok.evx (by simp [ho,Op.operands]) hx
 refine ⟨_,fun w'=>?_,by rw [Den]⟩
 have hb:=Xnx (P:=P) .xor 18446744073709551615 n (n ^^^ 18446744073709551615) (by decide) hn (by simp [bop,Nat.xor_comm]) w'
 have hm:(if IntKind.signed .u64 then (-1:Int) else IntKind.max .u64)=((18446744073709551615:Nat):Int):=by decide
 simp only [execOp,ho,e1,Op.unary,hm,hb,Sem.run_bind,Sem.run_pure,Result.andThen_ok]
theorem Xeg (t e:TypeId) (x y:Operand) (L size b off:Nat) (k:IntKind) (i:Int) (j:Nat) (ho:o.op=.indexAddr t x y) (hx:ρ x=.x (.pointer (some ⟨b,off,none⟩))) (hy:ρ y=.x (.int k i)) (hA:P.underlying t=some (.array L e)∧(P.info? e).map (·.size)=some size)
  (hi:i=(j:Int)) (hj:j < L):XeE P o ρ H (.x (.pointer (some ⟨b,off+j*size,none⟩))):=by
 subst hi
 intro V a w ok
 have e1:=ok.evx (by simp [ho,Op.operands]) hx
 have e2:=ok.evx (by simp [ho,Op.operands]) hy
 refine ⟨_,fun w'=>?_,by rw [Den]⟩
 obtain ⟨ht,hs⟩:=hA
 obtain ⟨inf,hi1,hi2⟩:=Option.map_eq_some_iff.1 hs
 have hadd:(⟨b,off,none⟩:Addr).add (j*size)=⟨b,off+j*size,none⟩:=by unfold Addr.add;split<;>simp_all
 have h1:(0:Int)≤j∧(j:Int) < (L:Int):=by omega
 simp [execOp,ho,e1,e2,Instr.indexAt,asIntOf,run_underlying ht,Instr.sureAddr,h1,hj,sizeOf,typeInfo,hi1,hi2,hadd,Result.andThen]
end
open Go.RowKit
set_option linter.defProp false
section
variable {P:Program} {ops:Array Oper} {Q:Xb9} {rest l:List Oper} {o:Oper} {T T':List AV} {H H' R:List Hp} {K:List AV→List Hp→Prop} {B:List Hp} {D L:List Nat} {fuel:Nat} {listed:Array Bool} {av:AV}
theorem XgO {g:Prop} {k:List AV→Prop} {u:AV} [L:Wkl g P ops o T H k u] {ρ:Operand→AV} {p:Prop} {f:AV→AV} (hK:k T') (hg:Wkg ops T o ρ p f:=by first|exact .no rfl|exact .yes rfl rfl rfl|fail) (h:p→Evl P o ρ H av:=by first|((first|(refine fun (_:True)=>?_)|(intro hp;(try simp only [wgp] at hp);(try simp only [hp,wte]);(try simp only [whn] at hp)));(first|(apply Xag 0 rfl;(first|exact XaW _ rfl|exact Xbo _ rfl))|(apply Xag 1 rfl;(first|exact XcW _ _ _ rfl rfl|exact Xdj _ _ _ rfl rfl|exact Xem _ _ _ _ _ rfl rfl rfl rfl|exact Xf0 _ _ _ _ _ rfl rfl rfl rfl|exact XeC _ _ _ _ _ rfl rfl rfl rfl|exact Xf1 _ _ _ _ _ rfl rfl rfl rfl))|(apply Xag 2 rfl;(exact Xcd _ _ _ _ rfl rfl rfl))|(apply Xag 3 rfl;(exact Xen _ _ _ _ _ _ HEl.out rfl rfl))|(apply Xag 4 rfl;(exact Xbl _ rfl (by first|exact .inl ⟨_,rfl⟩|exact .inr ⟨_,rfl⟩)))|(apply Xag 5 rfl;(first|exact Xaq _ _ _ _ _ _ rfl rfl Xbc.out|exact XcE _ _ _ _ _ rfl rfl Xbc.out))|(apply Xag 6 rfl;(first|exact Xbg _ _ _ _ _ rfl rfl XaI.out (by first|exact Xyn rfl|(simp [wlq];first|done|omega)) (by first|exact Xyn rfl|(simp [wlq];first|done|omega))|exact XaK _ _ _ _ _ _ _ _ rfl rfl Xbt.out XaI.out (by first|exact Xyn rfl|(simp [wlq];first|done|omega)) (by first|exact Xyn rfl|(simp [wlq];first|done|omega))|exact XcF _ _ _ _ _ _ _ _ _ _ _ _ rfl rfl XfM.out XaI.out (by first|exact Xyn rfl|(simp [wlq];first|done|omega)) (by first|exact Xyn rfl|(simp [wlq];first|done|omega))))|(apply Xag 7 rfl;(first|exact Xdb (Xeg _ _ _ _ _ _ _ _ _ _ _ rfl rfl rfl XrI.out Xdi.out (by first|omega|exact XcM _ _|exact XcN (by omega)|exact Xcr _ (XcM _ _)|assumption|(simp;done)))|exact Xbv _ _ _ _ _ _ _ _ _ _ rfl rfl rfl HEl.out rfl (by first|omega|assumption) (by simp;first|done|omega)|exact XbD _ _ _ _ _ _ _ _ _ _ _ _ rfl rfl rfl HEl.out rfl (by first|omega|assumption)))|(apply Xag 8 rfl;(exact Xam _ _ _ _ _ _ _ rfl rfl rfl (by kernel_rfl) rfl (by omega)))|(apply Xag 9 rfl;(first|exact Xcj _ _ _ _ _ _ _ rfl rfl (by kernel_rfl) (by first|exact .inl ⟨rfl,rfl⟩|exact .inr ⟨_,_,rfl,rfl⟩) (by first|exact .inl ⟨rfl,rfl⟩|exact .inr ⟨_,_,rfl,rfl⟩) (by omega) (by omega)|exact XcG _ _ _ _ _ _ _ _ _ _ rfl rfl HEl.out (by first|exact .inl ⟨rfl,rfl⟩|exact .inr ⟨_,_,rfl,rfl⟩) (by first|exact .inl ⟨rfl,rfl⟩|exact .inr ⟨_,_,rfl,rfl⟩) (by omega) (by omega)|exact Xci _ _ _ _ _ _ _ _ _ _ _ _ rfl rfl HEl.out (by first|exact .inl ⟨rfl,rfl⟩|exact .inr ⟨_,_,rfl,rfl⟩) (by first|exact .inl ⟨rfl,rfl⟩|exact .inr ⟨_,_,rfl,rfl⟩) (by omega) (by omega)))|(apply Xag 10 rfl;(exact XbS _ _ _ _ _ rfl HPl.out (by first|rfl|(simp;done)) rfl))|(apply Xag 12 rfl;(first|exact Xdb (Xhu _ _ _ _ _ _ _ _ rfl rfl rfl (by first|omega|exact XcM _ _|exact XcN (by omega)|exact Xcr _ (XcM _ _)|assumption|(simp;done)) (by first|omega|exact XcM _ _|exact XcN (by omega)|exact Xcr _ (XcM _ _)|assumption|(simp;done)) rfl)|exact Xdb (Xip _ _ _ _ _ _ _ rfl rfl rfl Xdi.out (by first|omega|exact XcM _ _|exact XcN (by omega)|exact Xcr _ (XcM _ _)|assumption|(simp;done)))|exact Xdb (XkL _ _ _ _ _ _ _ _ rfl rfl rfl Xdi.out (by first|omega|exact XcM _ _|exact XcN (by omega)|exact Xcr _ (XcM _ _)|assumption|(simp;done)))|exact Xdb (Xio _ _ _ rfl rfl (by first|omega|exact XcM _ _|exact XcN (by omega)|exact Xcr _ (XcM _ _)|assumption|(simp;done)))))|(apply XbI;(case hs=>(intro _ _ h;cases h));(case hx=>rfl);(case hrun=>(intro w;simp [wtb,AV.val,go_sem];(try go_bits);rfl)))|fail))|fail) (hT:Xa9 T o.dst (f av)=T':=by first|((try simp (disch:=first|assumption|omega) only [wtn,wtf,wx,Nat.reduceAdd,Nat.reduceMul,Nat.reduceSub,↓reduceIte,Nat.reduceEqDiff]);rfl)|fail):g:=L.go hg h hT hK
theorem Xdh (i:Nat) (hK:Xds P l.toArray Q D B fuel (listed.setIfInBounds i true) T' H) (hi:Xc3 l i=some o:=by first|rfl|fail) (hg:o.guard=none:=by first|rfl|fail) (hc:XbM l.toArray listed i D=true:=by first|kernel_rfl|fail) (hpan:∀c T H,¬Q (.panic c) T H:=by first|(intro c T H hp;simp [XbH,XaA,XbP,Xdx] at hp;done)|fail) (h:XeE P o (ev T) (B++H) av:=by (first|exact Xbq _ rfl|exact Xjn _ rfl|exact XdU _ _ _ rfl rfl|exact XbC _ _ _ _ _ _ rfl rfl Xbc.out|exact WInd_nil_at _ _ rfl rfl|exact WInd_index_str _ _ _ _ _ _ _ rfl rfl rfl (by kernel_rfl) rfl (by omega)|exact WInd_field_at _ _ _ _ _ rfl rfl Xbc.out|exact WInd_index_sq _ _ _ _ _ _ _ _ _ _ rfl rfl rfl HEl.out rfl (by first|omega|assumption) (by simp;first|done|omega)|exact Xdc _ _ _ _ _ _ _ _ _ _ _ _ rfl rfl rfl HEl.out rfl (by first|omega|assumption)|exact Xeg _ _ _ _ _ _ _ _ _ _ _ rfl rfl rfl XrI.out Xdi.out (by first|omega|exact XcM _ _|exact XcN (by omega)|exact Xcr _ (XcM _ _)|assumption|(simp;done))|exact Xhu _ _ _ _ _ _ _ _ rfl rfl rfl (by first|omega|exact XcM _ _|exact XcN (by omega)|exact Xcr _ (XcM _ _)|assumption|(simp;done)) (by first|omega|exact XcM _ _|exact XcN (by omega)|exact Xcr _ (XcM _ _)|assumption|(simp;done)) rfl|exact Xip _ _ _ _ _ _ _ rfl rfl rfl Xdi.out (by first|omega|exact XcM _ _|exact XcN (by omega)|exact Xcr _ (XcM _ _)|assumption|(simp;done))|exact XkL _ _ _ _ _ _ _ _ rfl rfl rfl Xdi.out (by first|omega|exact XcM _ _|exact XcN (by omega)|exact Xcr _ (XcM _ _)|assumption|(simp;done))|exact Xio _ _ _ rfl rfl (by first|omega|exact XcM _ _|exact XcN (by omega)|exact Xcr _ (XcM _ _)|assumption|(simp;done))|(apply Xiq;(case hs=>(intro _ _ h;cases h));(case hx=>rfl);(case hrun=>(intro w;simp [wtb,AV.val,go_sem];(try go_bits);rfl)))|fail)) (hT:Xa9 T o.dst (av)=T':=by first|((try simp (disch:=first|assumption|omega) only [wtn,wtf,wx,Nat.reduceAdd,Nat.reduceMul,Nat.reduceSub,↓reduceIte,Nat.reduceEqDiff]);rfl)|fail):Xds P l.toArray Q D B (fuel+1) listed T H:=XiB i hi hg hc hpan av h (by rw [hT];exact hK)
end
end Go.Proofs.YtdlblokjfoggpaaGreatDoor

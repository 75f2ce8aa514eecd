import Derived.Test.YtdlblokjfoggpaaGreatDoorW10
import Derived.Test.YtdlblokjfoggpaaGreatDoorW6
import Derived.Test.YtdlblokjfoggpaaGreatDoorW8
import Derived.Test.YtdlblokjfoggpaaGreatDoorRows
import Derived.Test.YtdlblokjfoggpaaGreatDoorW0
import Derived.Test.YtdlblokjfoggpaaGreatDoorW7
import Derived.Test.YtdlblokjfoggpaaGreatDoorW9
/- Patterns, in plain Lean: how far regex.Parse goes in a text, and how many nodes it makes. No program in sight. -/
set_option linter.unusedSimpArgs false
set_option linter.unusedVariables false
set_option maxRecDepth 100000
set_option maxHeartbeats 8000000
namespace Go.Proofs.YtdlblokjfoggpaaGreatDoor
theorem XgJ (s:List UInt8) (k:Nat) (h:k < s.length):k≤(XbL s k).2.2.2∧(XbL s k).2.2.2≤s.length∧((XbL s k).2.2.1=0→k < (XbL s k).2.2.2) ∧ -1≤(XbL s k).1∧(XbL s k).1 < 256∧(XbL s k).2.2.1≤100:=by
 have hc:chr s (k+1) < 256:=by unfold chr;exact UInt8.toNat_lt _
 unfold XbL
 repeat' (split;· refine ⟨?_,?_,?_,?_,?_,?_⟩<;>simp<;>omega)
 refine ⟨?_,?_,?_,?_,?_,?_⟩<;>simp<;>omega
theorem XdN (s:List UInt8) (k:Nat) (h:k < s.length):k≤(Xbd s k).2.2.2∧(Xbd s k).2.2.2≤s.length∧((Xbd s k).2.2.1=0→k < (Xbd s k).2.2.2) ∧ -1≤(Xbd s k).1∧(Xbd s k).1 < 256∧(Xbd s k).2.2.1≤100:=by
 have hc:chr s k < 256:=by unfold chr;exact UInt8.toNat_lt _
 unfold Xbd
 split
 ·refine ⟨?_,?_,?_,?_,?_,?_⟩<;>simp<;>omega
 split
 ·exact XgJ s k h
 ·refine ⟨?_,?_,?_,?_,?_,?_⟩<;>simp<;>omega
theorem Xdp (s:List UInt8) (k:Nat) (h:k < s.length):k≤(XaP s k).2.2∧(XaP s k).2.2≤s.length∧((XaP s k).2.1=0→k < (XaP s k).2.2)∧(XaP s k).2.1≤100:=by
 obtain ⟨a1,a2,a3,_,_,a6⟩:=XdN s k h
 unfold XaP
 simp only
 split
 ·exact ⟨a1,a2,a3,a6⟩
 rename_i h1
 have h0:(Xbd s k).2.2.1=0:=by omega
 have:=a3 h0
 split
 ·refine ⟨?_,?_,?_,?_⟩<;>simp<;>omega
 obtain ⟨b1,b2,b3,_,_,b6⟩:=XdN s ((Xbd s k).2.2.2+1) (by omega)
 split
 ·refine ⟨?_,?_,?_,?_⟩<;>simp<;>omega
 split
 ·refine ⟨?_,?_,?_,?_⟩<;>simp<;>omega
 ·refine ⟨?_,?_,?_,?_⟩<;>simp<;>omega
theorem Xi6 (neg:Bool) (s:List UInt8):∀(n k set:Nat) (b:Bool),k≤s.length→k≤(XcA neg n s k set b).2.2∧(XcA neg n s k set b).2.2≤s.length∧((XcA neg n s k set b).2.1=0→k < (XcA neg n s k set b).2.2)∧(XcA neg n s k set b).2.1≤100:=by
 intro n
 induction n with
 | zero=>intro k set b h;simp only [XcA];omega
 | succ n ih=>
   intro k set b h
   rw [XcA]
   split
   ·simp;omega
   split
   ·simp;omega
   obtain ⟨e1,e2,e3,e4⟩:=Xdp s k (by omega)
   simp only
   split
   ·simp;omega
   ·have:=ih (XaP s k).2.2 (set ||| (XaP s k).1) true e2
    omega
theorem XgI (s:List UInt8) (k:Nat) (h:k≤s.length):k≤(Xbn s k).2.2∧(Xbn s k).2.2≤s.length∧((Xbn s k).2.1=0→k < (Xbn s k).2.2)∧(Xbn s k).2.1≤100:=by
 unfold Xbn
 split
 ·have:=Xi6 true s (s.length+1) (k+1) 0 false (by omega);omega
 ·exact Xi6 false s (s.length+1) k 0 false h
structure Adv (s:List UInt8) (p:RS) (r:RxR) (x:Nat):Prop where
 le:p.at_≤r.p.at_
 top:r.p.at_≤s.length
 opn:r.p.opn≤24
 ok:r.c=0→r.p.opn=p.opn
 ns:r.p.ns.length+3*p.at_≤p.ns.length+3*r.p.at_+x
 c:r.c≤100
theorem Xo8 (s:List UInt8):∀(n:Nat) (p:RS) (v:Nat),p.at_≤s.length→p.opn≤24→Adv s p (Xcf n s p v) 0∧(Xcf n s p v).c=0:=by
 intro n
 induction n with
 | zero=>intro p v h ho;exact ⟨⟨Nat.le_refl _,h,ho,fun _=>rfl,by simp [Xcf],by simp [Xcf]⟩,rfl⟩
 | succ n ih=>
   intro p v h ho
   have h0:Adv s p ⟨v,0,p⟩ 0:=⟨Nat.le_refl _,h,ho,fun _=>rfl,by simp,by simp⟩
   rw [Xcf]
   split
   ·exact ⟨h0,rfl⟩
   have hs:∀x,Adv s p (Xcf n s ({ p with at_:=p.at_+1 }.add x) p.ns.length) 0∧(Xcf n s ({ p with at_:=p.at_+1 }.add x) p.ns.length).c=0:=fun x=>by
    obtain ⟨⟨a1,a2,a3,a4,a5,a6⟩,a7⟩:=ih ({ p with at_:=p.at_+1 }.add x) p.ns.length (by simp only [RS.add];omega) (by simpa only [RS.add] using ho)
    simp only [RS.add,XyA,List.length_singleton] at a1 a2 a3 a4 a5 a6 a7 ⊢
    exact ⟨⟨by omega,a2,a3,a4,by omega,a6⟩,a7⟩
   split
   ·exact hs _
   split
   ·exact hs _
   split
   ·exact hs _
   ·exact ⟨h0,rfl⟩
theorem Xcb (n:Nat) (s:List UInt8) (p:RS) (left:Option Nat):XaO (n+1) s p left =
  if p.at_≠s.length∧chr s p.at_≠124∧chr s p.at_≠41 then
   if (XaC n s p).c≠0 then ⟨0,(XaC n s p).c,(XaC n s p).p⟩ else
   match left with
   | none=>XaO n s (XaC n s p).p (some (XaC n s p).v)
   | some l=>XaO n s ((XaC n s p).p.add { kind:=3,left:=l,right:=(XaC n s p).v }) (some (XaC n s p).p.ns.length)
  else
   match left with
   | none=>p.ok { kind:=1 }
   | some l=>⟨l,0,p⟩:=by
 cases left<;>simp only [XaO]
structure Xxa (s:List UInt8) (n:Nat):Prop where
 atom:∀p,p.at_ < s.length→p.opn≤24→Adv s p (Xa6 n s p) 0∧((Xa6 n s p).c=0→p.at_ < (Xa6 n s p).p.at_∧(Xa6 n s p).p.ns.length+2+3*p.at_≤p.ns.length+3*(Xa6 n s p).p.at_)
 part:∀p,p.at_ < s.length→p.opn≤24→Adv s p (XaC n s p) 0∧((XaC n s p).c=0→p.at_ < (XaC n s p).p.at_∧(XaC n s p).p.ns.length+2+3*p.at_≤p.ns.length+3*(XaC n s p).p.at_)
 alt:∀p l,p.at_≤s.length→p.opn≤24→Adv s p (XaO n s p l) (if l=none then 1 else 0)
 bar:∀r:RxR,r.p.at_≤s.length→r.p.opn≤24→r.c≤100→Adv s r.p (Xb7 n s r) 0∧(r.c≠0→Xb7 n s r=r)
 pat:∀p,p.at_≤s.length→p.opn≤24→Adv s p (rxPat n s p) 1
theorem XcK (s:List UInt8):∀n,Xxa s n:=by
 intro n
 induction n with
 | zero=>
   have h0:∀p:RS,p.at_≤s.length→p.opn≤24→∀x,Adv s p ⟨0,99,p⟩ x:=fun p h1 h2 x=>⟨Nat.le_refl _,h1,h2,fun _=>rfl,by simp only;omega,by simp⟩
   refine ⟨fun p h1 h2=>?_,fun p h1 h2=>?_,fun p l h1 h2=>?_,fun r h1 h2 h3=>?_,fun p h1 h2=>?_⟩
   ·rw [Xa6];exact ⟨h0 p (by omega) h2 0,fun h=>absurd h (by simp)⟩
   ·rw [XaC];exact ⟨h0 p (by omega) h2 0,fun h=>absurd h (by simp)⟩
   ·rw [XaO];exact h0 p h1 h2 _
   ·rw [Xb7];exact ⟨⟨Nat.le_refl _,h1,h2,fun _=>rfl,by omega,h3⟩,fun _=>rfl⟩
   ·rw [rxPat];exact h0 p h1 h2 1
 | succ n ih=>
   have hatom:∀p,p.at_ < s.length→p.opn≤24→Adv s p (Xa6 (n+1) s p) 0∧((Xa6 (n+1) s p).c=0→p.at_ < (Xa6 (n+1) s p).p.at_∧(Xa6 (n+1) s p).p.ns.length+2+3*p.at_≤p.ns.length+3*(Xa6 (n+1) s p).p.at_):=by
    intro p h1 h2
    have he:∀e:Nat,e≠0→e≤100→Adv s p ⟨0,e,p⟩ 0∧((⟨0,e,p⟩:RxR).c=0→p.at_ < (⟨0,e,p⟩:RxR).p.at_∧(⟨0,e,p⟩:RxR).p.ns.length+2+3*p.at_≤p.ns.length+3*(⟨0,e,p⟩:RxR).p.at_):=fun e h h'=>⟨⟨Nat.le_refl _,by simp only;omega,h2,fun h3=>absurd h3 h,by simp,h'⟩,fun h3=>absurd h3 h⟩
    have hk:∀(k:Nat) (x:Nd),p.at_ < k→k≤s.length→Adv s p (({ p with at_:=k }:RS).ok x) 0∧((({ p with at_:=k }:RS).ok x).c=0→p.at_ < (({ p with at_:=k }:RS).ok x).p.at_∧(({ p with at_:=k }:RS).ok x).p.ns.length+2+3*p.at_≤p.ns.length+3*(({ p with at_:=k }:RS).ok x).p.at_):=fun k x h h'=>by
     simp only [RS.ok,RS.add]
     exact ⟨⟨by simp only;omega,h',h2,fun _=>rfl,by simp;omega,by simp⟩,fun _=>⟨h,by simp;omega⟩⟩
    rw [Xa6]
    simp only
    split
    ·exact he 81 (by decide) (by decide)
    split
    ·exact he 80 (by decide) (by decide)
    split
    ·split
     ·exact he 84 (by decide) (by decide)
     ·obtain ⟨a1,a2,a3,a4,a5,a6⟩:=ih.pat { p with at_:=p.at_+1,opn:=p.opn+1 } (by simp only;omega) (by simp only;omega)
      simp only at a1 a4 a5
      split
      ·rename_i hc
       exact ⟨⟨by simp only;omega,a2,a3,fun h=>absurd h hc,by simp only;omega,a6⟩,fun h=>absurd h hc⟩
      rename_i hc
      have hc0:(rxPat n s { p with at_:=p.at_+1,opn:=p.opn+1 }).c=0:=by omega
      have ho:=a4 hc0
      split
      ·exact ⟨⟨by simp only;omega,a2,a3,fun h=>absurd h (by simp),by simp only;omega,by simp⟩,fun h=>absurd h (by simp)⟩
      ·exact ⟨⟨by simp only;omega,by simp only;omega,by simp only;omega,fun _=>by simp only;omega,by simp only;omega,by simp⟩,fun _=>⟨by simp only;omega,by simp only;omega⟩⟩
    split
    ·obtain ⟨a1,a2,a3,a4⟩:=XgI s (p.at_+1) (by omega)
     split
     ·rename_i hc
      exact ⟨⟨by simp only;omega,a2,h2,fun h=>absurd h hc,by simp only;omega,a4⟩,fun h=>absurd h hc⟩
     ·exact hk _ _ (by omega) a2
    split
    ·obtain ⟨a1,a2,a3,_,_,a6⟩:=XgJ s p.at_ h1
     split
     ·rename_i hc
      exact ⟨⟨by simp only;omega,a2,h2,fun h=>absurd h hc,by simp only;omega,a6⟩,fun h=>absurd h hc⟩
     ·exact hk _ _ (a3 (by omega)) a2
    ·exact hk _ _ (by omega) (by omega)
   have hpart:∀p,p.at_ < s.length→p.opn≤24→Adv s p (XaC (n+1) s p) 0∧((XaC (n+1) s p).c=0→p.at_ < (XaC (n+1) s p).p.at_∧(XaC (n+1) s p).p.ns.length+2+3*p.at_≤p.ns.length+3*(XaC (n+1) s p).p.at_):=by
    intro p h1 h2
    obtain ⟨⟨a1,a2,a3,a4,a5,a6⟩,a7⟩:=ih.atom p h1 h2
    rw [XaC]
    split
    ·rename_i hc
     exact ⟨⟨a1,a2,a3,fun h=>absurd h hc,a5,a6⟩,fun h=>absurd h hc⟩
    ·rename_i hc
     obtain ⟨⟨b1,b2,b3,b4,b5,b6⟩,b7⟩:=Xo8 s (s.length+1) (Xa6 n s p).p (Xa6 n s p).v a2 a3
     have ho:=a4 (by omega)
     refine ⟨⟨by omega,b2,b3,fun h=>(b4 h).trans ho,by omega,b6⟩,fun _=>?_⟩
     have:=a7 (by omega)
     omega
   have halt:∀p l,p.at_≤s.length→p.opn≤24→Adv s p (XaO (n+1) s p l) (if l=none then 1 else 0):=by
    intro p l h1 h2
    rw [Xcb]
    split
    ·obtain ⟨⟨a1,a2,a3,a4,a5,a6⟩,a7⟩:=ih.part p (by omega) h2
     split
     ·rename_i hc
      exact ⟨a1,a2,a3,fun h=>absurd h hc,by simp only;omega,a6⟩
     ·rename_i hc
      have ho:=a4 (by omega)
      have hp:=a7 (by omega)
      cases l with
      | none=>
        obtain ⟨b1,b2,b3,b4,b5,b6⟩:=ih.alt (XaC n s p).p (some (XaC n s p).v) a2 a3
        simp only [reduceCtorEq,if_false] at b5 ⊢
        exact ⟨by omega,b2,b3,fun h=>(b4 h).trans ho,by simp;omega,b6⟩
      | some l=>
        obtain ⟨b1,b2,b3,b4,b5,b6⟩:=ih.alt ((XaC n s p).p.add { kind:=3,left:=l,right:=(XaC n s p).v }) (some (XaC n s p).p.ns.length) a2 a3
        simp only [reduceCtorEq,if_false] at b5 ⊢
        generalize XaO n s _ _=z at *
        simp only [RS.add,XyA,List.length_singleton] at b1 b4 b5
        exact ⟨by omega,b2,b3,fun h=>(b4 h).trans ho,by omega,b6⟩
    ·cases l with
     | none=>exact ⟨Nat.le_refl _,h1,h2,fun _=>rfl,by simp [RS.ok,RS.add];omega,by simp [RS.ok]⟩
     | some l=>exact ⟨Nat.le_refl _,h1,h2,fun _=>rfl,by simp,by simp⟩
   have hbar:∀r:RxR,r.p.at_≤s.length→r.p.opn≤24→r.c≤100→Adv s r.p (Xb7 (n+1) s r) 0∧(r.c≠0→Xb7 (n+1) s r=r):=by
    intro r h1 h2 h3
    rw [Xb7]
    split
    ·rename_i hc
     refine ⟨?_,fun h=>absurd hc.1 h⟩
     obtain ⟨a1,a2,a3,a4,a5,a6⟩:=ih.alt { r.p with at_:=r.p.at_+1 } none (by simp only;omega) h2
     simp only [if_true] at a1 a4 a5
     simp only
     split
     ·rename_i hq
      obtain ⟨⟨b1,b2,b3,b4,b5,b6⟩,_⟩:=ih.bar ((XaO n s { r.p with at_:=r.p.at_+1 } none).p.ok { kind:=4,left:=r.v,right:=(XaO n s { r.p with at_:=r.p.at_+1 } none).v }) a2 a3 (by simp [RS.ok])
      simp only [RS.ok,RS.add,XyA,List.length_singleton] at b1 b2 b3 b4 b5 b6 ⊢
      exact ⟨by omega,b2,b3,fun h=>(b4 h).trans (a4 hq),by omega,b6⟩
     ·rename_i hq
      obtain ⟨_,b⟩:=ih.bar ⟨r.v,(XaO n s { r.p with at_:=r.p.at_+1 } none).c,(XaO n s { r.p with at_:=r.p.at_+1 } none).p⟩ a2 a3 a6
      rw [b hq]
      exact ⟨by simp only;omega,a2,a3,fun h=>absurd h hq,by simp only;omega,a6⟩
    ·exact ⟨⟨Nat.le_refl _,h1,h2,fun _=>rfl,by omega,h3⟩,fun _=>rfl⟩
   refine ⟨hatom,hpart,halt,hbar,fun p h1 h2=>?_⟩
   rw [rxPat]
   obtain ⟨a1,a2,a3,a4,a5,a6⟩:=ih.alt p none h1 h2
   obtain ⟨⟨b1,b2,b3,b4,b5,b6⟩,b7⟩:=ih.bar (XaO n s p none) a2 a3 a6
   simp only [if_true] at a5
   refine ⟨by omega,b2,b3,fun h=>?_,by omega,b6⟩
   by_cases hc:(XaO n s p none).c=0
   ·exact (b4 h).trans (a4 hc)
   ·rw [b7 hc] at h;exact absurd h hc
set_option maxRecDepth 100000
instance:HFv Tryz.prog 154 0 0 false 1:=⟨by kernel_rfl⟩
open Go.RowKit
instance:XrI Tryz.prog 74 4 24 1:=⟨by kernel_rfl,by kernel_rfl⟩
theorem Xhl (a c:Nat) (h:a≤c):(List.range' a (c+1 - a)).foldl (fun n c=>n ||| 1 <<< c) 0=(List.range' a (c - a)).foldl (fun n c=>n ||| 1 <<< c) 0 ||| 1 <<< c:=by
 rw [show c+1 - a=(c - a)+1 by omega,List.range'_concat,List.foldl_append]
 simp only [Xyp,Xyq]
 rw [show a+1*(c - a)=c by omega]
def Xc2 (a c:Nat):Nat:=(List.range' a (c - a)).foldl (fun n c=>n ||| 1 <<< c) 0
theorem Xhk (a:Nat):Xc2 a a=0:=by simp [Xc2]
theorem Xpk (a c:Nat) (h:a≤c∧c < 256):spl (w4 (Xc2 a c)) (c / 64) [.x (.int .u64 ((wd (Xc2 a c) (c / 64) ||| Xqf (c % 64):Nat):Int))]=w4 (Xc2 a (c+1)):=by
 rw [XsM _ _ h.2];unfold Xc2;rw [Xhl a c h.1]
theorem Xb3 (x y:Nat) (hx:x < 256) (hy:y < 256):Xay Tryz.prog 201 [] [.x (.int .u8 x),.x (.int .u8 y)] (fun r H'=>r=.x (v4 (XaM x y))∧H'=[]):=by
 refine XaV Tryz.func201 Tryz.ntmps201 ?_
 (repeat' (first|refine Wkx.go ?_|refine Xad ?_|(refine Xab rfl ?_;(refine Xb8 (fun b=>?_)))|fail))
 rename_i br
 rw [←Xfq,←(by rw [Xhk]:w4 (Xc2 x x)=w4 0)]
 refine Xah (S:=Nat) (fun c=>frm 25 [(0,.x (.int .u8 x)),(1,.x (.int .u8 y)),(4,.x (.pointer (some ⟨br,0,none⟩))),(5,.x (.pointer (some ⟨b,0,none⟩))),(6,.x (.int .i64 c))]) (fun c=>[.box b (w4 (Xc2 x c)),.box br (w4 (Xc2 x x))]) (fun c=>x≤c∧(c≤y+1∨c=x)) (fun c=>257 - c) x (XaX (D:=[])) ⟨Nat.le_refl _,.inr rfl⟩ fun c hc=>?_
 obtain ⟨hc1,hc2⟩:=hc
 simp only [wfr]
 (have wx:=@w4r;(repeat' (first|refine Wkx.go ?_|(refine Xaz (fun h=>?_) (fun h=>?_)<;>skip)|refine Xad ?_|(refine Xab rfl ?_;(refine Xbh ?_))|fail)))<;>(try clear wx)
 ·refine Xhz mixed [9] ?_
  (have wx:=@XmU;((first|refine Xdh 0 ?_|fail);(first|refine Xdh 1 ?_|fail);(first|refine Xdh 2 ?_|fail);(first|refine Xdr 3 ?_|fail);(first|refine Xdh 4 ?_|fail);(first|refine Xdh 5 ?_|fail);(first|refine Xdh 6 ?_|fail);(first|refine Xdh 7 ?_|fail);(first|refine Xdh 8 ?_|fail)))<;>(try clear wx)
  refine XaG (by decide +kernel) ?_
  refine Xai rfl (by simp only [Xyz,Xyy];rfl) ?_
  (have wx:=And.intro @Nat.mul_one @Nat.zero_add;(refine Xd8 9 ?_;(first|refine Xbh ?_|fail)))<;>(try clear wx)
  refine Xao (by decide +kernel) ?_
  rw [show spl (w4 (Xc2 x c)) (c / 64) [AV.x (Value.int IntKind.u64 ↑(wd (Xc2 x c) (c / 64) ||| Xqf (c % 64)))]=w4 (Xc2 x (c+1)) from Xpk x c ⟨hc1,by omega⟩]
  (repeat' (first|refine Wkx.go ?_|refine Xad ?_|fail))
  exact ⟨c+1,by omega,⟨by omega,by omega⟩,(XaX (D:=[]))⟩
 ·refine Xaa _ _ (XaF rfl (RV.cell 1 rfl rfl XaI.out (by simp) (by simp)) (Xaj.mk' [_,_] [] (Xyo _) Xak.nil (VwL.refl _ _))) ?_
  refine ⟨?_,rfl⟩
  have e:Xc2 x c=XaM x y:=by
   unfold Xc2 XaM
   congr 2
   omega
  rw [←e]
  rfl
theorem XkD (m n:Nat):Xay Tryz.prog 204 [] [.x (v4 m),.x (v4 n)] (fun r H'=>r=.x (v4 (m ||| n))∧H'=[]):=by
 unfold v4
 refine XaV Tryz.func204 Tryz.ntmps204 ?_
 (repeat' (first|refine Wkx.go ?_|refine Xad ?_|(refine Xab rfl ?_;(first|refine Xd9 (fun b=>?_)|refine Xb8 (fun b=>?_)))|fail))
 rename_i ba bb
 refine Xah (S:=Nat) (fun c=>frm 19 [(2,.x (.pointer (some ⟨ba,0,none⟩))),(3,.x (.pointer (some ⟨bb,0,none⟩))),(4,.x (.pointer (some ⟨b,0,none⟩))),(6,.x (.int .i64 c))]) (fun c=>[.box b (w4 0),.box bb (w4 n),.box ba (w4m m (m ||| n) c)]) (fun c=>c≤4) (fun c=>4 - c) 0 (Xaj.mk' [] _ (Xyo _) (Xak.refl _ _) (by (repeat' (first|exact VwL.nil|(refine VwL.cons ?_ ?_)|exact Vw.refl _|exact Vw.top _|fail)))) (Nat.zero_le _) fun c hc=>?_
 simp only [wfr]
 by_cases h4:c < 4
 ·(repeat' (first|refine Wkx.go ?_|(refine Xaz (fun h=>?_) (fun h=>?_)<;>first|(exfalso;omega;done)|skip)|refine Xad ?_|fail))
  refine Xhz mixed [8] ?_
  (have wx:=And.intro @XmU @XlG;((first|refine Xdh 0 ?_|fail);(first|refine Xdh 1 ?_|fail);(first|refine Xdr 2 ?_|fail);(first|refine Xdh 3 ?_|fail);(first|refine Xdh 4 ?_|fail);(first|refine Xdr 5 ?_|fail);(first|refine Xdh 6 ?_|fail);(first|refine Xdh 7 ?_|fail)))<;>(try clear wx)
  refine XaG (by decide +kernel) ?_
  refine Xai rfl (by simp only [Xyz,Xyy];rfl) ?_
  (have wx:=And.intro @Nat.mul_one (And.intro @Nat.zero_add (And.intro (fun x y k=>(XuW x y k).symm) @Xih));(refine Xd8 8 ?_;(first|refine Xbh ?_|fail)))<;>(try clear wx)
  refine Xao (by decide +kernel) ?_
  (repeat' (first|refine Wkx.go ?_|refine Xad ?_|fail))
  exact ⟨c+1,by omega,by omega,(XaX (D:=[]))⟩
 ·obtain rfl:c=4:=by omega
  rw [XfX]
  (have wx:=@w4r;(repeat' (first|refine Wkx.go ?_|(refine Xaz (fun h=>?_) (fun h=>?_)<;>first|(exact absurd h (by decide))|skip)|refine Xad ?_|(refine Xab rfl ?_;(refine Xbh ?_))|fail)))<;>(try clear wx)
  refine Xaa _ _ (XaF rfl (RV.cell 0 rfl rfl XaI.out (by simp) (by simp)) (Xaj.mk' [_,_,_] [] (Xyo _) Xak.nil (VwL.refl _ _))) ?_
  exact ⟨rfl,rfl⟩
theorem Xld (m:Nat):Xay Tryz.prog 200 [] [.x (v4 m)] (fun r H'=>r=.x (v4 (Xfg m))∧H'=[]):=by
 unfold v4
 refine XaV Tryz.func200 Tryz.ntmps200 ?_
 (repeat' (first|refine Wkx.go ?_|refine Xad ?_|(refine Xab rfl ?_;(first|refine Xd9 (fun b=>?_)|refine Xb8 (fun b=>?_)))|fail))
 rename_i ba
 refine Xah (S:=Nat) (fun c=>frm 15 [(1,.x (.pointer (some ⟨ba,0,none⟩))),(2,.x (.pointer (some ⟨b,0,none⟩))),(4,.x (.int .i64 c))]) (fun c=>[.box b (w4 0),.box ba (w4m m (Xfg m) c)]) (fun c=>c≤4) (fun c=>4 - c) 0 (Xaj.mk' [] _ (Xyo _) (Xak.refl _ _) (by (repeat' (first|exact VwL.nil|(refine VwL.cons ?_ ?_)|exact Vw.refl _|exact Vw.top _|fail)))) (Nat.zero_le _) fun c hc=>?_
 simp only [wfr]
 by_cases h4:c < 4
 ·have hw:=XlK m c h4
  (have wx:=And.intro @Nat.mul_one (And.intro @Nat.zero_add (And.intro @XlG (And.intro (hw).symm @Xih)));(repeat' (first|refine Wkx.go ?_|(refine Xaz (fun h=>?_) (fun h=>?_)<;>first|(exfalso;omega;done)|skip)|refine XgO ?_|(refine Xab rfl ?_;(refine Xbh ?_))|fail)))<;>(try clear wx)
  exact ⟨c+1,by omega,by omega,(XaX (D:=[]))⟩
 ·obtain rfl:c=4:=by omega
  rw [XfX]
  (have wx:=@w4r;(repeat' (first|refine Wkx.go ?_|(refine Xaz (fun h=>?_) (fun h=>?_)<;>first|(exact absurd h (by decide))|skip)|refine Xad ?_|(refine Xab rfl ?_;(refine Xbh ?_))|fail)))<;>(try clear wx)
  refine Xaa _ _ (XaF rfl (RV.cell 0 rfl rfl XaI.out (by simp) (by simp)) (Xaj.mk' [_,_] [] (Xyo _) Xak.nil (VwL.refl _ _))) ?_
  exact ⟨rfl,rfl⟩
theorem Xsg (c:Nat):(decide (33≤(c:Int)) && decide ((c:Int)≤47) || decide (58≤(c:Int)) && decide ((c:Int)≤64) || decide (91≤(c:Int)) && decide ((c:Int)≤96) || decide (123≤(c:Int)) && decide ((c:Int)≤126))=Xsf c:=by
 have h:∀a:Nat,decide ((a:Int)≤(c:Int))=decide (a≤c):=fun a=>by simp
 have k:∀a:Nat,decide ((c:Int)≤(a:Int))=decide (c≤a):=fun a=>by simp
 unfold Xsf
 rw [show (33:Int)=((33:Nat):Int) from rfl,show (58:Int)=((58:Nat):Int) from rfl,show (91:Int)=((91:Nat):Int) from rfl,show (123:Int)=((123:Nat):Int) from rfl,show (47:Int)=((47:Nat):Int) from rfl,show (64:Int)=((64:Nat):Int) from rfl,show (96:Int)=((96:Nat):Int) from rfl,show (126:Int)=((126:Nat):Int) from rfl]
 simp only [h,k]
theorem XvZ (c:Nat) (hc:c < 256):Xay Tryz.prog 205 [] [.x (.int .u8 c)] (fun r H'=>r=.x (.bool (Xsf c))∧H'=[]):=by
 refine XaV Tryz.func205 Tryz.ntmps205 ?_
 (repeat' (first|refine Wkx.go ?_|refine Xad ?_|fail))
 refine Xaa _ _ (XaF rfl (RV.tmp _) (XcS (D:=[]))) ?_
 exact ⟨congrArg (fun q=>AV.x (.bool q)) (Xsg c),rfl⟩
set_option linter.defProp false
theorem XaY (s:List UInt8) (j:Nat):(s.getD j 0).toNat=chr s j:=rfl
theorem Xcm (s:List UInt8) (j:Nat):chr s j < 256:=by unfold chr;exact UInt8.toNat_lt _
def Nd.cells (n:Nd):List AV:=.x (.int .i64 n.kind) :: .x (.int .i64 n.left) :: .x (.int .i64 n.right) :: w4 n.set
def Nd.val (n:Nd):Value:=.agg #[.int .i64 n.kind,.int .i64 n.left,.int .i64 n.right,.int .u64 (wd n.set 0:Nat),.int .u64 (wd n.set 1:Nat),.int .u64 (wd n.set 2:Nat),.int .u64 (wd n.set 3:Nat)]
def nda (l:List Nd):List AV:=l.flatMap Nd.cells
@[simp] theorem Xxy (l:List Nd):(nda l).length=l.length*7:=by
 induction l with
 | nil=>rfl
 | cons a l ih=>
   have e:nda (a :: l)=a.cells++nda l:=by simp [nda]
   rw [e,XyA,ih];simp [Nd.cells];omega
theorem Xt0 (l:List Nd) (n:Nd):nda l++n.cells=nda (l++[n]):=by simp [nda]
theorem Xdw (n:Nat):AV.cells (.x (v4 n))=w4 n:=rfl
theorem Xgz (n:Nat):(w4 n).all AV.one=true:=rfl
theorem Xcs:v4 0=.agg #[.int .u64 0,.int .u64 0,.int .u64 0,.int .u64 0]:=by simp [v4,XaU]
def pcx (s:List UInt8) (p:RS) (ad:Option Addr) (cap:Nat):List AV:=[.x (.string (bs s)),.x (.int .i64 p.at_),.x (.int .i64 p.opn),.x (.slice ad p.ns.length cap)]
abbrev ph (pb:Nat) (s:List UInt8) (p:RS) (ad:Option Addr) (cap:Nat):List Hp:=[.box pb (pcx s p ad cap),.row ad p.ns.length cap 127 7 (nda p.ns)]
theorem XjU (s:List UInt8) (p:RS) (ad:Option Addr) (cap:Nat) (hs:s.length≤128) (h:p.at_≤s.length):Xay Tryz.prog 132 [] [.at_ (pcx s p ad cap)] (fun r H'=>r=.x (.bool (p.at_ == s.length))∧H'=[]):=by
 unfold pcx
 refine XaV Tryz.func132 Tryz.ntmps132 ?_
 (repeat' (first|refine Wkx.go ?_|refine Xc4 ?_|refine Xad ?_|fail))
 refine Xaa _ _ (XaF rfl (RV.tmp _) (XcS (D:=[]))) ?_
 exact ⟨congrArg (fun q=>AV.x (.bool q)) (by rw [Bool.eq_iff_iff];simp;omega),rfl⟩
theorem Xxb (pb:Nat) (s:List UInt8) (p:RS) (ad:Option Addr) (cap:Nat) (n:Nd) (hn:p.ns.length≤1000):Xay Tryz.prog 160 (ph pb s p ad cap) [.x (.pointer (some ⟨pb,0,none⟩)),.x n.val] (fun r H'=>∃ad' cap',r=.x (.int .i64 p.ns.length)∧H'=ph pb s (p.add n) ad' cap'):=by
 unfold Nd.val ph pcx
 refine XaV Tryz.func160 Tryz.ntmps160 ?_
 (repeat' (first|refine Wkx.go ?_|refine Xad ?_|(refine Xab rfl ?_;(refine Xd9 (fun b=>?_)))|fail))
 refine XaE mixed [10] [_,_] [_] (Xyo _) ?_
 ((first|refine XbQ 0 ?_|fail);(first|refine XbQ 1 ?_|fail);(first|refine XbQ 2 ?_|fail);(first|refine XbQ 3 ?_|fail);(first|refine Xdr 4 ?_|fail);(first|refine Xdr 5 ?_|fail))
 (refine XcV 6 ?_;(first|refine Xfr (fun b=>?_)|fail))
 (refine XcV 7 ?_;(first|refine XfK (fun ad cap=>?_)|fail))
 (repeat ((first|refine XcV 8 ?_|refine XcV 9 ?_|fail);(first|refine Xd5 ?_|fail)))
 refine XaG (by decide +kernel) ?_
 refine Xai rfl (by simp only [Xyz,Xyy];rfl) ?_
 (refine Xd8 10 ?_;(first|refine Xbh ?_|fail))
 refine Xao (by decide +kernel) ?_
 (repeat' (first|refine Wkx.go ?_|refine Xad ?_|fail))
 refine Xaa _ _ (XaF rfl (RV.tmp _) (Xaj.mk' [.box _ _,.row (some _) 1 1 _ _ _] [.box pb _,.row ad _ cap _ _ _] (by (repeat' (first|exact Xyo _|refine XyE _ ?_|refine (XyB (l₁:=[_])).trans (XyE _ ?_)|fail))) (Xak.refl _ _) (VwL.refl _ _))) ⟨ad,cap,rfl,?_⟩
 simp only [RS.add,←Xt0,XyA,Xyr,Xyu]
 rfl
theorem Xvw (pb:Nat) (s:List UInt8) (p:RS) (ad:Option Addr) (cap:Nat) (hs:s.length≤128) (hp:p.at_ < s.length):Xay Tryz.prog 199 [.box pb (pcx s p ad cap)] [.x (.pointer (some ⟨pb,0,none⟩))] (fun r H'=>
  r=.tup [.x (.int .i64 (XbL s p.at_).1),.x (v4 (XbL s p.at_).2.1),.x (.int .i64 ((XbL s p.at_).2.2.1:Nat))]∧H'=[.box pb (pcx s { p with at_:=(XbL s p.at_).2.2.2 } ad cap)]):=by
 unfold pcx
 have hq:=Xcm s (p.at_+1)
 refine XaV Tryz.func199 Tryz.ntmps199 ?_
 (have wx:=And.intro @XaY (And.intro @Xdw (And.intro @Xgz @w4r));(repeat' (first|refine Wkx.go ?_|refine Xc4 ?_|(refine Xaz (fun h=>?_) (fun h=>?_)<;>skip)|refine Xad ?_ (h:=by exact fun _=>Xbb rfl rfl Tryz.func201 (Xb3 48 57 (by decide) (by decide)))|refine Xad ?_ (h:=by exact fun _=>Xbb rfl rfl Tryz.func201 (Xb3 65 90 (by decide) (by decide)))|refine Xad ?_ (h:=by exact fun _=>Xbb rfl rfl Tryz.func201 (Xb3 97 122 (by decide) (by decide)))|refine Xad ?_ (h:=by exact fun _=>Xbb rfl rfl Tryz.func201 (Xb3 95 95 (by decide) (by decide)))|refine Xad ?_ (h:=by exact fun _=>Xbb rfl rfl Tryz.func201 (Xb3 32 32 (by decide) (by decide)))|refine Xad ?_ (h:=by exact fun _=>Xbb rfl rfl Tryz.func201 (Xb3 9 9 (by decide) (by decide)))|refine Xad ?_ (h:=by exact fun _=>Xbb rfl rfl Tryz.func201 (Xb3 13 13 (by decide) (by decide)))|refine Xad ?_ (h:=by exact fun _=>Xbb rfl rfl Tryz.func201 (Xb3 10 10 (by decide) (by decide)))|refine Xad ?_ (h:=by exact fun _=>Xbb rfl rfl Tryz.func201 (Xb3 _ _ hq hq))|refine Xad ?_ (h:=by exact fun _=>Xbb rfl rfl Tryz.func204 (XkD _ _))|refine Xad ?_ (h:=by exact fun _=>Xbb rfl rfl Tryz.func205 (XvZ _ hq))|refine Xad ?_ (h:=by exact fun _=>Xam _ _ _ _ _ _ _ rfl rfl rfl (by kernel_rfl) Xdi.out (by omega))|refine Xad ?_|(refine Xab rfl ?_;(first|refine Xbh ?_|refine Xb8 (fun b=>?_)))|fail)))<;>(try clear wx)
 all_goals
  refine Xaa _ _ (XwP rfl (RV.tmp _) (RV.cell 0 rfl rfl XaI.out (by simp) (by simp)) (RV.tmp _) (Xaj.mk' [.box b _] [.box pb _] (Xyo _) (Xak.refl _ _) (VwL.refl _ _))) ⟨?_,?_⟩
  all_goals (unfold XbL;(repeat' split)<;>first|rfl|(rw [Xcs];rfl)|(exfalso;omega)|(exfalso;simp_all;done)|fail)
theorem Xpa (pb:Nat) (s:List UInt8) (p:RS) (ad:Option Addr) (cap:Nat) (hs:s.length≤128) (hp:p.at_ < s.length):Xay Tryz.prog 207 [.box pb (pcx s p ad cap)] [.x (.pointer (some ⟨pb,0,none⟩))] (fun r H'=>
  r=.tup [.x (.int .i64 (Xbd s p.at_).1),.x (v4 (Xbd s p.at_).2.1),.x (.int .i64 ((Xbd s p.at_).2.2.1:Nat))]∧H'=[.box pb (pcx s { p with at_:=(Xbd s p.at_).2.2.2 } ad cap)]):=by
 have he:=Xvw pb s p ad cap hs hp
 unfold pcx at he ⊢
 have hq:=Xcm s p.at_
 refine XaV Tryz.func207 Tryz.ntmps207 ?_
 (have wx:=And.intro @XaY (And.intro @Xdw (And.intro @Xgz @w4r));(repeat' (first|refine Wkx.go ?_|refine Xc4 ?_|(refine Xaz (fun h=>?_) (fun h=>?_)<;>first|(exfalso;omega;done)|skip)|refine Xad ?_ (h:=by exact fun _=>Xbb rfl rfl Tryz.func201 (Xb3 _ _ hq hq))|refine Xad ?_ (h:=by exact fun _=>Xam _ _ _ _ _ _ _ rfl rfl rfl (by kernel_rfl) Xdi.out (by omega))|refine Xad ?_|(refine Xab rfl ?_;(first|((refine Xa7 Tryz.func199 [_] rfl rfl (XyB (l₁:=[_])) (he) ?_;rintro _ _ ⟨rfl,rfl⟩);refine XaJ ?_)|refine Xbh ?_|refine Xb8 (fun b=>?_)))|fail)))<;>(try clear wx)
 all_goals
  first|refine Xaa _ _ (XwP rfl (RV.tmp _) (RV.cell 0 rfl rfl XaI.out (by simp) (by simp)) (RV.tmp _) (Xaj.mk' [.box b _] [.box pb _] (by (repeat' (first|exact Xyo _|fail))) (Xak.refl _ _) (VwL.refl _ _))) ⟨?_,?_⟩|refine Xaa _ _ (XwP rfl (RV.tmp _) (RV.cell 1 rfl rfl XaI.out (by simp) (by simp)) (RV.tmp _) (Xaj.mk' [.box b _] [.box pb _] (by (repeat' (first|exact Xyo _|refine (XyB (l₁:=[_])).trans (XyE _ ?_)|fail))) (Xak.refl _ _) (VwL.refl _ _))) ⟨?_,?_⟩|fail
  all_goals (unfold Xbd;(repeat' split)<;>first|rfl|(rw [Xcs];rfl)|(exfalso;omega)|fail)
theorem Xex (n:Nat) (a b c d:AV):w4 n++List.drop (w4 n).length [a,b,c,d]=w4 n:=by simp [w4]
theorem Xif (m n:Nat):w4 n++List.drop (w4 n).length (w4 m)=w4 n:=by simp [w4]
theorem XrW (s:List UInt8) (p:RS) (ad:Option Addr) (cap:Nat) (hs:s.length≤128):RowKit.Hid (∀k,k≤s.length→Xay Tryz.prog 132 [] [.at_ [.x (.string (bs s)),.x (.int .i64 (k:Nat)),.x (.int .i64 p.opn),.x (.slice ad p.ns.length cap)]] (fun r H'=>r=.x (.bool (k == s.length))∧H'=[])):=
 Lib.hid fun k h=>XjU s { p with at_:=k } ad cap hs h
theorem Xo6 (s:List UInt8) (k:Nat) : -1≤(XbL s k).1∧(XbL s k).1 < 256:=by
 have hc:=Xcm s (k+1)
 unfold XbL
 repeat' (split;· simp<;>omega)
 simp
theorem Xo7 (s:List UInt8) (k:Nat) : -1≤(Xbd s k).1∧(Xbd s k).1 < 256:=by
 have hc:=Xcm s k
 unfold Xbd
 split
 ·simp
 split
 ·exact Xo6 s k
 ·simp<;>omega
theorem Xbr (k:Nat):(k:Int)+1=((k+1:Nat):Int):=rfl
theorem Xws (x y:Int) (hx:0≤x∧x < 256) (hy:0≤y∧y < 256):Xay Tryz.prog 201 [] [.x (.int .u8 x),.x (.int .u8 y)] (fun r H'=>r=.x (v4 (XaM x.toNat y.toNat))∧H'=[]):=by
 have h:=Xb3 x.toNat y.toNat (by omega) (by omega)
 rw [Int.toNat_of_nonneg hx.1,Int.toNat_of_nonneg hy.1] at h
 exact h
theorem Xvv (pb:Nat) (s:List UInt8) (p:RS) (ad:Option Addr) (cap:Nat) (hs:s.length≤128) (hp:p.at_ < s.length):Xay Tryz.prog 203 [.box pb (pcx s p ad cap)] [.x (.pointer (some ⟨pb,0,none⟩))] (fun r H'=>
  r=.tup [.x (v4 (XaP s p.at_).1),.x (.int .i64 ((XaP s p.at_).2.1:Nat))]∧H'=[.box pb (pcx s { p with at_:=(XaP s p.at_).2.2 } ad cap)]):=by
 have h1:=Xpa pb s p ad cap hs hp
 have a:=XdN s p.at_ hp
 unfold XaP
 simp only
 generalize Xbd s p.at_=A at *
 obtain ⟨v1,n1,c1,k1⟩:=A
 simp only at a h1 ⊢
 obtain ⟨a1,a2,a3,a4,a5,a6⟩:=a
 have h2:k1+1 < s.length→Xay Tryz.prog 207 [.box pb (pcx s { p with at_:=k1+1 } ad cap)] [.x (.pointer (some ⟨pb,0,none⟩))] (fun r H'=>
  r=.tup [.x (.int .i64 (Xbd s (k1+1)).1),.x (v4 (Xbd s (k1+1)).2.1),.x (.int .i64 ((Xbd s (k1+1)).2.2.1:Nat))]∧H'=[.box pb (pcx s { p with at_:=(Xbd s (k1+1)).2.2.2 } ad cap)]):=fun h=>Xpa pb s { p with at_:=k1+1 } ad cap hs h
 have b:=XdN s (k1+1)
 have bv:=Xo7 s (k1+1)
 generalize Xbd s (k1+1)=B at *
 obtain ⟨v2,n2,c2,k2⟩:=B
 simp only at b bv h2 ⊢
 have h3:=XrW s p ad cap hs
 have hq:=Xcm s k1
 unfold pcx at h1 h2 ⊢
 have h2':=Lib.hid h2
 have b':=Lib.hid b
 clear h2 b
 refine XaV Tryz.func203 Tryz.ntmps203 ?_
 (have wx:=And.intro @XaY (And.intro @Xdw (And.intro @Xgz (And.intro @w4r (And.intro @Xex @Xbr))));(repeat' (first|refine Wkx.go ?_|refine Xc4 ?_|(refine Xaz (fun h=>?_) (fun h=>?_)<;>skip)|refine Xad ?_ (h:=by exact fun _=>XdD rfl rfl Tryz.func132 (hS:=h3.out _ (by omega)))|refine Xad ?_ (h:=by (intro hp;(try simp only [wgp] at hp);(try simp only [hp,wte]);(try simp only [whn] at hp);exact XdD rfl rfl Tryz.func132 (hS:=h3.out _ (by omega))))|refine Xad ?_ (h:=by exact fun _=>Xbb rfl rfl Tryz.func201 (Xws _ _ (by omega) (by omega)))|refine Xad ?_ (h:=by (intro hp;(try simp only [wgp] at hp);(try simp only [hp,wte]);(try simp only [whn] at hp);exact Xam _ _ _ _ _ _ _ rfl rfl rfl (by kernel_rfl) Xdi.out (by omega)))|refine Xad ?_|(refine Xab rfl ?_;(first|((refine Xa7 Tryz.func207 [_] rfl rfl (XyB (l₁:=[_])) (h1) ?_;rintro _ _ ⟨rfl,rfl⟩);refine XaJ ?_)|((refine Xa7 Tryz.func207 [_] rfl rfl (XyB (l₁:=[_])) (h2'.out (by omega)) ?_;rintro _ _ ⟨rfl,rfl⟩);refine XaJ ?_)|refine Xbh ?_|refine Xb8 (fun b=>?_)))|fail)))<;>(try clear wx)
 ·rename_i br
  refine Xaa _ _ (XbR rfl (RV.cell 2 rfl rfl XaI.out (by simp) (by simp)) (RV.tmp _) (Xaj.mk' [.box b _,.box br _] [.box pb _] (by (repeat' (first|exact Xyo _|refine XyE _ ?_|refine (XyB (l₁:=[_])).trans (XyE _ ?_)|fail))) (Xak.refl _ _) (VwL.refl _ _))) ⟨?_,?_⟩
  all_goals ((repeat' split)<;>first|rfl|(exfalso;omega)|fail)
 ·rename_i br _
  refine Xaa _ _ (XbR rfl (RV.cell 2 rfl rfl XaI.out (by simp) (by simp)) (RV.tmp _) (Xaj.mk' [.box b _,.box br _] [.box pb _] (by (repeat' (first|exact Xyo _|refine XyE _ ?_|refine (XyB (l₁:=[_])).trans (XyE _ ?_)|fail))) (Xak.refl _ _) (VwL.refl _ _))) ⟨?_,?_⟩
  all_goals ((repeat' split)<;>first|rfl|(rw [Xcs];rfl)|(exfalso;omega)|fail)
 ·rename_i br bq _ _
  refine Xaa _ _ (XbR rfl (RV.cell 3 rfl rfl XaI.out (by simp) (by simp)) (RV.tmp _) (Xaj.mk' [.box b _,.box bq _,.box br _] [.box pb _] (by (repeat' (first|exact Xyo _|refine XyE _ ?_|refine (XyB (l₁:=[_])).trans (XyE _ ?_)|fail))) (Xak.refl _ _) (VwL.refl _ _))) ⟨?_,?_⟩
  all_goals ((repeat' split)<;>first|rfl|(rw [Xcs];rfl)|(exfalso;omega)|fail)
 ·rename_i br bq _ _ _
  refine Xaa _ _ (XbR rfl (RV.cell 3 rfl rfl XaI.out (by simp) (by simp)) (RV.tmp _) (Xaj.mk' [.box b _,.box bq _,.box br _] [.box pb _] (by (repeat' (first|exact Xyo _|refine XyE _ ?_|refine (XyB (l₁:=[_])).trans (XyE _ ?_)|fail))) (Xak.refl _ _) (VwL.refl _ _))) ⟨?_,?_⟩
  all_goals ((repeat' split)<;>first|rfl|(rw [Xcs];rfl)|(exfalso;omega)|fail)
 ·rename_i br bq _ _ _
  refine Xaa _ _ (XbR rfl (RV.cell 3 rfl rfl XaI.out (by simp) (by simp)) (RV.tmp _) (Xaj.mk' [.box b _,.box bq _,.box br _] [.box pb _] (by (repeat' (first|exact Xyo _|refine XyE _ ?_|refine (XyB (l₁:=[_])).trans (XyE _ ?_)|fail))) (Xak.refl _ _) (VwL.refl _ _))) ⟨?_,?_⟩
  all_goals ((repeat' split)<;>first|rfl|(exfalso;omega)|fail)
end Go.Proofs.YtdlblokjfoggpaaGreatDoor

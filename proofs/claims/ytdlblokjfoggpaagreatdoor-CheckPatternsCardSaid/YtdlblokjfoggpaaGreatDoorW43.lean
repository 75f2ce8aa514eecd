import Derived.Test.YtdlblokjfoggpaaGreatDoorW12
import Derived.Test.YtdlblokjfoggpaaGreatDoorW15
import Derived.Test.YtdlblokjfoggpaaGreatDoorW7
import Derived.Test.YtdlblokjfoggpaaGreatDoorW10
import Derived.Test.YtdlblokjfoggpaaGreatDoorW42
/- Patterns, in plain Lean: what is read behind other nodes is what is read alone, moved; and what is read is valid. No program in sight. -/
set_option linter.unusedSimpArgs false
set_option linter.unusedVariables false
set_option maxRecDepth 100000
set_option maxHeartbeats 8000000
namespace Go.Proofs.YtdlblokjfoggpaaGreatDoor
def mvN (b:Nat) (n:Nd):Nd:={ n with left:=if 3≤n.kind∧n.kind≤7 then n.left+b else 0,right:=if n.kind=3∨n.kind=4 then n.right+b else 0 }
theorem Xpz (x:List Nd):∀(l:List Nd) (i:Nat) (r:List Nat),vGo (l++x) i r=(vGo l i r).bind (vGo x (i+l.length))
 | [],i,r=>by simp [vGo]
 | n :: l,i,r=>by
   rw [Xyz,vGo,vGo]
   cases XcL n i r with
   | none=>rfl
   | some q=>simp only;rw [Xpz x l (i+1) q,Xyr,show i+1+l.length=i+(l.length+1) from by omega]
theorem Xpy {l:List Nd} {n:Nd} {r q:List Nat} (h:vGo l 0 []=some r) (h2:XcL n l.length r=some q):vGo (l++[n]) 0 []=some q:=by
 rw [Xpz,h,Option.bind_some,Nat.zero_add,vGo,h2];rfl
theorem XpG {n:Nd} {i:Nat} {r:List Nat} (h:n.kind=1∨n.kind=2∨n.kind=8∨n.kind=9) (h2:n.kind=2∨n.set=0) (h3:n.left=0) (h4:n.right=0):XcL n i r=some (r++[i]):=by
 unfold XcL
 rw [if_neg (by rintro ⟨a,b⟩;rcases h2 with h2|h2;exact a h2;rw [h2] at b;exact b rfl)]
 unfold XcO
 rw [if_pos h]
 simp [h3,h4]
theorem XwG {n:Nd} {i v:Nat} {r:List Nat} (h:n.kind=5∨n.kind=6∨n.kind=7) (h2:n.set=0) (h3:n.left=v) (h4:n.right=0):XcL n i (r++[v])=some (r++[i]):=by
 unfold XcL
 rw [if_neg (by rintro ⟨a,b⟩;rw [h2] at b;exact b rfl)]
 unfold XcO
 rw [if_neg (by omega),if_pos h]
 simp [h3,h4]
theorem XpH {n:Nd} {i v u:Nat} {r:List Nat} (h:n.kind=3∨n.kind=4) (h2:n.set=0) (h3:n.left=v) (h4:n.right=u):XcL n i (r++[v]++[u])=some (r++[i]):=by
 unfold XcL
 rw [if_neg (by rintro ⟨a,b⟩;rw [h2] at b;exact b rfl)]
 unfold XcO
 rw [if_neg (by omega),if_neg (by omega),if_pos h]
 simp [h3,h4]
structure GS (b:List Nd) (roots:List Nat) (p p':RS):Prop where
 at_:p.at_=p'.at_
 opn:p.opn=p'.opn
 ns:p.ns=b++p'.ns.map (mvN b.length)
 val:vGo p.ns 0 []=some roots
def GR (b:List Nd) (roots:List Nat) (r r':RxR):Prop:=r.c=r'.c∧(r.c=0→GS b (roots++[r.v]) r.p r'.p∧r.v=r'.v+b.length∧r.v+1=r.p.ns.length)
theorem GS.len {b:List Nd} {roots:List Nat} {p p':RS} (h:GS b roots p p'):p.ns.length=p'.ns.length+b.length:=by
 rw [h.ns,XyA,List.length_map];omega
theorem GS.add {b:List Nd} {roots:List Nat} {p p':RS} (h:GS b roots p p') (a:Nat) {n n':Nd} {q:List Nat} (hn:n=mvN b.length n') (hv:XcL n p.ns.length roots=some (q++[p.ns.length])):GS b (q++[p.ns.length]) ({ p with at_:=a }.add n) ({ p' with at_:=a }.add n'):=by
 refine ⟨rfl,h.opn,?_,Xpy h.val hv⟩
 show p.ns++[n]=b++(p'.ns++[n']).map (mvN b.length)
 rw [h.ns,hn,List.map_append,List.append_assoc];rfl
theorem GR.err {b:List Nd} {roots:List Nat} {r r':RxR} (h:r.c=r'.c) (h0:r.c≠0):GR b roots r r':=⟨h,fun e=>absurd e h0⟩
theorem GS.ok {b:List Nd} {roots:List Nat} {p p':RS} (h:GS b roots p p') (a:Nat) {n n':Nd} {q:List Nat} (hn:n=mvN b.length n') (hv:XcL n p.ns.length roots=some (q++[p.ns.length])):GR b q (({ p with at_:=a }:RS).ok n) (({ p' with at_:=a }:RS).ok n'):=
 ⟨rfl,fun _=>⟨h.add a hn hv,h.len,by simp [RS.ok,RS.add]⟩⟩
theorem Xo9 {b:List Nd} {roots:List Nat} (s:List UInt8):∀(m:Nat) (p p':RS) (v v':Nat),GS b (roots++[v]) p p'→v=v'+b.length→v+1=p.ns.length→GR b roots (Xcf m s p v) (Xcf m s p' v')
 | 0,p,p',v,v',h,hv,hl=>by rw [Xcf,Xcf];exact ⟨rfl,fun _=>⟨h,hv,hl⟩⟩
 | m+1,p,p',v,v',h,hv,hl=>by
   have h0:GR b roots ⟨v,0,p⟩ ⟨v',0,p'⟩:=⟨rfl,fun _=>⟨h,hv,hl⟩⟩
   have hs:∀k:Nat,(k=5∨k=6∨k=7)→GR b roots (Xcf m s ({ p with at_:=p.at_+1 }.add { kind:=k,left:=v }) p.ns.length) (Xcf m s ({ p' with at_:=p'.at_+1 }.add { kind:=k,left:=v' }) p'.ns.length):=fun k hk=>by
    refine Xo9 s m _ _ _ _ ?_ h.len (by simp [RS.add])
    rw [←h.at_]
    exact h.add (p.at_+1) (by simp only [mvN];rw [if_pos (by omega),if_neg (by omega),hv]) (XwG hk rfl rfl rfl)
   rw [Xcf,Xcf,←h.at_]
   split
   ·exact h0
   split
   ·have:=hs 5 (by omega);rw [←h.at_] at this;exact this
   split
   ·have:=hs 6 (by omega);rw [←h.at_] at this;exact this
   split
   ·have:=hs 7 (by omega);rw [←h.at_] at this;exact this
   ·exact h0
structure RxG (s:List UInt8) (n:Nat):Prop where
 atom:∀b roots p p',GS b roots p p'→GR b roots (Xa6 n s p) (Xa6 n s p')
 part:∀b roots p p',GS b roots p p'→GR b roots (XaC n s p) (XaC n s p')
 alt:∀b roots p p',GS b roots p p'→GR b roots (XaO n s p none) (XaO n s p' none)
 alts:∀b roots p p' l l',GS b (roots++[l]) p p'→l=l'+b.length→l+1=p.ns.length→GR b roots (XaO n s p (some l)) (XaO n s p' (some l'))
 bar:∀b roots r r',GR b roots r r'→GR b roots (Xb7 n s r) (Xb7 n s r')
 pat:∀b roots p p',GS b roots p p'→GR b roots (rxPat n s p) (rxPat n s p')
theorem Xri (s:List UInt8):∀n,RxG s n:=by
 intro n
 induction n with
 | zero=>
   refine ⟨fun b r p p' h=>?_,fun b r p p' h=>?_,fun b r p p' h=>?_,fun b r p p' l l' h h1 h2=>?_,fun b r q q' h=>?_,fun b r p p' h=>?_⟩
   ·rw [Xa6,Xa6];exact GR.err rfl (by simp)
   ·rw [XaC,XaC];exact GR.err rfl (by simp)
   ·rw [XaO,XaO];exact GR.err rfl (by simp)
   ·rw [XaO,XaO];exact GR.err rfl (by simp)
   ·rw [Xb7,Xb7];exact h
   ·rw [rxPat,rxPat];exact GR.err rfl (by simp)
 | succ n ih=>
   have hatom:∀b roots p p',GS b roots p p'→GR b roots (Xa6 (n+1) s p) (Xa6 (n+1) s p'):=by
    intro b roots p p' h
    have hk:∀(a:Nat) (x:Nd),(x.kind=2∨x.kind=8∨x.kind=9)→(x.kind=2∨x.set=0)→x.left=0→x.right=0→GR b roots ((⟨a,p.opn,p.ns⟩:RS).ok x) ((⟨a,p.opn,p'.ns⟩:RS).ok x):=fun a x h1 h2 h3 h4=>by
     rw [show (⟨a,p.opn,p'.ns⟩:RS)={ p' with at_:=a } from by rw [h.opn]]
     refine h.ok a ?_ (XpG (by omega) h2 h3 h4)
     unfold mvN
     rw [if_neg (by omega),if_neg (by omega)]
     cases x;simp only at h3 h4;subst h3 h4;rfl
    rw [Xa6,Xa6]
    simp only
    rw [←h.at_,←h.opn]
    split
    ·exact GR.err rfl (by simp)
    split
    ·exact GR.err rfl (by simp)
    split
    ·split
     ·exact GR.err rfl (by simp)
     ·have hp:GS b roots { p with at_:=p.at_+1,opn:=p.opn+1 } { p' with at_:=p.at_+1,opn:=p.opn+1 }:=⟨rfl,rfl,h.ns,h.val⟩
      obtain ⟨g1,g2⟩:=ih.pat b roots _ _ hp
      generalize rxPat n s { p with at_:=p.at_+1,opn:=p.opn+1 }=q at *
      generalize rxPat n s { p' with at_:=p.at_+1,opn:=p.opn+1 }=q' at *
      rw [←g1]
      split
      ·exact GR.err rfl ‹_›
      rename_i hc
      obtain ⟨⟨k1,k2,k3,k4⟩,k5,k6⟩:=g2 (by omega)
      rw [←k1]
      split
      ·exact GR.err rfl (by simp)
      ·exact ⟨rfl,fun _=>⟨⟨rfl,by simp only;omega,k3,k4⟩,k5,k6⟩⟩
    split
    ·split
     ·exact GR.err rfl ‹_›
     ·exact hk (Xbn s (p.at_+1)).2.2 { kind:=2,set:=(Xbn s (p.at_+1)).1 } (.inl rfl) (.inl rfl) rfl rfl
    split
    ·split
     ·exact GR.err rfl ‹_›
     ·exact hk (XbL s p.at_).2.2.2 { kind:=2,set:=(XbL s p.at_).2.1 } (.inl rfl) (.inl rfl) rfl rfl
    ·refine hk _ _ ?_ ?_ ?_ ?_<;>(repeat' split)<;>simp
   have hpart:∀b roots p p',GS b roots p p'→GR b roots (XaC (n+1) s p) (XaC (n+1) s p'):=by
    intro b roots p p' h
    obtain ⟨g1,g2⟩:=ih.atom b roots p p' h
    rw [XaC,XaC]
    try simp only
    rw [←g1]
    split
    ·exact GR.err rfl ‹_›
    ·rename_i hc
     obtain ⟨k1,k5,k6⟩:=g2 (by omega)
     exact Xo9 s _ _ _ _ _ k1 k5 k6
   have halts:∀b roots p p' l l',GS b (roots++[l]) p p'→l=l'+b.length→l+1=p.ns.length→GR b roots (XaO (n+1) s p (some l)) (XaO (n+1) s p' (some l')):=by
    intro b roots p p' l l' h hl hn
    rw [Xcb,Xcb,←h.at_]
    simp only
    split
    ·obtain ⟨g1,g2⟩:=ih.part b _ p p' h
     generalize XaC n s p=q at *
     generalize XaC n s p'=q' at *
     rw [←g1]
     split
     ·exact GR.err rfl ‹_›
     ·rename_i hc
      obtain ⟨k1,k5,k6⟩:=g2 (by omega)
      refine ih.alts b roots _ _ _ _ ?_ k1.len (by simp [RS.add])
      have:=k1.add q.p.at_ (n:={ kind:=3,left:=l,right:=q.v }) (n':={ kind:=3,left:=l',right:=q'.v }) (q:=roots) (by simp [mvN,hl,k5]) (XpH (.inl rfl) rfl rfl rfl)
      rw [show ({ q'.p with at_:=q.p.at_ }:RS)=q'.p from by rw [k1.at_]] at this
      exact this
    ·exact ⟨rfl,fun _=>⟨h,hl,hn⟩⟩
   have halt:∀b roots p p',GS b roots p p'→GR b roots (XaO (n+1) s p none) (XaO (n+1) s p' none):=by
    intro b roots p p' h
    rw [Xcb,Xcb,←h.at_]
    simp only
    split
    ·obtain ⟨g1,g2⟩:=ih.part b _ p p' h
     rw [←g1]
     split
     ·exact GR.err rfl ‹_›
     ·rename_i hc
      obtain ⟨k1,k5,k6⟩:=g2 (by omega)
      exact ih.alts b roots _ _ _ _ k1 k5 k6
    ·have:=h.ok p.at_ (n:={ kind:=1 }) (n':={ kind:=1 }) (by simp [mvN]) (XpG (.inl rfl) (.inr rfl) rfl rfl)
     rw [show ({ p' with at_:=p.at_ }:RS)=p' from by rw [h.at_]] at this
     exact this
   have hbar:∀b roots r r',GR b roots r r'→GR b roots (Xb7 (n+1) s r) (Xb7 (n+1) s r'):=by
    intro b roots r r' h
    have hh:=h
    obtain ⟨h1,h2⟩:=h
    rw [Xb7,Xb7]
    by_cases hc:r.c=0
    ·obtain ⟨k1,k5,k6⟩:=h2 hc
     rw [←h1,←k1.at_]
     split
     ·have ha:GS b (roots++[r.v]) { r.p with at_:=r.p.at_+1 } { r'.p with at_:=r.p.at_+1 }:=⟨rfl,k1.opn,k1.ns,k1.val⟩
      obtain ⟨g1,g2⟩:=ih.alt b _ _ _ ha
      simp only
      generalize XaO n s { r.p with at_:=r.p.at_+1 } none=q at *
      generalize XaO n s { r'.p with at_:=r.p.at_+1 } none=q' at *
      refine ih.bar b roots _ _ ?_
      rw [←g1]
      split
      ·obtain ⟨j1,j5,j6⟩:=g2 ‹_›
       have:=j1.ok q.p.at_ (n:={ kind:=4,left:=r.v,right:=q.v }) (n':={ kind:=4,left:=r'.v,right:=q'.v }) (q:=roots) (by simp [mvN,k5,j5]) (XpH (.inr rfl) rfl rfl rfl)
       rw [show ({ q'.p with at_:=q.p.at_ }:RS)=q'.p from by rw [j1.at_]] at this
       exact this
      ·exact GR.err rfl ‹_›
     ·exact hh
    ·rw [if_neg (fun h=>hc h.1),if_neg (fun h=>hc (h1.trans h.1))]
     exact hh
   refine ⟨hatom,hpart,halt,halts,hbar,fun b roots p p' h=>?_⟩
   rw [rxPat,rxPat]
   exact ih.bar b roots _ _ (ih.alt b roots p p' h)
theorem XiS (k o:Nat):GS [] [] ⟨k,o,[]⟩ ⟨k,o,[]⟩:=⟨rfl,rfl,rfl,rfl⟩
theorem Xk5 {b:List Nd} {roots:List Nat} (h:vGo b 0 []=some roots) (k o:Nat):GS b roots ⟨k,o,b⟩ ⟨k,o,[]⟩:=⟨rfl,rfl,by simp,h⟩
theorem Xeu {s:List UInt8} {l:List Nd} (h:XbG s=.ok l):XbW l=true∧0 < l.length∧l.length≤256:=by
 unfold XbG at h
 split at h
 ·cases h
 simp only at h
 split at h
 ·cases h
 split at h
 ·cases h
 split at h
 ·cases h
 rename_i hc _ hl
 obtain ⟨_,g2⟩:=(Xri s (5*s.length+5)).pat [] [] ⟨0,0,[]⟩ ⟨0,0,[]⟩ (XiS 0 0)
 obtain ⟨k1,_,k6⟩:=g2 (by omega)
 injection h with h
 subst h
 refine ⟨?_,by omega,by omega⟩
 unfold XbW
 rw [k1.val,Bool.and_eq_true,decide_eq_true_eq]
 exact ⟨by omega,rfl⟩
def jnN (kd:Nat) (l r:List Nd):List Nd:=l++r.map (mvN l.length)++[{ kind:=kd,left:=l.length - 1,right:=if 0 < r.length then l.length+r.length - 1 else 0 }]
theorem Xdm (kd:Nat) (l r:List Nd):(jnN kd l r).length=l.length+r.length+1:=by simp [jnN];omega
theorem XsJ (N:Nat):∀(l:List Nd) (i:Nat) (roots r:List Nat),vGo l i roots=some r→(∀x∈roots,x≤N)→i+l.length≤N+1→∀n∈l,n.left≤N∧n.right≤N
 | [],_,_,_,_,_,_,n,hn=>by cases hn
 | a :: l,i,roots,r,h,hr,hi,n,hn=>by
   rw [vGo] at h
   rw [Xyr] at hi
   cases hs:XcL a i roots with
   | none=>rw [hs] at h;cases h
   | some r1=>
     rw [hs] at h
     simp only at h
     have hg:∀k j,((roots.drop k).getD j 0)≤N:=fun k j=>by
      rw [List.getD_eq_getElem?_getD]
      cases hq:(roots.drop k)[j]? with
      | none=>simp
      | some x=>exact hr x (List.mem_of_mem_drop (List.mem_of_getElem? hq))
     unfold XcL at hs
     split at hs
     ·cases hs
     split at hs
     ·cases hs
     split at hs
     ·cases hs
     split at hs
     ·rename_i hk
      cases hs
      rcases List.mem_cons.1 hn with rfl|hn
      ·rw [hk.1,hk.2];exact ⟨hg _ _,hg _ _⟩
      ·refine XsJ N l (i+1) _ r h (fun x hx=>?_) (by omega) n hn
       rcases List.mem_append.1 hx with hx|hx
       ·exact hr x (List.mem_of_mem_take hx)
       ·rw [List.mem_singleton] at hx;omega
     ·cases hs
structure XuY (s:List UInt8) (k d:Nat) (x:RxR):Prop where
 val:vGo x.p.ns 0 []=some [x.p.ns.length - 1]
 pos:0 < x.p.ns.length
 v:x.v=x.p.ns.length - 1
 lt:k≤x.p.at_
 top:x.p.at_≤s.length
 opn:x.p.opn=d
 ns:x.p.ns.length+3*k≤3*x.p.at_+1
 kid:∀n∈x.p.ns,n.left≤1000∧n.right≤1000
theorem XhX {s:List UInt8} {k d:Nat} {x:RxR} (hs:s.length≤128) (hg:GR [] [] x x) (ha:Adv s ⟨k,d,[]⟩ x 1) (hc:x.c=0):XuY s k d x:=by
 obtain ⟨⟨_,_,_,k4⟩,_,k6⟩:=hg.2 hc
 obtain ⟨a1,a2,a3,a4,a5,a6⟩:=ha
 have a4:=a4 hc
 simp only [Xyu] at a1 a4 a5
 refine ⟨by rw [k4,show x.p.ns.length - 1=x.v from by omega];rfl,by omega,by omega,a1,a2,a4,by omega,XsJ 1000 x.p.ns 0 [] _ k4 (by simp) (by omega)⟩
theorem Adv.one {s:List UInt8} {p:RS} {r:RxR} (h:Adv s p r 0):Adv s p r 1:=⟨h.le,h.top,h.opn,h.ok,by have:=h.ns;omega,h.c⟩
theorem Xp5 {s:List UInt8} {n k d:Nat} (hs:s.length≤128) (hk:k < s.length) (hd:d≤24) (hc:(Xa6 n s ⟨k,d,[]⟩).c=0):XuY s k d (Xa6 n s ⟨k,d,[]⟩)∧k < (Xa6 n s ⟨k,d,[]⟩).p.at_:=
 ⟨XhX hs ((Xri s n).atom _ _ _ _ (XiS k d)) ((XcK s n).atom ⟨k,d,[]⟩ hk hd).1.one hc,(((XcK s n).atom ⟨k,d,[]⟩ hk hd).2 hc).1⟩
theorem XhV {s:List UInt8} {n k d:Nat} (hs:s.length≤128) (hk:k < s.length) (hd:d≤24) (hc:(XaC n s ⟨k,d,[]⟩).c=0):XuY s k d (XaC n s ⟨k,d,[]⟩)∧k < (XaC n s ⟨k,d,[]⟩).p.at_:=
 ⟨XhX hs ((Xri s n).part _ _ _ _ (XiS k d)) ((XcK s n).part ⟨k,d,[]⟩ hk hd).1.one hc,(((XcK s n).part ⟨k,d,[]⟩ hk hd).2 hc).1⟩
theorem Xju {s:List UInt8} {n k d:Nat} (hs:s.length≤128) (hk:k≤s.length) (hd:d≤24) (hc:(XaO n s ⟨k,d,[]⟩ none).c=0):XuY s k d (XaO n s ⟨k,d,[]⟩ none):=
 XhX hs ((Xri s n).alt _ _ _ _ (XiS k d)) ((XcK s n).alt ⟨k,d,[]⟩ none hk hd) hc
theorem XoP {s:List UInt8} {n k d:Nat} (hs:s.length≤128) (hk:k≤s.length) (hd:d≤24) (hc:(rxPat n s ⟨k,d,[]⟩).c=0):XuY s k d (rxPat n s ⟨k,d,[]⟩):=
 XhX hs ((Xri s n).pat _ _ _ _ (XiS k d)) ((XcK s n).pat ⟨k,d,[]⟩ hk hd) hc
def Rt (L:List Nd):Prop:=vGo L 0 []=some [L.length - 1]∧0 < L.length
theorem behind {L:List Nd} {q r:RxR} {s:List UInt8} {k d k0:Nat} (hL:Rt L) (hg:GR L [L.length - 1] r q) (hq:XuY s k d q) (hc:q.c=0) (kd:Nat) (hk:kd=3∨kd=4):r.c=0∧r.p.at_=q.p.at_∧r.p.opn=d∧r.p.ns++[{ kind:=kd,left:=L.length - 1,right:=r.v }]=jnN kd L q.p.ns∧r.p.ns.length=(jnN kd L q.p.ns).length - 1∧Rt (jnN kd L q.p.ns):=by
 obtain ⟨g1,g2⟩:=hg
 have h0:r.c=0:=by omega
 obtain ⟨⟨k1,k2,k3,k4⟩,k5,k6⟩:=g2 h0
 have hv:=hq.v
 have hp:=hq.pos
 have hlen:r.p.ns.length=L.length+q.p.ns.length:=by rw [k3,XyA,List.length_map]
 have e:r.p.ns++[{ kind:=kd,left:=L.length - 1,right:=r.v }]=jnN kd L q.p.ns:=by
  unfold jnN
  rw [k3,if_pos hp,show r.v=L.length+q.p.ns.length - 1 from by omega]
 refine ⟨h0,k1,by rw [k2,hq.opn],e,by rw [Xdm];omega,?_,by rw [Xdm];omega⟩
 rw [←e]
 have:=Xpy (n:={ kind:=kd,left:=L.length - 1,right:=r.v }) k4 (XpH (r:=[]) hk rfl rfl rfl)
 rw [this,XyA]
 simp
theorem Xp0 {s:List UInt8} {m k d:Nat} {L:List Nd} (hs:s.length≤128) (hd:d≤24) (hL:Rt L) (hk:k < s.length) (h2:chr s k≠124∧chr s k≠41) (hc:(XaC m s ⟨k,d,[]⟩).c=0) :
  XaO (m+1) s ⟨k,d,L⟩ (some (L.length - 1))=XaO m s ⟨(XaC m s ⟨k,d,[]⟩).p.at_,d,jnN 3 L (XaC m s ⟨k,d,[]⟩).p.ns⟩ (some ((jnN 3 L (XaC m s ⟨k,d,[]⟩).p.ns).length - 1))∧Rt (jnN 3 L (XaC m s ⟨k,d,[]⟩).p.ns):=by
 obtain ⟨b1,b2,b3,b4,b5,b6⟩:=behind (k0:=k) hL ((Xri s m).part _ _ _ _ (Xk5 hL.1 k d)) (XhV hs hk hd hc).1 hc 3 (.inl rfl)
 refine ⟨?_,b6⟩
 rw [Xcb,if_pos ⟨by simp only;omega,h2⟩,if_neg (by omega)]
 simp only
 rw [←b5,RS.add,b4,b2,b3]
theorem Xs1 {s:List UInt8} {m k d:Nat} {L:List Nd} (hL:Rt L) (hk:k < s.length) (h2:chr s k≠124∧chr s k≠41) (hc:(XaC m s ⟨k,d,[]⟩).c≠0):(XaO (m+1) s ⟨k,d,L⟩ (some (L.length - 1))).c≠0:=by
 have g1:=((Xri s m).part _ _ _ _ (Xk5 hL.1 k d)).1
 rw [Xcb,if_pos ⟨by simp only;omega,h2⟩,if_pos (by omega)]
 show (XaC m s ⟨k,d,L⟩).c≠0
 omega
theorem Xne {s:List UInt8} {m k d:Nat} (hs:s.length≤128) (hd:d≤24) (hk:k < s.length) (h2:chr s k≠124∧chr s k≠41) (hc:(XaC m s ⟨k,d,[]⟩).c=0) :
  XaO (m+1) s ⟨k,d,[]⟩ none=XaO m s ⟨(XaC m s ⟨k,d,[]⟩).p.at_,d,(XaC m s ⟨k,d,[]⟩).p.ns⟩ (some ((XaC m s ⟨k,d,[]⟩).p.ns.length - 1)):=by
 have h:=(XhV hs hk hd hc).1
 rw [Xcb,if_pos ⟨by simp only;omega,h2⟩,if_neg (by omega)]
 simp only
 have h3:=h.v
 have h4:=h.opn
 generalize XaC m s ⟨k,d,[]⟩=q at *
 obtain ⟨v,c,⟨a,o,ns⟩⟩:=q
 simp only at h3 h4 ⊢
 rw [h3,h4]
theorem XpY {s:List UInt8} {m k d:Nat} (hk:k < s.length) (h2:chr s k≠124∧chr s k≠41) (hc:(XaC m s ⟨k,d,[]⟩).c≠0):(XaO (m+1) s ⟨k,d,[]⟩ none).c≠0:=by
 rw [Xcb,if_pos ⟨by simp only;omega,h2⟩,if_pos hc]
 exact hc
theorem Xs2 {s:List UInt8} {m k d:Nat} {L:List Nd} (h:¬(k < s.length∧chr s k≠124∧chr s k≠41)) (hk:k≤s.length):XaO (m+1) s ⟨k,d,L⟩ (some (L.length - 1))=⟨L.length - 1,0,⟨k,d,L⟩⟩:=by
 rw [Xcb,if_neg (by simp only;omega)]
theorem XpZ {s:List UInt8} {m k d:Nat} (h:¬(k < s.length∧chr s k≠124∧chr s k≠41)) (hk:k≤s.length):XaO (m+1) s ⟨k,d,[]⟩ none=⟨0,0,⟨k,d,[{ kind:=1 }]⟩⟩:=by
 rw [Xcb,if_neg (by simp only;omega)]
 rfl
theorem Xqd {s:List UInt8} {m k d:Nat} {L:List Nd} (hs:s.length≤128) (hd:d≤24) (hL:Rt L) (hk:k < s.length) (h2:chr s k=124) (hc:(XaO m s ⟨k+1,d,[]⟩ none).c=0) :
  Xb7 (m+1) s ⟨L.length - 1,0,⟨k,d,L⟩⟩=Xb7 m s ⟨(jnN 4 L (XaO m s ⟨k+1,d,[]⟩ none).p.ns).length - 1,0,⟨(XaO m s ⟨k+1,d,[]⟩ none).p.at_,d,jnN 4 L (XaO m s ⟨k+1,d,[]⟩ none).p.ns⟩⟩∧Rt (jnN 4 L (XaO m s ⟨k+1,d,[]⟩ none).p.ns):=by
 obtain ⟨b1,b2,b3,b4,b5,b6⟩:=behind (k0:=k) hL ((Xri s m).alt _ _ _ _ (Xk5 hL.1 (k+1) d)) (Xju hs (by omega) hd hc) hc 4 (.inr rfl)
 refine ⟨?_,b6⟩
 rw [Xb7,if_pos ⟨rfl,by simp only;omega,h2⟩]
 simp only
 rw [if_pos b1,RS.ok,RS.add,b4,b2,b3,b5]
theorem Xta {s:List UInt8} {m k d:Nat} {L:List Nd} (hd:d≤24) (hL:Rt L) (hk:k < s.length) (h2:chr s k=124) (hc:(XaO m s ⟨k+1,d,[]⟩ none).c≠0):(Xb7 (m+1) s ⟨L.length - 1,0,⟨k,d,L⟩⟩).c≠0:=by
 have g1:=((Xri s m).alt _ _ _ _ (Xk5 hL.1 (k+1) d)).1
 have ha:=(XcK s m).alt ⟨k+1,d,L⟩ none (by simp only;omega) hd
 rw [Xb7,if_pos ⟨rfl,by simp only;omega,h2⟩]
 simp only
 rw [if_neg (by omega),((XcK s m).bar _ (by simp only;exact ha.top) (by simp only;exact ha.opn) (by simp only;exact ha.c)).2 (by simp only;omega)]
 simp only;omega
theorem Xtb {s:List UInt8} {m k d v:Nat} {L:List Nd} (h:¬(k < s.length∧chr s k=124)) (hk:k≤s.length):Xb7 (m+1) s ⟨v,0,⟨k,d,L⟩⟩=⟨v,0,⟨k,d,L⟩⟩:=by
 rw [Xb7,if_neg (by simp only;omega)]
theorem Xtc {s:List UInt8} {m:Nat} {r:RxR} (h1:r.p.at_≤s.length) (h2:r.p.opn≤24) (h3:r.c≤100) (hc:r.c≠0):(Xb7 m s r).c≠0:=by
 rw [((XcK s m).bar r h1 h2 h3).2 hc];exact hc
theorem Xh5 {s:List UInt8} {m k d kd:Nat} {L:List Nd} (h0:0 < L.length) (hk:k < s.length) (h2:(chr s k=42∧kd=5)∨(chr s k=43∧kd=6)∨(chr s k=63∧kd=7)):Xcf (m+1) s ⟨k,d,L⟩ (L.length - 1)=Xcf m s ⟨k+1,d,jnN kd L []⟩ ((jnN kd L []).length - 1):=by
 have e:jnN kd L []=L++[{ kind:=kd,left:=L.length - 1 }]:=by simp [jnN]
 rw [Xcf,if_neg (by simp only;omega)]
 have hl:(jnN kd L []).length - 1=L.length:=by rw [Xdm];simp
 rw [hl,e]
 rcases h2 with ⟨h,rfl⟩|⟨h,rfl⟩|⟨h,rfl⟩
 ·rw [if_pos h];rfl
 ·rw [if_neg (by simp only;omega),if_pos h];rfl
 ·rw [if_neg (by simp only;omega),if_neg (by simp only;omega),if_pos h];rfl
theorem Xpe {s:List UInt8} {m k d v:Nat} {L:List Nd} (hk:k≤s.length) (h2:k < s.length→chr s k≠42∧chr s k≠43∧chr s k≠63):Xcf (m+1) s ⟨k,d,L⟩ v=⟨v,0,⟨k,d,L⟩⟩:=by
 rw [Xcf]
 simp only
 by_cases h:k=s.length
 ·rw [if_pos h]
 ·obtain ⟨a,b,c⟩:=h2 (by omega)
  rw [if_neg h,if_neg a,if_neg b,if_neg c]
open Go.RowKit
theorem Xp7 {P:Program} {ops:Array Oper} {Q:Xb9} {T:List AV} {H:List Hp} {fuel:Nat} {listed:Array Bool} (D:List Nat) (B R:List Hp) (hp:H.Perm (B++R)) (h:Xds P ops Q D B fuel listed T R):Xfd P ops Q fuel listed T H:=fun Δ V O w0 a w r=>(h Δ V O w0 w a w (r.perm hp) (fun _ _=>rfl)).any
theorem XkK {P:Program} {o:Oper} {ρ:Operand→AV} {H:List Hp} (x:Operand) (t e:TypeId) (size n:Nat) (cells:List AV) (ht:elT P t=some (e,size)) (ho:o.op=.call { callee:=.builtin .len,args:=#[x],argTypes:=#[t] }) (hx:ρ x=.sq n cells):XeE P o ρ H (.x (.int .i64 n)):=fun V a w r=>by
 have hd:=r.ops x (by simp [ho,Op.operands,Call.operands])
 rw [hx,Den] at hd
 obtain ⟨ad,cap,vals,hv,h2⟩:=hd
 refine ⟨.int .i64 n,fun w'=>?_,by rw [Den]⟩
 have hrun:(Builtin.len_ #[t] o.type #[a.eval x]).run P w'=.ok (.int .i64 n) w':=by rw [hv];simp [Builtin.len_,goInt,run_underlying (XdP ht)]
 simp only [execOp,ho,resolve,invoke,builtin,Sem.run_bind,Sem.run_pure,Result.andThen_ok,List.map_toArray,Xyt,Xyx,hrun]
theorem Xro (k a b:Nat) (ha:a≤1000) (hb:b≤1000):Xay Tryz.prog 92 [] [.x (.int .i64 k),.x (.int .i64 0),.x (.int .i64 a),.x (.int .i64 b)] (fun r H'=>r=.x (.int .i64 ((if 3≤k∧k≤7 then a+b else 0:Nat):Int))∧H'=[]):=
 (Xlo k 0 a b (by omega) (by omega)).mono fun r H' ⟨h,h'⟩=>⟨h.trans (by
  congr 2
  unfold XgZ
  by_cases h3:3≤k∧k≤7
  ·rw [if_pos h3];(repeat' split)<;>omega
  ·rw [if_neg h3];(repeat' split)<;>omega),h'⟩
theorem Xrp (k a b:Nat) (ha:a≤1000) (hb:b≤1000):Xay Tryz.prog 92 [] [.x (.int .i64 k),.x (.int .i64 1),.x (.int .i64 a),.x (.int .i64 b)] (fun r H'=>r=.x (.int .i64 ((if k=3∨k=4 then a+b else 0:Nat):Int))∧H'=[]):=
 (Xlo k 1 a b (by omega) (by omega)).mono fun r H' ⟨h,h'⟩=>⟨h.trans (by
  congr 2
  unfold XgZ
  by_cases h3:k=3∨k=4
  ·rw [if_pos h3];(repeat' split)<;>omega
  ·rw [if_neg h3];(repeat' split)<;>omega),h'⟩
theorem Xj8 (z:List Nd) (n:Nd):nda z++n.cells=nda (z++[n]):=by simp [nda]
theorem Xkm (kd:Nat) (l r:List Nd) (h0:0 < l.length) (hl:l.length+r.length≤1000) (hb:∀n,n∈r→n.left≤1000∧n.right≤1000):Xay Tryz.prog 51 [] [.x (.int .i64 kd),.sq l.length (nda l),.sq r.length (nda r)] (fun q H'=>q=.sq (jnN kd l r).length (nda (jnN kd l r))∧H'=[]):=by
 have hS0:=Lib.hid (fun k a b h1 h2=>Xro k a b h1 h2)
 have hS1:=Lib.hid (fun k a b h1 h2=>Xrp k a b h1 h2)
 refine XaV Tryz.func51 Tryz.ntmps51 ?_
 (repeat' (first|refine Wkx.go ?_|refine Xad ?_|(refine Xab rfl ?_;(first|refine XfK (fun ad cap=>?_)|refine Xfr (fun b=>?_)))|fail))
 refine Xah (S:=Nat × Option Addr × Nat × List Nd) (fun q=>frm 63 [(0,.x (.int .i64 kd)),(1,.sq l.length (nda l)),(2,.sq r.length (nda r)),(6,.x (.slice none 0 0)),(7,.x (.slice q.2.1 (l.length+q.1) q.2.2.1)),(8,.x (.int .i64 (q.1:Nat)))]) (fun q=>[.row q.2.1 (l.length+q.1) q.2.2.1 127 7 (nda q.2.2.2)]) (fun q=>q.1≤r.length∧q.2.2.2=l++(r.take q.1).map (mvN l.length)) (fun q=>r.length - q.1) (0,ad,cap,l) (XaX (D:=[])) ⟨Nat.zero_le _,by simp⟩ fun q hq=>?_
 obtain ⟨j,ad1,cap1,z⟩:=q
 obtain ⟨q1,q2⟩:=hq
 simp only at q1 q2
 have hz:z.length=l.length+j:=by rw [q2,XyA,List.length_map,List.length_take];omega
 simp only [wfr]
 by_cases hj:j < r.length
 ·obtain ⟨b1,b2⟩:=hb _ (List.getElem_mem hj)
  have hd:=Xb1 r j hj
  have hq:z++[mvN l.length r[j]]=l++(r.take (j+1)).map (mvN l.length):=by
   rw [q2,List.append_assoc,List.take_add_one,List.map_append,List.getElem?_eq_getElem hj];rfl
  generalize r[j]=x at *
  obtain ⟨xk,xl,xr,xs⟩:=x
  simp only at b1 b2
  unfold mvN at hq
  simp only at hq
  have e0:=hS0.out xk xl l.length b1 (by omega)
  have e1:=hS1.out xk xr l.length b2 (by omega)
  generalize (if 3≤xk∧xk≤7 then xl+l.length else 0)=yl at *
  generalize (if xk=3∨xk=4 then xr+l.length else 0)=yr at *
  have hd:=Lib.hid hd
  have e0:=Lib.hid e0
  have e1:=Lib.hid e1
  have q2:=Lib.hid q2
  have hq:=Lib.hid hq
  (have wx:=And.intro @hd.out (And.intro @Nd.cells.eq_1 @Xig);(repeat' (first|refine Wkx.go ?_|(refine Xaz (fun h=>?_) (fun h=>?_)<;>first|(exfalso;omega;done)|skip)|refine Xad ?_|(refine Xab rfl ?_;(first|refine Xbh ?_|refine Xb8 (fun b=>?_)))|fail)))<;>(try clear wx)
  refine Xbu mixed ?_
  (refine XfY 0 ?_;refine XfY 2 ?_;refine XfY 4 ?_)
  refine XfY 5 ?_ (h:=XkK _ _ _ _ _ _ HEl.out rfl rfl)
  (refine XfY 7 ?_;refine XfY 9 ?_;refine XfY 11 ?_)
  refine XfY 12 ?_ (h:=XkK _ _ _ _ _ _ HEl.out rfl rfl)
  refine Xp7 [15,16,17] [.box b _] [.row ad1 _ cap1 _ _ _] (by (repeat' (first|exact Xyo _|fail))) ?_
  ((first|refine Xdr 1 ?_|fail);(first|refine Xdr 3 ?_|fail);(first|refine Xdr 8 ?_|fail);(first|refine Xdr 10 ?_|fail))
  (refine XcV 6 ?_;(first|refine Xd5 ?_ (h:=by exact Xbb rfl rfl Tryz.func92 (e0.out))|fail))
  (first|refine XbQ 14 ?_|fail)
  (refine XcV 13 ?_;(first|refine Xd5 ?_ (h:=by exact Xbb rfl rfl Tryz.func92 (e1.out))|fail))
  refine XaG (by decide +kernel) ?_
  refine Xai rfl (by simp only [Xyz,Xyy];rfl) ?_
  (refine Xd8 15 ?_;(first|refine Xbh ?_|fail))
  (refine Xd8 16 ?_;(first|refine Xd5 ?_|fail))
  (refine Xd8 17 ?_;(first|refine Xbh ?_|fail))
  refine Xao (by decide +kernel) ?_
  (repeat' (first|refine Wkx.go ?_|refine Xad ?_|(refine Xab rfl ?_;(first|refine XfK (fun ad cap=>?_)|refine Xfr (fun b=>?_)))|fail))
  rw [show nda z++[.x (.int .i64 xk),.x (.int .i64 yl),.x (.int .i64 yr),.x (.int .u64 (wd xs 0:Nat)),.x (.int .u64 (wd xs 1:Nat)),.x (.int .u64 (wd xs 2:Nat)),.x (.int .u64 (wd xs 3:Nat))]=nda (z++[⟨xk,yl,yr,xs⟩]) from Xj8 z ⟨xk,yl,yr,xs⟩]
  exact ⟨(j+1,ad,cap,z++[⟨xk,yl,yr,xs⟩]),by simp only;omega,⟨by simp only;omega,hq.out⟩,Xaj.mk' [_,_] [_] (Xyo _) (Xak.refl _ _) (by (repeat' (first|exact VwL.nil|(refine VwL.cons ?_ ?_)|exact Vw.refl _|exact Vw.top _|fail)))⟩
 ·obtain rfl:j=r.length:=by omega
  rw [List.take_length] at q2
  have hs1:(l.length:Int) - 1=((l.length - 1:Nat):Int):=by omega
  have hs2:(l.length:Int)+(r.length:Int) - 1=((l.length+r.length - 1:Nat):Int):=by omega
  have hs1:=Lib.hid hs1
  have hs2:=Lib.hid hs2
  have q2:=Lib.hid q2
  (have wx:=And.intro @hs1.out @hs2.out;(repeat' (first|refine Wkx.go ?_|(refine Xaz (fun h=>?_) (fun h=>?_)<;>first|(exact absurd h (by decide))|skip)|refine Xad ?_|(refine Xab rfl ?_;(first|refine Xbh ?_|refine XfK (fun ad cap=>?_)|refine Xb8 (fun b=>?_)|refine Xfr (fun b=>?_)))|fail)))<;>(try clear wx)
  ·rename_i h
   refine Xaa _ _ (XaF rfl (RV.tmp _) (Xaj.mk' [_,_,_] [] (Xyo _) Xak.nil (VwL.cons (Vw.row (.tail _ (.tail _ (.head _))) (VwL.refl _ _)) VwL.nil))) ⟨?_,rfl⟩
   have e:jnN kd l r=z++[⟨kd,l.length - 1,l.length+r.length - 1,0⟩]:=by rw [q2.out];unfold jnN;rw [if_pos (by omega)]
   rw [Xdm,e,←Xj8]
   simp only [Nd.cells,XaU]
   rfl
  ·rename_i h
   refine Xaa _ _ (XaF rfl (RV.tmp _) (Xaj.mk' [_,_,_] [] (Xyo _) Xak.nil (VwL.cons (Vw.row (.tail _ (.tail _ (.head _))) (VwL.refl _ _)) VwL.nil))) ⟨?_,rfl⟩
   have e:jnN kd l r=z++[⟨kd,l.length - 1,0,0⟩]:=by rw [q2.out];unfold jnN;rw [if_neg (by omega)]
   rw [Xdm,e,←Xj8]
   simp only [Nd.cells,XaU]
   rfl
def XwN (pb:Nat) (s:List UInt8) (d:Nat) (x:RxR) (r:AV) (H':List Hp):Prop:=∃(L:List Nd) (a d':Nat) (e:Int),r=.sq L.length (nda L)∧H'=[.box pb (pk s a d' e)]∧d≤d'∧d'≤25∧a+d≤s.length+26∧((x.c=0∧e=0∧L=x.p.ns∧a=x.p.at_∧d'=d)∨(x.c≠0∧e≠0))
def Xw8 (s:List UInt8) (n:Nat):Prop:=∀(pb k d:Nat),k≤s.length→d≤24→5*(s.length - k)+4≤n→Xay Tryz.prog 19 [.box pb (pk s k d 0)] [.x (.pointer (some ⟨pb,0,none⟩))] (XwN pb s d (rxPat n s ⟨k,d,[]⟩))
def Xw7 (s:List UInt8) (n:Nat):Prop:=∀(pb k d:Nat),k≤s.length→d≤24→5*(s.length - k)+2≤n→Xay Tryz.prog 49 [.box pb (pk s k d 0)] [.x (.pointer (some ⟨pb,0,none⟩))] (XwN pb s d (XaO n s ⟨k,d,[]⟩ none))
def XsX (s:List UInt8) (n:Nat):Prop:=∀(pb k d:Nat),k < s.length→d≤24→5*(s.length - k)+1≤n→Xay Tryz.prog 90 [.box pb (pk s k d 0)] [.x (.pointer (some ⟨pb,0,none⟩))] (XwN pb s d (XaC n s ⟨k,d,[]⟩))
def XsR (s:List UInt8) (n:Nat):Prop:=∀(pb k d:Nat),k < s.length→d≤24→5*(s.length - k)≤n→Xay Tryz.prog 113 [.box pb (pk s k d 0)] [.x (.pointer (some ⟨pb,0,none⟩))] (XwN pb s d (Xa6 n s ⟨k,d,[]⟩))
theorem Xuq (s:List UInt8) (n:Nat) (hs:s.length≤128) (ih:Xw8 s n):XsR s (n+1):=by
 intro pb k d hk hd hf
 have hF:=Lib.hid (fun a d e c=>Xfo pb s a d e c)
 have hP:=Lib.hid (fun h:d+1≤24=>ih pb (k+1) (d+1) (by omega) h (by omega))
 have hC:=Lib.hid (Xq6 pb s (k+1) d hs (by omega))
 have hE:=Lib.hid (Xsk pb s k d hs hk)
 have hc:chr s k < 256:=Xcm s k
 have hW:=Lib.hid (or0 (chr s k)▸XgH 0 (chr s k) hc)
 have hW1:=Lib.hid (or0 10▸XgH 0 10 (by decide))
 have hN:=Lib.hid (Xsm (XaM 10 10))
 have hL2:=Lib.hid (fun n=>Xh0 2 n)
 have hL8:=Lib.hid (Xh0 8 0)
 have hL9:=Lib.hid (Xh0 9 0)
 have hinf:=fun h:d+1≤24=>@XoP s n (k+1) (d+1) hs (by omega) h
 have hclv:=XgI s (k+1) (by omega)
 have hesv:=XgJ s k hk
 clear ih
 rw [Xi5]
 unfold Xc1
 simp only
 generalize rxPat n s ⟨k+1,d+1,[]⟩=X at *
 generalize Xbn s (k+1)=CL at *
 generalize XbL s k=EC at *
 generalize hg:chr s k=c at *
 generalize hRes:(if c=42∨c=43∨c=63 then (_:RxR) else _)=R
 have hRes:=Lib.hid hRes
 unfold pk at hF hP hC hE ⊢
 refine XaV Tryz.func113 Tryz.ntmps113 ?_
 (have wx:=And.intro @XaY @hg;(repeat' (first|refine Wkx.go ?_|refine Xad ?_|fail)))<;>(try clear wx)
 refine Xc4 ?_
 (have wx:=And.intro @XaY (And.intro @hg (And.intro @Xbr (And.intro @XxL (And.intro @w4r (And.intro @XaD (And.intro @XaT @Xdq))))));(repeat' (first|refine Wkx.go ?_|(refine Xaz (fun h=>?_) (fun h=>?_)<;>first|(exfalso;omega;done)|skip)|refine Xad ?_ (h:=by exact fun _=>Xbb rfl rfl Tryz.func134 (hW1.out))|refine Xad ?_ (h:=by exact fun _=>Xbb rfl rfl Tryz.func134 (hW.out))|refine Xad ?_ (h:=by exact fun _=>Xbb rfl rfl Tryz.func133 (hN.out))|refine Xad ?_ (h:=by exact fun _=>Xbb rfl rfl Tryz.func91 (hL2.out _))|refine Xad ?_ (h:=by exact fun _=>Xbb rfl rfl Tryz.func91 (hL8.out))|refine Xad ?_ (h:=by exact fun _=>Xbb rfl rfl Tryz.func91 (hL9.out))|refine Xad ?_ (h:=by exact fun _=>Xam _ _ _ _ _ _ _ rfl rfl rfl (by kernel_rfl) Xdi.out (by omega))|refine Xad ?_|(refine Xab rfl ?_;(first|((refine Xa7 Tryz.func20 [_] rfl rfl (by (repeat' (first|exact Xyo _|fail))) (hF.out _ _ _ _) ?_;rintro _ _ ⟨rfl,rfl⟩);refine XaJ ?_)|((refine Xa7 Tryz.func19 [_] rfl rfl (by (repeat' (first|exact Xyo _|fail))) (hP.out (by omega)) ?_;rintro _ _ ⟨L,a,d',e,rfl,rfl,hd1,hd2,ha1,hx⟩;unfold pk);refine XaJ ?_)|((refine Xa7 Tryz.func136 [_] rfl rfl (by (repeat' (first|exact Xyo _|fail))) hC.out ?_;rintro _ _ ⟨n1,a1,e1,rfl,rfl,ha1,hx1⟩;unfold pk);refine XaJ ?_)|((refine Xa7 Tryz.func135 [_] rfl rfl (by (repeat' (first|exact Xyo _|fail))) hE.out ?_;rintro _ _ ⟨n1,b1,a1,e1,rfl,rfl,ha1,hx1⟩;unfold pk);refine XaJ ?_)|refine Xbh ?_|refine Xb8 (fun b=>?_)))|fail)))<;>(try clear wx)
 ·-- .
  refine Xaa _ _ (XaF rfl (RV.tmp _) (Xaj.mk' [] [.box pb _] (Xyo _) (Xak.refl _ _) (VwL.refl _ _))) ⟨[_],k+1,d,0,rfl,rfl,by omega,by omega,by omega,.inl ?_⟩
  rw [←hRes.out]
  repeat (first|rw [if_pos (by omega)]|rw [if_neg (by omega)]|fail)
  exact ⟨rfl,rfl,rfl,rfl,rfl⟩
 ·-- ^
  refine Xaa _ _ (XaF rfl (RV.tmp _) (Xaj.mk' [] [.box pb _] (Xyo _) (Xak.refl _ _) (VwL.refl _ _))) ⟨[_],k+1,d,0,rfl,rfl,by omega,by omega,by omega,.inl ?_⟩
  rw [←hRes.out]
  repeat (first|rw [if_pos (by omega)]|rw [if_neg (by omega)]|fail)
  exact ⟨rfl,rfl,rfl,rfl,rfl⟩
 ·-- $
  refine Xaa _ _ (XaF rfl (RV.tmp _) (Xaj.mk' [] [.box pb _] (Xyo _) (Xak.refl _ _) (VwL.refl _ _))) ⟨[_],k+1,d,0,rfl,rfl,by omega,by omega,by omega,.inl ?_⟩
  rw [←hRes.out]
  repeat (first|rw [if_pos (by omega)]|rw [if_neg (by omega)]|fail)
  exact ⟨rfl,rfl,rfl,rfl,rfl⟩
 ·-- escape
  rcases hx1 with ⟨x1,rfl,rfl,-,rfl⟩|⟨x1,x2⟩
  ·refine Xaa _ _ (XaF rfl (RV.tmp _) (Xaj.mk' [_] [.box pb _] (by (repeat' (first|exact Xyo _|fail))) (Xak.refl _ _) (VwL.refl _ _))) ⟨[_],_,d,0,rfl,rfl,by omega,by omega,by omega,.inl ?_⟩
   rw [←hRes.out]
   repeat (first|rw [if_pos (by omega)]|rw [if_neg (by omega)]|fail)
   exact ⟨rfl,rfl,rfl,rfl,rfl⟩
  ·refine Xaa _ _ (XaF rfl (RV.tmp _) (Xaj.mk' [_] [.box pb _] (by (repeat' (first|exact Xyo _|fail))) (Xak.refl _ _) (VwL.refl _ _))) ⟨[_],a1,d,e1,rfl,rfl,by omega,by omega,by omega,.inr ⟨?_,x2⟩⟩
   rw [←hRes.out]
   repeat (first|rw [if_pos (by omega)]|rw [if_neg (by omega)]|fail)
   exact x1
 ·-- class
  rcases hx1 with ⟨x1,rfl,rfl,rfl⟩|⟨x1,x2⟩
  ·refine Xaa _ _ (XaF rfl (RV.tmp _) (Xaj.mk' [] [.box pb _] (Xyo _) (Xak.refl _ _) (VwL.refl _ _))) ⟨[_],_,d,0,rfl,rfl,by omega,by omega,by omega,.inl ?_⟩
   rw [←hRes.out]
   repeat (first|rw [if_pos (by omega)]|rw [if_neg (by omega)]|fail)
   exact ⟨rfl,rfl,rfl,rfl,rfl⟩
  ·refine Xaa _ _ (XaF rfl (RV.tmp _) (Xaj.mk' [] [.box pb _] (Xyo _) (Xak.refl _ _) (VwL.refl _ _))) ⟨[_],a1,d,e1,rfl,rfl,by omega,by omega,by omega,.inr ⟨?_,x2⟩⟩
   rw [←hRes.out]
   repeat (first|rw [if_pos (by omega)]|rw [if_neg (by omega)]|fail)
   exact x1
 ·-- ]
  refine Xaa _ _ (XaF rfl (RV.tmp _) (Xaj.mk' [] [.box pb _] (Xyo _) (Xak.refl _ _) (VwL.refl _ _))) ⟨[_],k+1,d,80,rfl,rfl,by omega,by omega,by omega,.inr ⟨?_,by decide⟩⟩
  rw [←hRes.out]
  repeat (first|rw [if_pos (by omega)]|rw [if_neg (by omega)]|fail)
  simp
 ·refine Xaa _ _ (XaF rfl (RV.tmp _) (Xaj.mk' [] [.box pb _] (Xyo _) (Xak.refl _ _) (VwL.refl _ _))) ⟨[_],k+1,d,81,rfl,rfl,by omega,by omega,by omega,.inr ⟨?_,by decide⟩⟩
  rw [←hRes.out]
  repeat (first|rw [if_pos (by omega)]|fail)
  simp
 ·refine Xaa _ _ (XaF rfl (RV.tmp _) (Xaj.mk' [] [.box pb _] (Xyo _) (Xak.refl _ _) (VwL.refl _ _))) ⟨[_],k+1,d,81,rfl,rfl,by omega,by omega,by omega,.inr ⟨?_,by decide⟩⟩
  rw [←hRes.out]
  repeat (first|rw [if_pos (by omega)]|fail)
  simp
 ·refine Xaa _ _ (XaF rfl (RV.tmp _) (Xaj.mk' [] [.box pb _] (Xyo _) (Xak.refl _ _) (VwL.refl _ _))) ⟨[_],k+1,d,81,rfl,rfl,by omega,by omega,by omega,.inr ⟨?_,by decide⟩⟩
  rw [←hRes.out]
  repeat (first|rw [if_pos (by omega)]|fail)
  simp
 ·-- too deep
  refine Xaa _ _ (XaF rfl (RV.tmp _) (Xaj.mk' [] [.box pb _] (Xyo _) (Xak.refl _ _) (VwL.cons Vw.nil VwL.nil))) ⟨[],k+1,d+1,84,rfl,rfl,by omega,by omega,by omega,.inr ⟨?_,by decide⟩⟩
  rw [←hRes.out]
  repeat (first|rw [if_pos (by omega)]|rw [if_neg (by omega)]|fail)
  simp
 ·-- (
  rename_i hd24
  rcases hx with ⟨x1,rfl,rfl,rfl,rfl⟩|⟨x1,x2⟩
  ·obtain ⟨-,-,-,g1,g2,g3,-,-⟩:=hinf (by omega) x1
   refine Xc4 ?_
   (have wx:=And.intro @Xbr @XtG;(repeat' (first|refine Wkx.go ?_|(refine Xaz (fun h=>?_) (fun h=>?_)<;>skip)|refine Xad ?_|(refine Xab rfl ?_;(first|((refine Xa7 Tryz.func20 [_] rfl rfl (by (repeat' (first|exact Xyo _|fail))) (hF.out _ _ _ _) ?_;rintro _ _ ⟨rfl,rfl⟩);refine XaJ ?_)|refine Xbh ?_))|fail)))<;>(try clear wx)
   ·refine Xaa _ _ (XaF rfl (RV.tmp _) (Xaj.mk' [] [.box pb _] (Xyo _) (Xak.refl _ _) (VwL.refl _ _))) ⟨X.p.ns,X.p.at_+1,d,83,rfl,rfl,by omega,by omega,by omega,.inr ⟨?_,by decide⟩⟩
    rw [←hRes.out]
    repeat (first|rw [if_pos (by omega)]|rw [if_neg (by omega)]|fail)
    simp
   ·refine Xaa _ _ (XaF rfl (RV.tmp _) (Xaj.mk' [] [.box pb _] (Xyo _) (Xak.refl _ _) (VwL.refl _ _))) ⟨X.p.ns,X.p.at_+1,d,0,rfl,rfl,by omega,by omega,by omega,.inl ?_⟩
    rw [←hRes.out]
    repeat (first|rw [if_pos (by omega)]|rw [if_neg (by omega)]|fail)
    exact ⟨rfl,rfl,rfl,rfl,rfl⟩
  ·have hz:(e == 0)=false:=XyF.2 x2
   have hz:=Lib.hid hz
   refine Xc4 ?_
   (have wx:=And.intro @Xbr (And.intro @XtG @hz.out);(repeat' (first|refine Wkx.go ?_|(refine Xaz (fun h=>?_) (fun h=>?_)<;>first|(exact absurd h (by decide))|skip)|refine XlL ?_|refine Xad ?_|(refine Xab rfl ?_;(refine Xbh ?_))|fail)))<;>(try clear wx)
   refine Xaa _ _ (XaF rfl (RV.tmp _) (Xaj.mk' [] [.box pb _] (Xyo _) (Xak.refl _ _) (VwL.refl _ _))) ⟨L,a+1,d' - 1,e,rfl,rfl,by omega,by omega,by omega,.inr ⟨?_,x2⟩⟩
   rw [←hRes.out]
   repeat (first|rw [if_pos (by omega)]|rw [if_neg (by omega)]|fail)
   exact x1
 ·-- a byte
  refine Xaa _ _ (XaF rfl (RV.tmp _) (Xaj.mk' [] [.box pb _] (Xyo _) (Xak.refl _ _) (VwL.refl _ _))) ⟨[_],k+1,d,0,rfl,rfl,by omega,by omega,by omega,.inl ?_⟩
  rw [←hRes.out]
  repeat (first|rw [if_neg (by omega)]|fail)
  exact ⟨rfl,rfl,rfl,rfl,rfl⟩
end Go.Proofs.YtdlblokjfoggpaaGreatDoor

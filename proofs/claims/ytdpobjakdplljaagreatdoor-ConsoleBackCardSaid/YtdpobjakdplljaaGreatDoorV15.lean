import Derived.Test.YtdpobjakdplljaaGreatDoorV11
import Derived.Test.YtdpobjakdplljaaGreatDoorV14
import Derived.Test.YtdpobjakdplljaaGreatDoorV10
import Derived.Test.YtdpobjakdplljaaGreatDoorV13
import Derived.Test.YtdpobjakdplljaaGreatDoorV8
/- Texts that are read as tokens, whatever follows. No program in sight. -/
set_option linter.unusedSimpArgs false
set_option linter.unusedVariables false
set_option maxRecDepth 100000
set_option maxHeartbeats 8000000
namespace Go.Proofs.YtdpobjakdplljaaGreatDoor
open Go.RowKit
def kts (ts:List Tok):List (Int × List UInt8):=ts.map fun t=>(t.kind,t.text)
def XaV (C:List UInt8→Prop) (l:List UInt8) (ks:List (Int × List UInt8)):Prop:=
 ∀(p:Nat × Nat) (n:Nat) (t:List UInt8),C t→n+ks.length≤2000→∃ts:List Tok,kts ts=ks∧Xce p n (l++t)=(Xce (plc p l) (n+ks.length) t).map (ts++·)
def Any (_:List UInt8):Prop:=True
def Brk:List UInt8→Prop
 | []=>True
 | c :: _=>Xb3 c=false
theorem map_map {α β γ:Type} (x:Except Flt α) (f:α→β) (g:β→γ):(x.map f).map g=x.map fun a=>g (f a):=by cases x<;>rfl
theorem XaV.app {C D:List UInt8→Prop} {a b:List UInt8} {ks ms:List (Int × List UInt8)} (ha:XaV C a ks) (hb:XaV D b ms) (h:∀t,D t→C (b++t)):XaV D (a++b) (ks++ms):=by
 intro p n t ht hn
 rw [Xvh] at hn
 obtain ⟨ts,h1,h2⟩:=ha p n (b++t) (h t ht) (by omega)
 obtain ⟨us,h3,h4⟩:=hb (plc p a) (n+ks.length) t ht (by omega)
 refine ⟨ts++us,by simp [kts] at *;rw [h1,h3],?_⟩
 rw [List.append_assoc,h2,h4,map_map,Xf1,Xvh,Nat.add_assoc]
 simp only [List.append_assoc]
theorem XaV.then {D:List UInt8→Prop} {a b:List UInt8} {ks ms:List (Int × List UInt8)} (ha:XaV Any a ks) (hb:XaV D b ms):XaV D (a++b) (ks++ms):=ha.app hb fun _ _=>trivial
theorem XaV.brk {D:List UInt8→Prop} {a r:List UInt8} {c:UInt8} {ks ms:List (Int × List UInt8)} (ha:XaV Brk a ks) (hc:Xb3 c=false) (hb:XaV D (c :: r) ms):XaV D (a++c :: r) (ks++ms):=ha.app hb fun _ _=>hc
theorem XaV.nil:XaV Any [] []:=fun p n t _ _=>⟨[],rfl,by simp only [Xvf,Xvb,Nat.add_zero,plc];exact (XdB _ _ fun a=>rfl).symm⟩
theorem XaV.blank {c:UInt8} (h:c.toNat=32∨c.toNat=9∨c.toNat=10∨c.toNat=13):XaV Any [c] []:=fun p n t _ _=>⟨[],rfl,by
 rw [Xop [c] t p n (by show skp (c :: t)=_;rw [Xe8 c t h];simp;omega)]
 simp only [Xvb,Nat.add_zero,Xvf]
 exact (XdB _ _ fun a=>rfl).symm⟩
theorem XaV.tok {C:List UInt8→Prop} {c:UInt8} {r s:List UInt8} {k:Int} (hb:¬(c.toNat=32∨c.toNat=9∨c.toNat=10∨c.toNat=13)) (h35:c.toNat≠35) (h:∀t,C t→one (c :: r++t)=.ok (k,s,r.length+1)):XaV C (c :: r) [(k,s)]:=fun p n t ht hn=>by
 simp only [Xu8,Xvb] at hn
 have h0:skp (c :: r++t)=0:=XlF _ _ hb h35
 refine ⟨[⟨k,s,(plc p []).1,(plc p []).2⟩],rfl,?_⟩
 rw [Xc6 p n (c :: r++t) c (r++t) k s (r.length+1) (by rw [h0];rfl) (h t ht) (by omega) (by omega),h0]
 have e1:(c :: (r++t)).drop (r.length+1)=t:=by rw [List.drop_succ_cons,List.drop_left]
 have e2:(c :: r++t).take (0+(r.length+1))=c :: r:=by rw [Nat.zero_add];exact List.take_left' rfl
 rw [e1,e2]
 rfl
theorem XaV.sign {c:UInt8} (h:c.toNat=123∨c.toNat=125∨c.toNat=44∨c.toNat=61):XaV Any [c] [(5,[c])]:=by
 refine XaV.tok (by omega) (by omega) fun t _=>?_
 have h1:XbW c=false:=by simp only [XbW,decide_eq_false_iff_not];omega
 have h2:Xbg c=false:=by simp only [Xbg,decide_eq_false_iff_not];omega
 simp only [Xvg,Xvf,one,h1,h2,Bool.false_eq_true,if_false]
 rw [if_neg (by omega),if_neg (by omega),if_pos h];rfl
theorem XkQ {p:UInt8→Bool} {t:List UInt8} (ht:∀c r,t=c :: r→p c=false):∀l:List UInt8,(∀b∈l,p b=true)→spn p (l++t)=l.length
 | [],_=>by
   cases t with
   | nil=>rfl
   | cons c r=>rw [Xvf,XjA p c r (ht c r rfl)];rfl
 | c :: l,h=>by rw [Xvg,XdG p c _ (h c (by simp)),XkQ ht l fun b hb=>h b (by simp [hb])];rfl
def XbZ:List UInt8→Prop
 | []=>False
 | c :: r=>XbW c=true∧∀b∈r,Xb3 b=true
def Xpt:List UInt8→Prop
 | []=>False
 | c :: r=>Xbg c=true∧(∀b∈r,Xbg b=true)∧r.length < 18∧(r≠[]→c.toNat≠48)
theorem Xgt {b:UInt8} (h:Xbg b=true):Xb3 b=true:=by simp [Xb3,h]
theorem XaV.word {w:List UInt8} (h:XbZ w):XaV Brk w [(1,w)]:=by
 cases w with
 | nil=>exact h.elim
 | cons c r=>
   obtain ⟨h1,h2⟩:=h
   have hl:=h1
   simp only [XbW,decide_eq_true_eq] at hl
   refine XaV.tok (by omega) (by omega) fun t ht=>?_
   have hs:spn Xb3 (c :: (r++t))=r.length+1:=by
    have:=XkQ (p:=Xb3) (t:=t) (fun d u e=>by subst e;exact ht) (c :: r) (fun b hb=>by
     rcases List.mem_cons.1 hb with rfl|hb
     ·simp [Xb3,h1]
     ·exact h2 b hb)
    simpa using this
   simp only [Xvg,one,h1,if_true,hs]
   rw [List.take_succ_cons,List.take_left]
theorem XaV.num {d:List UInt8} (h:Xpt d):XaV Brk d [(2,d)]:=by
 cases d with
 | nil=>exact h.elim
 | cons c r=>
   obtain ⟨h1,h2,h3,h4⟩:=h
   have hl:=h1
   simp only [Xbg,decide_eq_true_eq] at hl
   refine XaV.tok (by omega) (by omega) fun t ht=>?_
   have hs:spn Xbg (c :: (r++t))=r.length+1:=by
    have:=XkQ (p:=Xbg) (t:=t) (fun d u e=>by
     subst e
     cases hd:Xbg d with
     | false=>rfl
     | true=>have:=Xgt hd;rw [show Xb3 d=false from ht] at this;cases this) (c :: r) (fun b hb=>by
     rcases List.mem_cons.1 hb with rfl|hb
     ·exact h1
     ·exact h2 b hb)
    simpa using this
   have hnl:XbW c=false:=by simp only [XbW,decide_eq_false_iff_not];omega
   simp only [Xvg,one,hnl,h1,Bool.false_eq_true,if_false,if_true,hs]
   rw [if_neg (by
    rintro (h|⟨h,h'⟩)
    ·omega
    ·exact h4 (by intro e;subst e;simp at h) h'),List.take_succ_cons,List.take_left]
theorem XaV.str (s:List UInt8):XaV Any (Xcq s) [(3,s)]:=by
 show XaV Any (34 :: (s.flatMap XdM++[34])) [(3,s)]
 refine XaV.tok (by decide) (by decide) fun t _=>?_
 have h1:XbW 34=false:=by decide
 have h2:Xbg 34=false:=by decide
 simp only [Xvg,List.append_assoc,Xvf,one,h1,h2,Bool.false_eq_true,if_false]
 rw [if_pos (by decide),Xlv]
 simp
def XhC:List UInt8→Prop
 | []=>True
 | [c]=>32≤c.toNat∧c.toNat≠92
 | c :: d :: r=>32≤c.toNat∧(if c.toNat=92 then 32≤d.toNat∧d.toNat≠47∧XhC r else XhC (d :: r))
theorem XkN {c:UInt8} (h:c.toNat≠47):slB c=[c]:=if_neg h
theorem XlG (t:List UInt8) {c:UInt8} (h:32≤c.toNat) (h2:c.toNat≠92) (l:List UInt8):sla (slB c++l)=(sla l).map fun x=>(c :: x.1,(slB c).length+x.2):=by
 by_cases h3:c.toNat=47
 ·have e:slB c=[92,c]:=if_pos h3
  rw [e]
  exact XgK 92 c l (by decide) h3
 ·rw [XkN h3]
  exact XgL c l h3 h h2
theorem XgM (t:List UInt8):∀s:List UInt8,XhC s→sla (XbL s++47 :: t)=some (s,(XbL s).length+1)
 | [],_=>by simp only [XbL,List.flatMap_nil,Xvf];rw [Xfw 47 t (by decide)];rfl
 | [c],h=>by
   simp only [XbL,List.flatMap_cons,List.flatMap_nil,List.append_assoc,Xvf]
   rw [XlG t h.1 h.2,Xfw 47 t (by decide)]
   simp
 | c :: d :: r,h=>by
   obtain ⟨h1,h2⟩:=h
   by_cases h3:c.toNat=92
   ·rw [if_pos h3] at h2
    have ih:=XgM t r h2.2.2
    simp only [XbL,List.flatMap_cons,List.append_assoc] at ih ⊢
    rw [XkN (show c.toNat≠47 by omega),XkN h2.2.1]
    simp only [Xvg,Xvf,Xu8]
    rw [XgN c d _ h3 h2.1 h2.2.1,ih]
    simp;omega
   ·rw [if_neg h3] at h2
    have ih:=XgM t (d :: r) h2
    have e:XbL (c :: d :: r)=slB c++XbL (d :: r):=rfl
    rw [e,List.append_assoc,XlG t h1 h3,ih]
    simp;omega
theorem XaV.pat {s:List UInt8} (h:XhC s):XaV Any (47 :: (XbL s++[47])) [(4,s)]:=by
 refine XaV.tok (by decide) (by decide) fun t _=>?_
 have h1:XbW 47=false:=by decide
 have h2:Xbg 47=false:=by decide
 simp only [Xvg,List.append_assoc,Xvf,one,h1,h2,Bool.false_eq_true,if_false]
 rw [if_neg (by decide),if_pos (by decide),XgM t s h]
 simp
/-! ### Numbers -/
def XgX (v:Int):Prop:=0≤v∧v < 1000000000000000000
theorem XfY (n:Nat) (h:n < 10):Xb5 n=[UInt8.ofNat (48+n)]:=by rw [Xb5,dif_pos h]
theorem Xkb (n:Nat) (h:¬n < 10):Xb5 n=Xb5 (n / 10)++[UInt8.ofNat (48+n % 10)]:=by
 rw [Xb5,dif_neg h,XfY (n % 10) (by omega)]
theorem XhP (n:Nat) (h:n < 10):(UInt8.ofNat (48+n)).toNat=48+n:=by
 rw [UInt8.toNat_ofNat'];omega
theorem Xrd (n:Nat) (h:n < 10):Xbg (UInt8.ofNat (48+n))=true:=by
 simp only [Xbg,XhP n h,decide_eq_true_eq];omega
theorem Xhf (n:Nat):∃c r,Xb5 n=c :: r∧Xbg c=true∧(∀b∈r,Xbg b=true)∧(0 < n→c.toNat≠48)∧(r≠[]→0 < n):=by
 induction n using Nat.strongRecOn with
 | _ n ih=>
   by_cases h:n < 10
   ·refine ⟨_,[],XfY n h,Xrd n h,by simp,fun h0=>?_,fun h=>absurd rfl h⟩
    rw [XhP n h];omega
   ·obtain ⟨c,r,h1,h2,h3,h4,h5⟩:=ih (n / 10) (by omega)
    refine ⟨c,r++[UInt8.ofNat (48+n % 10)],by rw [Xkb n h,h1];rfl,h2,fun b hb=>?_,fun _=>h4 (by omega),fun _=>by omega⟩
    rcases List.mem_append.1 hb with hb|hb
    ·exact h3 b hb
    ·rw [List.mem_singleton] at hb;subst hb;exact Xrd _ (by omega)
theorem XpO (n:Nat) (h:n < 1000000000000000000):Xpt (Xb5 n):=by
 obtain ⟨c,r,h1,h2,h3,h4,h5⟩:=Xhf n
 have hl:=Xeb 17 n (by have:(10:Nat) ^ (17+1)=1000000000000000000:=by decide
                       omega)
 rw [h1] at hl ⊢
 exact ⟨h2,h3,by simp at hl;omega,fun h=>h4 (h5 h)⟩
theorem Xmw (l:List UInt8) (c:UInt8):XdN (l++[c])=10*XdN l+(c.toNat - 48):=by simp [XdN,List.foldl_append]
theorem Xqn (n:Nat):XdN (Xb5 n)=n:=by
 induction n using Nat.strongRecOn with
 | _ n ih=>
   by_cases h:n < 10
   ·rw [XfY n h]
    show (10*0+(((UInt8.ofNat (48+n)).toNat:Int) - 48):Int)=n
    rw [XhP n h];omega
   ·rw [Xkb n h,Xmw,ih (n / 10) (by omega),XhP _ (by omega)];omega
theorem Xjg {v:Int} (h:XgX v):XdN (Xb5 v.toNat)=v:=by rw [Xqn];have:=h.1;omega
theorem XdJ {v:Int} (h:XgX v):Xpt (Xb5 v.toNat):=XpO _ (by have:=h.1;have:=h.2;omega)
theorem Xfl {v:Int} (h:XgX v):(Xb5 v.toNat).length≤18:=by
 have:=XdJ h
 cases hd:Xb5 v.toNat with
 | nil=>simp
 | cons c r=>rw [hd] at this;have:=this.2.2.1;simp;omega
/-! ### The text -/
structure XgW (j:JF):Prop where
 name:XbZ j.name∧j.name.length≤32
 run:j.run.length≤512
 env:j.env.length≤16
 enve:∀p∈j.env,XbZ p.1∧p.1.length≤32∧p.2.length≤512
 envd:(j.env.map (·.1)).Nodup
 needs:j.needs.length≤16
 neede:∀s∈j.needs,XbZ s∧s.length≤32
 needd:j.needs.Nodup
 ready:(j.hasr=true∧XhC j.ready∧j.ready.length≤128)∨(j.hasr=false∧j.ready=[])
 restart:j.restart=1∨j.restart=2∨j.restart=3
 base:XgX j.base
 cap:XgX j.cap
 stable:XgX j.stable
 burst:1≤j.burst∧j.burst≤16
 window:XgX j.window
 ladder:j.ladder≠[]∧j.ladder.length≤5
 laddere:∀p∈j.ladder,(p.1=1∨p.1=2∨p.1=3∨p.1=10∨p.1=12∨p.1=15)∧XgX p.2
def Xgs (j:JF):List UInt8:=[106,111,98,32]++j.name++[32,123,10,32,32,114,117,110,32]++Xcq j.run++[10]
def XnN (p:List UInt8 × List UInt8):List UInt8:=[32,32,101,110,118,32]++p.1++[32,61,32]++Xcq p.2++[10]
def Xmd (l:List (List UInt8 × List UInt8)):List UInt8:=l.flatMap XnN
def XdX (y:List UInt8):List UInt8:=[44,32]++y
def XfO:List (List UInt8)→List UInt8
 | []=>[]
 | x :: r=>[32,32,110,101,101,100,115,32]++x++r.flatMap XdX
def XdL (l:List (List UInt8)):List UInt8:=if l=[] then [] else XfO l++[10]
def XdY (j:JF):List UInt8:=if j.hasr then [32,32,114,101,97,100,121,32,47]++XbL j.ready++[47,10] else []
def Xib (j:JF):List UInt8:=[32,32,114,101,115,116,97,114,116,32]++XdD j.restart++[10,32,32,98,97,99,107,111,102,102,32]++Xb5 j.base.toNat++[32]++Xb5 j.cap.toNat++[32]++Xb5 j.stable.toNat++[10,32,32,98,117,114,115,116,32]++Xb5 (if 0 < j.burst then j.burst else 0).toNat++[32]++Xb5 j.window.toNat++[10,32,32,115,116,111,112]
def Xcw (p:Int × Int):List UInt8:=[32]++Xg6 p.1++[32]++Xb5 p.2.toNat
def Xdg (p:Int × Int):List UInt8:=[44]++Xcw p
def Xi3:List (Int × Int)→List UInt8
 | []=>[]
 | x :: r=>Xcw x++r.flatMap Xdg
def Xe1 (j:JF):List UInt8:=Xgs j++Xmd j.env++XdL j.needs++XdY j++Xib j++Xi3 j.ladder++[10,125,10]
/-! ### Its tokens -/
abbrev KT:=Int × List UInt8
def XiZ (j:JF):List KT:=[(1,XsV),(1,j.name),(5,[123]),(1,XlK),(3,j.run)]
def XnM (p:List UInt8 × List UInt8):List KT:=[(1,Xil),(1,p.1),(5,[61]),(3,p.2)]
def Xmc (l:List (List UInt8 × List UInt8)):List KT:=l.flatMap XnM
def Xje (y:List UInt8):List KT:=[(5,[44]),(1,y)]
def Xew:List (List UInt8)→List KT
 | []=>[]
 | x :: r=>(1,XgP) :: (1,x) :: r.flatMap Xje
def Xdy (j:JF):List KT:=if j.hasr then [(1,Xfb),(4,j.ready)] else []
def Xjo (j:JF):List KT:=[(1,XcN),(1,XdD j.restart),(1,Xcy),(2,Xb5 j.base.toNat),(2,Xb5 j.cap.toNat),(2,Xb5 j.stable.toNat),(1,Xeq),(2,Xb5 j.burst.toNat),(2,Xb5 j.window.toNat)]
def Xjv (p:Int × Int):List KT:=[(1,Xg6 p.1),(2,Xb5 p.2.toNat)]
def Xju (p:Int × Int):List KT:=(5,[44]) :: Xjv p
def XmS:List (Int × Int)→List KT
 | []=>[]
 | x :: r=>(1,XgQ) :: (Xjv x++r.flatMap Xju)
def Xg2 (j:JF):List KT:=XiZ j++Xmc j.env++Xew j.needs++Xdy j++Xjo j++XmS j.ladder++[(5,[125])]
section
variable {D:List UInt8→Prop} {r w:List UInt8} {c:UInt8} {ms:List KT}
def Xc0 (c:UInt8):Prop:=c.toNat=32∨c.toNat=9∨c.toNat=10∨c.toNat=13
theorem XaV.bl (c:UInt8) (h:Xc0 c) (hr:XaV D r ms):XaV D (c :: r) ms:=(XaV.blank h).then hr
theorem XaV.sg (c:UInt8) (h:c.toNat=123∨c.toNat=125∨c.toNat=44∨c.toNat=61) (hr:XaV D r ms):XaV D (c :: r) ((5,[c]) :: ms):=(XaV.sign h).then hr
theorem XaV.st (s:List UInt8) (hr:XaV D r ms):XaV D (Xcq s++r) ((3,s) :: ms):=(XaV.str s).then hr
theorem XaV.wd (h:XbZ w) (hc:Xb3 c=false) (hr:XaV D (c :: r) ms):XaV D (w++c :: r) ((1,w) :: ms):=(XaV.word h).brk hc hr
theorem XaV.nm (h:Xpt w) (hc:Xb3 c=false) (hr:XaV D (c :: r) ms):XaV D (w++c :: r) ((2,w) :: ms):=(XaV.num h).brk hc hr
theorem XaV.pt (h:XhC w) (hr:XaV D r ms):XaV D (47 :: (XbL w++47 :: r)) ((4,w) :: ms):=by
 have:=(XaV.pat h).then hr
 simpa using this
end
theorem Xbz {w:List UInt8} (h:(match w with|[]=>false|c :: r=>XbW c && r.all Xb3)=true):XbZ w:=by
 cases w with
 | nil=>cases h
 | cons c r=>
   simp only [Bool.and_eq_true,List.all_eq_true] at h
   exact h
theorem XmF (j:JF) (h:XgW j):XaV Any (Xgs j) (XiZ j):=by
 have e:Xgs j=[106,111,98]++32 :: (j.name++32 :: 123 :: 10 :: 32 :: 32 :: ([114,117,110]++32 :: (Xcq j.run++10 :: []))):=by simp [Xgs]
 rw [e]
 exact XaV.wd (Xbz (by decide)) (by decide) (.bl 32 (by unfold Xc0;decide) (.wd h.name.1 (by decide) (.bl 32 (by unfold Xc0;decide) (.sg 123 (by decide) (.bl 10 (by unfold Xc0;decide) (.bl 32 (by unfold Xc0;decide) (.bl 32 (by unfold Xc0;decide) (.wd (Xbz (by decide)) (by decide) (.bl 32 (by unfold Xc0;decide) (.st j.run (.bl 10 (by unfold Xc0;decide) .nil)))))))))))
theorem Xjn:∀l:List (List UInt8 × List UInt8),(∀p∈l,XbZ p.1)→XaV Any (Xmd l) (Xmc l)
 | [],_=>XaV.nil
 | p :: l,h=>by
   have e:Xmd (p :: l)=32 :: 32 :: ([101,110,118]++32 :: (p.1++32 :: 61 :: 32 :: (Xcq p.2++10 :: Xmd l))):=by simp [Xmd,XnN]
   rw [e]
   exact XaV.bl 32 (by unfold Xc0;decide) (.bl 32 (by unfold Xc0;decide) (.wd (Xbz (by decide)) (by decide) (.bl 32 (by unfold Xc0;decide) (.wd (h p (by simp)) (by decide) (.bl 32 (by unfold Xc0;decide) (.sg 61 (by decide) (.bl 32 (by unfold Xc0;decide) (.st p.2 (.bl 10 (by unfold Xc0;decide) (Xjn l fun q hq=>h q (by simp [hq])))))))))))
theorem XgE:∀(r:List (List UInt8)) (x:List UInt8),XbZ x→(∀y∈r,XbZ y)→XaV Any (x++(r.flatMap XdX++[10])) ((1,x) :: r.flatMap Xje)
 | [],x,hx,_=>XaV.wd hx (by decide) (.bl 10 (by unfold Xc0;decide) .nil)
 | y :: r,x,hx,h=>by
   have e:x++((y :: r).flatMap XdX++[10])=x++44 :: 32 :: (y++(r.flatMap XdX++[10])):=by simp [XdX]
   rw [e]
   exact XaV.wd hx (by decide) (.sg 44 (by decide) (.bl 32 (by unfold Xc0;decide) (XgE r y (h y (by simp)) fun q hq=>h q (by simp [hq]))))
theorem XmH (l:List (List UInt8)) (h:∀y∈l,XbZ y):XaV Any (XdL l) (Xew l):=by
 cases l with
 | nil=>exact XaV.nil
 | cons x r=>
   have e:XdL (x :: r)=32 :: 32 :: ([110,101,101,100,115]++32 :: (x++(r.flatMap XdX++[10]))):=by simp [XdL,XfO]
   rw [e]
   exact XaV.bl 32 (by unfold Xc0;decide) (.bl 32 (by unfold Xc0;decide) (.wd (Xbz (by decide)) (by decide) (.bl 32 (by unfold Xc0;decide) (XgE r x (h x (by simp)) fun q hq=>h q (by simp [hq])))))
theorem XkF (j:JF) (h:XgW j):XaV Any (XdY j) (Xdy j):=by
 unfold XdY Xdy
 rcases h.ready with ⟨h1,h2,h3⟩|⟨h1,-⟩
 ·rw [h1,if_pos rfl,if_pos rfl]
  have e:[32,32,114,101,97,100,121,32,47]++XbL j.ready++[47,10]=32 :: 32 :: ([114,101,97,100,121]++32 :: 47 :: (XbL j.ready++47 :: 10 :: [])):=by simp
  rw [e]
  exact XaV.bl 32 (by unfold Xc0;decide) (.bl 32 (by unfold Xc0;decide) (.wd (Xbz (by decide)) (by decide) (.bl 32 (by unfold Xc0;decide) (.pt h2 (.bl 10 (by unfold Xc0;decide) .nil)))))
 ·rw [h1];exact XaV.nil
theorem Xqw {n:Int} (h:n=1∨n=2∨n=3):XbZ (XdD n):=by
 rcases h with rfl|rfl|rfl<;>exact Xbz (by decide)
theorem XlB {n:Int} (h:n=1∨n=2∨n=3∨n=10∨n=12∨n=15):XbZ (Xg6 n):=by
 rcases h with rfl|rfl|rfl|rfl|rfl|rfl<;>exact Xbz (by decide)
theorem XlA {n:Int} (h:n=1∨n=2∨n=3∨n=10∨n=12∨n=15):XmV (Xg6 n)=n:=by
 rcases h with rfl|rfl|rfl|rfl|rfl|rfl<;>decide
theorem Xhr:∀(r:List (Int × Int)) (x:Int × Int),XbZ (Xg6 x.1)→XgX x.2→(∀y∈r,XbZ (Xg6 y.1)∧XgX y.2)→XaV Any (Xcw x++(r.flatMap Xdg++[10,125,10])) (Xjv x++(r.flatMap Xju++[(5,[125])]))
 | [],x,hx,hn,_=>by
   have e:Xcw x++([].flatMap Xdg++[10,125,10])=32 :: (Xg6 x.1++32 :: (Xb5 x.2.toNat++10 :: 125 :: 10 :: [])):=by simp [Xcw]
   rw [e]
   exact XaV.bl 32 (by unfold Xc0;decide) (.wd hx (by decide) (.bl 32 (by unfold Xc0;decide) (.nm (XdJ hn) (by decide) (.bl 10 (by unfold Xc0;decide) (.sg 125 (by decide) (.bl 10 (by unfold Xc0;decide) .nil))))))
 | y :: r,x,hx,hn,h=>by
   have e:Xcw x++((y :: r).flatMap Xdg++[10,125,10])=32 :: (Xg6 x.1++32 :: (Xb5 x.2.toNat++44 :: (Xcw y++(r.flatMap Xdg++[10,125,10])))):=by simp [Xcw,Xdg]
   rw [e]
   exact XaV.bl 32 (by unfold Xc0;decide) (.wd hx (by decide) (.bl 32 (by unfold Xc0;decide) (.nm (XdJ hn) (by decide) (.sg 44 (by decide) (Xhr r y (h y (by simp)).1 (h y (by simp)).2 fun q hq=>h q (by simp [hq]))))))
theorem XmI (j:JF) (h:XgW j):XaV Any (Xib j++(Xi3 j.ladder++[10,125,10])) (Xjo j++(XmS j.ladder++[(5,[125])])):=by
 obtain ⟨x,r,hx⟩:=List.exists_cons_of_ne_nil h.ladder.1
 have he:=h.laddere
 rw [hx] at he ⊢
 have hb:(if 0 < j.burst then j.burst else 0)=j.burst:=if_pos (by have:=h.burst.1;omega)
 have hbn:XgX j.burst:=⟨by have:=h.burst.1;omega,by have:=h.burst.2;omega⟩
 have e:Xib j++(Xi3 (x :: r)++[10,125,10])=32 :: 32 :: ([114,101,115,116,97,114,116]++32 :: (XdD j.restart++10 :: 32 :: 32 :: ([98,97,99,107,111,102,102]++32 :: (Xb5 j.base.toNat++32 :: (Xb5 j.cap.toNat++32 :: (Xb5 j.stable.toNat++10 :: 32 :: 32 :: ([98,117,114,115,116]++32 :: (Xb5 j.burst.toNat++32 :: (Xb5 j.window.toNat++10 :: 32 :: 32 :: ([115,116,111,112]++32 :: (Xg6 x.1++[32]++Xb5 x.2.toNat++(r.flatMap Xdg++[10,125,10])))))))))))):=by
  simp [Xib,Xi3,Xcw,hb]
 have e2:32 :: (Xg6 x.1++[32]++Xb5 x.2.toNat++(r.flatMap Xdg++[10,125,10]))=Xcw x++(r.flatMap Xdg++[10,125,10]):=by simp [Xcw]
 rw [e]
 refine XaV.bl 32 (by unfold Xc0;decide) (.bl 32 (by unfold Xc0;decide) (.wd (Xbz (by decide)) (by decide) (.bl 32 (by unfold Xc0;decide) (.wd (Xqw h.restart) (by decide) (.bl 10 (by unfold Xc0;decide) (.bl 32 (by unfold Xc0;decide) (.bl 32 (by unfold Xc0;decide) (.wd (Xbz (by decide)) (by decide) (.bl 32 (by unfold Xc0;decide) (.nm (XdJ h.base) (by decide) (.bl 32 (by unfold Xc0;decide) (.nm (XdJ h.cap) (by decide) (.bl 32 (by unfold Xc0;decide) (.nm (XdJ h.stable) (by decide) (.bl 10 (by unfold Xc0;decide) (.bl 32 (by unfold Xc0;decide) (.bl 32 (by unfold Xc0;decide) (.wd (Xbz (by decide)) (by decide) (.bl 32 (by unfold Xc0;decide) (.nm (XdJ hbn) (by decide) (.bl 32 (by unfold Xc0;decide) (.nm (XdJ h.window) (by decide) (.bl 10 (by unfold Xc0;decide) (.bl 32 (by unfold Xc0;decide) (.bl 32 (by unfold Xc0;decide) (.wd (Xbz (by decide)) (by decide) ?_))))))))))))))))))))))))))
 rw [e2]
 have:=Xhr r x (XlB (he x (by simp)).1) (he x (by simp)).2 fun y hy=>⟨XlB (he y (by simp [hy])).1,(he y (by simp [hy])).2⟩
 rw [←List.append_assoc (Xjv x)] at this
 exact this
theorem XoX (j:JF) (h:XgW j):XaV Any (Xe1 j) (Xg2 j):=by
 have h1:=(XmF j h).then ((Xjn j.env fun p hp=>(h.enve p hp).1).then ((XmH j.needs fun y hy=>(h.neede y hy).1).then ((XkF j h).then (XmI j h))))
 have e1:Xe1 j=Xgs j++(Xmd j.env++(XdL j.needs++(XdY j++(Xib j++(Xi3 j.ladder++[10,125,10]))))):=by simp [Xe1]
 have e2:Xg2 j=XiZ j++(Xmc j.env++(Xew j.needs++(Xdy j++(Xjo j++(XmS j.ladder++[(5,[125])]))))):=by simp [Xg2]
 rw [e1,e2]
 exact h1
theorem Xhq:∀l:List JF,(∀j∈l,XgW j)→XaV Any (l.flatMap Xe1) (l.flatMap Xg2)
 | [],_=>XaV.nil
 | j :: l,h=>by
   rw [List.flatMap_cons,List.flatMap_cons]
   exact (XoX j (h j (by simp))).then (Xhq l fun q hq=>h q (by simp [hq]))
open Go.RowKit
def At (ts:List Tok):Nat→List KT→Prop
 | _,[]=>True
 | k,x :: xs=>(tkA ts k).kind=x.1∧(tkA ts k).text=x.2∧At ts (k+1) xs
theorem XeJ {ts:List Tok}:∀{k:Nat} {xs ys:List KT},At ts k (xs++ys)↔At ts k xs∧At ts (k+xs.length) ys
 | k,[],ys=>by simp [At]
 | k,x :: xs,ys=>by
   simp only [Xvg,At,XeJ,Xu8,and_assoc]
   rw [show k+1+xs.length=k+(xs.length+1) from by omega]
theorem Xs1 {ts:List Tok}:∀{k:Nat} {ks:List KT} (pre:List Tok),pre.length=k→∀post:List Tok,kts post=ks→ts=pre++post→At ts k ks
 | k,[],_,_,_,_,_=>trivial
 | k,x :: xs,pre,hk,post,hp,hts=>by
   cases post with
   | nil=>cases hp
   | cons t post=>
     simp only [kts,Xva,List.cons.injEq] at hp
     have e:tkA ts k=t:=by
      unfold tkA
      rw [hts,List.getD_eq_getElem?_getD,List.getElem?_append_right (by omega),←hk];simp
     refine ⟨by rw [e,←hp.1],by rw [e,←hp.1],Xs1 (pre++[t]) (by simp;omega) post hp.2 (by rw [hts];simp)⟩
theorem XsG (n:Int):(Xg6 n).length≤4:=by
 unfold Xg6
 cases h:XcX.find? (fun s=>XsF s == n) with
 | none=>simp
 | some s=>
   have:=List.mem_of_find?_eq_some h
   simp only [XcX,List.mem_cons,List.not_mem_nil,or_false] at this
   rcases this with rfl|rfl|rfl|rfl|rfl|rfl<;>simp
section
variable {ts:List Tok} {k:Nat}
theorem Xd1 {kind:Int} {text:List UInt8} {most:Nat} (h1:(tkA ts k).kind=kind) (h2:(tkA ts k).text=text) (h:text.length≤most):Xbd ts k kind most=.ok (tkA ts k):=by
 unfold Xbd
 rw [if_neg (fun e=>e h1),if_neg (by rw [h2];omega)]
theorem Xp0 {s:List UInt8} (h1:(tkA ts k).kind=5) (h2:(tkA ts k).text=s):gIs ts k s=true:=by simp [gIs,h1,h2]
theorem Xty {s:List UInt8} (h1:(tkA ts k).kind≠5):gIs ts k s=false:=by simp [gIs,h1]
theorem Xp1 {s:List UInt8} (h1:(tkA ts k).text≠s):gIs ts k s=false:=by simp [gIs,h1]
theorem Xpb {s:List UInt8} (h1:(tkA ts k).kind=5) (h2:(tkA ts k).text=s):Xb2 ts k s=.ok ():=by simp [Xb2,Xp0 h1 h2]
theorem Xhn {v:Int} (hv:XgX v) (h1:(tkA ts k).kind=2) (h2:(tkA ts k).text=Xb5 v.toNat):XcZ ts k=.ok v:=by
 unfold XcZ
 rw [Xd1 h1 h2 (by have:=Xfl hv;omega)]
 simp only [Except.map,h2,Xjg hv]
theorem Xkv {w:List UInt8} {full:Bool} (hw:w.length≤32) (hf:full=false) (h1:(tkA ts k).kind=1) (h2:(tkA ts k).text=w):Xej ts k full=.ok (tkA ts k):=by
 unfold Xej
 rw [Xd1 h1 h2 hw,hf]
 rfl
theorem Xdd {name:Tok} {seen:List (List UInt8)} {j j':JF} {w:List UInt8} {k':Nat} (h1:(tkA ts k).kind=1) (h2:(tkA ts k).text=w) (hw:w∈items) (hs:w≠Xil→w ∉ seen) (hi:XbM ts (k+1) w j=.ok (j',k')) (hlt:k < k'):Xbf ts name k seen j=Xbf ts name k' (if w=Xil then seen else seen++[w]) j':=by
 rw [Xbf,if_neg (by rw [Xty (by rw [h1];decide)];decide),if_neg (by rw [h1,h2];simpa using hw),if_neg (by rw [h2];rintro ⟨a,b⟩;exact hs a (by simpa using b)),h2,hi]
 simp only
 rw [dif_pos ⟨hlt,XlI (by rw [h1];decide)⟩]
theorem Xoe {name:Tok} {seen:List (List UInt8)} {j:JF} (h:gIs ts k [125]=true) (hs:XlK∈seen):Xbf ts name k seen j=.ok (j,k+1):=by
 rw [Xbf,if_pos h,if_pos (by simpa using hs)]
theorem XiR {name:Tok} {seen:List (List UInt8)}:∀(l:List (List UInt8 × List UInt8)) (k:Nat) (j:JF),At ts k (Xmc l)→(∀p∈l,p.1.length≤32∧p.2.length≤512)→((j.env++l).map (·.1)).Nodup→(j.env++l).length≤16→Xbf ts name k seen j=Xbf ts name (k+(Xmc l).length) seen { j with env:=j.env++l }
 | [],k,j,_,_,_,_=>by simp [Xmc]
 | p :: l,k,j,h,hp,hd,hl=>by
   obtain ⟨a1,a2,b1,b2,c1,c2,d1,d2,h5⟩:=h
   have hpp:=hp p (by simp)
   have hi:XbM ts (k+1) Xil j=.ok ({ j with env:=j.env++[p] },k+1+3):=by
    unfold XbM
    rw [if_neg (by decide),if_pos rfl]
    have e:Xir ts (k+1) j.env=.ok p:=by
     unfold Xir
     rw [Xkv hpp.1 (by simp at hl;exact decide_eq_false (by omega)) b1 b2]
     simp only [bind,Except.bind]
     have hn:j.env.any (fun x=>x.1 == (tkA ts (k+1)).text)=false:=by
      rw [b2,List.any_eq_false]
      intro x hx he
      rw [List.map_append,Xva,List.nodup_append] at hd
      exact hd.2.2 x.1 (List.mem_map_of_mem hx) p.1 (by simp) (by simpa using he)
     rw [hn]
     simp only [Bool.false_eq_true,if_false]
     rw [Xpb c1 c2]
     simp only
     rw [Xd1 d1 d2 hpp.2]
     simp only [b2,d2]
    rw [e];rfl
   rw [Xdd a1 a2 (by decide) (fun h=>absurd rfl h) hi (by omega),if_pos rfl,show k+1+3=k+1+1+1+1 from rfl,XiR l (k+1+1+1+1) { j with env:=j.env++[p] } h5 (fun q hq=>hp q (by simp [hq])) (by simpa using hd) (by simpa using hl)]
   simp only [List.append_assoc,Xvg,Xvf,Xmc,List.flatMap_cons,Xvh]
   rw [show (XnM p).length=4 from rfl,show k+1+1+1+1+(List.flatMap XnM l).length=k+(4+(List.flatMap XnM l).length) from by omega]
theorem Xjf:∀(r:List (List UInt8)) (x:List UInt8) (k:Nat) (out:List (List UInt8)),At ts k ((1,x) :: r.flatMap Xje)→gIs ts (k+1+2*r.length) [44]=false→(∀y∈x :: r,y.length≤32)→(out++x :: r).Nodup→(out++x :: r).length≤16→XbJ (Xc5 ts) 1 ts k out=.ok (out++x :: r,k+1+2*r.length)
 | r,x,k,out,h,hc,hw,hd,hl=>by
   obtain ⟨a1,a2,h2⟩:=h
   have e:Xc5 ts k out=.ok x:=by
    unfold Xc5
    rw [Xkv (hw x (by simp)) (by simp at hl;exact decide_eq_false (by omega)) a1 a2]
    simp only [bind,Except.bind]
    have hn:out.contains (tkA ts k).text=false:=by
     rw [a2]
     cases hcn:out.contains x with
     | false=>rfl
     | true=>
       exfalso
       rw [List.nodup_append] at hd
       exact hd.2.2 x (by simpa using hcn) x (by simp) rfl
    rw [hn]
    simp only [Bool.false_eq_true,if_false,a2]
   rw [XbJ,e]
   simp only
   cases r with
   | nil=>
     rw [dif_neg (fun hh=>by rw [show k+1=k+1+2*([]:List (List UInt8)).length from rfl,hc] at hh;cases hh.2)]
     rfl
   | cons y r=>
     obtain ⟨b1,b2,h3⟩:=h2
     rw [dif_pos ⟨XlI (by rw [b1];decide),Xp0 b1 b2⟩]
     have hlen:k+1+2*(y :: r).length=k+1+1+1+2*r.length:=by simp only [Xu8];omega
     rw [hlen] at hc ⊢
     rw [Xjf r y (k+1+1) (out++[x]) h3 hc (fun q hq=>hw q (by simp at hq ⊢;right;exact hq)) (by simpa using hd) (by simpa using hl)]
     simp
theorem Xht:∀(r:List (Int × Int)) (x:Int × Int) (k:Nat) (out:List (Int × Int)),At ts k (Xjv x++r.flatMap Xju)→gIs ts (k+2+3*r.length) [44]=false→(∀y∈x :: r,(y.1=1∨y.1=2∨y.1=3∨y.1=10∨y.1=12∨y.1=15)∧XgX y.2)→(out++x :: r).length≤5→XbJ (Xc9 ts) 2 ts k out=.ok (out++x :: r,k+2+3*r.length)
 | r,x,k,out,h,hc,hw,hl=>by
   obtain ⟨a1,a2,b1,b2,h2⟩:=h
   obtain ⟨hs,hn⟩:=hw x (by simp)
   have hne:XmV (Xg6 x.1)≠0:=by rw [XlA hs];omega
   have e:Xc9 ts k out=.ok x:=by
    unfold Xc9
    have:=XsG x.1
    rw [Xd1 a1 a2 (show (Xg6 x.1).length≤8192 by omega)]
    simp only [bind,Except.bind]
    rw [if_neg (by simp at hl;omega),a2,if_neg hne,Xhn hn b1 b2,XlA hs]
   rw [XbJ,e]
   simp only
   cases r with
   | nil=>
     rw [dif_neg (fun hh=>by rw [show k+2=k+2+3*([]:List (Int × Int)).length from rfl,hc] at hh;cases hh.2)]
     rfl
   | cons y r=>
     obtain ⟨c1,c2,h3⟩:=h2
     rw [dif_pos ⟨XlI (by rw [show k+2=k+1+1 from rfl,c1];decide),Xp0 c1 c2⟩]
     have hlen:k+2+3*(y :: r).length=k+2+1+2+3*r.length:=by simp only [Xu8];omega
     rw [hlen] at hc ⊢
     rw [Xht r y (k+2+1) (out++[x]) h3 hc (fun q hq=>hw q (by simp at hq ⊢;right;exact hq)) (by simpa using hl)]
     simp
end
open Go.RowKit
structure EF where
 kind:Int
 job:List UInt8
 ok:Bool
 code:Int
 data:List UInt8
 time:Int
 client:Int
 num:Int
def EF.cells (e:EF):List AV:=[.x (.int .i64 e.kind),.x (.string (bs e.job)),.x (.bool e.ok),.x (.int .i64 e.code),.sq e.data.length (u8a e.data),.x (.int .u64 e.time),.x (.int .i64 e.client),.x (.int .i64 e.num)]
def va (l:List EF):List AV:=l.flatMap EF.cells
@[simp] theorem XuX (l:List EF):(va l).length=l.length*8:=by
 induction l with
 | nil=>rfl
 | cons j l ih=>simp only [va,List.flatMap_cons,Xvh,Xu8] at ih ⊢;rw [ih];simp [EF.cells];omega
theorem Xpn (l m:List EF):va (l++m)=va l++va m:=by simp [va]
theorem XsS (l:List EF) (k:Nat) (h:k < l.length):(va l).drop (k*8)=l[k].cells++va (l.drop (k+1)):=by
 induction l generalizing k with
 | nil=>simp at h
 | cons j l ih=>
   cases k with
   | zero=>simp [va]
   | succ k=>
     simp only [va,List.flatMap_cons,List.drop_succ_cons,List.getElem_cons_succ] at ih ⊢
     rw [show (k+1)*8=j.cells.length+k*8 from by simp [EF.cells];omega,←List.drop_drop,List.drop_append_length]
     exact ih k (by simpa using h)
theorem Xeg (l:List EF) (k:Nat) (h:k < l.length):(va l).drop (k*8)=.x (.int .i64 l[k].kind) :: .x (.string (bs l[k].job)) :: .x (.bool l[k].ok) :: .x (.int .i64 l[k].code) :: .sq l[k].data.length (u8a l[k].data) :: .x (.int .u64 l[k].time) :: .x (.int .i64 l[k].client) :: .x (.int .i64 l[k].num) :: va (l.drop (k+1)):=XsS l k h
def XcA (cur:List UInt8):List UInt8→List (List UInt8)
 | []=>if cur=[] then [] else [cur]
 | c :: r=>if c.toNat=10 then cur :: XcA [] r else XcA (cur++[c]) r
def XbR (s:List UInt8):List (List UInt8):=XcA [] s
theorem Xgk:∀(l cur:List UInt8),∀x∈XcA cur l,x.length≤cur.length+l.length
 | [],cur=>by unfold XcA;split<;>simp
 | c :: r,cur=>by
   unfold XcA
   split
   ·intro x hx
    rcases List.mem_cons.1 hx with rfl|hx
    ·omega
    ·have:=Xgk r [] x hx;simp at this ⊢;omega
   ·intro x hx
    have:=Xgk r (cur++[c]) x hx
    simp at this ⊢;omega
def XcU:List (List UInt8):=[[115,112,97,119,110,101,100],[101,120,105,116],[111,117,116,112,117,116],[116,105,99,107],[100,114,97,119],[115,116,97,114,116],[115,116,111,112],[114,101,115,116,97,114,116],[108,111,97,100],[115,104,117,116,100,111,119,110],[111,112,101,110],[98,121,116,101,115],[99,108,111,115,101],[100,114,97,105,110]]
def Xa6:List (List UInt8):=[[78,75],[78,67],[78,68],[84],[84],[78],[78],[78],[68],[],[76],[76,68],[76],[76,77]]
def wOk:List UInt8:=[111,107]
def Xdn:List UInt8:=[102,97,105,108,101,100]
def XiK (w:List UInt8):Option Nat:=if w∈XcU then some (XcU.idxOf w) else none
def XeU (e:EF) (f:UInt8) (t:Tok):Option EF:=
 if f.toNat=78 then (if t.kind=1 then some { e with job:=t.text } else none)
 else if f.toNat=75 then (if t.kind=1∧(t.text=wOk∨t.text=Xdn) then some { e with ok:=decide (t.text=wOk) } else none)
 else if f.toNat=68 then (if t.kind=3 then some { e with data:=t.text } else none)
 else if t.kind≠2 then none
 else if f.toNat=84 then some { e with time:=XdN t.text }
 else if 999999999 < XdN t.text then none
 else if f.toNat=67 then some { e with code:=XdN t.text }
 else if f.toNat=76 then some { e with client:=XdN t.text }
 else some { e with num:=XdN t.text }
def Xci (e:EF):List UInt8→List Tok→Option EF
 | f :: fs,t :: ts=>(XeU e f t).bind fun e=>Xci e fs ts
 | _,_=>some e
def ev0 (k:Int):EF:=⟨k,[],false,0,[],0,0,0⟩
def Xcz (l:List Tok):Option EF:=match l with
 | []=>none
 | t :: r=>if t.kind≠1 then none else match XiK t.text with
   | none=>none
   | some k=>if r.length≠(Xa6.getD k []).length then none else Xci (ev0 (k+1:Nat)) (Xa6.getD k []) r
def cGo:List (List UInt8)→Nat→List EF→List EF × Nat × Int
 | [],n,out=>(out,n,0)
 | x :: r,n,out=>match lex x with
   | .error _=>([],n,320)
   | .ok ts=>if ts.length≤1 then cGo r (n+1) out else match Xcz ts.dropLast with
     | none=>([],n,320)
     | some e=>if 1000≤out.length then ([],n,1) else cGo r (n+1) (out++[e])
def XbS (s:List UInt8):List EF × Nat × Int:=if 65536 < s.length then ([],0,1) else cGo (XbR s) 0 []
def Xuf (x:List EF × Nat × Int):AV:=.tup [.sq x.1.length (va x.1),.x (.int .i64 x.2.1),.x (.int .i64 x.2.2)]
end Go.Proofs.YtdpobjakdplljaaGreatDoor

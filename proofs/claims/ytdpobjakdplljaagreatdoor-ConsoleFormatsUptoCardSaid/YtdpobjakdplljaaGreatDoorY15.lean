import Derived.Test.YtdpobjakdplljaaGreatDoorY11
import Derived.Test.YtdpobjakdplljaaGreatDoorY14
import Derived.Test.YtdpobjakdplljaaGreatDoorY10
import Derived.Test.YtdpobjakdplljaaGreatDoorY13
import Derived.Test.YtdpobjakdplljaaGreatDoorY8
/- Texts that are read as tokens, whatever follows. No program in sight. -/
set_option linter.unusedSimpArgs false
set_option linter.unusedVariables false
set_option maxRecDepth 100000
set_option maxHeartbeats 8000000
namespace Go.Proofs.YtdpobjakdplljaaGreatDoor
open Go.RowKit
def kts (ts:List Tok):List (Int × List UInt8):=ts.map fun t=>(t.kind,t.text)
def XaZ (C:List UInt8→Prop) (l:List UInt8) (ks:List (Int × List UInt8)):Prop:=
 ∀(p:Nat × Nat) (n:Nat) (t:List UInt8),C t→n+ks.length≤2000→∃ts:List Tok,kts ts=ks∧Xci p n (l++t)=(Xci (plc p l) (n+ks.length) t).map (ts++·)
def Any (_:List UInt8):Prop:=True
def Brk:List UInt8→Prop
 | []=>True
 | c :: _=>Xcq c=false
theorem map_map {α β γ:Type} (x:Except Flt α) (f:α→β) (g:β→γ):(x.map f).map g=x.map fun a=>g (f a):=by cases x<;>rfl
theorem XaZ.app {C D:List UInt8→Prop} {a b:List UInt8} {ks ms:List (Int × List UInt8)} (ha:XaZ C a ks) (hb:XaZ D b ms) (h:∀t,D t→C (b++t)):XaZ D (a++b) (ks++ms):=by
 intro p n t ht hn
 rw [XvH] at hn
 obtain ⟨ts,h1,h2⟩:=ha p n (b++t) (h t ht) (by omega)
 obtain ⟨us,h3,h4⟩:=hb (plc p a) (n+ks.length) t ht (by omega)
 refine ⟨ts++us,by simp [kts] at *;rw [h1,h3],?_⟩
 rw [List.append_assoc,h2,h4,map_map,Xf3,XvH,Nat.add_assoc]
 simp only [List.append_assoc]
theorem XaZ.then {D:List UInt8→Prop} {a b:List UInt8} {ks ms:List (Int × List UInt8)} (ha:XaZ Any a ks) (hb:XaZ D b ms):XaZ D (a++b) (ks++ms):=ha.app hb fun _ _=>trivial
theorem XaZ.brk {D:List UInt8→Prop} {a r:List UInt8} {c:UInt8} {ks ms:List (Int × List UInt8)} (ha:XaZ Brk a ks) (hc:Xcq c=false) (hb:XaZ D (c :: r) ms):XaZ D (a++c :: r) (ks++ms):=ha.app hb fun _ _=>hc
theorem XaZ.nil:XaZ Any [] []:=fun p n t _ _=>⟨[],rfl,by simp only [XvF,XvB,Nat.add_zero,plc];exact (XdB _ _ fun a=>rfl).symm⟩
theorem XaZ.blank {c:UInt8} (h:c.toNat=32∨c.toNat=9∨c.toNat=10∨c.toNat=13):XaZ Any [c] []:=fun p n t _ _=>⟨[],rfl,by
 rw [Xot [c] t p n (by show skp (c :: t)=_;rw [Xe5 c t h];simp;omega)]
 simp only [XvB,Nat.add_zero,XvF]
 exact (XdB _ _ fun a=>rfl).symm⟩
theorem XaZ.tok {C:List UInt8→Prop} {c:UInt8} {r s:List UInt8} {k:Int} (hb:¬(c.toNat=32∨c.toNat=9∨c.toNat=10∨c.toNat=13)) (h35:c.toNat≠35) (h:∀t,C t→one (c :: r++t)=.ok (k,s,r.length+1)):XaZ C (c :: r) [(k,s)]:=fun p n t ht hn=>by
 simp only [Xvy,XvB] at hn
 have h0:skp (c :: r++t)=0:=XlH _ _ hb h35
 refine ⟨[⟨k,s,(plc p []).1,(plc p []).2⟩],rfl,?_⟩
 rw [Xda p n (c :: r++t) c (r++t) k s (r.length+1) (by rw [h0];rfl) (h t ht) (by omega) (by omega),h0]
 have e1:(c :: (r++t)).drop (r.length+1)=t:=by rw [List.drop_succ_cons,List.drop_left]
 have e2:(c :: r++t).take (0+(r.length+1))=c :: r:=by rw [Nat.zero_add];exact List.take_left' rfl
 rw [e1,e2]
 rfl
theorem XaZ.sign {c:UInt8} (h:c.toNat=123∨c.toNat=125∨c.toNat=44∨c.toNat=61):XaZ Any [c] [(5,[c])]:=by
 refine XaZ.tok (by omega) (by omega) fun t _=>?_
 have h1:Xb6 c=false:=by simp only [Xb6,decide_eq_false_iff_not];omega
 have h2:Xbi c=false:=by simp only [Xbi,decide_eq_false_iff_not];omega
 simp only [XvG,XvF,one,h1,h2,Bool.false_eq_true,if_false]
 rw [if_neg (by omega),if_neg (by omega),if_pos h];rfl
theorem XkU {p:UInt8→Bool} {t:List UInt8} (ht:∀c r,t=c :: r→p c=false):∀l:List UInt8,(∀b∈l,p b=true)→spn p (l++t)=l.length
 | [],_=>by
   cases t with
   | nil=>rfl
   | cons c r=>rw [XvF,XlJ p c r (ht c r rfl)];rfl
 | c :: l,h=>by rw [XvG,XeA p c _ (h c (by simp)),XkU ht l fun b hb=>h b (by simp [hb])];rfl
def Xct:List UInt8→Prop
 | []=>False
 | c :: r=>Xb6 c=true∧∀b∈r,Xcq b=true
def Xpv:List UInt8→Prop
 | []=>False
 | c :: r=>Xbi c=true∧(∀b∈r,Xbi b=true)∧r.length < 18∧(r≠[]→c.toNat≠48)
theorem Xoh {b:UInt8} (h:Xbi b=true):Xcq b=true:=by simp [Xcq,h]
theorem XaZ.word {w:List UInt8} (h:Xct w):XaZ Brk w [(1,w)]:=by
 cases w with
 | nil=>exact h.elim
 | cons c r=>
   obtain ⟨h1,h2⟩:=h
   have hl:=h1
   simp only [Xb6,decide_eq_true_eq] at hl
   refine XaZ.tok (by omega) (by omega) fun t ht=>?_
   have hs:spn Xcq (c :: (r++t))=r.length+1:=by
    have:=XkU (p:=Xcq) (t:=t) (fun d u e=>by subst e;exact ht) (c :: r) (fun b hb=>by
     rcases List.mem_cons.1 hb with rfl|hb
     ·simp [Xcq,h1]
     ·exact h2 b hb)
    simpa using this
   simp only [XvG,one,h1,if_true,hs]
   rw [List.take_succ_cons,List.take_left]
theorem XaZ.num {d:List UInt8} (h:Xpv d):XaZ Brk d [(2,d)]:=by
 cases d with
 | nil=>exact h.elim
 | cons c r=>
   obtain ⟨h1,h2,h3,h4⟩:=h
   have hl:=h1
   simp only [Xbi,decide_eq_true_eq] at hl
   refine XaZ.tok (by omega) (by omega) fun t ht=>?_
   have hs:spn Xbi (c :: (r++t))=r.length+1:=by
    have:=XkU (p:=Xbi) (t:=t) (fun d u e=>by
     subst e
     cases hd:Xbi d with
     | false=>rfl
     | true=>have:=Xoh hd;rw [show Xcq d=false from ht] at this;cases this) (c :: r) (fun b hb=>by
     rcases List.mem_cons.1 hb with rfl|hb
     ·exact h1
     ·exact h2 b hb)
    simpa using this
   have hnl:Xb6 c=false:=by simp only [Xb6,decide_eq_false_iff_not];omega
   simp only [XvG,one,hnl,h1,Bool.false_eq_true,if_false,if_true,hs]
   rw [if_neg (by
    rintro (h|⟨h,h'⟩)
    ·omega
    ·exact h4 (by intro e;subst e;simp at h) h'),List.take_succ_cons,List.take_left]
theorem XaZ.str (s:List UInt8):XaZ Any (XcE s) [(3,s)]:=by
 show XaZ Any (34 :: (s.flatMap Xes++[34])) [(3,s)]
 refine XaZ.tok (by decide) (by decide) fun t _=>?_
 have h1:Xb6 34=false:=by decide
 have h2:Xbi 34=false:=by decide
 simp only [XvG,List.append_assoc,XvF,one,h1,h2,Bool.false_eq_true,if_false]
 rw [if_pos (by decide),Xlx]
 simp
def XhH:List UInt8→Prop
 | []=>True
 | [c]=>32≤c.toNat∧c.toNat≠92
 | c :: d :: r=>32≤c.toNat∧(if c.toNat=92 then 32≤d.toNat∧d.toNat≠47∧XhH r else XhH (d :: r))
theorem XkR {c:UInt8} (h:c.toNat≠47):slB c=[c]:=if_neg h
theorem XlI (t:List UInt8) {c:UInt8} (h:32≤c.toNat) (h2:c.toNat≠92) (l:List UInt8):sla (slB c++l)=(sla l).map fun x=>(c :: x.1,(slB c).length+x.2):=by
 by_cases h3:c.toNat=47
 ·have e:slB c=[92,c]:=if_pos h3
  rw [e]
  exact XgK 92 c l (by decide) h3
 ·rw [XkR h3]
  exact XgL c l h3 h h2
theorem XgM (t:List UInt8):∀s:List UInt8,XhH s→sla (XbT s++47 :: t)=some (s,(XbT s).length+1)
 | [],_=>by simp only [XbT,List.flatMap_nil,XvF];rw [Xfu 47 t (by decide)];rfl
 | [c],h=>by
   simp only [XbT,List.flatMap_cons,List.flatMap_nil,List.append_assoc,XvF]
   rw [XlI t h.1 h.2,Xfu 47 t (by decide)]
   simp
 | c :: d :: r,h=>by
   obtain ⟨h1,h2⟩:=h
   by_cases h3:c.toNat=92
   ·rw [if_pos h3] at h2
    have ih:=XgM t r h2.2.2
    simp only [XbT,List.flatMap_cons,List.append_assoc] at ih ⊢
    rw [XkR (show c.toNat≠47 by omega),XkR h2.2.1]
    simp only [XvG,XvF,Xvy]
    rw [XgN c d _ h3 h2.1 h2.2.1,ih]
    simp;omega
   ·rw [if_neg h3] at h2
    have ih:=XgM t (d :: r) h2
    have e:XbT (c :: d :: r)=slB c++XbT (d :: r):=rfl
    rw [e,List.append_assoc,XlI t h1 h3,ih]
    simp;omega
theorem XaZ.pat {s:List UInt8} (h:XhH s):XaZ Any (47 :: (XbT s++[47])) [(4,s)]:=by
 refine XaZ.tok (by decide) (by decide) fun t _=>?_
 have h1:Xb6 47=false:=by decide
 have h2:Xbi 47=false:=by decide
 simp only [XvG,List.append_assoc,XvF,one,h1,h2,Bool.false_eq_true,if_false]
 rw [if_neg (by decide),if_pos (by decide),XgM t s h]
 simp
/-! ### Numbers -/
def Xg6 (v:Int):Prop:=0≤v∧v < 1000000000000000000
theorem XfX (n:Nat) (h:n < 10):XbJ n=[UInt8.ofNat (48+n)]:=by rw [XbJ,dif_pos h]
theorem Xkc (n:Nat) (h:¬n < 10):XbJ n=XbJ (n / 10)++[UInt8.ofNat (48+n % 10)]:=by
 rw [XbJ,dif_neg h,XfX (n % 10) (by omega)]
theorem XhV (n:Nat) (h:n < 10):(UInt8.ofNat (48+n)).toNat=48+n:=by
 rw [UInt8.toNat_ofNat'];omega
theorem Xrq (n:Nat) (h:n < 10):Xbi (UInt8.ofNat (48+n))=true:=by
 simp only [Xbi,XhV n h,decide_eq_true_eq];omega
theorem Xmc (n:Nat):∃c r,XbJ n=c :: r∧Xbi c=true∧(∀b∈r,Xbi b=true)∧(0 < n→c.toNat≠48)∧(r≠[]→0 < n):=by
 induction n using Nat.strongRecOn with
 | _ n ih=>
   by_cases h:n < 10
   ·refine ⟨_,[],XfX n h,Xrq n h,by simp,fun h0=>?_,fun h=>absurd rfl h⟩
    rw [XhV n h];omega
   ·obtain ⟨c,r,h1,h2,h3,h4,h5⟩:=ih (n / 10) (by omega)
    refine ⟨c,r++[UInt8.ofNat (48+n % 10)],by rw [Xkc n h,h1];rfl,h2,fun b hb=>?_,fun _=>h4 (by omega),fun _=>by omega⟩
    rcases List.mem_append.1 hb with hb|hb
    ·exact h3 b hb
    ·rw [List.mem_singleton] at hb;subst hb;exact Xrq _ (by omega)
theorem XpQ (n:Nat) (h:n < 1000000000000000000):Xpv (XbJ n):=by
 obtain ⟨c,r,h1,h2,h3,h4,h5⟩:=Xmc n
 have hl:=Xee 17 n (by have:(10:Nat) ^ (17+1)=1000000000000000000:=by decide
                       omega)
 rw [h1] at hl ⊢
 exact ⟨h2,h3,by simp at hl;omega,fun h=>h4 (h5 h)⟩
theorem Xmz (l:List UInt8) (c:UInt8):Xdm (l++[c])=10*Xdm l+(c.toNat - 48):=by simp [Xdm,List.foldl_append]
theorem XqA (n:Nat):Xdm (XbJ n)=n:=by
 induction n using Nat.strongRecOn with
 | _ n ih=>
   by_cases h:n < 10
   ·rw [XfX n h]
    show (10*0+(((UInt8.ofNat (48+n)).toNat:Int) - 48):Int)=n
    rw [XhV n h];omega
   ·rw [Xkc n h,Xmz,ih (n / 10) (by omega),XhV _ (by omega)];omega
theorem Xjk {v:Int} (h:Xg6 v):Xdm (XbJ v.toNat)=v:=by rw [XqA];have:=h.1;omega
theorem XdL {v:Int} (h:Xg6 v):Xpv (XbJ v.toNat):=XpQ _ (by have:=h.1;have:=h.2;omega)
theorem Xhh {v:Int} (h:Xg6 v):(XbJ v.toNat).length≤18:=by
 have:=XdL h
 cases hd:XbJ v.toNat with
 | nil=>simp
 | cons c r=>rw [hd] at this;have:=this.2.2.1;simp;omega
/-! ### The text -/
structure XgW (j:JF):Prop where
 name:Xct j.name∧j.name.length≤32
 run:j.run.length≤512
 env:j.env.length≤16
 enve:∀p∈j.env,Xct p.1∧p.1.length≤32∧p.2.length≤512
 envd:(j.env.map (·.1)).Nodup
 needs:j.needs.length≤16
 neede:∀s∈j.needs,Xct s∧s.length≤32
 needd:j.needs.Nodup
 ready:(j.hasr=true∧XhH j.ready∧j.ready.length≤128)∨(j.hasr=false∧j.ready=[])
 restart:j.restart=1∨j.restart=2∨j.restart=3
 base:Xg6 j.base
 cap:Xg6 j.cap
 stable:Xg6 j.stable
 burst:1≤j.burst∧j.burst≤16
 window:Xg6 j.window
 ladder:j.ladder≠[]∧j.ladder.length≤5
 laddere:∀p∈j.ladder,(p.1=1∨p.1=2∨p.1=3∨p.1=10∨p.1=12∨p.1=15)∧Xg6 p.2
def Xgs (j:JF):List UInt8:=[106,111,98,32]++j.name++[32,123,10,32,32,114,117,110,32]++XcE j.run++[10]
def XnR (p:List UInt8 × List UInt8):List UInt8:=[32,32,101,110,118,32]++p.1++[32,61,32]++XcE p.2++[10]
def Xmg (l:List (List UInt8 × List UInt8)):List UInt8:=l.flatMap XnR
def Xd0 (y:List UInt8):List UInt8:=[44,32]++y
def XfL:List (List UInt8)→List UInt8
 | []=>[]
 | x :: r=>[32,32,110,101,101,100,115,32]++x++r.flatMap Xd0
def XdN (l:List (List UInt8)):List UInt8:=if l=[] then [] else XfL l++[10]
def Xd1 (j:JF):List UInt8:=if j.hasr then [32,32,114,101,97,100,121,32,47]++XbT j.ready++[47,10] else []
def Xii (j:JF):List UInt8:=[32,32,114,101,115,116,97,114,116,32]++XdD j.restart++[10,32,32,98,97,99,107,111,102,102,32]++XbJ j.base.toNat++[32]++XbJ j.cap.toNat++[32]++XbJ j.stable.toNat++[10,32,32,98,117,114,115,116,32]++XbJ (if 0 < j.burst then j.burst else 0).toNat++[32]++XbJ j.window.toNat++[10,32,32,115,116,111,112]
def Xcy (p:Int × Int):List UInt8:=[32]++Xg5 p.1++[32]++XbJ p.2.toNat
def Xdk (p:Int × Int):List UInt8:=[44]++Xcy p
def Xi7:List (Int × Int)→List UInt8
 | []=>[]
 | x :: r=>Xcy x++r.flatMap Xdk
def Xe0 (j:JF):List UInt8:=Xgs j++Xmg j.env++XdN j.needs++Xd1 j++Xii j++Xi7 j.ladder++[10,125,10]
/-! ### Its tokens -/
abbrev KT:=Int × List UInt8
def Xi3 (j:JF):List KT:=[(1,Xtm),(1,j.name),(5,[123]),(1,XlP),(3,j.run)]
def XnQ (p:List UInt8 × List UInt8):List KT:=[(1,Xis),(1,p.1),(5,[61]),(3,p.2)]
def Xmf (l:List (List UInt8 × List UInt8)):List KT:=l.flatMap XnQ
def Xji (y:List UInt8):List KT:=[(5,[44]),(1,y)]
def Xeu:List (List UInt8)→List KT
 | []=>[]
 | x :: r=>(1,XgP) :: (1,x) :: r.flatMap Xji
def Xdx (j:JF):List KT:=if j.hasr then [(1,Xe7),(4,j.ready)] else []
def Xjr (j:JF):List KT:=[(1,XcO),(1,XdD j.restart),(1,XcA),(2,XbJ j.base.toNat),(2,XbJ j.cap.toNat),(2,XbJ j.stable.toNat),(1,Xeq),(2,XbJ j.burst.toNat),(2,XbJ j.window.toNat)]
def Xjy (p:Int × Int):List KT:=[(1,Xg5 p.1),(2,XbJ p.2.toNat)]
def Xjx (p:Int × Int):List KT:=(5,[44]) :: Xjy p
def XmW:List (Int × Int)→List KT
 | []=>[]
 | x :: r=>(1,XgQ) :: (Xjy x++r.flatMap Xjx)
def Xg2 (j:JF):List KT:=Xi3 j++Xmf j.env++Xeu j.needs++Xdx j++Xjr j++XmW j.ladder++[(5,[125])]
section
variable {D:List UInt8→Prop} {r w:List UInt8} {c:UInt8} {ms:List KT}
def Xc2 (c:UInt8):Prop:=c.toNat=32∨c.toNat=9∨c.toNat=10∨c.toNat=13
theorem XaZ.bl (c:UInt8) (h:Xc2 c) (hr:XaZ D r ms):XaZ D (c :: r) ms:=(XaZ.blank h).then hr
theorem XaZ.sg (c:UInt8) (h:c.toNat=123∨c.toNat=125∨c.toNat=44∨c.toNat=61) (hr:XaZ D r ms):XaZ D (c :: r) ((5,[c]) :: ms):=(XaZ.sign h).then hr
theorem XaZ.st (s:List UInt8) (hr:XaZ D r ms):XaZ D (XcE s++r) ((3,s) :: ms):=(XaZ.str s).then hr
theorem XaZ.wd (h:Xct w) (hc:Xcq c=false) (hr:XaZ D (c :: r) ms):XaZ D (w++c :: r) ((1,w) :: ms):=(XaZ.word h).brk hc hr
theorem XaZ.nm (h:Xpv w) (hc:Xcq c=false) (hr:XaZ D (c :: r) ms):XaZ D (w++c :: r) ((2,w) :: ms):=(XaZ.num h).brk hc hr
theorem XaZ.pt (h:XhH w) (hr:XaZ D r ms):XaZ D (47 :: (XbT w++47 :: r)) ((4,w) :: ms):=by
 have:=(XaZ.pat h).then hr
 simpa using this
end
theorem XbD {w:List UInt8} (h:(match w with|[]=>false|c :: r=>Xb6 c && r.all Xcq)=true):Xct w:=by
 cases w with
 | nil=>cases h
 | cons c r=>
   simp only [Bool.and_eq_true,List.all_eq_true] at h
   exact h
theorem XmJ (j:JF) (h:XgW j):XaZ Any (Xgs j) (Xi3 j):=by
 have e:Xgs j=[106,111,98]++32 :: (j.name++32 :: 123 :: 10 :: 32 :: 32 :: ([114,117,110]++32 :: (XcE j.run++10 :: []))):=by simp [Xgs]
 rw [e]
 exact XaZ.wd (XbD (by decide)) (by decide) (.bl 32 (by unfold Xc2;decide) (.wd h.name.1 (by decide) (.bl 32 (by unfold Xc2;decide) (.sg 123 (by decide) (.bl 10 (by unfold Xc2;decide) (.bl 32 (by unfold Xc2;decide) (.bl 32 (by unfold Xc2;decide) (.wd (XbD (by decide)) (by decide) (.bl 32 (by unfold Xc2;decide) (.st j.run (.bl 10 (by unfold Xc2;decide) .nil)))))))))))
theorem Xjq:∀l:List (List UInt8 × List UInt8),(∀p∈l,Xct p.1)→XaZ Any (Xmg l) (Xmf l)
 | [],_=>XaZ.nil
 | p :: l,h=>by
   have e:Xmg (p :: l)=32 :: 32 :: ([101,110,118]++32 :: (p.1++32 :: 61 :: 32 :: (XcE p.2++10 :: Xmg l))):=by simp [Xmg,XnR]
   rw [e]
   exact XaZ.bl 32 (by unfold Xc2;decide) (.bl 32 (by unfold Xc2;decide) (.wd (XbD (by decide)) (by decide) (.bl 32 (by unfold Xc2;decide) (.wd (h p (by simp)) (by decide) (.bl 32 (by unfold Xc2;decide) (.sg 61 (by decide) (.bl 32 (by unfold Xc2;decide) (.st p.2 (.bl 10 (by unfold Xc2;decide) (Xjq l fun q hq=>h q (by simp [hq])))))))))))
theorem XgF:∀(r:List (List UInt8)) (x:List UInt8),Xct x→(∀y∈r,Xct y)→XaZ Any (x++(r.flatMap Xd0++[10])) ((1,x) :: r.flatMap Xji)
 | [],x,hx,_=>XaZ.wd hx (by decide) (.bl 10 (by unfold Xc2;decide) .nil)
 | y :: r,x,hx,h=>by
   have e:x++((y :: r).flatMap Xd0++[10])=x++44 :: 32 :: (y++(r.flatMap Xd0++[10])):=by simp [Xd0]
   rw [e]
   exact XaZ.wd hx (by decide) (.sg 44 (by decide) (.bl 32 (by unfold Xc2;decide) (XgF r y (h y (by simp)) fun q hq=>h q (by simp [hq]))))
theorem XmL (l:List (List UInt8)) (h:∀y∈l,Xct y):XaZ Any (XdN l) (Xeu l):=by
 cases l with
 | nil=>exact XaZ.nil
 | cons x r=>
   have e:XdN (x :: r)=32 :: 32 :: ([110,101,101,100,115]++32 :: (x++(r.flatMap Xd0++[10]))):=by simp [XdN,XfL]
   rw [e]
   exact XaZ.bl 32 (by unfold Xc2;decide) (.bl 32 (by unfold Xc2;decide) (.wd (XbD (by decide)) (by decide) (.bl 32 (by unfold Xc2;decide) (XgF r x (h x (by simp)) fun q hq=>h q (by simp [hq])))))
theorem XkJ (j:JF) (h:XgW j):XaZ Any (Xd1 j) (Xdx j):=by
 unfold Xd1 Xdx
 rcases h.ready with ⟨h1,h2,h3⟩|⟨h1,-⟩
 ·rw [h1,if_pos rfl,if_pos rfl]
  have e:[32,32,114,101,97,100,121,32,47]++XbT j.ready++[47,10]=32 :: 32 :: ([114,101,97,100,121]++32 :: 47 :: (XbT j.ready++47 :: 10 :: [])):=by simp
  rw [e]
  exact XaZ.bl 32 (by unfold Xc2;decide) (.bl 32 (by unfold Xc2;decide) (.wd (XbD (by decide)) (by decide) (.bl 32 (by unfold Xc2;decide) (.pt h2 (.bl 10 (by unfold Xc2;decide) .nil)))))
 ·rw [h1];exact XaZ.nil
theorem XqK {n:Int} (h:n=1∨n=2∨n=3):Xct (XdD n):=by
 rcases h with rfl|rfl|rfl<;>exact XbD (by decide)
theorem XlD {n:Int} (h:n=1∨n=2∨n=3∨n=10∨n=12∨n=15):Xct (Xg5 n):=by
 rcases h with rfl|rfl|rfl|rfl|rfl|rfl<;>exact XbD (by decide)
theorem XlC {n:Int} (h:n=1∨n=2∨n=3∨n=10∨n=12∨n=15):XmZ (Xg5 n)=n:=by
 rcases h with rfl|rfl|rfl|rfl|rfl|rfl<;>decide
theorem Xhw:∀(r:List (Int × Int)) (x:Int × Int),Xct (Xg5 x.1)→Xg6 x.2→(∀y∈r,Xct (Xg5 y.1)∧Xg6 y.2)→XaZ Any (Xcy x++(r.flatMap Xdk++[10,125,10])) (Xjy x++(r.flatMap Xjx++[(5,[125])]))
 | [],x,hx,hn,_=>by
   have e:Xcy x++([].flatMap Xdk++[10,125,10])=32 :: (Xg5 x.1++32 :: (XbJ x.2.toNat++10 :: 125 :: 10 :: [])):=by simp [Xcy]
   rw [e]
   exact XaZ.bl 32 (by unfold Xc2;decide) (.wd hx (by decide) (.bl 32 (by unfold Xc2;decide) (.nm (XdL hn) (by decide) (.bl 10 (by unfold Xc2;decide) (.sg 125 (by decide) (.bl 10 (by unfold Xc2;decide) .nil))))))
 | y :: r,x,hx,hn,h=>by
   have e:Xcy x++((y :: r).flatMap Xdk++[10,125,10])=32 :: (Xg5 x.1++32 :: (XbJ x.2.toNat++44 :: (Xcy y++(r.flatMap Xdk++[10,125,10])))):=by simp [Xcy,Xdk]
   rw [e]
   exact XaZ.bl 32 (by unfold Xc2;decide) (.wd hx (by decide) (.bl 32 (by unfold Xc2;decide) (.nm (XdL hn) (by decide) (.sg 44 (by decide) (Xhw r y (h y (by simp)).1 (h y (by simp)).2 fun q hq=>h q (by simp [hq]))))))
theorem XmM (j:JF) (h:XgW j):XaZ Any (Xii j++(Xi7 j.ladder++[10,125,10])) (Xjr j++(XmW j.ladder++[(5,[125])])):=by
 obtain ⟨x,r,hx⟩:=List.exists_cons_of_ne_nil h.ladder.1
 have he:=h.laddere
 rw [hx] at he ⊢
 have hb:(if 0 < j.burst then j.burst else 0)=j.burst:=if_pos (by have:=h.burst.1;omega)
 have hbn:Xg6 j.burst:=⟨by have:=h.burst.1;omega,by have:=h.burst.2;omega⟩
 have e:Xii j++(Xi7 (x :: r)++[10,125,10])=32 :: 32 :: ([114,101,115,116,97,114,116]++32 :: (XdD j.restart++10 :: 32 :: 32 :: ([98,97,99,107,111,102,102]++32 :: (XbJ j.base.toNat++32 :: (XbJ j.cap.toNat++32 :: (XbJ j.stable.toNat++10 :: 32 :: 32 :: ([98,117,114,115,116]++32 :: (XbJ j.burst.toNat++32 :: (XbJ j.window.toNat++10 :: 32 :: 32 :: ([115,116,111,112]++32 :: (Xg5 x.1++[32]++XbJ x.2.toNat++(r.flatMap Xdk++[10,125,10])))))))))))):=by
  simp [Xii,Xi7,Xcy,hb]
 have e2:32 :: (Xg5 x.1++[32]++XbJ x.2.toNat++(r.flatMap Xdk++[10,125,10]))=Xcy x++(r.flatMap Xdk++[10,125,10]):=by simp [Xcy]
 rw [e]
 refine XaZ.bl 32 (by unfold Xc2;decide) (.bl 32 (by unfold Xc2;decide) (.wd (XbD (by decide)) (by decide) (.bl 32 (by unfold Xc2;decide) (.wd (XqK h.restart) (by decide) (.bl 10 (by unfold Xc2;decide) (.bl 32 (by unfold Xc2;decide) (.bl 32 (by unfold Xc2;decide) (.wd (XbD (by decide)) (by decide) (.bl 32 (by unfold Xc2;decide) (.nm (XdL h.base) (by decide) (.bl 32 (by unfold Xc2;decide) (.nm (XdL h.cap) (by decide) (.bl 32 (by unfold Xc2;decide) (.nm (XdL h.stable) (by decide) (.bl 10 (by unfold Xc2;decide) (.bl 32 (by unfold Xc2;decide) (.bl 32 (by unfold Xc2;decide) (.wd (XbD (by decide)) (by decide) (.bl 32 (by unfold Xc2;decide) (.nm (XdL hbn) (by decide) (.bl 32 (by unfold Xc2;decide) (.nm (XdL h.window) (by decide) (.bl 10 (by unfold Xc2;decide) (.bl 32 (by unfold Xc2;decide) (.bl 32 (by unfold Xc2;decide) (.wd (XbD (by decide)) (by decide) ?_))))))))))))))))))))))))))
 rw [e2]
 have:=Xhw r x (XlD (he x (by simp)).1) (he x (by simp)).2 fun y hy=>⟨XlD (he y (by simp [hy])).1,(he y (by simp [hy])).2⟩
 rw [←List.append_assoc (Xjy x)] at this
 exact this
theorem XoY (j:JF) (h:XgW j):XaZ Any (Xe0 j) (Xg2 j):=by
 have h1:=(XmJ j h).then ((Xjq j.env fun p hp=>(h.enve p hp).1).then ((XmL j.needs fun y hy=>(h.neede y hy).1).then ((XkJ j h).then (XmM j h))))
 have e1:Xe0 j=Xgs j++(Xmg j.env++(XdN j.needs++(Xd1 j++(Xii j++(Xi7 j.ladder++[10,125,10]))))):=by simp [Xe0]
 have e2:Xg2 j=Xi3 j++(Xmf j.env++(Xeu j.needs++(Xdx j++(Xjr j++(XmW j.ladder++[(5,[125])]))))):=by simp [Xg2]
 rw [e1,e2]
 exact h1
theorem Xhv:∀l:List JF,(∀j∈l,XgW j)→XaZ Any (l.flatMap Xe0) (l.flatMap Xg2)
 | [],_=>XaZ.nil
 | j :: l,h=>by
   rw [List.flatMap_cons,List.flatMap_cons]
   exact (XoY j (h j (by simp))).then (Xhv l fun q hq=>h q (by simp [hq]))
open Go.RowKit
def At (ts:List Tok):Nat→List KT→Prop
 | _,[]=>True
 | k,x :: xs=>(tkA ts k).kind=x.1∧(tkA ts k).text=x.2∧At ts (k+1) xs
theorem XeH {ts:List Tok}:∀{k:Nat} {xs ys:List KT},At ts k (xs++ys)↔At ts k xs∧At ts (k+xs.length) ys
 | k,[],ys=>by simp [At]
 | k,x :: xs,ys=>by
   simp only [XvG,At,XeH,Xvy,and_assoc]
   rw [show k+1+xs.length=k+(xs.length+1) from by omega]
theorem Xts {ts:List Tok}:∀{k:Nat} {ks:List KT} (pre:List Tok),pre.length=k→∀post:List Tok,kts post=ks→ts=pre++post→At ts k ks
 | k,[],_,_,_,_,_=>trivial
 | k,x :: xs,pre,hk,post,hp,hts=>by
   cases post with
   | nil=>cases hp
   | cons t post=>
     simp only [kts,XvA,List.cons.injEq] at hp
     have e:tkA ts k=t:=by
      unfold tkA
      rw [hts,List.getD_eq_getElem?_getD,List.getElem?_append_right (by omega),←hk];simp
     refine ⟨by rw [e,←hp.1],by rw [e,←hp.1],Xts (pre++[t]) (by simp;omega) post hp.2 (by rw [hts];simp)⟩
theorem Xs7 (n:Int):(Xg5 n).length≤4:=by
 unfold Xg5
 cases h:XcZ.find? (fun s=>Xs6 s == n) with
 | none=>simp
 | some s=>
   have:=List.mem_of_find?_eq_some h
   simp only [XcZ,List.mem_cons,List.not_mem_nil,or_false] at this
   rcases this with rfl|rfl|rfl|rfl|rfl|rfl<;>simp
section
variable {ts:List Tok} {k:Nat}
theorem Xd3 {kind:Int} {text:List UInt8} {most:Nat} (h1:(tkA ts k).kind=kind) (h2:(tkA ts k).text=text) (h:text.length≤most):Xbf ts k kind most=.ok (tkA ts k):=by
 unfold Xbf
 rw [if_neg (fun e=>e h1),if_neg (by rw [h2];omega)]
theorem Xqd {s:List UInt8} (h1:(tkA ts k).kind=5) (h2:(tkA ts k).text=s):gIs ts k s=true:=by simp [gIs,h1,h2]
theorem XtX {s:List UInt8} (h1:(tkA ts k).kind≠5):gIs ts k s=false:=by simp [gIs,h1]
theorem Xqe {s:List UInt8} (h1:(tkA ts k).text≠s):gIs ts k s=false:=by simp [gIs,h1]
theorem Xpb {s:List UInt8} (h1:(tkA ts k).kind=5) (h2:(tkA ts k).text=s):Xb5 ts k s=.ok ():=by simp [Xb5,Xqd h1 h2]
theorem Xhs {v:Int} (hv:Xg6 v) (h1:(tkA ts k).kind=2) (h2:(tkA ts k).text=XbJ v.toNat):Xc1 ts k=.ok v:=by
 unfold Xc1
 rw [Xd3 h1 h2 (by have:=Xhh hv;omega)]
 simp only [Except.map,h2,Xjk hv]
theorem Xkv {w:List UInt8} {full:Bool} (hw:w.length≤32) (hf:full=false) (h1:(tkA ts k).kind=1) (h2:(tkA ts k).text=w):Xek ts k full=.ok (tkA ts k):=by
 unfold Xek
 rw [Xd3 h1 h2 hw,hf]
 rfl
theorem Xdh {name:Tok} {seen:List (List UInt8)} {j j':JF} {w:List UInt8} {k':Nat} (h1:(tkA ts k).kind=1) (h2:(tkA ts k).text=w) (hw:w∈items) (hs:w≠Xis→w ∉ seen) (hi:XbU ts (k+1) w j=.ok (j',k')) (hlt:k < k'):Xbg ts name k seen j=Xbg ts name k' (if w=Xis then seen else seen++[w]) j':=by
 rw [Xbg,if_neg (by rw [XtX (by rw [h1];decide)];decide),if_neg (by rw [h1,h2];simpa using hw),if_neg (by rw [h2];rintro ⟨a,b⟩;exact hs a (by simpa using b)),h2,hi]
 simp only
 rw [dif_pos ⟨hlt,XlM (by rw [h1];decide)⟩]
theorem Xoj {name:Tok} {seen:List (List UInt8)} {j:JF} (h:gIs ts k [125]=true) (hs:XlP∈seen):Xbg ts name k seen j=.ok (j,k+1):=by
 rw [Xbg,if_pos h,if_pos (by simpa using hs)]
theorem XiW {name:Tok} {seen:List (List UInt8)}:∀(l:List (List UInt8 × List UInt8)) (k:Nat) (j:JF),At ts k (Xmf l)→(∀p∈l,p.1.length≤32∧p.2.length≤512)→((j.env++l).map (·.1)).Nodup→(j.env++l).length≤16→Xbg ts name k seen j=Xbg ts name (k+(Xmf l).length) seen { j with env:=j.env++l }
 | [],k,j,_,_,_,_=>by simp [Xmf]
 | p :: l,k,j,h,hp,hd,hl=>by
   obtain ⟨a1,a2,b1,b2,c1,c2,d1,d2,h5⟩:=h
   have hpp:=hp p (by simp)
   have hi:XbU ts (k+1) Xis j=.ok ({ j with env:=j.env++[p] },k+1+3):=by
    unfold XbU
    rw [if_neg (by decide),if_pos rfl]
    have e:Xiy ts (k+1) j.env=.ok p:=by
     unfold Xiy
     rw [Xkv hpp.1 (by simp at hl;exact decide_eq_false (by omega)) b1 b2]
     simp only [bind,Except.bind]
     have hn:j.env.any (fun x=>x.1 == (tkA ts (k+1)).text)=false:=by
      rw [b2,List.any_eq_false]
      intro x hx he
      rw [List.map_append,XvA,List.nodup_append] at hd
      exact hd.2.2 x.1 (List.mem_map_of_mem hx) p.1 (by simp) (by simpa using he)
     rw [hn]
     simp only [Bool.false_eq_true,if_false]
     rw [Xpb c1 c2]
     simp only
     rw [Xd3 d1 d2 hpp.2]
     simp only [b2,d2]
    rw [e];rfl
   rw [Xdh a1 a2 (by decide) (fun h=>absurd rfl h) hi (by omega),if_pos rfl,show k+1+3=k+1+1+1+1 from rfl,XiW l (k+1+1+1+1) { j with env:=j.env++[p] } h5 (fun q hq=>hp q (by simp [hq])) (by simpa using hd) (by simpa using hl)]
   simp only [List.append_assoc,XvG,XvF,Xmf,List.flatMap_cons,XvH]
   rw [show (XnQ p).length=4 from rfl,show k+1+1+1+1+(List.flatMap XnQ l).length=k+(4+(List.flatMap XnQ l).length) from by omega]
theorem Xjj:∀(r:List (List UInt8)) (x:List UInt8) (k:Nat) (out:List (List UInt8)),At ts k ((1,x) :: r.flatMap Xji)→gIs ts (k+1+2*r.length) [44]=false→(∀y∈x :: r,y.length≤32)→(out++x :: r).Nodup→(out++x :: r).length≤16→XbR (Xc9 ts) 1 ts k out=.ok (out++x :: r,k+1+2*r.length)
 | r,x,k,out,h,hc,hw,hd,hl=>by
   obtain ⟨a1,a2,h2⟩:=h
   have e:Xc9 ts k out=.ok x:=by
    unfold Xc9
    rw [Xkv (hw x (by simp)) (by simp at hl;exact decide_eq_false (by omega)) a1 a2]
    simp only [bind,Except.bind]
    have hn:out.contains (tkA ts k).text=false:=by
     rw [a2]
     cases hcn:out.contains x with
     | false=>rfl
     | true=>
       exfalso
       rw [List.nodup_append] at hd
       exact hd.2.2 x (by simpa using hcn) x (by simp) rfl
    rw [hn]
    simp only [Bool.false_eq_true,if_false,a2]
   rw [XbR,e]
   simp only
   cases r with
   | nil=>
     rw [dif_neg (fun hh=>by rw [show k+1=k+1+2*([]:List (List UInt8)).length from rfl,hc] at hh;cases hh.2)]
     rfl
   | cons y r=>
     obtain ⟨b1,b2,h3⟩:=h2
     rw [dif_pos ⟨XlM (by rw [b1];decide),Xqd b1 b2⟩]
     have hlen:k+1+2*(y :: r).length=k+1+1+1+2*r.length:=by simp only [Xvy];omega
     rw [hlen] at hc ⊢
     rw [Xjj r y (k+1+1) (out++[x]) h3 hc (fun q hq=>hw q (by simp at hq ⊢;right;exact hq)) (by simpa using hd) (by simpa using hl)]
     simp
theorem Xhy:∀(r:List (Int × Int)) (x:Int × Int) (k:Nat) (out:List (Int × Int)),At ts k (Xjy x++r.flatMap Xjx)→gIs ts (k+2+3*r.length) [44]=false→(∀y∈x :: r,(y.1=1∨y.1=2∨y.1=3∨y.1=10∨y.1=12∨y.1=15)∧Xg6 y.2)→(out++x :: r).length≤5→XbR (Xdd ts) 2 ts k out=.ok (out++x :: r,k+2+3*r.length)
 | r,x,k,out,h,hc,hw,hl=>by
   obtain ⟨a1,a2,b1,b2,h2⟩:=h
   obtain ⟨hs,hn⟩:=hw x (by simp)
   have hne:XmZ (Xg5 x.1)≠0:=by rw [XlC hs];omega
   have e:Xdd ts k out=.ok x:=by
    unfold Xdd
    have:=Xs7 x.1
    rw [Xd3 a1 a2 (show (Xg5 x.1).length≤8192 by omega)]
    simp only [bind,Except.bind]
    rw [if_neg (by simp at hl;omega),a2,if_neg hne,Xhs hn b1 b2,XlC hs]
   rw [XbR,e]
   simp only
   cases r with
   | nil=>
     rw [dif_neg (fun hh=>by rw [show k+2=k+2+3*([]:List (Int × Int)).length from rfl,hc] at hh;cases hh.2)]
     rfl
   | cons y r=>
     obtain ⟨c1,c2,h3⟩:=h2
     rw [dif_pos ⟨XlM (by rw [show k+2=k+1+1 from rfl,c1];decide),Xqd c1 c2⟩]
     have hlen:k+2+3*(y :: r).length=k+2+1+2+3*r.length:=by simp only [Xvy];omega
     rw [hlen] at hc ⊢
     rw [Xhy r y (k+2+1) (out++[x]) h3 hc (fun q hq=>hw q (by simp at hq ⊢;right;exact hq)) (by simpa using hl)]
     simp
end
open Go.RowKit
structure EF where
 kind:Int
 job:List UInt8
 ok:Bool
 code:Int
 data:List UInt8
 time:Int
 client:Int
 num:Int
def EF.cells (e:EF):List AV:=[.x (.int .i64 e.kind),.x (.string (bs e.job)),.x (.bool e.ok),.x (.int .i64 e.code),.sq e.data.length (u8a e.data),.x (.int .u64 e.time),.x (.int .i64 e.client),.x (.int .i64 e.num)]
def va (l:List EF):List AV:=l.flatMap EF.cells
@[simp] theorem Xvo (l:List EF):(va l).length=l.length*8:=by
 induction l with
 | nil=>rfl
 | cons j l ih=>simp only [va,List.flatMap_cons,XvH,Xvy] at ih ⊢;rw [ih];simp [EF.cells];omega
theorem XjH (l m:List EF):va (l++m)=va l++va m:=by simp [va]
theorem Xtk (l:List EF) (k:Nat) (h:k < l.length):(va l).drop (k*8)=l[k].cells++va (l.drop (k+1)):=by
 induction l generalizing k with
 | nil=>simp at h
 | cons j l ih=>
   cases k with
   | zero=>simp [va]
   | succ k=>
     simp only [va,List.flatMap_cons,List.drop_succ_cons,List.getElem_cons_succ] at ih ⊢
     rw [show (k+1)*8=j.cells.length+k*8 from by simp [EF.cells];omega,←List.drop_drop,List.drop_append_length]
     exact ih k (by simpa using h)
theorem XdH (l:List EF) (k:Nat) (h:k < l.length):(va l).drop (k*8)=.x (.int .i64 l[k].kind) :: .x (.string (bs l[k].job)) :: .x (.bool l[k].ok) :: .x (.int .i64 l[k].code) :: .sq l[k].data.length (u8a l[k].data) :: .x (.int .u64 l[k].time) :: .x (.int .i64 l[k].client) :: .x (.int .i64 l[k].num) :: va (l.drop (k+1)):=Xtk l k h
def Xcg (cur:List UInt8):List UInt8→List (List UInt8)
 | []=>if cur=[] then [] else [cur]
 | c :: r=>if c.toNat=10 then cur :: Xcg [] r else Xcg (cur++[c]) r
def Xb2 (s:List UInt8):List (List UInt8):=Xcg [] s
theorem Xff:∀(l cur:List UInt8),(Xcg cur l).length≤l.length+1
 | [],cur=>by unfold Xcg;split<;>simp
 | c :: r,cur=>by
   unfold Xcg
   split
   ·have:=Xff r [];simp;omega
   ·have:=Xff r (cur++[c]);simp;omega
theorem Xgk:∀(l cur:List UInt8),∀x∈Xcg cur l,x.length≤cur.length+l.length
 | [],cur=>by unfold Xcg;split<;>simp
 | c :: r,cur=>by
   unfold Xcg
   split
   ·intro x hx
    rcases List.mem_cons.1 hx with rfl|hx
    ·omega
    ·have:=Xgk r [] x hx;simp at this ⊢;omega
   ·intro x hx
    have:=Xgk r (cur++[c]) x hx
    simp at this ⊢;omega
def XbA:List (List UInt8):=[[115,112,97,119,110,101,100],[101,120,105,116],[111,117,116,112,117,116],[116,105,99,107],[100,114,97,119],[115,116,97,114,116],[115,116,111,112],[114,101,115,116,97,114,116],[108,111,97,100],[115,104,117,116,100,111,119,110],[111,112,101,110],[98,121,116,101,115],[99,108,111,115,101],[100,114,97,105,110]]
def Xa2:List (List UInt8):=[[78,75],[78,67],[78,68],[84],[84],[78],[78],[78],[68],[],[76],[76,68],[76],[76,77]]
def wOk:List UInt8:=[111,107]
def Xdb:List UInt8:=[102,97,105,108,101,100]
def Xnr (w:List UInt8):Option Nat:=if w∈XbA then some (XbA.idxOf w) else none
def XeS (e:EF) (f:UInt8) (t:Tok):Option EF:=
 if f.toNat=78 then (if t.kind=1 then some { e with job:=t.text } else none)
 else if f.toNat=75 then (if t.kind=1∧(t.text=wOk∨t.text=Xdb) then some { e with ok:=decide (t.text=wOk) } else none)
 else if f.toNat=68 then (if t.kind=3 then some { e with data:=t.text } else none)
 else if t.kind≠2 then none
 else if f.toNat=84 then some { e with time:=Xdm t.text }
 else if 999999999 < Xdm t.text then none
 else if f.toNat=67 then some { e with code:=Xdm t.text }
 else if f.toNat=76 then some { e with client:=Xdm t.text }
 else some { e with num:=Xdm t.text }
def XdA (e:EF):List UInt8→List Tok→Option EF
 | f :: fs,t :: ts=>(XeS e f t).bind fun e=>XdA e fs ts
 | _,_=>some e
def ev0 (k:Int):EF:=⟨k,[],false,0,[],0,0,0⟩
def Xcf (l:List Tok):Option EF:=match l with
 | []=>none
 | t :: r=>if t.kind≠1 then none else match Xnr t.text with
   | none=>none
   | some k=>if r.length≠(Xa2.getD k []).length then none else XdA (ev0 (k+1:Nat)) (Xa2.getD k []) r
def cGo:List (List UInt8)→Nat→List EF→List EF × Nat × Int
 | [],n,out=>(out,n,0)
 | x :: r,n,out=>match lex x with
   | .error _=>([],n,320)
   | .ok ts=>if ts.length≤1 then cGo r (n+1) out else match Xcf ts.dropLast with
     | none=>([],n,320)
     | some e=>if 1000≤out.length then ([],n,1) else cGo r (n+1) (out++[e])
def XcT (s:List UInt8):List EF × Nat × Int:=if 65536 < s.length then ([],0,1) else cGo (Xb2 s) 0 []
def XtC (x:List EF × Nat × Int):AV:=.tup [.sq x.1.length (va x.1),.x (.int .i64 x.2.1),.x (.int .i64 x.2.2)]
end Go.Proofs.YtdpobjakdplljaaGreatDoor

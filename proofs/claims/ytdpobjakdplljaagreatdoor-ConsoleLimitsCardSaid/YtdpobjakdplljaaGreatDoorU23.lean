import Derived.Test.YtdpobjakdplljaaGreatDoorU8
import Derived.Test.YtdpobjakdplljaaGreatDoorU17
import Derived.Test.YtdpobjakdplljaaGreatDoorU7
/- Jobs of tokens: two texts, one behind the other; tokens that are the same but for their places. No program in sight. -/
set_option linter.unusedSimpArgs false
set_option linter.unusedVariables false
set_option maxRecDepth 100000
set_option maxHeartbeats 8000000
namespace Go.Proofs.YtdpobjakdplljaaGreatDoor
open Go.RowKit
structure Ag (ts us:List Tok) (m:Nat):Prop where
 same:∀k,k < m→tkA us k=tkA ts k
 ne:∀k,k < m→(tkA ts k).kind≠6
 fin:(tkA ts m).kind=6
 lt:ts.length=m+1
 lu:m+1 < us.length
 kw:(tkA us m).kind=1
 tw:(tkA us m).text=Xqm
 kn:(tkA us (m+1)).kind=1
 tn:(tkA us (m+1)).text ∉ items
section
variable {α β:Type} {ts us:List Tok} {m k:Nat}
def A3 (x y:Except Flt α) (n m:Nat):Prop:=(∃a,x=.ok a∧y=.ok a∧n≤m)∨((∃f,x=.error f)∧((∃f,y=.error f)∨∃a,y=.ok a∧n=m+1))
def A2 (x y:Except Flt α) (n m:Nat):Prop:=(∃a,x=.ok a∧y=.ok a∧n≤m)∨((∃f,x=.error f)∧∃f,y=.error f)
theorem A2.a3 {x y:Except Flt α} {n m:Nat} (h:A2 x y n m):A3 x y n m:=h.imp (fun h=>h) fun ⟨h1,h2⟩=>⟨h1,.inl h2⟩
theorem A2.bad {x y:Except Flt α} {n m:Nat} {f g:Flt} (hx:x=.error f) (hy:y=.error g):A2 x y n m:=.inr ⟨⟨f,hx⟩,g,hy⟩
theorem A2.of {x y:Except Flt α} {n m:Nat} (h:y=x) (hn:n≤m):A2 x y n m:=by
 subst h
 cases y with
 | error f=>exact .bad rfl rfl
 | ok a=>exact .inl ⟨a,rfl,rfl,hn⟩
theorem A2.bind {x y:Except Flt α} {f g:α→Except Flt β} {n n' m:Nat} (h:A2 x y n m) (hf:∀a,n≤m→A2 (f a) (g a) n' m):A2 (x >>= f) (y >>= g) n' m:=by
 rcases h with ⟨a,rfl,rfl,hn⟩|⟨⟨f1,rfl⟩,f2,rfl⟩
 ·exact hf a hn
 ·exact .bad rfl rfl
theorem A2.map {x y:Except Flt α} {f:α→β} {n m:Nat} (h:A2 x y n m):A2 (x.map f) (y.map f) n m:=by
 rcases h with ⟨a,rfl,rfl,hn⟩|⟨⟨f1,rfl⟩,f2,rfl⟩
 ·exact .inl ⟨_,rfl,rfl,hn⟩
 ·exact .bad rfl rfl
theorem Ag.is (h:Ag ts us m) (hk:k≤m) (s:List UInt8):gIs us k s=gIs ts k s:=by
 unfold gIs
 by_cases h1:k < m
 ·rw [h.same k h1]
 ·obtain rfl:k=m:=by omega
  rw [h.kw,h.fin];rfl
theorem Ag.is_m (h:Ag ts us m) (s:List UInt8):gIs ts m s=false:=by unfold gIs;rw [h.fin];rfl
theorem Ag.is_n (h:Ag ts us m) (s:List UInt8):gIs us (m+1) s=false:=by unfold gIs;rw [h.kn];rfl
theorem Ag.take_m (h:Ag ts us m) {kind:Int} {most:Nat} (hk:kind≠6):∃f,XcC ts m kind most=.error f:=⟨_,by unfold XcC;rw [if_pos (by rw [h.fin];exact fun e=>hk e.symm)]⟩
theorem Ag.take_lt (h:Ag ts us m) {kind:Int} {most:Nat} (hk:k < m):XcC us k kind most=XcC ts k kind most:=by unfold XcC;rw [h.same k hk]
theorem Ag.take (h:Ag ts us m) {kind:Int} {most:Nat} (hk:k≤m) (h1:kind≠1) (h6:kind≠6):A2 (XcC ts k kind most) (XcC us k kind most) (k+1) m:=by
 by_cases hlt:k < m
 ·exact .of (h.take_lt hlt) hlt
 ·obtain rfl:k=m:=by omega
  obtain ⟨f,hf⟩:=h.take_m (most:=most) h6
  exact .bad hf (by unfold XcC;rw [if_pos (by rw [h.kw];exact fun e=>h1 e.symm)])
theorem Ag.num (h:Ag ts us m) (hk:k≤m):A2 (XhR ts k) (XhR us k) (k+1) m:=(h.take hk (by decide) (by decide)).map
theorem Ag.sign (h:Ag ts us m) (hk:k≤m) (s:List UInt8):A2 (Xfw ts k s) (Xfw us k s) (k+1) m:=by
 unfold Xfw
 rw [h.is hk]
 by_cases hlt:k < m
 ·exact .of (by rw [h.same k hlt]) hlt
 ·obtain rfl:k=m:=by omega
  rw [h.is_m];exact .bad rfl rfl
theorem Ag.sign_n (h:Ag ts us m) (s:List UInt8):∃f,Xfw us (m+1) s=.error f:=by
 unfold Xfw;rw [h.is_n];exact ⟨_,rfl⟩
theorem XlF {x:Except Flt α} {g:α→Except Flt β} (h:∀a,∃f,g a=.error f):∃f,(x >>= g)=.error f:=by
 cases x with
 | error f=>exact ⟨f,rfl⟩
 | ok a=>exact h a
theorem Ag.name_lt (h:Ag ts us m) (hk:k < m) (full:Bool):A2 (Xe2 ts k full) (Xe2 us k full) (k+1) m:=by
 unfold Xe2
 rw [h.take_lt hk]
 exact .of rfl hk
theorem Ag.name_m (h:Ag ts us m) (full:Bool):∃f,Xe2 ts m full=.error f:=by
 obtain ⟨f,hf⟩:=h.take_m (kind:=1) (most:=32) (by decide)
 exact ⟨f,by unfold Xe2;rw [hf];rfl⟩
theorem Ag.var (h:Ag ts us m) (hk:k≤m) (env:List (List UInt8 × List UInt8)):A2 (XkK ts k env) (XkK us k env) (k+3) m:=by
 by_cases hlt:k < m
 ·unfold XkK
  refine (h.name_lt hlt _).bind fun t _=>?_
  split
  ·exact .bad rfl rfl
  ·refine (h.sign (by omega) _).bind fun _ h2=>?_
   exact (h.take (by omega) (by decide) (by decide)).bind fun v h3=>.of rfl (by omega)
 ·obtain rfl:k=m:=by omega
  obtain ⟨f,hf⟩:=h.name_m (decide (16≤env.length))
  have e:XkK ts k env=.error f:=by unfold XkK;rw [hf];rfl
  obtain ⟨g,hg⟩:∃g,XkK us k env=.error g:=by
   unfold XkK
   refine XlF fun t=>?_
   split
   ·exact ⟨_,rfl⟩
   ·obtain ⟨g,hg⟩:=h.sign_n [61]
    exact ⟨g,by rw [hg];rfl⟩
  exact .bad e hg
theorem Ag.need (h:Ag ts us m) (hk:k≤m) (out:List (List UInt8)):A3 (Xf5 ts k out) (Xf5 us k out) (k+1) m:=by
 by_cases hlt:k < m
 ·refine A2.a3 ?_
  unfold Xf5
  refine (h.name_lt hlt _).bind fun t _=>.of rfl hlt
 ·obtain rfl:k=m:=by omega
  obtain ⟨f,hf⟩:=h.name_m (decide (16≤out.length))
  refine .inr ⟨⟨f,by unfold Xf5;rw [hf];rfl⟩,?_⟩
  cases hy:Xf5 us k out with
  | error g=>exact .inl ⟨g,rfl⟩
  | ok a=>exact .inr ⟨a,rfl,rfl⟩
theorem Ag.rung (h:Ag ts us m) (hk:k≤m) (out:List (Int × Int)):A3 (Xfv ts k out) (Xfv us k out) (k+2) m:=by
 refine A2.a3 ?_
 by_cases hlt:k < m
 ·unfold Xfv
  rw [h.take_lt hlt]
  refine A2.bind (.of rfl hlt:A2 _ _ (k+1) m) fun t _=>?_
  split
  ·exact .bad rfl rfl
  ·split
   ·exact .bad rfl rfl
   ·exact (h.num (by omega)).bind fun n h3=>.of rfl (by omega)
 ·obtain rfl:k=m:=by omega
  obtain ⟨f,hf⟩:=h.take_m (kind:=1) (most:=8192) (by decide)
  obtain ⟨g,hg⟩:∃g,Xfv us k out=.error g:=by
   unfold Xfv
   have e:XcC us k 1 8192=.ok (tkA us k):=by
    unfold XcC
    rw [if_neg (fun hn=>hn h.kw),h.tw,if_neg (by decide)]
   rw [e]
   simp only [bind,Except.bind]
   split
   ·exact ⟨_,rfl⟩
   ·rw [if_pos (by rw [h.tw];decide)];exact ⟨_,rfl⟩
  exact .bad (by unfold Xfv;rw [hf];rfl) hg
theorem Ag.list (h:Ag ts us m) {ex ey:Nat→List α→Except Flt α} {st:Nat} (hst:1≤st) (he:∀k,k≤m→∀out,A3 (ex k out) (ey k out) (k+st) m):∀(q k:Nat) (out:List α),m - k≤q→k≤m →
  (∃v k',Xda ex st ts k out=.ok (v,k')∧Xda ey st us k out=.ok (v,k')∧k≤k'∧k'≤m)∨((∃f,Xda ex st ts k out=.error f)∧((∃f,Xda ey st us k out=.error f)∨∃v,Xda ey st us k out=.ok (v,m+1)))
 | q,k,out,hq,hk=>by
   rcases he k hk out with ⟨a,hx,hy,hn⟩|⟨⟨f,hx⟩,⟨g,hy⟩|⟨a,hy,hn⟩⟩
   ·rw [Xda,Xda,hx,hy]
    simp only
    rw [h.is hn,h.lt]
    have hlu:=h.lu
    by_cases hc:gIs ts (k+st) [44]=true
    ·have hne:k+st≠m:=fun e=>by rw [e,h.is_m] at hc;cases hc
     rw [dif_pos ⟨by omega,hc⟩,dif_pos ⟨by omega,hc⟩]
     cases q with
     | zero=>omega
     | succ q=>
       rcases Ag.list h hst he q (k+st+1) (out++[a]) (by omega) (by omega) with ⟨v,k',h1,h2,h3,h4⟩|h1
       ·exact .inl ⟨v,k',h1,h2,by omega,h4⟩
       ·exact .inr h1
    ·rw [dif_neg (fun e=>hc e.2),dif_neg (fun e=>hc e.2)]
     exact .inl ⟨_,_,rfl,rfl,by omega,hn⟩
   ·rw [Xda,Xda,hx,hy]
    exact .inr ⟨⟨_,rfl⟩,.inl ⟨_,rfl⟩⟩
   ·rw [Xda,Xda,hx,hy]
    simp only
    rw [hn,dif_neg (fun e=>by rw [h.is_n] at e;cases e.2)]
    exact .inr ⟨⟨_,rfl⟩,.inr ⟨_,rfl⟩⟩
theorem Ag.pol (h:Ag ts us m) (hk:k≤m):A2 (Xlv ts k) (Xlv us k) (k+1) m:=by
 by_cases hlt:k < m
 ·unfold Xlv
  rw [h.take_lt hlt]
  exact .of rfl hlt
 ·obtain rfl:k=m:=by omega
  obtain ⟨f,hf⟩:=h.take_m (kind:=1) (most:=8192) (by decide)
  obtain ⟨g,hg⟩:∃g,Xlv us k=.error g:=by
   unfold Xlv
   have e:XcC us k 1 8192=.ok (tkA us k):=by
    unfold XcC
    rw [if_neg (fun hn=>hn h.kw),h.tw,if_neg (by decide)]
   rw [e]
   simp only [bind,Except.bind]
   rw [h.tw,if_neg (by decide),if_neg (by decide),if_neg (by decide)]
   exact ⟨_,rfl⟩
  exact .bad (by unfold Xlv;rw [hf];rfl) hg
def AI (x y:Except Flt (JF × Nat)) (k m:Nat):Prop:=(∃j k',x=.ok (j,k')∧y=.ok (j,k')∧k≤k'∧k'≤m)∨((∃f,x=.error f)∧((∃f,y=.error f)∨∃j,y=.ok (j,m+1)))
theorem AI.of {x y:Except Flt α} {k d m:Nat} {f:α→JF} (h:A2 x y (k+d) m):AI (x.map fun t=>(f t,k+d)) (y.map fun t=>(f t,k+d)) k m:=by
 rcases h with ⟨a,rfl,rfl,hn⟩|⟨⟨f1,rfl⟩,f2,rfl⟩
 ·exact .inl ⟨_,_,rfl,rfl,by omega,hn⟩
 ·exact .inr ⟨⟨_,rfl⟩,.inl ⟨_,rfl⟩⟩
theorem AI.of2 {x y:Except Flt (JF × Nat)} {k d m:Nat} (h:A2 x y (k+d) m) (hx:∀a,x=.ok a→a.2=k+d):AI x y k m:=by
 rcases h with ⟨a,rfl,rfl,hn⟩|⟨⟨f1,rfl⟩,f2,rfl⟩
 ·exact .inl ⟨a.1,a.2,rfl,rfl,by rw [hx a rfl];omega,by rw [hx a rfl];exact hn⟩
 ·exact .inr ⟨⟨_,rfl⟩,.inl ⟨_,rfl⟩⟩
theorem AI.list {x y:Except Flt (α × Nat)} {k m:Nat} {f:α→JF} (h:(∃v k',x=.ok (v,k')∧y=.ok (v,k')∧k≤k'∧k'≤m)∨((∃f,x=.error f)∧((∃f,y=.error f)∨∃v,y=.ok (v,m+1)))):AI (x.map fun t=>(f t.1,t.2)) (y.map fun t=>(f t.1,t.2)) k m:=by
 rcases h with ⟨v,k',rfl,rfl,h1,h2⟩|⟨⟨f,rfl⟩,⟨g,rfl⟩|⟨v,rfl⟩⟩
 ·exact .inl ⟨_,_,rfl,rfl,h1,h2⟩
 ·exact .inr ⟨⟨_,rfl⟩,.inl ⟨_,rfl⟩⟩
 ·exact .inr ⟨⟨_,rfl⟩,.inr ⟨_,rfl⟩⟩
theorem Ag.item (h:Ag ts us m) (hk:k≤m) (w:List UInt8) (j:JF):AI (Xfu ts k w j) (Xfu us k w j) k m:=by
 unfold Xfu
 split
 ·exact AI.of (h.take hk (by decide) (by decide))
 split
 ·exact AI.of (h.var hk _)
 split
 ·exact AI.list (f:=fun v=>{ j with needs:=v }) (h.list (by decide) (fun k hk out=>h.need hk out) (m - k) k [] (Nat.le_refl _) hk)
 split
 ·exact AI.of (h.take hk (by decide) (by decide))
 split
 ·exact AI.of (h.pol hk)
 split
 ·refine AI.of2 (d:=3) ((h.num hk).bind fun a h1=>(h.num h1).bind fun b h2=>(h.num h2).bind fun c h3=>.of rfl h3) fun a ha=>?_
  cases h1:XhR ts k with
  | error f=>rw [h1] at ha;cases ha
  | ok a1=>
    cases h2:XhR ts (k+1) with
    | error f=>rw [h1] at ha;simp only [bind,Except.bind,h2] at ha;cases ha
    | ok a2=>
      cases h3:XhR ts (k+2) with
      | error f=>rw [h1] at ha;simp only [bind,Except.bind,h2,h3] at ha;cases ha
      | ok a3=>rw [h1] at ha;simp only [bind,Except.bind,h2,h3] at ha;cases ha;rfl
 split
 ·by_cases hlt:k < m
  ·refine AI.of2 (d:=2) ((h.num hk).bind fun a h1=>?_) fun a ha=>?_
   ·rw [h.same k hlt]
    split
    ·exact .bad rfl rfl
    ·exact (h.num h1).bind fun b h2=>.of rfl h2
   ·cases h1:XhR ts k with
    | error f=>rw [h1] at ha;cases ha
    | ok a1=>
      rw [h1] at ha
      simp only [bind,Except.bind] at ha
      split at ha
      ·cases ha
      ·cases h2:XhR ts (k+1) with
       | error f=>rw [h2] at ha;cases ha
       | ok a2=>rw [h2] at ha;cases ha;rfl
  ·obtain rfl:k=m:=by omega
   rcases h.num hk with ⟨a,-,-,hn⟩|⟨⟨f,hf⟩,g,hg⟩
   ·omega
   ·exact .inr ⟨⟨f,by rw [hf];rfl⟩,.inl ⟨g,by rw [hg];rfl⟩⟩
 ·exact AI.list (f:=fun v=>{ j with ladder:=v }) (h.list (by decide) (fun k hk out=>h.rung hk out) (m - k) k [] (Nat.le_refl _) hk)
def AJ (x y:Except Flt (JF × Nat)) (k m:Nat):Prop:=(∃j k',x=.ok (j,k')∧y=.ok (j,k')∧k < k'∧k'≤m)∨((∃f,x=.error f)∧∃f,y=.error f)
theorem Ag.items (h:Ag ts us m) (name:Tok):∀(q k:Nat) (seen:List (List UInt8)) (j:JF),m - k≤q→k≤m→AJ (XcY ts name k seen j) (XcY us name k seen j) k m
 | q,k,seen,j,hq,hk=>by
   by_cases hlt:k < m
   ·rw [XcY,XcY,h.is hk,h.same k hlt]
    split
    ·split
     ·exact .inl ⟨_,_,rfl,rfl,Nat.lt_succ_self k,hlt⟩
     ·exact .inr ⟨⟨_,rfl⟩,_,rfl⟩
    split
    ·exact .inr ⟨⟨_,rfl⟩,_,rfl⟩
    split
    ·exact .inr ⟨⟨_,rfl⟩,_,rfl⟩
    have hl:=h.lt
    have hu:=h.lu
    rcases h.item (show k+1≤m from hlt) (tkA ts k).text j with ⟨j',k',h1,h2,h3,h4⟩|⟨⟨f,h1⟩,⟨g,h2⟩|⟨j',h2⟩⟩
    ·rw [h1,h2]
     simp only
     rw [dif_pos ⟨by omega,by omega⟩,dif_pos ⟨by omega,by omega⟩]
     cases q with
     | zero=>omega
     | succ q=>
       rcases Ag.items h name q k' (if (tkA ts k).text=Xpv then seen else seen++[(tkA ts k).text]) j' (by omega) h4 with ⟨j2,k2,g1,g2,g3,g4⟩|g1
       ·exact .inl ⟨j2,k2,g1,g2,by omega,g4⟩
       ·exact .inr g1
    ·rw [h1,h2]
     exact .inr ⟨⟨_,rfl⟩,_,rfl⟩
    ·rw [h1,h2]
     refine .inr ⟨⟨_,rfl⟩,?_⟩
     simp only
     rw [dif_pos ⟨by omega,by omega⟩,XcY,if_neg (by rw [h.is_n];decide),if_pos (.inr (by rw [List.contains_iff_mem];exact h.tn))]
     exact ⟨_,rfl⟩
   ·obtain rfl:k=m:=by omega
    exact .inr ⟨⟨_,by rw [XcY,if_neg (by rw [h.is_m];decide),if_pos (.inl (by rw [h.fin];decide))]⟩,_,by rw [XcY,if_neg (by rw [h.is (Nat.le_refl _),h.is_m];decide),if_pos (.inr (by rw [h.tw];decide))]⟩
theorem Ag.job (h:Ag ts us m) (hk:k < m) (full:Bool):AJ (XoH ts k full) (XoH us k full) k m:=by
 unfold XoH
 rw [h.take_lt hk]
 cases XcC ts k 1 8192 with
 | error f=>exact .inr ⟨⟨_,rfl⟩,_,rfl⟩
 | ok w=>
   simp only [bind,Except.bind]
   split
   ·exact .inr ⟨⟨_,rfl⟩,_,rfl⟩
   ·by_cases h1:k+1 < m
    ·rcases h.name_lt h1 full with ⟨t,hx,hy,hn⟩|⟨⟨f,hx⟩,g,hy⟩
     ·rw [hx,hy]
      simp only
      rcases h.sign (show k+2≤m from h1) [123] with ⟨u,hx2,hy2,hn2⟩|⟨⟨f,hx2⟩,g,hy2⟩
      ·rw [hx2,hy2]
       rcases h.items t (m - (k+3)) (k+3) [] (XpS t) (Nat.le_refl _) hn2 with ⟨j2,k2,g1,g2,g3,g4⟩|g1
       ·exact .inl ⟨j2,k2,g1,g2,by omega,g4⟩
       ·exact .inr g1
      ·rw [hx2,hy2];exact .inr ⟨⟨_,rfl⟩,_,rfl⟩
     ·rw [hx,hy];exact .inr ⟨⟨_,rfl⟩,_,rfl⟩
    ·have e:k+1=m:=by omega
     subst e
     obtain ⟨f,hf⟩:=h.name_m full
     rw [hf]
     refine .inr ⟨⟨_,rfl⟩,?_⟩
     obtain ⟨g,hg⟩:=h.sign_n [123]
     rw [show k+2=k+1+1 from rfl,hg]
     cases Xe2 us (k+1) full with
     | error f=>exact ⟨_,rfl⟩
     | ok t=>exact ⟨_,rfl⟩
structure Sh (ts us:List Tok) (d:Nat):Prop where
 kind:∀k,(tkA us (k+d)).kind=(tkA ts k).kind
 text:∀k,(tkA us (k+d)).text=(tkA ts k).text
 len:us.length=ts.length+d
def RE (R:α→β→Prop):Except Flt α→Except Flt β→Prop
 | .error f,.error g=>f.code=g.code
 | .ok a,.ok b=>R a b
 | _,_=>False
theorem RE.bind {α' β':Type} {R:α→β→Prop} {S:α'→β'→Prop} {x:Except Flt α} {y:Except Flt β} {f:α→Except Flt α'} {g:β→Except Flt β'} (h:RE R x y) (hf:∀a b,R a b→RE S (f a) (g b)):RE S (x >>= f) (y >>= g):=by
 cases x with
 | error e=>cases y with
   | error e'=>exact h
   | ok b=>exact h.elim
 | ok a=>cases y with
   | error e'=>exact h.elim
   | ok b=>exact hf a b h
theorem RE.map {α' β':Type} {R:α→β→Prop} {S:α'→β'→Prop} {x:Except Flt α} {y:Except Flt β} {f:α→α'} {g:β→β'} (h:RE R x y) (hf:∀a b,R a b→S (f a) (g b)):RE S (x.map f) (y.map g):=by
 cases x with
 | error e=>cases y with
   | error e'=>exact h
   | ok b=>exact h.elim
 | ok a=>cases y with
   | error e'=>exact h.elim
   | ok b=>exact hf a b h
def Xqa (t u:Tok):Prop:=u.kind=t.kind∧u.text=t.text
variable {d:Nat}
theorem Sh.is (h:Sh ts us d) (k:Nat) (s:List UInt8):gIs us (k+d) s=gIs ts k s:=by unfold gIs;rw [h.kind,h.text]
theorem Sh.take (h:Sh ts us d) (k:Nat) (kind:Int) (most:Nat):RE Xqa (XcC ts k kind most) (XcC us (k+d) kind most):=by
 unfold XcC
 rw [h.kind,h.text]
 split
 ·rfl
 ·split
  ·rfl
  ·exact ⟨h.kind k,h.text k⟩
theorem Sh.num (h:Sh ts us d) (k:Nat):RE Eq (XhR ts k) (XhR us (k+d)):=(h.take k 2 8192).map fun t u e=>by rw [e.2]
theorem Sh.sign (h:Sh ts us d) (k:Nat) (s:List UInt8):RE Eq (Xfw ts k s) (Xfw us (k+d) s):=by
 unfold Xfw
 rw [h.is]
 split<;>rfl
theorem Sh.name (h:Sh ts us d) (k:Nat) (full:Bool):RE Xqa (Xe2 ts k full) (Xe2 us (k+d) full):=
 (h.take k 1 32).bind fun t u e=>by
  cases full with
  | true=>exact rfl
  | false=>exact e
theorem Sh.at (h:Sh ts us d) (k i:Nat):k+d+i=k+i+d:=by omega
theorem Sh.var (h:Sh ts us d) (k:Nat) (env:List (List UInt8 × List UInt8)):RE Eq (XkK ts k env) (XkK us (k+d) env):=by
 unfold XkK
 rw [h.at,h.at]
 refine (h.name k _).bind fun t u e=>?_
 rw [e.2]
 split
 ·rfl
 ·refine (h.sign _ _).bind fun _ _ _=>?_
  refine (h.take _ _ _).bind fun v v' e'=>?_
  rw [e'.2];rfl
theorem Sh.need (h:Sh ts us d) (k:Nat) (out:List (List UInt8)):RE Eq (Xf5 ts k out) (Xf5 us (k+d) out):=by
 unfold Xf5
 refine (h.name k _).bind fun t u e=>?_
 rw [e.2]
 split<;>rfl
theorem Sh.rung (h:Sh ts us d) (k:Nat) (out:List (Int × Int)):RE Eq (Xfv ts k out) (Xfv us (k+d) out):=by
 unfold Xfv
 rw [h.at]
 refine (h.take k _ _).bind fun t u e=>?_
 rw [e.2]
 split
 ·rfl
 ·split
  ·rfl
  ·exact (h.num _).bind fun a b e'=>by rw [e'];rfl
def RP (d:Nat) (x:α × Nat) (y:α × Nat):Prop:=y.1=x.1∧y.2=x.2+d
theorem Sh.list (h:Sh ts us d) {ex ey:Nat→List α→Except Flt α} {st:Nat} (he:∀k out,RE Eq (ex k out) (ey (k+d) out)):∀(q k:Nat) (out:List α),ts.length - k≤q→RE (RP d) (Xda ex st ts k out) (Xda ey st us (k+d) out)
 | q,k,out,hq=>by
   have hk:=he k out
   rw [Xda,Xda]
   cases hx:ex k out with
   | error f=>cases hy:ey (k+d) out with
     | error g=>rw [hx,hy] at hk;exact hk
     | ok b=>rw [hx,hy] at hk;exact hk.elim
   | ok a=>cases hy:ey (k+d) out with
     | error g=>rw [hx,hy] at hk;exact hk.elim
     | ok b=>
       rw [hx,hy] at hk
       obtain rfl:a=b:=hk
       simp only
       rw [h.at,h.is,h.len]
       by_cases hc:k+st < ts.length∧gIs ts (k+st) [44]=true
       ·rw [dif_pos hc,dif_pos ⟨by omega,hc.2⟩,h.at]
        cases q with
        | zero=>omega
        | succ q=>exact Sh.list h he q (k+st+1) _ (by omega)
       ·rw [dif_neg hc,dif_neg (fun e=>hc ⟨by omega,e.2⟩)]
        exact ⟨rfl,rfl⟩
theorem Sh.pol (h:Sh ts us d) (k:Nat):RE Eq (Xlv ts k) (Xlv us (k+d)):=by
 unfold Xlv
 refine (h.take k _ _).bind fun t u e=>?_
 rw [e.2]
 repeat' (first|split|rfl|fail)
def RJ (j j':JF):Prop:=∃l c,j'={ j with line:=l,col:=c }
theorem RJ.refl (j:JF):RJ j j:=⟨j.line,j.col,rfl⟩
def RQ (d:Nat) (x y:JF × Nat):Prop:=RJ x.1 y.1∧y.2=x.2+d
theorem Sh.item (h:Sh ts us d) (k:Nat) (w:List UInt8) {j j':JF} (hj:RJ j j'):RE (RQ d) (Xfu ts k w j) (Xfu us (k+d) w j'):=by
 obtain ⟨l,c,rfl⟩:=hj
 unfold Xfu
 simp only [h.at]
 split
 ·exact (h.take k _ _).map fun t u e=>⟨⟨l,c,by rw [e.2]⟩,rfl⟩
 split
 ·exact (h.var k _).map fun t u e=>⟨⟨l,c,by rw [e]⟩,rfl⟩
 split
 ·exact (h.list (fun k out=>h.need k out) _ k [] (Nat.le_refl _)).map fun t u e=>⟨⟨l,c,by rw [e.1]⟩,e.2⟩
 split
 ·exact (h.take k _ _).map fun t u e=>⟨⟨l,c,by rw [e.2]⟩,rfl⟩
 split
 ·exact (h.pol k).map fun t u e=>⟨⟨l,c,by rw [e]⟩,rfl⟩
 split
 ·exact (h.num k).bind fun a a' e1=>(h.num _).bind fun b b' e2=>(h.num _).bind fun x x' e3=>⟨⟨l,c,by rw [e1,e2,e3]⟩,rfl⟩
 split
 ·refine (h.num k).bind fun a a' e1=>?_
  rw [e1]
  split
  ·exact rfl
  ·exact (h.num _).bind fun b b' e2=>⟨⟨l,c,by rw [e2]⟩,rfl⟩
 ·exact (h.list (fun k out=>h.rung k out) _ k [] (Nat.le_refl _)).map fun t u e=>⟨⟨l,c,by rw [e.1]⟩,e.2⟩
theorem Sh.items (h:Sh ts us d) (name name':Tok):∀(q k:Nat) (seen:List (List UInt8)) (j j':JF),ts.length - k≤q→RJ j j'→RE (RQ d) (XcY ts name k seen j) (XcY us name' (k+d) seen j')
 | q,k,seen,j,j',hq,hj=>by
   rw [XcY,XcY,h.is,h.kind,h.text]
   split
   ·split
    ·exact ⟨hj,by simp only;omega⟩
    ·exact rfl
   split
   ·exact rfl
   split
   ·exact rfl
   have hi:=h.item (k+1) (tkA ts k).text hj
   rw [←h.at] at hi
   cases hx:Xfu ts (k+1) (tkA ts k).text j with
   | error f=>cases hy:Xfu us (k+d+1) (tkA ts k).text j' with
     | error g=>rw [hx,hy] at hi;exact hi
     | ok b=>rw [hx,hy] at hi;exact hi.elim
   | ok a=>cases hy:Xfu us (k+d+1) (tkA ts k).text j' with
     | error g=>rw [hx,hy] at hi;exact hi.elim
     | ok b=>
       rw [hx,hy] at hi
       obtain ⟨h1,h2⟩:=hi
       simp only
       rw [h.len]
       by_cases hc:k < a.2∧k < ts.length
       ·rw [dif_pos hc,dif_pos ⟨by omega,by omega⟩,h2]
        cases q with
        | zero=>omega
        | succ q=>exact Sh.items h name name' q a.2 _ a.1 b.1 (by omega) h1
       ·rw [dif_neg hc,dif_neg (by omega)]
        exact rfl
theorem Sh.job (h:Sh ts us d) (k:Nat) (full:Bool):RE (RQ d) (XoH ts k full) (XoH us (k+d) full):=by
 unfold XoH
 simp only [h.at]
 refine (h.take k _ _).bind fun t u e=>?_
 rw [e.2]
 split
 ·exact rfl
 ·refine (h.name _ _).bind fun t u e=>?_
  refine (h.sign _ _).bind fun _ _ _=>?_
  refine h.items t u _ _ _ _ _ (Nat.le_refl _) ⟨u.line,u.col,?_⟩
  simp only [XpS,e.2]
def RL:List JF→List JF→Prop
 | [],[]=>True
 | a :: l,b :: m=>RJ a b∧RL l m
 | _,_=>False
theorem RL.refl:∀l:List JF,RL l l
 | []=>trivial
 | a :: l=>⟨RJ.refl a,RL.refl l⟩
theorem RL.len:∀{l m:List JF},RL l m→m.length=l.length
 | [],[],_=>rfl
 | a :: l,b :: m,h=>by simp [RL.len h.2]
 | [],b :: m,h=>h.elim
 | a :: l,[],h=>h.elim
theorem RL.app:∀{l m l' m':List JF},RL l m→RL l' m'→RL (l++l') (m++m')
 | [],[],_,_,_,h=>h
 | a :: l,b :: m,_,_,h,h'=>⟨h.1,RL.app h.2 h'⟩
 | [],b :: m,_,_,h,_=>h.elim
 | a :: l,[],_,_,h,_=>h.elim
end
open Go.RowKit
section
variable (t:List UInt8)
end
theorem XkS (y x:List UInt8) (p:Nat × Nat) (n:Nat) (h:skp (y++x)=y.length+skp x):Xb1 p n (y++x)=Xb1 (plc p y) n x:=by
 have hdr:(y++x).drop (skp (y++x))=x.drop (skp x):=by
  rw [h,List.drop_append,List.drop_eq_nil_of_le (by omega),XqF];congr 1;omega
 have hpl:∀k,plc p ((y++x).take (skp (y++x)+k))=plc (plc p y) (x.take (skp x+k)):=fun k=>by
  rw [←XeF,h,List.take_append,List.take_of_length_le (by omega)];congr 2;congr 1;omega
 have hp0:=hpl 0
 simp only [Nat.add_zero] at hp0
 cases ht:x.drop (skp x) with
 | nil=>rw [XcI _ _ _ (hdr.trans ht),XcI _ _ _ ht,←XeF]
 | cons c r=>
   cases h1:one (c :: r) with
   | error e=>rw [XcZ _ _ _ c r e (hdr.trans ht) h1,XcZ _ _ _ c r e ht h1,hp0]
   | ok z=>
     by_cases hn:2000≤n
     ·rw [XcD _ _ _ c r z (hdr.trans ht) h1 hn,XcD _ _ _ c r z ht h1 hn,hp0]
     ·obtain ⟨a,b,q⟩:=z
      have g:=Xen h1
      rw [XcJ _ _ _ c r a b q (hdr.trans ht) h1 g.1 (by omega),XcJ _ _ _ c r a b q ht h1 g.1 (by omega),hpl,hp0]
def PL (a b:Nat × Nat):Prop:=a.1 < b.1∨a.1=b.1∧a.2 < b.2
theorem PL.tr {a b c:Nat × Nat} (h:PL a b) (k:PL b c):PL a c:=by unfold PL at *;omega
def Asc (q:Nat × Nat):List Tok→Prop
 | []=>True
 | t :: ts=>PL q (t.line,t.col)∧Asc (t.line,t.col) ts
theorem Asc.get:∀{ts:List Tok} {q:Nat × Nat},Asc q ts→∀(k:Nat) (h:k+1 < ts.length),PL (ts[k].line,ts[k].col) (ts[k+1].line,ts[k+1].col)
 | [],_,_,k,h=>by simp at h
 | [t],_,_,k,h=>by simp at h
 | t :: u :: ts,q,hA,0,h=>hA.2.1
 | t :: u :: ts,q,hA,k+1,h=>Asc.get hA.2 k (by simpa using h)
def TR (d:Nat) (c:Bool) (x y:Tok):Prop:=y.kind=x.kind∧y.text=x.text∧y.line=x.line+d∧(c=true→y.col=x.col)
def TRs (d:Nat) (c:Bool):List Tok→List Tok→Prop
 | [],[]=>True
 | x :: xs,y :: ys=>TR d c x y∧TRs d c xs ys
 | _,_=>False
theorem TRs.len {d:Nat} {c:Bool}:∀{xs ys:List Tok},TRs d c xs ys→ys.length=xs.length
 | [],[],_=>rfl
 | x :: xs,y :: ys,h=>by simp [TRs.len h.2]
 | [],y :: ys,h=>h.elim
 | x :: xs,[],h=>h.elim
theorem TRs.get {d:Nat} {c:Bool}:∀{xs ys:List Tok},TRs d c xs ys→∀(k:Nat) (h1:k < xs.length) (h2:k < ys.length),TR d c xs[k] ys[k]
 | [],[],_,k,h1,_=>by simp at h1
 | x :: xs,y :: ys,h,0,_,_=>h.1
 | x :: xs,y :: ys,h,k+1,h1,h2=>TRs.get h.2 k (by simpa using h1) (by simpa using h2)
 | [],y :: ys,h,_,_,_=>h.elim
 | x :: xs,[],h,_,_,_=>h.elim
open Go.RowKit
theorem Xix:∀i:Nat,i < 16→Xfm (Xfl.getD i 0)=some i:=by decide
theorem Xmr (b:UInt8) (r:List UInt8):∃c t,Xdv b=c :: t∧c.toNat≠34∧part (c :: (t++r))=some (b,(Xdv b).length):=by
 have hb:=UInt8.toNat_lt b
 unfold Xdv
 split
 ·rename_i h
  refine ⟨92,[b],rfl,by decide,?_⟩
  rw [XbM,if_neg (by decide),if_neg (by decide)]
  show Option.map _ (XdA (b :: r))=_
  rw [XeZ b r h];rfl
 ·split
  ·rename_i h
   refine ⟨92,[110],rfl,by decide,?_⟩
   rw [XbM,if_neg (by decide),if_neg (by decide)]
   show Option.map _ (XdA (110 :: r))=_
   rw [XkA 110 r (by decide),show b=10 from UInt8.toNat_inj.1 (by rw [h];rfl)];rfl
  ·split
   ·rename_i h
    refine ⟨92,[116],rfl,by decide,?_⟩
    rw [XbM,if_neg (by decide),if_neg (by decide)]
    show Option.map _ (XdA (116 :: r))=_
    rw [XkC 116 r (by decide),show b=9 from UInt8.toNat_inj.1 (by rw [h];rfl)];rfl
   ·split
    ·refine ⟨92,[120,Xfl.getD (b.toNat / 16) 0,Xfl.getD (b.toNat % 16) 0],rfl,by decide,?_⟩
     rw [XbM,if_neg (by decide),if_neg (by decide)]
     show Option.map _ (XdA (120 :: Xfl.getD (b.toNat / 16) 0 :: Xfl.getD (b.toNat % 16) 0 :: r))=_
     rw [Xe0 120 _ _ r (by decide),Xix _ (by omega),Xix _ (by omega)]
     simp only [Option.bind_some,Option.map_some,Xqy,XqB]
     rw [show 16*(b.toNat / 16)+b.toNat % 16=b.toNat from by omega,UInt8.ofNat_toNat]
    ·refine ⟨b,[],rfl,by omega,?_⟩
     rw [XbM,if_neg (by omega),if_pos (by omega)];rfl
theorem XiJ (t:List UInt8):∀s:List UInt8,quo (s.flatMap Xdv++34 :: t)=some (s,(s.flatMap Xdv).length+1)
 | []=>by rw [List.flatMap_nil,XqF,Xfb 34 t (by decide)];rfl
 | b :: s=>by
   obtain ⟨c,u,he,h34,hp⟩:=Xmr b (s.flatMap Xdv++34 :: t)
   have hl:(Xdv b).length=u.length+1:=by rw [he];rfl
   rw [List.flatMap_cons,List.append_assoc,he,XqG,Xdq c _ b _ h34 hp,hl,List.drop_succ_cons,List.drop_left,XiJ t s]
   simp only [Option.map_some,XqH,Xqy]
   congr 2<;>omega
def kts (ts:List Tok):List (Int × List UInt8):=ts.map fun t=>(t.kind,t.text)
def Xa9 (C:List UInt8→Prop) (l:List UInt8) (ks:List (Int × List UInt8)):Prop:=
 ∀(p:Nat × Nat) (n:Nat) (t:List UInt8),C t→n+ks.length≤2000→∃ts:List Tok,kts ts=ks∧Xb1 p n (l++t)=(Xb1 (plc p l) (n+ks.length) t).map (ts++·)
def Any (_:List UInt8):Prop:=True
def Brk:List UInt8→Prop
 | []=>True
 | c :: _=>Xb6 c=false
theorem map_map {α β γ:Type} (x:Except Flt α) (f:α→β) (g:β→γ):(x.map f).map g=x.map fun a=>g (f a):=by cases x<;>rfl
theorem Xa9.app {C D:List UInt8→Prop} {a b:List UInt8} {ks ms:List (Int × List UInt8)} (ha:Xa9 C a ks) (hb:Xa9 D b ms) (h:∀t,D t→C (b++t)):Xa9 D (a++b) (ks++ms):=by
 intro p n t ht hn
 rw [XqH] at hn
 obtain ⟨ts,h1,h2⟩:=ha p n (b++t) (h t ht) (by omega)
 obtain ⟨us,h3,h4⟩:=hb (plc p a) (n+ks.length) t ht (by omega)
 refine ⟨ts++us,by simp [kts] at *;rw [h1,h3],?_⟩
 rw [List.append_assoc,h2,h4,map_map,XeF,XqH,Nat.add_assoc]
 simp only [List.append_assoc]
theorem Xa9.then {D:List UInt8→Prop} {a b:List UInt8} {ks ms:List (Int × List UInt8)} (ha:Xa9 Any a ks) (hb:Xa9 D b ms):Xa9 D (a++b) (ks++ms):=ha.app hb fun _ _=>trivial
theorem Xa9.brk {D:List UInt8→Prop} {a r:List UInt8} {c:UInt8} {ks ms:List (Int × List UInt8)} (ha:Xa9 Brk a ks) (hc:Xb6 c=false) (hb:Xa9 D (c :: r) ms):Xa9 D (a++c :: r) (ks++ms):=ha.app hb fun _ _=>hc
theorem Xa9.nil:Xa9 Any [] []:=fun p n t _ _=>⟨[],rfl,by simp only [XqF,XqB,Nat.add_zero,plc];exact (Xc5 _ _ fun a=>rfl).symm⟩
theorem Xa9.blank {c:UInt8} (h:c.toNat=32∨c.toNat=9∨c.toNat=10∨c.toNat=13):Xa9 Any [c] []:=fun p n t _ _=>⟨[],rfl,by
 rw [XkS [c] t p n (by show skp (c :: t)=_;rw [Xd2 c t h];simp;omega)]
 simp only [XqB,Nat.add_zero,XqF]
 exact (Xc5 _ _ fun a=>rfl).symm⟩
theorem Xa9.tok {C:List UInt8→Prop} {c:UInt8} {r s:List UInt8} {k:Int} (hb:¬(c.toNat=32∨c.toNat=9∨c.toNat=10∨c.toNat=13)) (h35:c.toNat≠35) (h:∀t,C t→one (c :: r++t)=.ok (k,s,r.length+1)):Xa9 C (c :: r) [(k,s)]:=fun p n t ht hn=>by
 simp only [Xqy,XqB] at hn
 have h0:skp (c :: r++t)=0:=XiO _ _ hb h35
 refine ⟨[⟨k,s,(plc p []).1,(plc p []).2⟩],rfl,?_⟩
 rw [XcJ p n (c :: r++t) c (r++t) k s (r.length+1) (by rw [h0];rfl) (h t ht) (by omega) (by omega),h0]
 have e1:(c :: (r++t)).drop (r.length+1)=t:=by rw [List.drop_succ_cons,List.drop_left]
 have e2:(c :: r++t).take (0+(r.length+1))=c :: r:=by rw [Nat.zero_add];exact List.take_left' rfl
 rw [e1,e2]
 rfl
theorem Xa9.sign {c:UInt8} (h:c.toNat=123∨c.toNat=125∨c.toNat=44∨c.toNat=61):Xa9 Any [c] [(5,[c])]:=by
 refine Xa9.tok (by omega) (by omega) fun t _=>?_
 have h1:XbS c=false:=by simp only [XbS,decide_eq_false_iff_not];omega
 have h2:Xa0 c=false:=by simp only [Xa0,decide_eq_false_iff_not];omega
 simp only [XqG,XqF,one,h1,h2,Bool.false_eq_true,if_false]
 rw [if_neg (by omega),if_neg (by omega),if_pos h];rfl
theorem Xid {p:UInt8→Bool} {t:List UInt8} (ht:∀c r,t=c :: r→p c=false):∀l:List UInt8,(∀b∈l,p b=true)→spn p (l++t)=l.length
 | [],_=>by
   cases t with
   | nil=>rfl
   | cons c r=>rw [XqF,XiP p c r (ht c r rfl)];rfl
 | c :: l,h=>by rw [XqG,XdG p c _ (h c (by simp)),Xid ht l fun b hb=>h b (by simp [hb])];rfl
def Xdz:List UInt8→Prop
 | []=>False
 | c :: r=>XbS c=true∧∀b∈r,Xb6 b=true
def Xnd:List UInt8→Prop
 | []=>False
 | c :: r=>Xa0 c=true∧(∀b∈r,Xa0 b=true)∧r.length < 18∧(r≠[]→c.toNat≠48)
theorem Xe3 {b:UInt8} (h:Xa0 b=true):Xb6 b=true:=by simp [Xb6,h]
theorem Xa9.word {w:List UInt8} (h:Xdz w):Xa9 Brk w [(1,w)]:=by
 cases w with
 | nil=>exact h.elim
 | cons c r=>
   obtain ⟨h1,h2⟩:=h
   have hl:=h1
   simp only [XbS,decide_eq_true_eq] at hl
   refine Xa9.tok (by omega) (by omega) fun t ht=>?_
   have hs:spn Xb6 (c :: (r++t))=r.length+1:=by
    have:=Xid (p:=Xb6) (t:=t) (fun d u e=>by subst e;exact ht) (c :: r) (fun b hb=>by
     rcases List.mem_cons.1 hb with rfl|hb
     ·simp [Xb6,h1]
     ·exact h2 b hb)
    simpa using this
   simp only [XqG,one,h1,if_true,hs]
   rw [List.take_succ_cons,List.take_left]
theorem Xa9.num {d:List UInt8} (h:Xnd d):Xa9 Brk d [(2,d)]:=by
 cases d with
 | nil=>exact h.elim
 | cons c r=>
   obtain ⟨h1,h2,h3,h4⟩:=h
   have hl:=h1
   simp only [Xa0,decide_eq_true_eq] at hl
   refine Xa9.tok (by omega) (by omega) fun t ht=>?_
   have hs:spn Xa0 (c :: (r++t))=r.length+1:=by
    have:=Xid (p:=Xa0) (t:=t) (fun d u e=>by
     subst e
     cases hd:Xa0 d with
     | false=>rfl
     | true=>have:=Xe3 hd;rw [show Xb6 d=false from ht] at this;cases this) (c :: r) (fun b hb=>by
     rcases List.mem_cons.1 hb with rfl|hb
     ·exact h1
     ·exact h2 b hb)
    simpa using this
   have hnl:XbS c=false:=by simp only [XbS,decide_eq_false_iff_not];omega
   simp only [XqG,one,hnl,h1,Bool.false_eq_true,if_false,if_true,hs]
   rw [if_neg (by
    rintro (h|⟨h,h'⟩)
    ·omega
    ·exact h4 (by intro e;subst e;simp at h) h'),List.take_succ_cons,List.take_left]
theorem Xa9.str (s:List UInt8):Xa9 Any (Xc1 s) [(3,s)]:=by
 show Xa9 Any (34 :: (s.flatMap Xdv++[34])) [(3,s)]
 refine Xa9.tok (by decide) (by decide) fun t _=>?_
 have h1:XbS 34=false:=by decide
 have h2:Xa0 34=false:=by decide
 simp only [XqG,List.append_assoc,XqF,one,h1,h2,Bool.false_eq_true,if_false]
 rw [if_pos (by decide),XiJ]
 simp
def Xnf:List UInt8→Prop
 | []=>True
 | [c]=>32≤c.toNat∧c.toNat≠92
 | c :: d :: r=>32≤c.toNat∧(if c.toNat=92 then 32≤d.toNat∧d.toNat≠47∧Xnf r else Xnf (d :: r))
/-! ### Numbers -/
def Xls (v:Int):Prop:=0≤v∧v < 1000000000000000000
theorem XdW (n:Nat) (h:n < 10):Xcn n=[UInt8.ofNat (48+n)]:=by rw [Xcn,dif_pos h]
theorem XhL (n:Nat) (h:¬n < 10):Xcn n=Xcn (n / 10)++[UInt8.ofNat (48+n % 10)]:=by
 rw [Xcn,dif_neg h,XdW (n % 10) (by omega)]
theorem Xf1 (n:Nat) (h:n < 10):(UInt8.ofNat (48+n)).toNat=48+n:=by
 rw [UInt8.toNat_ofNat'];omega
theorem XmY (n:Nat) (h:n < 10):Xa0 (UInt8.ofNat (48+n))=true:=by
 simp only [Xa0,Xf1 n h,decide_eq_true_eq];omega
theorem XfJ (n:Nat):∃c r,Xcn n=c :: r∧Xa0 c=true∧(∀b∈r,Xa0 b=true)∧(0 < n→c.toNat≠48)∧(r≠[]→0 < n):=by
 induction n using Nat.strongRecOn with
 | _ n ih=>
   by_cases h:n < 10
   ·refine ⟨_,[],XdW n h,XmY n h,by simp,fun h0=>?_,fun h=>absurd rfl h⟩
    rw [Xf1 n h];omega
   ·obtain ⟨c,r,h1,h2,h3,h4,h5⟩:=ih (n / 10) (by omega)
    refine ⟨c,r++[UInt8.ofNat (48+n % 10)],by rw [XhL n h,h1];rfl,h2,fun b hb=>?_,fun _=>h4 (by omega),fun _=>by omega⟩
    rcases List.mem_append.1 hb with hb|hb
    ·exact h3 b hb
    ·rw [List.mem_singleton] at hb;subst hb;exact XmY _ (by omega)
theorem XlQ (n:Nat) (h:n < 1000000000000000000):Xnd (Xcn n):=by
 obtain ⟨c,r,h1,h2,h3,h4,h5⟩:=XfJ n
 have hl:=XeB 17 n (by have:(10:Nat) ^ (17+1)=1000000000000000000:=by decide
                       omega)
 rw [h1] at hl ⊢
 exact ⟨h2,h3,by simp at hl;omega,fun h=>h4 (h5 h)⟩
theorem Xjr (l:List UInt8) (c:UInt8):Xdb (l++[c])=10*Xdb l+(c.toNat - 48):=by simp [Xdb,List.foldl_append]
theorem Xmm (n:Nat):Xdb (Xcn n)=n:=by
 induction n using Nat.strongRecOn with
 | _ n ih=>
   by_cases h:n < 10
   ·rw [XdW n h]
    show (10*0+(((UInt8.ofNat (48+n)).toNat:Int) - 48):Int)=n
    rw [Xf1 n h];omega
   ·rw [XhL n h,Xjr,ih (n / 10) (by omega),Xf1 _ (by omega)];omega
theorem XiB {v:Int} (h:Xls v):Xdb (Xcn v.toNat)=v:=by rw [Xmm];have:=h.1;omega
theorem Xip {v:Int} (h:Xls v):Xnd (Xcn v.toNat):=XlQ _ (by have:=h.1;have:=h.2;omega)
/-! ### The text -/
structure Xqn (j:JF):Prop where
 name:Xdz j.name∧j.name.length≤32
 run:j.run.length≤512
 env:j.env.length≤16
 enve:∀p∈j.env,Xdz p.1∧p.1.length≤32∧p.2.length≤512
 envd:(j.env.map (·.1)).Nodup
 needs:j.needs.length≤16
 neede:∀s∈j.needs,Xdz s∧s.length≤32
 needd:j.needs.Nodup
 ready:(j.hasr=true∧Xnf j.ready∧j.ready.length≤128)∨(j.hasr=false∧j.ready=[])
 restart:j.restart=1∨j.restart=2∨j.restart=3
 base:Xls j.base
 cap:Xls j.cap
 stable:Xls j.stable
 burst:1≤j.burst∧j.burst≤16
 window:Xls j.window
 ladder:j.ladder≠[]∧j.ladder.length≤5
 laddere:∀p∈j.ladder,(p.1=1∨p.1=2∨p.1=3∨p.1=10∨p.1=12∨p.1=15)∧Xls p.2
/-! ### Its tokens -/
abbrev KT:=Int × List UInt8
section
variable {D:List UInt8→Prop} {r w:List UInt8} {c:UInt8} {ms:List KT}
def XpQ (c:UInt8):Prop:=c.toNat=32∨c.toNat=9∨c.toNat=10∨c.toNat=13
theorem Xa9.bl (c:UInt8) (h:XpQ c) (hr:Xa9 D r ms):Xa9 D (c :: r) ms:=(Xa9.blank h).then hr
end
theorem Xd6 {w:List UInt8} (h:(match w with|[]=>false|c :: r=>XbS c && r.all Xb6)=true):Xdz w:=by
 cases w with
 | nil=>cases h
 | cons c r=>
   simp only [Bool.and_eq_true,List.all_eq_true] at h
   exact h
open Go.RowKit
section
variable {ts:List Tok} {k:Nat}
end
end Go.Proofs.YtdpobjakdplljaaGreatDoor

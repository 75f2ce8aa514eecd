import Derived.Test.YtdpobjakdplljaaGreatDoorV17
import Derived.Test.YtdpobjakdplljaaGreatDoorV27
import Derived.Test.YtdpobjakdplljaaGreatDoorV33
/- What is read of a script is written and read again as the same events. No program in sight. -/
set_option linter.unusedSimpArgs false
set_option linter.unusedVariables false
set_option maxRecDepth 100000
set_option maxHeartbeats 8000000
namespace Go.Proofs.YtdpobjakdplljaaGreatDoor
open Go.RowKit
theorem Xrq (p:UInt8→Bool):∀l:List UInt8,∀b∈l.takeWhile p,p b=true
 | [],b,h=>by simp at h
 | c :: l,b,h=>by
   rw [List.takeWhile_cons] at h
   split at h
   ·rename_i hc
    rcases List.mem_cons.1 h with rfl|h
    ·exact hc
    ·exact Xrq p l b h
   ·cases h
theorem Xrp (p:UInt8→Bool):∀l:List UInt8,l.take (spn p l)=l.takeWhile p
 | []=>rfl
 | c :: l=>by
   by_cases h:p c=true
   ·rw [XdG p c l h,List.take_succ_cons,Xrp p l,List.takeWhile_cons,if_pos h]
   ·rw [XjA p c l (by simpa using h),List.takeWhile_cons,if_neg h];rfl
theorem Xsk {l:List UInt8} {a:Int} {t:List UInt8} {m:Nat} (h:one l=.ok (a,t,m)):a=1→XbZ t:=by
 intro h2
 subst h2
 cases l with
 | nil=>cases h
 | cons c r=>
   unfold one at h
   simp only at h
   split at h
   ·rename_i hd
    cases h
    rw [XdG Xb3 c r (Xoo hd),List.take_succ_cons,Xrp]
    exact ⟨hd,Xrq _ _⟩
   ·split at h
    ·split at h<;>cases h
    ·split at h
     ·split at h<;>cases h
     ·split at h
      ·split at h<;>cases h
      ·split at h<;>cases h
theorem XoG {l:List UInt8} {a:Int} {t:List UInt8} {m:Nat} (h:one l=.ok (a,t,m)):a=2→1≤t.length:=by
 intro h2
 subst h2
 cases l with
 | nil=>cases h
 | cons c r=>
   unfold one at h
   simp only at h
   split at h
   ·cases h
   ·split at h
    ·rename_i hd
     split at h
     ·cases h
     ·cases h
      have:=XdG Xbg c r hd
      rw [List.length_take]
      have:=Xhx Xbg (c :: r)
      omega
    ·split at h
     ·split at h<;>cases h
     ·split at h
      ·split at h<;>cases h
      ·split at h<;>cases h
theorem Xqb {s:List UInt8} {ts:List Tok} (h:lex s=.ok ts):∀t∈ts,t.kind=2→1≤t.text.length:=by
 unfold lex at h
 split at h
 ·cases h
 ·exact Xe2 (P:=fun t=>t.kind=2→1≤t.text.length) (fun p q h=>by simp at h) (fun l a t m h p q=>XoG h) s.length (1,1) 0 s ts (Nat.le_refl _) h
structure TkE (m:Nat) (t:Tok):Prop where
 word:t.kind=1→XbZ t.text
 num:t.kind=2→XgX (XdN t.text)
 len:t.text.length≤m
theorem Xsb {s:List UInt8} {ts:List Tok} (h:lex s=.ok ts):∀t∈ts,TkE s.length t:=by
 obtain ⟨hN,-⟩:=Xfq s ts h
 unfold lex at h
 split at h
 ·cases h
 ·obtain ⟨qs,e,-,-,-,hl⟩:=Xe3 s.length (1,1) 0 s ts (Nat.le_refl _) h
  have hw:=Xe2 (P:=fun t=>t.kind=1→XbZ t.text) (fun p q h=>by simp at h) (fun l a t m h p q=>Xsk h) s.length (1,1) 0 s ts (Nat.le_refl _) h
  exact fun t ht=>⟨hw t ht,fun hk=>Xln (t:=t) (fun hk=>hN t ht hk) hk,hl t ht⟩
theorem XpF {w:List UInt8} {k:Nat} (h:XiK w=some k):k < 14∧XcU.getD k []=w:=by
 unfold XiK at h
 split at h
 ·rename_i hm
  cases h
  have:=List.idxOf_lt_length_of_mem hm
  refine ⟨this,?_⟩
  rw [List.getD_eq_getElem?_getD,List.getElem?_eq_getElem this,Option.getD_some,List.getElem_idxOf]
 ·cases h
theorem XoR {m:Nat} {a:EF} {f:UInt8} {t:Tok} (ht:TkE m t) (h:XbD f t=true):FOk (Xgj a f t) f∧(Xcs (Xgj a f t) f).length≤4*m+18:=by
 obtain ⟨t1,t2,t3⟩:=ht
 unfold XbD at h
 unfold FOk Xgj Xcs
 have hd:∀v:Int,XgX v→(Xb5 v.toNat).length≤18:=fun v hv=>Xfl hv
 by_cases h1:f.toNat=78
 ·simp only [h1,if_true,decide_eq_true_eq] at h ⊢
  exact ⟨t1 h,by omega⟩
 by_cases h2:f.toNat=75
 ·simp only [h2,if_true,Nat.reduceEqDiff,if_false]
  exact ⟨trivial,by split<;>simp [wOk,Xdn]⟩
 by_cases h3:f.toNat=68
 ·simp only [h3,if_true,Nat.reduceEqDiff,if_false]
  exact ⟨trivial,by have:=XcG t.text;omega⟩
 by_cases h4:f.toNat=84
 ·simp only [h4,if_true,Nat.reduceEqDiff,if_false,decide_eq_true_eq] at h ⊢
  rw [if_pos h]
  have:=hd _ (t2 h)
  exact ⟨t2 h,by omega⟩
 simp only [h1,h2,h3,h4,if_false,decide_eq_true_eq] at h ⊢
 have hv:=t2 h.1
 have hs:Sm (XdN t.text):=⟨hv.1,h.2⟩
 have hl:=hd _ hv
 by_cases h5:f.toNat=67
 ·simp only [h5,if_true,if_pos h.1]
  exact ⟨hs,by rw [Xeu hs.1];omega⟩
 by_cases h6:f.toNat=76
 ·simp only [h6,if_true,Nat.reduceEqDiff,if_false,if_pos h.1]
  exact ⟨hs,by rw [Xeu hs.1];omega⟩
 ·simp only [h5,h6,if_false,if_pos h.1]
  exact ⟨hs,by rw [Xeu hs.1];omega⟩
theorem Xtu {a e:EF} {f:UInt8} {ts:List Tok} (hl:ts.length=1) (h:Xci a [f] ts=some e):∃t,ts=[t]∧XbD f t=true∧e=Xgj a f t:=by
 match ts,hl with
 | [t],_=>
   rw [Xci,Xgh] at h
   refine ⟨t,rfl,?_⟩
   cases hp:XbD f t with
   | false=>rw [hp] at h;cases h
   | true=>rw [hp] at h;cases h;exact ⟨rfl,rfl⟩
theorem Xut {a e:EF} {f g:UInt8} {ts:List Tok} (hl:ts.length=2) (h:Xci a [f,g] ts=some e):∃t u,ts=[t,u]∧XbD f t=true∧XbD g u=true∧e=Xgj (Xgj a f t) g u:=by
 match ts,hl with
 | [t,u],_=>
   rw [Xci,Xgh] at h
   cases hp:XbD f t with
   | false=>rw [hp] at h;cases h
   | true=>
     rw [hp] at h
     obtain ⟨u',q1,q2,q3⟩:=Xtu rfl h
     cases q1
     exact ⟨t,u,rfl,hp,q2,q3⟩
def Xrt (m k:Nat) (e:EF):Prop:=(∀f∈Xa6.getD k [],FOk e f∧(Xcs e f).length≤4*m+18)∧(Xa6.getD k []).foldl (XpE e) (ev0 (k+1:Nat))=e∧e.kind=((k+1:Nat):Int)
theorem XiW {m k:Nat} {e:EF} {f:UInt8} {ts:List Tok} (ht:∀t∈ts,TkE m t) (hf:Xa6.getD k []=[f]) (hx:f=78∨f=84∨f=68∨f=76) (hl:ts.length=(Xa6.getD k []).length) (h:Xci (ev0 (k+1:Nat)) (Xa6.getD k []) ts=some e):Xrt m k e:=by
 unfold Xrt
 rw [hf] at h hl ⊢
 obtain ⟨t,rfl,q1,rfl⟩:=Xtu hl h
 obtain ⟨p1,p2⟩:=XoR (a:=ev0 (k+1:Nat)) (ht t (by simp)) q1
 refine ⟨fun g hg=>?_,?_,?_⟩
 ·rw [List.mem_singleton] at hg;subst hg;exact ⟨p1,p2⟩
 ·rcases hx with rfl|rfl|rfl|rfl<;>rfl
 ·rcases hx with rfl|rfl|rfl|rfl<;>rfl
theorem Xn0 {m k:Nat} {e:EF} {f g:UInt8} {ts:List Tok} (ht:∀t∈ts,TkE m t) (hf:Xa6.getD k []=[f,g]) (hx:(f=78∧(g=75∨g=67∨g=68))∨(f=76∧(g=68∨g=77))) (hl:ts.length=(Xa6.getD k []).length) (h:Xci (ev0 (k+1:Nat)) (Xa6.getD k []) ts=some e):Xrt m k e:=by
 unfold Xrt
 rw [hf] at h hl ⊢
 obtain ⟨t,u,rfl,q1,q2,rfl⟩:=Xut hl h
 obtain ⟨p1,p2⟩:=XoR (a:=ev0 (k+1:Nat)) (ht t (by simp)) q1
 obtain ⟨p3,p4⟩:=XoR (a:=Xgj (ev0 (k+1:Nat)) f t) (ht u (by simp)) q2
 refine ⟨fun x hxx=>?_,?_,?_⟩
 ·rcases List.mem_cons.1 hxx with rfl|hxx
  ·rcases hx with ⟨rfl,rfl|rfl|rfl⟩|⟨rfl,rfl|rfl⟩<;>exact ⟨p1,p2⟩
  ·rw [List.mem_singleton] at hxx;subst hxx;exact ⟨p3,p4⟩
 ·rcases hx with ⟨rfl,rfl|rfl|rfl⟩|⟨rfl,rfl|rfl⟩<;>rfl
 ·rcases hx with ⟨rfl,rfl|rfl|rfl⟩|⟨rfl,rfl|rfl⟩<;>rfl
theorem Xu1 {m k:Nat} (h14:k < 14) {e:EF} {ts:List Tok} (ht:∀t∈ts,TkE m t) (hl:ts.length=(Xa6.getD k []).length) (h:Xci (ev0 (k+1:Nat)) (Xa6.getD k []) ts=some e):Xrt m k e:=by
 match k,h14 with
 | 0,_=>exact Xn0 ht (f:=78) (g:=75) rfl (by decide) hl h
 | 1,_=>exact Xn0 ht (f:=78) (g:=67) rfl (by decide) hl h
 | 2,_=>exact Xn0 ht (f:=78) (g:=68) rfl (by decide) hl h
 | 3,_=>exact XiW ht (f:=84) rfl (by decide) hl h
 | 4,_=>exact XiW ht (f:=84) rfl (by decide) hl h
 | 5,_=>exact XiW ht (f:=78) rfl (by decide) hl h
 | 6,_=>exact XiW ht (f:=78) rfl (by decide) hl h
 | 7,_=>exact XiW ht (f:=78) rfl (by decide) hl h
 | 8,_=>exact XiW ht (f:=68) rfl (by decide) hl h
 | 9,_=>
   obtain rfl:ts=[]:=List.length_eq_zero_iff.1 hl
   cases h
   exact ⟨(fun f hf=>(by cases hf)),rfl,rfl⟩
 | 10,_=>exact XiW ht (f:=76) rfl (by decide) hl h
 | 11,_=>exact Xn0 ht (f:=76) (g:=68) rfl (by decide) hl h
 | 12,_=>exact XiW ht (f:=76) rfl (by decide) hl h
 | 13,_=>exact Xn0 ht (f:=76) (g:=77) rfl (by decide) hl h
theorem Xrt.good {m k:Nat} (h14:k < 14) {e:EF} (h:Xrt m k e):Xc3 e∧(Xcr e).length≤8*m+46:=by
 obtain ⟨h1,h2,h3⟩:=h
 have hg:Xc3 e:=⟨k,h14,h3,fun f hf=>(h1 f hf).1,h2⟩
 refine ⟨hg,?_⟩
 have e1:Xcr e=XfE k e:=by
  unfold Xcr
  rw [if_pos (by omega),show e.kind.toNat - 1=k from by omega]
 have hw:=XrI h14
 have hl:=Xny h14
 rw [e1,XfE,Xvh]
 have ha:(XbP e (Xa6.getD k [])).length≤(Xa6.getD k []).length*(4*m+19):=by
  generalize Xa6.getD k []=fs at h1
  clear hl h2 hg
  induction fs with
  | nil=>simp [XbP]
  | cons f fs ih=>
    have:=ih fun g hg=>h1 g (by simp [hg])
    have hf:=(h1 f (by simp)).2
    simp only [XbP,List.flatMap_cons,Xvh,Xu8] at this ⊢
    rw [Nat.succ_mul]
    omega
 have:(Xa6.getD k []).length*(4*m+19)≤2*(4*m+19):=Nat.mul_le_mul_right _ hl
 omega
theorem Xj1 {m:Nat} {ts:List Tok} {e:EF} (ht:∀t∈ts,TkE m t) (h:Xcz ts=some e):Xc3 e∧(Xcr e).length≤8*m+46:=by
 cases ts with
 | nil=>cases h
 | cons t r=>
   unfold Xcz at h
   simp only at h
   split at h
   ·cases h
   cases hf:XiK t.text with
   | none=>rw [hf] at h;cases h
   | some k=>
     rw [hf] at h
     simp only at h
     split at h
     ·cases h
     rename_i hl
     have h14:=(XpF hf).1
     exact (Xu1 h14 (fun u hu=>ht u (by simp [hu])) (by omega) h).good h14
/-! ### Scripts -/
def Xq6 (xs:List (List UInt8)):Nat:=(xs.map fun x=>8*x.length+47).sum
theorem Xfi:∀l cur:List UInt8,Xq6 (XcA cur l)≤8*(cur.length+l.length)+47*(l.length+1)
 | [],cur=>by unfold XcA;split<;>simp [Xq6]
 | c :: r,cur=>by
   unfold XcA
   split
   ·have:=Xfi r []
    simp only [Xq6,Xva,List.sum_cons,Xvb,Xu8] at this ⊢
    omega
   ·have:=Xfi r (cur++[c])
    simp only [Xvh,Xu8,Xvb] at this ⊢
    omega
theorem Xl5 (l:List EF) (e:EF):(Xbr (l++[e])).length=(Xbr l).length+(Xcr e).length+1:=by simp [Xbr];omega
theorem XhK {M:Nat}:∀(xs:List (List UInt8)) (n:Nat) (out a:List EF) (n':Nat),cGo xs n out=(a,n',0)→(∀x∈xs,x.length≤M)→(∀e∈out,Xc3 e∧(Xcr e).length≤8*M+46)→out.length≤1000 →
  (∀e∈a,Xc3 e∧(Xcr e).length≤8*M+46)∧a.length≤1000∧(Xbr a).length≤(Xbr out).length+Xq6 xs
 | [],n,out,a,n',h,_,ho,hn=>by
   rw [cGo] at h;cases h
   exact ⟨ho,hn,by omega⟩
 | x :: r,n,out,a,n',h,hM,ho,hn=>by
   have hb:Xq6 (x :: r)=(8*x.length+47)+Xq6 r:=by simp [Xq6]
   rw [cGo] at h
   cases hx:lex x with
   | error f=>rw [hx] at h;cases h
   | ok ts=>
     rw [hx] at h
     simp only at h
     split at h
     ·obtain ⟨p1,p2,p3⟩:=XhK r _ _ _ _ h (fun y hy=>hM y (by simp [hy])) ho hn
      exact ⟨p1,p2,by omega⟩
     ·cases he:Xcz ts.dropLast with
      | none=>rw [he] at h;cases h
      | some e=>
        rw [he] at h
        simp only at h
        split at h
        ·cases h
        ·rename_i hl
         obtain ⟨g1,g2⟩:=Xj1 (fun t ht=>Xsb hx t (List.dropLast_subset _ ht)) he
         have hxM:=hM x (by simp)
         obtain ⟨p1,p2,p3⟩:=XhK r _ _ _ _ h (fun y hy=>hM y (by simp [hy])) (fun y hy=>by
          rcases List.mem_append.1 hy with hy|hy
          ·exact ho y hy
          ·rw [List.mem_singleton] at hy;subst hy;exact ⟨g1,by omega⟩) (by simp;omega)
         rw [Xl5] at p3
         exact ⟨p1,p2,by omega⟩
theorem Xj2:∀(xs:List (List UInt8)) (n:Nat) (out:List EF),(cGo xs n out).2.2≠0→(cGo xs n out).1=[]
 | [],n,out,h=>by rw [cGo] at h;exact absurd rfl h
 | x :: r,n,out,h=>by
   rw [cGo] at h ⊢
   cases hx:lex x with
   | error f=>rfl
   | ok ts=>
     rw [hx] at h
     simp only at h ⊢
     split at h
     ·rename_i h1;rw [if_pos h1];exact Xj2 r _ _ h
     ·rename_i h1
      rw [if_neg h1]
      cases he:Xcz ts.dropLast with
      | none=>rfl
      | some e=>
        rw [he] at h
        simp only at h ⊢
        split at h
        ·rename_i h2;rw [if_pos h2]
        ·rename_i h2;rw [if_neg h2];exact Xj2 r _ _ h
theorem Xl4 (s:List UInt8) (h:(XbS s).2.2≠0):(XbS s).1=[]:=by
 unfold XbS at h ⊢
 split at h
 ·rename_i h1;rw [if_pos h1]
 ·rename_i h1;rw [if_neg h1];exact Xj2 _ _ _ h
theorem Xj3 (s:List UInt8) (hs:s.length≤1000) (h:(XbS s).2.2=0):(∀e∈(XbS s).1,Xc3 e∧(Xcr e).length≤8192)∧(XbS s).1.length≤1000∧(Xbr (XbS s).1).length≤65536:=by
 have e:XbS s=cGo (XbR s) 0 []:=if_neg (by omega)
 rw [e] at h ⊢
 obtain ⟨p1,p2,p3⟩:=XhK (M:=1000) (XbR s) 0 [] (cGo (XbR s) 0 []).1 (cGo (XbR s) 0 []).2.1 (by rw [←h]) (fun x hx=>by have:=Xgk s [] x hx;simp at this;omega) (fun e he=>by cases he) (by simp)
 have hb:Xq6 (XbR s)≤8*(0+s.length)+47*(s.length+1):=Xfi s []
 have h0:(Xbr []).length=0:=rfl
 exact ⟨fun e he=>⟨(p1 e he).1,by have:=(p1 e he).2;omega⟩,p2,by omega⟩
open Go.RowKit Go.Lib
section
variable {P:Program} {Δ Δ':List Deferred} {V O:Nat→Prop} {w0 w w':World} {H H':List Hp} {T T':List AV} {a a':Act} {o:Oper} {ops:Array Oper}
variable {Θ:List (Nat × Obj)} {Q:Xfg}
def Wk (H H':List Hp):Prop:=∃D R,H.Perm (D++R)∧XaB D R H'
theorem Wk.mk' (D R:List Hp) (hp:H.Perm (D++R)) (hH:XaB D R H'):Wk H H':=⟨D,R,hp,hH⟩
theorem Wk.weak (h:Wk H H') (T:List AV):XaH H T H' T:=by
 obtain ⟨D,R,hp,hH⟩:=h
 exact XaH.mk' D R hp hH (VwL.refl _ _)
theorem Xhb {rest:List Oper} (hw:XaH H T H' T') (h:Xc8 P Δ Θ ops Q rest T' H'):Xc8 P Δ Θ ops Q rest T H:=fun V O w0 a w r t=>h V O w0 a w (r.weaken hw) fun p hp=>(t p hp).same (XdS hw)
theorem XeT {c:Code} (hw:XaH H T H' T') (h:Xd8 P Δ Θ c Q T' H'):Xd8 P Δ Θ c Q T H:=fun V O w0 a w r t=>h V O w0 a w (r.weaken hw) fun p hp=>(t p hp).same (XdS hw)
theorem XnK {fn:Func} {Q:AV→List Hp→Prop} {e:Exit} (hw:XaH H T H' T') (h:Xbo P fn Q e T' H'):Xbo P fn Q e T H:=by
 obtain ⟨h1,r,H1,h2,h3⟩:=h
 refine ⟨h1,r,H1,fun Δ V O w0 a w rel=>?_,h3⟩
 obtain ⟨v,g1,g2,g3,g4⟩:=h2 Δ V O w0 a w (rel.weaken hw)
 exact ⟨v,g1,g2,g3,fun x hx k e=>XdS hw k (g4 x hx k e)⟩
theorem DenA.set {F:Nat→Prop} {l:List AV} {vs:Array Value} (h:XaT F w l vs.toList) (i:Nat) (v:Value):XaT F w (l.set i (.x v)) (vs.setIfInBounds i v).toList:=by
 rw [Array.toList_setIfInBounds]
 exact h.set i (by rw [Den])
theorem XiF {rest:List Oper} {cal:Operand} {args:Array Operand} {tys:Array TypeId} {v1 v2:Value} {p1 p2:Tmp} {l:Nat} {ρ:Loop} {Tp0:List AV} (hg:o.guard=none) (ho:o.op=.call { callee:=.value cal,args:=args,argTypes:=tys }) (hc:ev T cal=.x (.func (.yield l) #[] #[]))
  (ha:args.toList.map (ev T)=[.x v1,.x v2]) (hps:ρ.params=#[p1,p2]) (hst:ρ.state=.ready) (hpe:ρ.pending=none) (hT:T.all dull=true) {QB:XcP}
  (hTa:∀F w,XaT F w Tp0 ρ.tmps.toList) (hne:∀p∈Θ,p.1≠l)
  (h:Xio P ρ.assign (fun e T1 H1=>e=.normal∧Xio P ρ.body QB T1 H1) ((Tp0.set p1 (.x v1)).set p2 (.x v2)) H) (hQB:∀e T H,QB e T H→e=.normal∨e=.ret)
  (hn:∀T1 H1,QB .normal T1 H1→Xc8 P Δ ((l,.loop ρ) :: Θ) ops Q rest (Xb4 T o.dst (.x (.bool true))) H1)
  (hr:∀T1 H1,QB .ret T1 H1→Xc8 P Δ ((l,.loop (Xgm ρ)) :: Θ) ops Q rest (Xb4 T o.dst (.x (.bool false))) H1) :
  Xc8 P Δ ((l,.loop ρ) :: Θ) ops Q (o :: rest) T H:=
 XjY (vals:=#[v1,v2]) hg ho hc ha (by rw [hps];rfl) hst hpe hT (fun F w=>by
  have q:=DenA.set (DenA.set (hTa F w) p1 v1) p2 v2
  rw [hps,show (#[p1,p2].zip #[v1,v2])=#[(p1,v1),(p2,v2)] by simp]
  exact q) hne h hQB hn hr
end
end Go.Proofs.YtdpobjakdplljaaGreatDoor

import Derived.Test.YtdpobjakdplljaaGreatDoorY18
import Derived.Test.YtdpobjakdplljaaGreatDoorY28
import Derived.Test.YtdpobjakdplljaaGreatDoorY35
import Derived.Test.YtdpobjakdplljaaGreatDoorY36
import Derived.Test.YtdpobjakdplljaaGreatDoorY32
import Derived.Test.YtdpobjakdplljaaGreatDoorY40
/- What is read of a script is written and read again as the same events. No program in sight. -/
set_option linter.unusedSimpArgs false
set_option linter.unusedVariables false
set_option maxRecDepth 100000
set_option maxHeartbeats 8000000
namespace Go.Proofs.YtdpobjakdplljaaGreatDoor
open Go.RowKit
theorem XoJ {l:List UInt8} {a:Int} {t:List UInt8} {m:Nat} (h:one l=.ok (a,t,m)):a=2→1≤t.length:=by
 intro h2
 subst h2
 cases l with
 | nil=>cases h
 | cons c r=>
   unfold one at h
   simp only at h
   split at h
   ·cases h
   ·split at h
    ·rename_i hd
     split at h
     ·cases h
     ·cases h
      have:=XeA Xbi c r hd
      rw [List.length_take]
      have:=XhC Xbi (c :: r)
      omega
    ·split at h
     ·split at h<;>cases h
     ·split at h
      ·split at h<;>cases h
      ·split at h<;>cases h
theorem Xqo {s:List UInt8} {ts:List Tok} (h:lex s=.ok ts):∀t∈ts,t.kind=2→1≤t.text.length:=by
 unfold lex at h
 split at h
 ·cases h
 ·exact Xgw (P:=fun t=>t.kind=2→1≤t.text.length) (fun p q h=>by simp at h) (fun l a t m h p q=>XoJ h) s.length (1,1) 0 s ts (Nat.le_refl _) h
structure TkE (m:Nat) (t:Tok):Prop where
 word:t.kind=1→Xct t.text
 num:t.kind=2→Xg6 (Xdm t.text)
 len:t.text.length≤m
def Xvc (m k:Nat) (e:EF):Prop:=(∀f∈Xa2.getD k [],FOk e f∧(Xcr e f).length≤4*m+18)∧(Xa2.getD k []).foldl (Xto e) (ev0 (k+1:Nat))=e∧e.kind=((k+1:Nat):Int)
theorem Xvc.good {m k:Nat} (h14:k < 14) {e:EF} (h:Xvc m k e):XfI e∧(XdO e).length≤8*m+46:=by
 obtain ⟨h1,h2,h3⟩:=h
 have hg:XfI e:=⟨k,h14,h3,fun f hf=>(h1 f hf).1,h2⟩
 refine ⟨hg,?_⟩
 have e1:XdO e=Xhe k e:=by
  unfold XdO
  rw [if_pos (by omega),show e.kind.toNat - 1=k from by omega]
 have hw:=XrV h14
 have hl:=Xk6 h14
 rw [e1,Xhe,XvH]
 have ha:(XbQ e (Xa2.getD k [])).length≤(Xa2.getD k []).length*(4*m+19):=by
  generalize Xa2.getD k []=fs at h1
  clear hl h2 hg
  induction fs with
  | nil=>simp [XbQ]
  | cons f fs ih=>
    have:=ih fun g hg=>h1 g (by simp [hg])
    have hf:=(h1 f (by simp)).2
    simp only [XbQ,List.flatMap_cons,XvH,Xvy] at this ⊢
    rw [Nat.succ_mul]
    omega
 have:(Xa2.getD k []).length*(4*m+19)≤2*(4*m+19):=Nat.mul_le_mul_right _ hl
 omega
/-! ### Scripts -/
open Go.RowKit Go.Lib
section
variable {P:Program} {Δ Δ':List Deferred} {V O:Nat→Prop} {w0 w w':World} {H H':List Hp} {T T':List AV} {a a':Act} {o:Oper} {ops:Array Oper}
variable {Θ:List (Nat × Obj)} {Q:Xfc}
def Wk (H H':List Hp):Prop:=∃D R,H.Perm (D++R)∧XaB D R H'
theorem Wk.mk' (D R:List Hp) (hp:H.Perm (D++R)) (hH:XaB D R H'):Wk H H':=⟨D,R,hp,hH⟩
theorem Wk.weak (h:Wk H H') (T:List AV):XaH H T H' T:=by
 obtain ⟨D,R,hp,hH⟩:=h
 exact XaH.mk' D R hp hH (VwL.refl _ _)
theorem Xhb {rest:List Oper} (hw:XaH H T H' T') (h:Xdc P Δ Θ ops Q rest T' H'):Xdc P Δ Θ ops Q rest T H:=fun V O w0 a w r t=>h V O w0 a w (r.weaken hw) fun p hp=>(t p hp).same (XdV hw)
theorem XeQ {c:Code} (hw:XaH H T H' T') (h:Xeb P Δ Θ c Q T' H'):Xeb P Δ Θ c Q T H:=fun V O w0 a w r t=>h V O w0 a w (r.weaken hw) fun p hp=>(t p hp).same (XdV hw)
theorem XnO {fn:Func} {Q:AV→List Hp→Prop} {e:Exit} (hw:XaH H T H' T') (h:Xbr P fn Q e T' H'):Xbr P fn Q e T H:=by
 obtain ⟨h1,r,H1,h2,h3⟩:=h
 refine ⟨h1,r,H1,fun Δ V O w0 a w rel=>?_,h3⟩
 obtain ⟨v,g1,g2,g3,g4⟩:=h2 Δ V O w0 a w (rel.weaken hw)
 exact ⟨v,g1,g2,g3,fun x hx k e=>XdV hw k (g4 x hx k e)⟩
theorem DenA.set {F:Nat→Prop} {l:List AV} {vs:Array Value} (h:XaV F w l vs.toList) (i:Nat) (v:Value):XaV F w (l.set i (.x v)) (vs.setIfInBounds i v).toList:=by
 rw [Array.toList_setIfInBounds]
 exact h.set i (by rw [Den])
theorem XiM {rest:List Oper} {cal:Operand} {args:Array Operand} {tys:Array TypeId} {v1 v2:Value} {p1 p2:Tmp} {l:Nat} {ρ:Loop} {Tp0:List AV} (hg:o.guard=none) (ho:o.op=.call { callee:=.value cal,args:=args,argTypes:=tys }) (hc:ev T cal=.x (.func (.yield l) #[] #[]))
  (ha:args.toList.map (ev T)=[.x v1,.x v2]) (hps:ρ.params=#[p1,p2]) (hst:ρ.state=.ready) (hpe:ρ.pending=none) (hT:T.all dull=true) {QB:XcR}
  (hTa:∀F w,XaV F w Tp0 ρ.tmps.toList) (hne:∀p∈Θ,p.1≠l)
  (h:Xiv P ρ.assign (fun e T1 H1=>e=.normal∧Xiv P ρ.body QB T1 H1) ((Tp0.set p1 (.x v1)).set p2 (.x v2)) H) (hQB:∀e T H,QB e T H→e=.normal∨e=.ret)
  (hn:∀T1 H1,QB .normal T1 H1→Xdc P Δ ((l,.loop ρ) :: Θ) ops Q rest (Xb7 T o.dst (.x (.bool true))) H1)
  (hr:∀T1 H1,QB .ret T1 H1→Xdc P Δ ((l,.loop (Xgm ρ)) :: Θ) ops Q rest (Xb7 T o.dst (.x (.bool false))) H1) :
  Xdc P Δ ((l,.loop ρ) :: Θ) ops Q (o :: rest) T H:=
 Xj1 (vals:=#[v1,v2]) hg ho hc ha (by rw [hps];rfl) hst hpe hT (fun F w=>by
  have q:=DenA.set (DenA.set (hTa F w) p1 v1) p2 v2
  rw [hps,show (#[p1,p2].zip #[v1,v2])=#[(p1,v1),(p2,v2)] by simp]
  exact q) hne h hQB hn hr
end
open Go.RowKit
theorem XqJ (s:List UInt8):Xa3 Tryz.prog 23 [] [.x (.string (bs s))] (fun r H'=>∃b,r=.x (.func (.func 48) #[] #[.pointer (some ⟨b,0,none⟩)])∧H'=[.box b [.x (.string (bs s))]]):=by
 refine XaD Tryz.func23 rfl ?_
 simp only [Tryz.ntmps23,Xvy,XvB,XvC,XvD,XvG,XvF,Nat.reduceAdd,Nat.reduceSub]
 (repeat' (first|with_reducible (first|refine Xag ?_|refine Xac ?_|refine Xar ?_|refine Xae ?_|refine Xaa ?_)|((apply Xad rfl);(case h=>(first|(apply Xab 0 rfl;(exact Xan _ rfl))|(apply XaC;(case hs=>(intro _ _ h;cases h));(case hx=>rfl);(case hrun=>(intro w;simp [wtb,AV.val,go_sem];skip;rfl)))));(case hT=>((try simp only [wtn]);rfl)))|(refine Xai rfl ?_;((refine Xas 15 rfl ?_;(refine Xbo _ _ rfl (by first|rfl|fail) (fun b=>?_)));apply Xah;(case hT=>((try simp only [wtn]);rfl));(case hH=>((try simp only [wtn]);rfl))))|fail))
 refine Xaf _ _ (Xbh rfl (RV.tmp _) (XaH.mk' [] _ (Xvv _) (XaB.refl _ _) (VwL.refl _ _))) ?_
 exact ⟨b,rfl,rfl⟩
section
variable {x:List UInt8} {r:List (List UInt8)} {i:Nat} {out:List EF}
theorem XpK {f:Flt} (h1:lex x=.error f):cGo (x :: r) i out=([],i,320):=by rw [cGo,h1]
theorem Xnu {ts:List Tok} (h1:lex x=.ok ts) (h2:ts.length≤1):cGo (x :: r) i out=cGo r (i+1) out:=by rw [cGo,h1];exact if_pos h2
theorem Xnt {ts:List Tok} (h1:lex x=.ok ts) (h2:¬ts.length≤1) (h3:Xcf ts.dropLast=none):cGo (x :: r) i out=([],i,320):=by rw [cGo,h1];simp only [if_neg h2,h3]
theorem Xns {ts:List Tok} {e:EF} (h1:lex x=.ok ts) (h2:¬ts.length≤1) (h3:Xcf ts.dropLast=some e) (h4:1000≤out.length):cGo (x :: r) i out=([],i,1):=by rw [cGo,h1];simp only [if_neg h2,h3,if_pos h4]
theorem XrR {ts:List Tok} {e:EF} (h1:lex x=.ok ts) (h2:¬ts.length≤1) (h3:Xcf ts.dropLast=some e) (h4:¬1000≤out.length):cGo (x :: r) i out=cGo r (i+1) (out++[e]):=by rw [cGo,h1];simp only [if_neg h2,h3,if_neg h4]
end
abbrev pQB (bs0 bc bl b4 b3 b2:Nat) (rest rest':List UInt8) (i:Nat) (out:List EF):XcR:=fun e T1 H1=>match e with
 | .normal=>∃out' ad' cap',cGo (Xb2 rest) i out=cGo (Xb2 rest') (i+1) out'∧out'.length≤i+1∧Wk H1 ((fun q:Nat × List UInt8 × List EF × Option Addr × Nat=>[.box bs0 [.x (.string (bs q.2.1))],.box bc [.x (.int .i64 q.1)],.row q.2.2.2.1 q.2.2.1.length q.2.2.2.2 41 8 (va q.2.2.1),.box bl [.x (.slice q.2.2.2.1 q.2.2.1.length q.2.2.2.2)],.box b4 [.x (.int .i64 0)],.box b3 [.x (.int .i64 0)],.box b2 [.x (.slice none 0 0)]]) (i+1,rest,out',ad',cap'))
 | .ret=>∃c:Int,cGo (Xb2 rest) i out=([],i,c)∧Wk H1 [.box b4 [.x (.int .i64 c)],.box b3 [.x (.int .i64 i)],.box b2 [.x (.slice none 0 0)]]
 | _=>False
theorem Xu2 {bs0 bc bl b4 b3 b2:Nat} {rest rest':List UInt8} {i:Nat} {out:List EF}:∀e T H,pQB bs0 bc bl b4 b3 b2 rest rest' i out e T H→e=.normal∨e=.ret:=by
 intro e T H h
 cases e<;>first|exact .inl rfl|exact .inr rfl|exact h.elim|fail
theorem XkC (s:List UInt8) (hs:s.length≤1000000):Xa3 Tryz.prog 10 [] [.x (.string (bs s))] (fun r H'=>r=XtC (XcT s)∧H'=[]):=by
 refine XhK Tryz.func10 rfl ?_
 simp only [Tryz.ntmps10,Xvy,XvB,XvC,XvD,XvG,XvF,Nat.reduceAdd,Nat.reduceSub]
 refine Xa6 ?_
 (repeat' (first|with_reducible (first|refine Xac ?_|refine Xae ?_|refine Xaa ?_)|(refine Xai rfl ?_;((refine Xas 14 rfl ?_;(refine XaK _ _ rfl Xbk.out rfl (fun b=>?_)));apply Xah;(case hT=>((try simp only [wtn]);rfl));(case hH=>((try simp only [wtn]);rfl))))|fail))
 rename_i b2 b3
 revert b
 intro b4
 refine Xa6 ?_
 (repeat' (first|with_reducible (first|refine Xag ?_|refine Xac ?_|refine Xar ?_|refine Xau ?_|refine Xae ?_|refine Xaa ?_|refine Xax ?_)|(refine Xak _ rfl (fun h=>?_) (fun h=>?_)<;>((try (simp only [whn] at h));skip))|((apply Xad rfl);(case h=>(first|(apply Xab 0 rfl;(exact Xap _ rfl))|(apply XaC;(case hs=>(intro _ _ h;cases h));(case hx=>rfl);(case hrun=>(intro w;simp [wtb,AV.val,go_sem];skip;rfl)))));(case hT=>((try simp only [wtn]);rfl)))|(refine Xai rfl ?_;((refine Xas 16 rfl ?_;(refine Xaw _ _ _ _ _ _ _ rfl rfl XaS.out XaR.out (by first|rfl|fail) (by first|exact Xvu rfl|fail) ?_));apply Xah;(case hT=>((try simp only [wtn]);rfl));(case hH=>((try simp only [wtn,Nat.reduceAdd]);rfl))))|fail))
 ·refine Xcb (Xaf _ _ (Xm2 rfl (RV.cell 2 rfl rfl XaN.out (by simp) (by simp)) (RV.cell 1 rfl rfl XaN.out (by simp) (by simp)) (RV.cell 0 rfl rfl XaN.out (by simp) (by simp)) (XaH.mk' [_,_,_] [] (Xvv _) XaB.nil (VwL.cons Vw.nil (VwL.refl _ _)))) ?_)
  refine ⟨?_,rfl⟩
  unfold XcT
  rw [if_pos (by omega)]
  rfl
 have e0:XcT s=cGo (Xb2 s) 0 []:=if_neg (by omega)
 rw [e0]
 have e0':=Lib.hid e0
 clear e0
 refine Xa6 ?_
 refine Xbt 41 8 ?_
 (repeat' (first|with_reducible (first|refine Xac ?_|refine Xae ?_|refine Xaa ?_)|(refine Xai rfl ?_;((refine Xas 14 rfl ?_;(refine XaK _ _ rfl Xbk.out rfl (fun b=>?_)));apply Xah;(case hT=>((try simp only [wtn]);rfl));(case hH=>((try simp only [wtn]);rfl))))|fail))
 revert b
 intro bl
 refine Xa6 ?_
 (repeat' (first|with_reducible (first|refine Xac ?_|refine Xae ?_|refine Xaa ?_)|(refine Xai rfl ?_;((first|(refine Xas 14 rfl ?_;(refine XaK _ _ rfl Xbk.out rfl (fun b=>?_)))|(refine Xas 16 rfl ?_;(refine Xaw _ _ _ _ _ _ _ rfl rfl XaS.out XaR.out (by first|rfl|fail) (by first|exact Xvu rfl|fail) ?_)));apply Xah;(case hT=>((try simp only [wtn]);rfl));(case hH=>((try simp only [wtn]);rfl))))|fail))
 revert b
 intro bc
 refine XbG (Xa6 ?_)
 (repeat' (first|with_reducible (first|refine Xac ?_|refine Xae ?_|refine Xaa ?_)|((apply Xad rfl);(case h=>(apply Xab 0 rfl;(exact Xap _ rfl)));(case hT=>((try simp only [wtn]);rfl)))|(refine Xai rfl ?_;((refine Xas 11 rfl ?_;(refine Xam 23 Tryz.f23 ([]) _ _ _ rfl rfl Tryz.func23 (by decide) rfl (Xvv _) (VwL.refl _ _) (XqJ s) ?_;rintro _ _ ⟨bs0,rfl,rfl⟩));apply Xah;(case hT=>((try simp only [wtn]);rfl));(case hH=>((try simp only [wtn]);rfl))))|fail))
 refine Xcn ?_
 refine XgX (KN:=fun H'=>∃n out ad cap,cGo (Xb2 s) 0 []=(out,n,0)∧Wk H' [.box bl [.x (.slice ad out.length cap)],.box bc [.x (.int .i64 (n:Nat))],.row ad out.length cap 41 8 (va out),.box b4 [.x (.int .i64 0)],.box b3 [.x (.int .i64 0)],.box b2 [.x (.slice none 0 0)]])
  (KR:=fun H'=>∃(n:Nat) (c:Int),cGo (Xb2 s) 0 []=([],n,c)∧Wk H' [.box b4 [.x (.int .i64 c)],.box b3 [.x (.int .i64 n)],.box b2 [.x (.slice none 0 0)]]) rfl rfl rfl (by decide) rfl rfl ?_ ?_ ?_
 ·intro l D ρ hlD hst hpe hps has hbo hTa
  simp only [itT,Xvy,XvB,List.size_toArray,XvA,XvE,XvG,XvF,Nat.reduceAdd]
  refine Xa6 ?_
  (repeat' (first|with_reducible (first|refine Xac ?_|refine Xae ?_|refine Xaa ?_)|((apply Xad rfl);(case h=>(apply Xab 0 rfl;(exact Xan _ rfl)));(case hT=>((try simp only [wtn]);rfl)))|fail))
  refine Xcn ?_
  apply Xdq (S:=Nat × List UInt8 × List EF × Option Addr × Nat) (fun q=>frm 23 [(0,.x (.func (.yield l) #[] #[])),(1,.x (.pointer (some ⟨bs0,0,none⟩))),(3,.x (.int .i64 q.1))]) (fun q=>[.box bs0 [.x (.string (bs q.2.1))],.box bc [.x (.int .i64 q.1)],.row q.2.2.2.1 q.2.2.1.length q.2.2.2.2 41 8 (va q.2.2.1),.box bl [.x (.slice q.2.2.2.1 q.2.2.1.length q.2.2.2.2)],.box b4 [.x (.int .i64 0)],.box b3 [.x (.int .i64 0)],.box b2 [.x (.slice none 0 0)]]) (fun _=>[(l,.loop ρ),(D,.deferred (some []))])
   (fun q=>q.2.2.1.length≤q.1∧q.1+q.2.1.length≤s.length∧cGo (Xb2 s) 0 []=cGo (Xb2 q.2.1) q.1 q.2.2.1) (fun q=>q.2.1.length) (0,s,[],none,0)
  case h0=>exact XaH.mk' [] [.box bs0 _,.box bc _,.row none _ _ _ _ _,.box bl _,.box b4 _,.box b3 _,.box b2 _] (by (repeat' (first|exact Xvv _|refine XvL _ ?_|refine (XvI (l₁:=[_])).trans (XvL _ ?_)|fail))) (XaB.refl _ _) (by (repeat' (first|exact VwL.nil|(refine VwL.cons ?_ ?_)|exact Vw.refl _|fail)))
  case hΘ=>rfl
  case hi=>exact ⟨Nat.le_refl _,by simp,rfl⟩
  rintro ⟨i,rest,out,ad0,cap0⟩ ⟨h1,h2,h3⟩
  simp only at h1 h2 h3
  have h3':=Lib.hid h3
  clear h3
  simp only [frm,XvC,XvD,Xvw,Xvx,XvJ,XvK]
  refine Xa6 ?_
  (repeat' (first|with_reducible (first|refine Xag ?_|refine Xac ?_|refine Xau ?_|refine XaW ?_|refine Xae ?_|refine Xaa ?_|refine XaL ?_|refine XaJ ?_)|(refine Xak _ rfl (fun h=>?_) (fun h=>?_)<;>((try (simp only [whn] at h));skip))|((apply Xad rfl);(case h=>(first|(apply Xab 6 rfl;(exact Xaz _ _ _ _ _ _ _ _ rfl rfl XaS.out XaN.out (by first|exact Xvu rfl|fail) (by first|exact Xvu rfl|fail)))|(apply XaC;(case hs=>(intro _ _ h;cases h));(case hx=>rfl);(case hrun=>(intro w;simp [wtb,AV.val,go_sem];skip;rfl)))));(case hT=>((try simp only [wtn]);rfl)))|fail))
  ·have hne:rest≠[]:=by simpa using h
   have hpos:1≤rest.length:=by
    cases rest with
    | nil=>exact absurd rfl hne
    | cons c r=>simp
   have hcut:=XuM rest (by omega)
   unfold Xrp at hcut
   have hcl:=Xl6 hne
   have hxl:(rest.take (cmt rest)).length≤rest.length:=by simp;omega
   have hrl:(rest.drop (cmt rest+1)).length < rest.length:=by simp;omega
   clear h hne
   generalize rest.take (cmt rest)=x at hcut hcl hxl
   generalize rest.drop (cmt rest+1)=rest' at hcut hcl hrl
   have hcl':=Lib.hid hcl
   clear hcl
   refine XbG (Xcn ?_)
   refine Xa6 ?_
   (repeat' (first|with_reducible (first|refine Xac ?_|refine Xae ?_|refine Xaa ?_)|((apply Xad rfl);(case h=>(first|(apply Xab 0 rfl;(first|exact Xap _ rfl|exact Xan _ rfl))|(apply Xab 2 rfl;(exact XaM _ _ _ _ rfl rfl rfl))|(apply Xab 6 rfl;(exact Xaz _ _ _ _ _ _ _ _ rfl rfl XaS.out XaN.out (by first|exact Xvu rfl|fail) (by first|exact Xvu rfl|fail)))|(apply Xab 11 rfl;(exact Xay 49 Tryz.f49 _ _ rfl rfl Tryz.func49 (by decide) rfl (VwL.refl _ _) (hcut)))));(case hT=>((try simp only [wtn]);rfl)))|fail))
   refine XeQ (T':=frm 23 [(0,.x (.func (.yield l) #[] #[])),(1,.x (.pointer (some ⟨bs0,0,none⟩))),(3,.x (.int .i64 i)),(4,.x (.string (bs x))),(5,.x (.string (bs rest')))]) (XaH.mk' [] _ (Xvv _) (XaB.refl _ _) (by (repeat' (first|exact VwL.nil|(refine VwL.cons ?_ ?_)|exact Vw.refl _|exact Vw.top _|fail)))) ?_
   simp only [frm,XvC,XvD,Xvw,Xvx,XvJ,XvK]
   refine XbG (XbG (XbX ?_))
   (repeat' (first|(apply Xb4 rfl;(case h=>(apply Xab 0 rfl;(exact Xap _ rfl)));(case hT=>((try simp only [wtn]);rfl)))|fail))
   refine XiM (QB:=pQB bs0 bc bl b4 b3 b2 rest rest' i out) rfl rfl rfl rfl hps hst hpe rfl hTa (fun p hp=>by rw [List.mem_singleton] at hp;subst hp;exact fun e=>hlD e.symm) ?_ Xu2 ?_ ?_
   ·rw [has,hbo]
    simp only [XvK,XvJ]
    refine XeP (XcG (fun _ _ h=>by cases h.1) rfl ?_)
    (repeat' (first|with_reducible (first|refine Xae ?_|refine Xaa ?_)|((apply Xad rfl);(case h=>(apply Xab 0 rfl;(exact Xan _ rfl)));(case hT=>((try simp only [wtn]);rfl)))|fail))
    refine XcG (fun _ _ h=>by cases h.1) rfl ?_
    (repeat' (first|with_reducible (refine Xae ?_)|((apply Xad rfl);(case h=>(apply Xab 0 rfl;(exact Xan _ rfl)));(case hT=>((try simp only [wtn]);rfl)))|fail))
    refine ⟨rfl,?_⟩
    have hA:=Xt0 x (by omega)
    cases hlx:lex x with
    | error f=>
      have hc:=(Xdu x).1 f hlx
      have hg:=Lib.hid (XpK (r:=Xb2 rest') (i:=i) (out:=out) hlx)
      rw [hlx] at hA
      clear hlx
      simp only [Xd4,XhY,Flt.av] at hA
      have hc':(f.code != 0)=true:=bne_iff_ne.2 hc
      (repeat' (first|(refine XcG (fun _ _ h=>h) rfl ?_)|with_reducible (first|refine XeP ?_|refine Xea ?_|refine XhM ?_|refine Xae ?_|refine Xaa ?_|refine Xax ?_|refine Xav ?_)|(refine XeO _ rfl (fun h=>?_) (fun h=>?_)<;>first|(exact absurd h (by decide))|((try (simp only [] at h));skip))|((apply Xad rfl);(case h=>(first|(apply Xab 0 rfl;(first|exact Xap _ rfl|exact Xan _ rfl))|(apply Xab 2 rfl;(exact XaM _ _ _ _ rfl rfl rfl))|(apply Xab 5 rfl;(exact Xal _ _ _ _ _ _ rfl rfl Xa5.out))|(apply Xab 6 rfl;(exact Xaz _ _ _ _ _ _ _ _ rfl rfl XaS.out XaN.out (by first|exact Xvu rfl|fail) (by first|exact Xvu rfl|fail)))|(apply Xab 11 rfl;(exact Xay 24 Tryz.f24 _ _ rfl rfl Tryz.func24 (by decide) rfl (VwL.refl _ _) (hA)))|(apply XaC;(case hs=>(intro _ _ h;cases h));(case hx=>rfl);(case hrun=>(intro w;simp [wtb,AV.val,go_sem];(try go_bits);rfl)))));(case hT=>((try simp (disch:=omega) only [wtn,hc',Xvz,Xvw,Xvx,XvA,XvE,Nat.reduceAdd,Nat.reduceMul,Nat.reduceSub,↓reduceIte,Nat.reduceEqDiff]);rfl)))|(refine Xai rfl ?_;((first|(refine Xas 14 rfl ?_;(refine XaK _ _ rfl Xbk.out rfl (fun b=>?_)))|(refine Xas 16 rfl ?_;(refine Xaw _ _ _ _ _ _ _ rfl rfl XaS.out XaR.out (by first|rfl|fail) (by first|exact Xvu rfl|fail) ?_)));apply Xah;(case hT=>((try simp (disch:=omega) only [wtn,hc',Xvz,Xvw,Xvx,XvA,XvE,Nat.reduceAdd,Nat.reduceMul,Nat.reduceSub,↓reduceIte,Nat.reduceEqDiff]);rfl));(case hH=>((try simp (disch:=omega) only [wtn,hc',Xvz,Xvw,Xvx,XvA,XvE,Nat.reduceAdd,Nat.reduceMul,Nat.reduceSub,↓reduceIte,Nat.reduceEqDiff]);rfl))))|fail))
      refine ⟨320,by rw [hcl'.out,hg.out],Wk.mk' [_,_,_,_,_] [.box b4 _,.box b3 _,.box b2 _] (by (repeat' (first|exact Xvv _|fail))) (XaB.refl _ _)⟩
    | ok ts=>
      obtain ⟨p1,p2,p3,p4⟩:=Xhn hlx
      have hk:=Xqo hlx
      rw [hlx] at hA
      simp only [Xd4,XhY,Flt.av] at hA
      obtain ⟨td,hd⟩:∃td,td=ts.dropLast:=⟨_,rfl⟩
      have hdl:ts.length=td.length+1:=by rw [hd];simp;omega
      have hdt:(ta ts).take (td.length*4)=ta td:=by rw [Xpj,hd,List.dropLast_eq_take];simp
      rw [hdl] at hA
      by_cases ht1:td.length=0
      ·have hg:=Lib.hid (Xnu (r:=Xb2 rest') (i:=i) (out:=out) hlx (by omega))
       clear hlx hd p3 p4 hk
       (repeat' (first|(refine XcG (fun _ _ h=>h) rfl ?_)|with_reducible (first|refine XeP ?_|refine Xgf ?_|refine Xea ?_|refine Xnh ?_|refine Xae ?_|refine Xaa ?_|refine XaL ?_|refine XaJ ?_)|(refine XeO _ rfl (fun h=>?_) (fun h=>?_)<;>first|(exact absurd h (by decide))|((try (simp only [whn] at h));first|(exfalso;omega;done)|skip))|((apply Xad rfl);(case h=>(first|(apply Xab 0 rfl;(first|exact Xap _ rfl|exact Xan _ rfl))|(apply Xab 2 rfl;(exact XaM _ _ _ _ rfl rfl rfl))|(apply Xab 3 rfl;(exact XaX _ _ _ _ _ _ HEl.out rfl rfl))|(apply Xab 5 rfl;(exact Xal _ _ _ _ _ _ rfl rfl Xa5.out))|(apply Xab 6 rfl;(exact Xaz _ _ _ _ _ _ _ _ rfl rfl XaS.out XaN.out (by first|exact Xvu rfl|fail) (by first|exact Xvu rfl|fail)))|(apply Xab 11 rfl;(exact Xay 24 Tryz.f24 _ _ rfl rfl Tryz.func24 (by decide) rfl (VwL.refl _ _) (hA)))|(apply XaC;(case hs=>(intro _ _ h;cases h));(case hx=>rfl);(case hrun=>(intro w;simp [wtb,AV.val,go_sem];(try go_bits);rfl)))));(case hT=>((try simp (disch:=omega) only [wtn,hdt,Nat.sub_zero,XbP,Xvz,Xvw,Xvx,XvA,XvE,Nat.reduceAdd,Nat.reduceMul,Nat.reduceSub,↓reduceIte,Nat.reduceEqDiff]);rfl)))|(refine Xai rfl ?_;((first|(refine Xas 14 rfl ?_;(refine XaK _ _ rfl Xbk.out rfl (fun b=>?_)))|(refine Xas 16 rfl ?_;(refine Xaw _ _ _ _ _ _ _ rfl rfl XaS.out XaR.out (by first|rfl|fail) (by first|exact Xvu rfl|fail) ?_)));apply Xah;(case hT=>((try simp (disch:=omega) only [wtn,hdt,Nat.sub_zero,XbP,Xvz,Xvw,Xvx,XvA,XvE,Nat.reduceAdd,Nat.reduceMul,Nat.reduceSub,↓reduceIte,Nat.reduceEqDiff]);rfl));(case hH=>((try simp (disch:=omega) only [wtn,hdt,Nat.sub_zero,XbP,Xvz,Xvw,Xvx,XvA,XvE,Nat.reduceAdd,Nat.reduceMul,Nat.reduceSub,↓reduceIte,Nat.reduceEqDiff]);rfl))))|fail))
       exact ⟨out,ad0,cap0,by rw [hcl'.out,hg.out],by omega,Wk.mk' [_] [.box bs0 _,.box bc _,.row _ _ _ _ _ _,.box bl _,.box b4 _,.box b3 _,.box b2 _] (by (repeat' (first|exact Xvv _|fail))) (XaB.refl _ _)⟩
      ·have hm:∀t∈td,t∈ts:=fun t ht=>by rw [hd,List.dropLast_eq_take] at ht;exact List.mem_of_mem_take ht
       have hE:=XpN td (by omega) (by omega) (fun t ht=>p3 t (hm t ht)) (fun t ht h2=>hk t (hm t ht) h2) (fun t ht=>p4 t (hm t ht))
       cases hev:Xcf td with
       | none=>
         have hg:=Lib.hid (Xnt (r:=Xb2 rest') (i:=i) (out:=out) hlx (by omega) (by rw [←hd];exact hev))
         rw [hev] at hE
         clear hlx hd p3 p4 hk hm hev
         unfold Xmh at hE
         (repeat' (first|(refine XcG (fun _ _ h=>h) rfl ?_)|with_reducible (first|refine XeP ?_|refine Xgf ?_|refine Xea ?_|refine XhM ?_|refine Xae ?_|refine Xaa ?_|refine Xax ?_|refine Xav ?_)|(refine XeO _ rfl (fun h=>?_) (fun h=>?_)<;>first|(exact absurd h (by decide))|((try (simp only [whn] at h));first|(exfalso;omega;done)|skip))|((apply Xad rfl);(case h=>(first|(apply Xab 0 rfl;(first|exact Xap _ rfl|exact Xan _ rfl))|(apply Xab 2 rfl;(exact XaM _ _ _ _ rfl rfl rfl))|(apply Xab 3 rfl;(exact XaX _ _ _ _ _ _ HEl.out rfl rfl))|(apply Xab 5 rfl;(exact Xal _ _ _ _ _ _ rfl rfl Xa5.out))|(apply Xab 6 rfl;(exact Xaz _ _ _ _ _ _ _ _ rfl rfl XaS.out XaN.out (by first|exact Xvu rfl|fail) (by first|exact Xvu rfl|fail)))|(apply Xab 9 rfl;(exact XbK _ _ _ _ _ _ _ _ _ _ rfl rfl HEl.out (by first|exact .inl ⟨rfl,rfl⟩|fail) (by first|exact .inr ⟨_,_,rfl,rfl⟩|fail) (by omega) (by omega)))|(apply Xab 11 rfl;(first|exact Xay 24 Tryz.f24 _ _ rfl rfl Tryz.func24 (by decide) rfl (VwL.refl _ _) (hA)|exact Xay 25 Tryz.f25 _ _ rfl rfl Tryz.func25 (by decide) rfl (VwL.refl _ _) (hE)))|(apply XaC;(case hs=>(intro _ _ h;cases h));(case hx=>rfl);(case hrun=>(intro w;simp [wtb,AV.val,go_sem];(try go_bits);rfl)))));(case hT=>((try simp (disch:=omega) only [wtn,hdt,Nat.sub_zero,XbP,Xvz,Xvw,Xvx,XvA,XvE,Nat.reduceAdd,Nat.reduceMul,Nat.reduceSub,↓reduceIte,Nat.reduceEqDiff]);rfl)))|(refine Xai rfl ?_;((first|(refine Xas 14 rfl ?_;(refine XaK _ _ rfl Xbk.out rfl (fun b=>?_)))|(refine Xas 16 rfl ?_;(refine Xaw _ _ _ _ _ _ _ rfl rfl XaS.out XaR.out (by first|rfl|fail) (by first|exact Xvu rfl|fail) ?_)));apply Xah;(case hT=>((try simp (disch:=omega) only [wtn,hdt,Nat.sub_zero,XbP,Xvz,Xvw,Xvx,XvA,XvE,Nat.reduceAdd,Nat.reduceMul,Nat.reduceSub,↓reduceIte,Nat.reduceEqDiff]);rfl));(case hH=>((try simp (disch:=omega) only [wtn,hdt,Nat.sub_zero,XbP,Xvz,Xvw,Xvx,XvA,XvE,Nat.reduceAdd,Nat.reduceMul,Nat.reduceSub,↓reduceIte,Nat.reduceEqDiff]);rfl))))|fail))
         exact ⟨320,by rw [hcl'.out,hg.out],Wk.mk' [_,_,_,_,_,_] [.box b4 _,.box b3 _,.box b2 _] (by (repeat' (first|exact Xvv _|fail))) (XaB.refl _ _)⟩
       | some e=>
         have hg1:=Lib.hid (Xns (r:=Xb2 rest') (i:=i) (out:=out) hlx (by omega) (e:=e) (by rw [←hd];exact hev))
         have hg2:=Lib.hid (XrR (r:=Xb2 rest') (i:=i) (out:=out) hlx (by omega) (e:=e) (by rw [←hd];exact hev))
         rw [hev] at hE
         clear hlx hd p3 p4 hk hm hev
         unfold Xmh EF.cells at hE
         (repeat' (first|(refine XcG (fun _ _ h=>h) rfl ?_)|with_reducible (first|refine XeP ?_|refine Xgf ?_|refine Xea ?_|refine XhM ?_|refine Xae ?_|refine Xaa ?_|refine Xax ?_|refine Xaj ?_|refine Xav ?_)|(refine XeO _ rfl (fun h=>?_) (fun h=>?_)<;>first|(exact absurd h (by decide))|((try (simp only [whn] at h));first|(exfalso;omega;done)|skip))|((apply Xad rfl);(case h=>(first|(apply Xab 0 rfl;(first|exact Xap _ rfl|exact Xan _ rfl))|(apply Xab 2 rfl;(exact XaM _ _ _ _ rfl rfl rfl))|(apply Xab 3 rfl;(exact XaX _ _ _ _ _ _ HEl.out rfl rfl))|(apply Xab 5 rfl;(exact Xal _ _ _ _ _ _ rfl rfl Xa5.out))|(apply Xab 6 rfl;(exact Xaz _ _ _ _ _ _ _ _ rfl rfl XaS.out XaN.out (by first|exact Xvu rfl|fail) (by first|exact Xvu rfl|fail)))|(apply Xab 9 rfl;(exact XbK _ _ _ _ _ _ _ _ _ _ rfl rfl HEl.out (by first|exact .inl ⟨rfl,rfl⟩|fail) (by first|exact .inr ⟨_,_,rfl,rfl⟩|fail) (by omega) (by omega)))|(apply Xab 11 rfl;(first|exact Xay 24 Tryz.f24 _ _ rfl rfl Tryz.func24 (by decide) rfl (VwL.refl _ _) (hA)|exact Xay 25 Tryz.f25 _ _ rfl rfl Tryz.func25 (by decide) rfl (VwL.refl _ _) (hE)))|(apply XaC;(case hs=>(intro _ _ h;cases h));(case hx=>rfl);(case hrun=>(intro w;simp [wtb,AV.val,go_sem];(try go_bits);rfl)))));(case hT=>((try simp (disch:=omega) only [wtn,hdt,Nat.sub_zero,XbP,Xvz,Xvw,Xvx,XvA,XvE,Nat.reduceAdd,Nat.reduceMul,Nat.reduceSub,↓reduceIte,Nat.reduceEqDiff]);rfl)))|(refine Xai rfl ?_;((first|(refine Xas 13 rfl ?_;(refine XaP _ _ _ _ _ _ _ _ _ _ _ _ _ _ rfl rfl Xb3.out (Src.row _ rfl Xb3.out) XaY.out (by first|rfl|fail) (XdQ _ _ (by omega) (by decide)) (fun ad cap=>?_)))|(refine Xas 14 rfl ?_;(refine XaK _ _ rfl Xbk.out rfl (fun b=>?_)))|(refine Xas 16 rfl ?_;(refine Xaw _ _ _ _ _ _ _ rfl rfl XaS.out XaR.out (by first|rfl|fail) (by first|exact Xvu rfl|fail) ?_))|(refine Xas 17 rfl ?_;(refine XaE _ _ _ _ _ _ _ _ rfl XaY.out (by first|rfl|fail) rfl (by decide) rfl (fun b=>?_))));apply Xah;(case hT=>((try simp (disch:=omega) only [wtn,hdt,Nat.sub_zero,XbP,Xvz,Xvw,Xvx,XvA,XvE,Nat.reduceAdd,Nat.reduceMul,Nat.reduceSub,↓reduceIte,Nat.reduceEqDiff]);rfl));(case hH=>((try simp (disch:=omega) only [wtn,hdt,Nat.sub_zero,XbP,Xvz,Xvw,Xvx,XvA,XvE,Nat.reduceAdd,Nat.reduceMul,Nat.reduceSub,↓reduceIte,Nat.reduceEqDiff]);rfl))))|fail))
         ·exact ⟨1,by rw [hcl'.out,hg1.out (by omega)],Wk.mk' [_,_,_,_,_,_] [.box b4 _,.box b3 _,.box b2 _] (by (repeat' (first|exact Xvv _|fail))) (XaB.refl _ _)⟩
         ·refine ⟨out++[e],ad,cap,by rw [hcl'.out,hg2.out (by omega)],by simp;omega,?_⟩
          simp only [XvH,Xvy,XvB,←Xpn]
          exact Wk.mk' [_,_,_] [.box bs0 _,.box bc _,.row _ _ _ _ _ _,.box bl _,.box b4 _,.box b3 _,.box b2 _] (by (repeat' (first|exact Xvv _|fail))) (XaB.refl _ _)
   ·rintro T1 H1 ⟨out',ad',cap',e1,e2,hk⟩
    refine Xhb (hk.weak _) ?_
    simp only
    (repeat' (first|(apply Xb4 rfl;(case h=>(apply XaC;(case hs=>(intro _ _ h;cases h));(case hx=>rfl);(case hrun=>(intro w;simp [wtb,AV.val,go_sem];skip;rfl))));(case hT=>((try simp only [wtn]);rfl)))|fail))
    refine Xce ?_
    refine Xaa ?_
    refine XbW ?_
    (repeat' (first|with_reducible (first|refine Xau ?_|refine Xaa ?_)|(refine Xak _ rfl (fun h=>?_) (fun h=>?_)<;>first|(exact absurd h (by decide))|((try (simp only [] at h));skip))|fail))
    refine XbW ?_
    (repeat' (first|with_reducible (first|refine Xac ?_|refine Xae ?_|refine Xaa ?_|refine Xaj ?_)|((apply Xad rfl);(case h=>(apply Xab 0 rfl;(exact Xap _ rfl)));(case hT=>((try simp only [wtn]);rfl)))|(refine Xai rfl ?_;((refine Xas 16 rfl ?_;(refine Xaw _ _ _ _ _ _ _ rfl rfl XaS.out XaR.out (by first|rfl|fail) (by first|exact Xvu rfl|fail) ?_));apply Xah;(case hT=>((try simp only [wtn]);rfl));(case hH=>((try simp only [wtn]);rfl))))|fail))
    refine XbW ?_
    (repeat' (first|with_reducible (first|refine Xac ?_|refine Xae ?_|refine Xaa ?_)|((apply Xad rfl);(case h=>(first|(apply Xab 0 rfl;(first|exact Xap _ rfl|exact Xan _ rfl))|(apply XaC;(case hs=>(intro _ _ h;cases h));(case hx=>rfl);(case hrun=>(intro w;simp [wtb,AV.val,go_sem];(try go_bits);rfl)))));(case hT=>((try simp only [wtn]);rfl)))|fail))
    exact ⟨rfl,(i+1,rest',out',ad',cap'),by simp only;omega,⟨by simp only;omega,by simp only;omega,by simp only;rw [h3'.out,e1]⟩,rfl,(XaH.mk' [] _ (Xvv _) (XaB.refl _ _) (by (repeat' (first|exact VwL.nil|(refine VwL.cons ?_ ?_)|exact Vw.refl _|exact Vw.top _|fail))))⟩
   ·rintro T1 H1 ⟨c,e1,hk⟩
    refine Xhb (hk.weak _) ?_
    (repeat' (first|(apply Xb4 rfl;(case h=>(apply XaC;(case hs=>(intro _ _ h;cases h));(case hx=>rfl);(case hrun=>(intro w;simp [wtb,AV.val,go_sem];skip;rfl))));(case hT=>((try simp only [wtn]);rfl)))|fail))
    refine Xce ?_
    refine Xaa ?_
    refine XbW ?_
    (repeat' (first|with_reducible (first|refine Xar ?_|refine Xax ?_|refine Xav ?_)|(refine Xak _ rfl (fun h=>?_) (fun h=>?_)<;>first|(exact absurd h (by decide))|((try (simp only [] at h));skip))|fail))
    exact ⟨.inl rfl,rfl,.inr ⟨rfl,i,c,by rw [h3'.out,e1],Wk.mk' [] _ (Xvv _) (XaB.refl _ _)⟩⟩
  ·have hr:rest=[]:=by simpa using h
   subst hr
   refine ⟨.inr rfl,rfl,.inl ⟨rfl,i,out,ad0,cap0,?_,Wk.mk' [.box bs0 _] [.box bl _,.box bc _,.row _ _ _ _ _ _,.box b4 _,.box b3 _,.box b2 _] (by (repeat' (first|exact Xvv _|refine XvL _ ?_|refine (XvI (l₁:=[_,_])).trans (XvL _ ?_)|fail))) (XaB.refl _ _)⟩⟩
   rw [h3'.out]
   simp [Xb2,Xcg,cGo]
 ·rintro D H' ⟨n,out,ad,cap,hg,hk⟩
  (repeat (first|refine Xaj ?_|refine Xaa ?_|fail))
  refine XeQ (hk.weak _) ?_
  refine Xa6 ?_
  refine Xb1 mixed [] [_,_] [_,_,_,_] (Xvv _) ?_
  (first|refine Xbc 0 rfl rfl (by kernel_rfl) (by intro c T H hp;rcases hp.1 with h|h<;>cases h) _ _ _ _ _ _ _ _ rfl rfl XaS.out XaN.out (by first|exact Xvu rfl|fail) (by first|exact Xvu rfl|fail) ?_|(apply XaI 0 rfl rfl (by kernel_rfl) (by intro c T H hp;rcases hp.1 with h|h<;>cases h);(case h=>(first|exact Xbd _ rfl|fail))));(apply Xaq;(case hT=>((try simp only [wtn]);rfl));(case hH=>rfl));(first|refine Xbc 1 rfl rfl (by kernel_rfl) (by intro c T H hp;rcases hp.1 with h|h<;>cases h) _ _ _ _ _ _ _ _ rfl rfl XaS.out XaN.out (by first|exact Xvu rfl|fail) (by first|exact Xvu rfl|fail) ?_|(apply XaI 1 rfl rfl (by kernel_rfl) (by intro c T H hp;rcases hp.1 with h|h<;>cases h);(case h=>(first|exact Xbd _ rfl|fail))));(apply Xaq;(case hT=>((try simp only [wtn]);rfl));(case hH=>rfl))
  (repeat ((first|refine Xbu 2 (by decide +kernel) rfl rfl ?_|refine Xbu 3 (by decide +kernel) rfl rfl ?_|refine Xbu 4 (by decide +kernel) rfl rfl ?_|fail);(first|((refine Xas 16 rfl ?_;(refine Xaw _ _ _ _ _ _ _ rfl rfl XaS.out XaR.out (by first|rfl|fail) (by first|exact Xvu rfl|fail) ?_));apply Xaq;(case hT=>((try simp only [wtn]);rfl));(case hH=>((try simp only [wtn,Nat.reduceAdd]);rfl)))|fail)))
  refine XbL (by decide +kernel) ?_
  refine XaA rfl (by simp only [XvG,XvF];rfl) ?_
  refine Xa4 (by decide +kernel) ?_
  refine Xaa ?_
  refine XbW ?_
  (repeat' (first|with_reducible (refine Xar ?_)|fail))
  refine XnP (Xaf _ _ (Xm2 rfl (RV.cell 5 rfl rfl XaN.out (by simp) (by simp)) (RV.cell 4 rfl rfl XaN.out (by simp) (by simp)) (RV.cell 3 rfl rfl XaN.out (by simp) (by simp)) (XaH.mk' [_,_,_,_,_,_] [] (Xvv _) XaB.nil (VwL.cons (Vw.row (List.Mem.tail _ (List.Mem.tail _ (List.Mem.head _))) (VwL.refl _ _)) (VwL.refl _ _)))) ?_)
  exact ⟨by rw [hg];rfl,rfl⟩
 ·rintro D H' ⟨n,c,hg,hk⟩
  (repeat (first|refine Xav ?_|refine Xax ?_|fail))
  refine XnP (XnO (hk.weak _) (Xaf _ _ (Xm2 rfl (RV.cell 2 rfl rfl XaN.out (by simp) (by simp)) (RV.cell 1 rfl rfl XaN.out (by simp) (by simp)) (RV.cell 0 rfl rfl XaN.out (by simp) (by simp)) (XaH.mk' [_,_,_] [] (Xvv _) XaB.nil (VwL.cons Vw.nil (VwL.refl _ _)))) ?_))
  exact ⟨by rw [hg];rfl,rfl⟩
end Go.Proofs.YtdpobjakdplljaaGreatDoor

import Derived.Test.YtdlblokjfoggpaaGreatDoorW7
import Derived.Test.YtdlblokjfoggpaaGreatDoorW13
/- The program's patterns: a pattern; Parse. -/
set_option linter.unusedSimpArgs false
set_option linter.unusedVariables false
set_option maxRecDepth 100000
set_option maxHeartbeats 8000000
namespace Go.Proofs.YtdlblokjfoggpaaGreatDoor
open Go.RowKit
theorem Xrh (n:Nat) (s:List UInt8) (r:RxR):Xb7 (n+1) s r =
  if r.c=0∧r.p.at_≠s.length∧chr s r.p.at_=124 then
   Xb7 n s (if (XaO n s { r.p with at_:=r.p.at_+1 } none).c=0 then ((XaO n s { r.p with at_:=r.p.at_+1 } none).p.ok { kind:=4,left:=r.v,right:=(XaO n s { r.p with at_:=r.p.at_+1 } none).v }) else ⟨r.v,(XaO n s { r.p with at_:=r.p.at_+1 } none).c,(XaO n s { r.p with at_:=r.p.at_+1 } none).p⟩)
  else r:=by
 rw [Xb7]
theorem XxC (s:List UInt8) (n:Nat) (hs:s.length≤128) (ih:∀m,m < n→Xw6 s m):XwO s n:=by
 intro pb p ad cap hp ho hn hf
 obtain ⟨n,rfl⟩:∃q,n=q+1:=⟨n - 1,by omega⟩
 have hc:=ih n (by omega) pb p ad cap hp ho hn (by omega)
 have ha:=(XcK s n).alt p none hp ho
 have hR0:rxPat (n+1) s p=Xb7 n s (XaO n s p none):=by rw [rxPat]
 generalize rxPat (n+1) s p=R at *
 generalize XaO n s p none=Q at *
 obtain ⟨v,c,q⟩:=Q
 obtain ⟨k,o,ns⟩:=q
 obtain ⟨a1,a2,a3,a4,a5,a6⟩:=ha
 simp only [if_true] at hc hR0 a1 a2 a3 a4 a5 a6
 have h3:=XkY s hs
 have hA:=XsZ pb s
 have hih:=Lib.hid ih
 clear ih
 have hR0:=Lib.hid hR0
 refine XaV Tryz.func131 Tryz.ntmps131 ?_
 (have wx:=@Xbr;(repeat' (first|refine Wkx.go ?_|refine Xad ?_|(refine Xab rfl ?_;((refine Xau 159 Tryz.f159 [_,_] _ _ _ rfl rfl Tryz.func159 (by decide) rfl (Xyo _) (VwL.refl _ _) (hc) ?_;rintro _ _ ⟨ad,cap,rfl,rfl⟩);refine XaJ ?_))|fail)))<;>(try clear wx)
 refine Xah (S:=RxR × Nat × Option Addr × Nat) (fun q=>frm 52 [(0,.x (.pointer (some ⟨pb,0,none⟩))),(2,.x (.int .i64 0)),(3,.x (.int .i64 0)),(4,.x (.int .i64 (q.1.v:Nat))),(5,.x (.int .i64 (q.1.c:Nat)))]) (fun q=>[.box pb [.x (.string (bs s)),.x (.int .i64 (q.1.p.at_:Nat)),.x (.int .i64 (q.1.p.opn:Nat)),.x (.slice q.2.2.1 (q.1.p.ns).length q.2.2.2)],.row q.2.2.1 (q.1.p.ns).length q.2.2.2 127 7 (nda (q.1.p.ns))]) (fun q=>q.1.p.at_≤s.length∧q.1.p.opn≤24∧q.1.p.ns.length≤3*q.1.p.at_+1∧5*(s.length - q.1.p.at_)+2≤q.2.1∧q.2.1≤n∧R=Xb7 q.2.1 s q.1) (fun q=>s.length - q.1.p.at_) (⟨v,c,⟨k,o,ns⟩⟩,n,ad,cap) (XaX (D:=[])) ⟨a2,a3,by simp only;omega,by simp only;omega,Nat.le_refl _,hR0.out⟩ fun q hq=>?_
 clear hR0
 obtain ⟨r,m,ad,cap⟩:=q
 obtain ⟨b1,b2,b3,b5,b6,hR⟩:=hq
 obtain ⟨rv,rc,rp⟩:=r
 obtain ⟨rk,ro,rns⟩:=rp
 simp only at b1 b2 b3 b5 b6 hR
 obtain ⟨m,rfl⟩:∃q,m=q+1:=⟨m - 1,by omega⟩
 rw [Xrh] at hR
 simp only [RS.ok,RS.add] at hR
 have hc:=Lib.hid (fun h:rk+1≤s.length=>hih.out m (by omega) pb ⟨rk+1,ro,rns⟩ ad cap h b2 (by simp only;omega) (by simp only;omega))
 have ha:=fun h:rk+1≤s.length=>(XcK s m).alt ⟨rk+1,ro,rns⟩ none h b2
 have hq:=Xcm s rk
 by_cases hlt:rk < s.length
 ·obtain ⟨a1,a2,a3,a4,a5,a6⟩:=ha hlt
  have hc:=Lib.hid (hc.out hlt)
  generalize XaO m s ⟨rk+1,ro,rns⟩ none=Q at *
  obtain ⟨qv,qc,qp⟩:=Q
  obtain ⟨qk,qo,qns⟩:=qp
  simp only [if_true] at hc hR a1 a2 a3 a4 a5 a6
  have hc:=Lib.hid hc.out
  have hR:=Lib.hid hR
  simp only [wfr]
  (have wx:=And.intro @XaY @Xbr;(repeat' (first|refine Wkx.go ?_|refine Xc4 ?_|(refine Xaz (fun h=>?_) (fun h=>?_)<;>skip)|refine Xad ?_ (h:=by (intro hp;(try simp only [wgp] at hp);(try simp only [hp,wte]);(try simp only [whn] at hp);exact XdD rfl rfl Tryz.func132 (hS:=h3.out _ _ _ _ _ (by omega))))|refine Xad ?_ (h:=by (intro hp;(try simp only [wgp] at hp);(try simp only [hp,wte]);(try simp only [whn] at hp);exact Xam _ _ _ _ _ _ _ rfl rfl rfl (by kernel_rfl) Xdi.out (by omega)))|refine Xad ?_|(refine Xab rfl ?_;(first|((refine Xau 159 Tryz.f159 [_,_] _ _ _ rfl rfl Tryz.func159 (by decide) rfl (Xyo _) (VwL.refl _ _) (hc.out) ?_;rintro _ _ ⟨ad,cap,rfl,rfl⟩);refine XaJ ?_)|((refine Xau 160 Tryz.f160 [_,_] _ _ _ rfl rfl Tryz.func160 (by decide) rfl (Xyo _) (VwL.refl _ _) (hA.out _ _ qns _ _ 4 rv qv _ _ _ rfl rfl rfl (by omega)) ?_;rintro _ _ ⟨ad,cap,rfl,rfl⟩);refine XaJ ?_)|refine Xbh ?_))|fail)))<;>(try clear wx)
  ·obtain rfl:qc=0:=by omega
   have hR2:=hR.out
   rw [if_pos ⟨by omega,by omega,by omega⟩,if_pos rfl] at hR2
   exact ⟨(⟨qns.length,0,⟨qk,qo,qns++[⟨4,rv,qv,0⟩]⟩⟩,m,ad,cap),by simp only;omega,⟨a2,a3,by simp only [XyA,List.length_singleton];omega,by simp only;omega,by simp only;omega,hR2⟩,(XaX (D:=[]))⟩
  ·have hR:=hR.out
   rw [if_pos ⟨by omega,by omega,by omega⟩,if_neg (by omega)] at hR
   exact ⟨(⟨rv,qc,⟨qk,qo,qns⟩⟩,m,ad,cap),by simp only;omega,⟨a2,a3,by simp only;omega,by simp only;omega,by simp only;omega,hR⟩,(XaX (D:=[]))⟩
  ·have hR:=hR.out
   rw [if_neg (fun h=>by omega)] at hR
   subst hR
   refine Xaa _ _ (XbR rfl (RV.tmp _) (RV.tmp _) (Xaj.mk' [] [.box pb _,.row ad _ cap _ _ _] (Xyo _) (Xak.refl _ _) (VwL.refl _ _))) ⟨ad,cap,?_,?_⟩
   ·rfl
   ·rfl
 ·clear hc ha
  have hR:=Lib.hid hR
  simp only [wfr]
  (have wx:=And.intro @XaY @Xbr;(repeat' (first|refine Wkx.go ?_|refine Xc4 ?_|(refine Xaz (fun h=>?_) (fun h=>?_)<;>first|(exfalso;omega;done)|skip)|refine Xad ?_ (h:=by (intro hp;(try simp only [wgp] at hp);(try simp only [hp,wte]);(try simp only [whn] at hp);exact XdD rfl rfl Tryz.func132 (hS:=h3.out _ _ _ _ _ (by omega))))|refine Xad ?_ (h:=by (intro hp;(try simp only [wgp] at hp);(try simp only [hp,wte]);(try simp only [whn] at hp);exact Xam _ _ _ _ _ _ _ rfl rfl rfl (by kernel_rfl) Xdi.out (by omega)))|refine Xad ?_|fail)))<;>(try clear wx)
  have hR:=hR.out
  rw [if_neg (fun h=>by omega)] at hR
  subst hR
  refine Xaa _ _ (XbR rfl (RV.tmp _) (RV.tmp _) (Xaj.mk' [] [.box pb _,.row ad _ cap _ _ _] (Xyo _) (Xak.refl _ _) (VwL.refl _ _))) ⟨ad,cap,?_,?_⟩
  ·rfl
  ·rfl
theorem Xwk (s:List UInt8) (hs:s.length≤128):∀N n,n≤N→XwO s n∧Xw6 s n∧XsW s n∧XsQ s n:=by
 intro N
 induction N with
 | zero=>
   intro n hn
   obtain rfl:n=0:=by omega
   exact ⟨fun pb p ad cap h1 h2 h3 h4=>by omega,fun pb p ad cap h1 h2 h3 h4=>by omega,fun pb p ad cap h1 h2 h3 h4=>by omega,fun pb p ad cap h1 h2 h3 h4=>by omega⟩
 | succ N ih=>
   intro n hn
   by_cases h:n≤N
   ·exact ih n h
   obtain rfl:n=N+1:=by omega
   exact ⟨XxC s _ hs fun m hm=>(ih m (by omega)).2.1,Xxc s _ hs fun m hm=>(ih m (by omega)).2.2.1,Xv7 s N hs (ih N (Nat.le_refl _)).2.2.2,Xva s N hs (ih N (Nat.le_refl _)).1⟩
def Xuv (s:List UInt8):AV:=match XbG s with
 | .error c=>.tup [.x (.slice none 0 0),.x (.int .i64 (c:Nat))]
 | .ok l=>.tup [.sq l.length (nda l),.x (.int .i64 0)]
theorem XmJ (s:List UInt8) (hl:s.length≤100000000) (hs:128 < s.length):Xay Tryz.prog 112 [] [.x (.string (bs s))] (fun r H'=>r=.tup [.x (.slice none 0 0),.x (.int .i64 ((1:Nat):Int))]∧H'=[]):=by
 refine XaV Tryz.func112 Tryz.ntmps112 ?_
 (repeat' (first|refine Wkx.go ?_|(refine Xaz (fun h=>?_) (fun h=>?_)<;>first|(exfalso;omega;done)|skip)|refine Xad ?_|fail))
 refine Xaa _ _ (XbR rfl (RV.tmp _) (RV.tmp _) (Xaj.mk' [] [] (Xyo _) Xak.nil (VwL.refl _ _))) ⟨rfl,rfl⟩
theorem Xkd (s:List UInt8) (hs:s.length≤128):Xay Tryz.prog 112 [] [.x (.string (bs s))] (fun r H'=>r=(match (if (rxPat (5*s.length+5) s ⟨0,0,[]⟩).c≠0 then .error (rxPat (5*s.length+5) s ⟨0,0,[]⟩).c else if (rxPat (5*s.length+5) s ⟨0,0,[]⟩).p.at_≠s.length then .error 83 else if 256 < (rxPat (5*s.length+5) s ⟨0,0,[]⟩).p.ns.length then .error 1 else .ok (rxPat (5*s.length+5) s ⟨0,0,[]⟩).p.ns:Except Nat (List Nd)) with
  | .error c=>.tup [.x (.slice none 0 0),.x (.int .i64 (c:Nat))]
  | .ok l=>.tup [.sq l.length (nda l),.x (.int .i64 0)])∧H'=[]):=by
 have hP:=fun pb=>(Xwk s hs _ (5*s.length+5) (Nat.le_refl _)).1 pb ⟨0,0,[]⟩ none 0 (Nat.zero_le _) (by decide) (by decide) (by simp only;omega)
 have ha:=(XcK s (5*s.length+5)).pat ⟨0,0,[]⟩ (Nat.zero_le _) (by decide)
 generalize rxPat (5*s.length+5) s ⟨0,0,[]⟩=Q at *
 obtain ⟨v,c,q⟩:=Q
 obtain ⟨k,o,ns⟩:=q
 obtain ⟨a1,a2,a3,a4,a5,a6⟩:=ha
 simp only at hP a1 a2 a3 a4 a5 a6 ⊢
 have h3:=XkY s hs
 have hP:=Lib.hid hP
 refine XaV Tryz.func112 Tryz.ntmps112 ?_
 refine Xa3 127 7 ?_
 (repeat' (first|refine Wkx.go ?_|(refine Xaz (fun h=>?_) (fun h=>?_)<;>first|(exfalso;omega;done)|skip)|refine Xad ?_ (h:=by exact fun _=>XdD rfl rfl Tryz.func132 (hS:=h3.out _ _ _ _ _ (by omega)))|refine Xad ?_|(refine Xab rfl ?_;(first|((refine Xau 131 Tryz.f131 [_,_] _ _ _ rfl rfl Tryz.func131 (by decide) rfl (Xyo _) (VwL.refl _ _) (hP.out _) ?_;rintro _ _ ⟨ad,cap,rfl,rfl⟩);refine XaJ ?_)|refine Xd9 (fun b=>?_)))|fail))
 ·refine Xaa _ _ (XbR rfl (RV.tmp _) (RV.tmp _) (Xaj.mk' [_,_] [] (Xyo _) Xak.nil (VwL.refl _ _))) ⟨?_,rfl⟩
  rw [if_pos (by omega)];rfl
 ·refine Xaa _ _ (XbR rfl (RV.tmp _) (RV.tmp _) (Xaj.mk' [_,_] [] (Xyo _) Xak.nil (VwL.refl _ _))) ⟨?_,rfl⟩
  rw [if_neg (by omega),if_pos (by omega)];rfl
 ·refine Xaa _ _ (XbR rfl (RV.tmp _) (RV.tmp _) (Xaj.mk' [_,_] [] (Xyo _) Xak.nil (VwL.refl _ _))) ⟨?_,rfl⟩
  rw [if_neg (by omega),if_neg (by omega),if_pos (by omega)];rfl
 ·refine Xaa _ _ (XbR rfl (RV.tmp _) (RV.tmp _) (Xaj.mk' [_,_] [] (Xyo _) Xak.nil (VwL.cons (Vw.row (List.Mem.tail _ (List.Mem.head _)) (VwL.refl _ _)) (VwL.refl _ _)))) ⟨?_,rfl⟩
  rw [if_neg (by omega),if_neg (by omega),if_neg (by omega)];rfl
theorem Xui (s:List UInt8) (hl:s.length≤100000000):Xay Tryz.prog 112 [] [.x (.string (bs s))] (fun r H'=>r=Xuv s∧H'=[]):=by
 unfold Xuv XbG
 by_cases hs:128 < s.length
 ·rw [if_pos hs]
  simp only
  exact XmJ s hl hs
 rw [if_neg hs]
 simp only
 exact Xkd s (by omega)
end Go.Proofs.YtdlblokjfoggpaaGreatDoor

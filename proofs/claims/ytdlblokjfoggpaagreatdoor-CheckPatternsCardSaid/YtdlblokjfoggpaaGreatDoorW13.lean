import Derived.Test.YtdlblokjfoggpaaGreatDoorW7
import Derived.Test.YtdlblokjfoggpaaGreatDoorW12
/- The program's patterns: a class. -/
set_option linter.unusedSimpArgs false
set_option linter.unusedVariables false
set_option maxRecDepth 100000
set_option maxHeartbeats 8000000
namespace Go.Proofs.YtdlblokjfoggpaaGreatDoor
open Go.RowKit
theorem elems (pb:Nat) (s:List UInt8) (p:RS) (ad:Option Addr) (cap:Nat) (hs:s.length≤128):RowKit.Hid (∀k,k < s.length→Xay Tryz.prog 203 [.box pb [.x (.string (bs s)),.x (.int .i64 (k:Nat)),.x (.int .i64 p.opn),.x (.slice ad p.ns.length cap)]] [.x (.pointer (some ⟨pb,0,none⟩))] (fun r H'=>
  r=.tup [.x (v4 (XaP s k).1),.x (.int .i64 ((XaP s k).2.1:Nat))]∧H'=[.box pb [.x (.string (bs s)),.x (.int .i64 ((XaP s k).2.2:Nat)),.x (.int .i64 p.opn),.x (.slice ad p.ns.length cap)]])):=
 Lib.hid fun k h=>Xvv pb s { p with at_:=k } ad cap hs h
theorem Xti (pb:Nat) (s:List UInt8) (p:RS) (ad:Option Addr) (cap:Nat) (hs:s.length≤128) (hp:p.at_≤s.length):Xay Tryz.prog 198 [.box pb (pcx s p ad cap)] [.x (.pointer (some ⟨pb,0,none⟩))] (fun r H'=>
  r=.tup [.x (v4 (Xbn s p.at_).1),.x (.int .i64 ((Xbn s p.at_).2.1:Nat))]∧H'=[.box pb (pcx s { p with at_:=(Xbn s p.at_).2.2 } ad cap)]):=by
 have h3:=XrW s p ad cap hs
 have he:=elems pb s p ad cap hs
 have hq:=Xcm s p.at_
 have hR:Xbn s p.at_=XcA (decide (p.at_≠s.length∧chr s p.at_=94)) (s.length+1) s (if p.at_≠s.length∧chr s p.at_=94 then p.at_+1 else p.at_) 0 false:=by
  unfold Xbn
  split
  ·rename_i h;rw [decide_eq_true h]
  ·rename_i h;rw [decide_eq_false h]
 generalize Xbn s p.at_=R at *
 generalize hng:decide (p.at_≠s.length∧chr s p.at_=94)=ng at *
 have hng:=Lib.hid hng
 unfold pcx
 refine XaV Tryz.func198 Tryz.ntmps198 ?_
 (have wx:=And.intro @XaY (And.intro @Xdw (And.intro @Xgz (And.intro @w4r (And.intro @Xex @Xbr))));(repeat' (first|refine Wkx.go ?_|refine Xc4 ?_|(refine Xaz (fun h=>?_) (fun h=>?_)<;>skip)|refine Xad ?_ (h:=by exact fun _=>XdD rfl rfl Tryz.func132 (hS:=h3.out _ (by omega)))|refine Xad ?_ (h:=by (intro hp;(try simp only [wgp] at hp);(try simp only [hp,wte]);(try simp only [whn] at hp);exact Xam _ _ _ _ _ _ _ rfl rfl rfl (by kernel_rfl) Xdi.out (by omega)))|refine Xad ?_|(refine Xab rfl ?_;(first|refine Xbh ?_|refine Xb8 (fun b=>?_)))|fail)))<;>(try clear wx)
 ·have hh:p.at_≠s.length∧chr s p.at_=94:=by omega
  rename_i br
  revert b
  intro bt
  rw [←Xfq]
  refine Xah (S:=Nat × Nat × Nat × Nat) (fun q=>frm 75 [(0,.x (.pointer (some ⟨pb,0,none⟩))),(2,.x (.pointer (some ⟨br,0,none⟩))),(3,.x (.int .i64 0)),(4,.x (.pointer (some ⟨bt,0,none⟩))),(5,.x (.bool (!p.at_ == s.length && (chr s p.at_:Int) == 94))),(6,.x (.int .i64 (q.2.2.1:Nat)))]) (fun q=>[.box bt (w4 q.2.1),.box br (w4 0),.box pb [.x (.string (bs s)),.x (.int .i64 (q.1:Nat)),.x (.int .i64 p.opn),.x (.slice ad p.ns.length cap)]]) (fun q=>q.1≤s.length∧q.2.2.1≤q.1∧s.length < q.2.2.2+q.1∧R=XcA ng q.2.2.2 s q.1 q.2.1 (decide (0 < q.2.2.1))) (fun q=>s.length - q.1) (p.at_+1,0,0,s.length+1) (XaX (D:=[])) ⟨by simp only;omega,Nat.zero_le _,by simp only;omega,by rw [hR,if_pos hh];rfl⟩ fun q hq=>?_
  obtain ⟨k,n,c,m⟩:=q
  obtain ⟨hk,hc,hm,hr⟩:=hq
  simp only at hk hc hm hr
  obtain ⟨m,rfl⟩:∃q,m=q+1:=⟨m - 1,by omega⟩
  rw [XcA] at hr
  simp only [decide_eq_true_eq] at hr
  have hr:=Lib.hid hr
  have ha:=Xdp s k
  have hqk:=Xcm s k
  simp only [wfr]
  (have wx:=And.intro @XaY (And.intro @Xdw (And.intro @Xgz (And.intro @w4r (And.intro @Xex (And.intro @Xif @Xbr)))));(repeat' (first|refine Wkx.go ?_|refine Xc4 ?_|(refine Xaz (fun h=>?_) (fun h=>?_)<;>first|(exfalso;omega;done)|skip)|refine Xad ?_ (h:=by exact fun _=>XdD rfl rfl Tryz.func132 (hS:=h3.out _ (by omega)))|refine Xad ?_ (h:=by exact fun _=>Xbb rfl rfl Tryz.func200 (Xld _))|refine Xad ?_ (h:=by exact fun _=>Xbb rfl rfl Tryz.func204 (XkD _ _))|refine Xad ?_ (h:=by exact fun _=>Xam _ _ _ _ _ _ _ rfl rfl rfl (by kernel_rfl) Xdi.out (by omega))|refine Xad ?_|(refine Xab rfl ?_;(first|((refine Xa7 Tryz.func203 [_] rfl rfl (XyB (l₁:=[_,_])) (he.out k (by omega)) ?_;rintro _ _ ⟨rfl,rfl⟩);refine XaJ ?_)|refine Xbh ?_|refine Xb8 (fun b=>?_)))|fail)))<;>(try clear wx)
  ·skip
   have hrr:=hr.out
   have hngv:=hng.out
   rw [decide_eq_true hh] at hngv
   subst hngv
   refine Xaa _ _ (XbR rfl (RV.cell 1 rfl rfl XaI.out (by simp) (by simp)) (RV.tmp _) (Xaj.mk' [.box bt _,.box br _] [.box pb _] (by (repeat' (first|exact Xyo _|fail))) (Xak.refl _ _) (VwL.refl _ _))) ⟨?_,?_⟩
   all_goals (rw [hrr];(try simp only);(repeat' split)<;>first|rfl|(exfalso;omega)|(exfalso;simp_all;done)|fail)
  ·skip
   have hrr:=hr.out
   have hngv:=hng.out
   rw [decide_eq_true hh] at hngv
   subst hngv
   refine Xaa _ _ (XbR rfl (RV.cell 3 rfl rfl XaI.out (by simp) (by simp)) (RV.tmp _) (Xaj.mk' [.box b _,.box bt _,.box br _] [.box pb _] (by (repeat' (first|exact Xyo _|refine XyE _ ?_|refine (XyB (l₁:=[_])).trans (XyE _ ?_)|fail))) (Xak.refl _ _) (VwL.refl _ _))) ⟨?_,?_⟩
   all_goals (rw [hrr];(try simp only);(repeat' split)<;>first|rfl|(rw [Xcs];rfl)|(exfalso;omega)|fail)
  ·have hrr:=hr.out
   rw [if_neg (by omega),if_neg (by omega),if_neg (by omega)] at hrr
   exact ⟨((XaP s k).2.2,n ||| (XaP s k).1,c+1,m),by simp only;omega,⟨by simp only;omega,by simp only;omega,by simp only;omega,by simp only;rw [hrr];simp⟩,(Xaj.mk' [.box b _] [.box bt _,.box br _,.box pb _] (by (repeat' (first|exact Xyo _|refine XyE _ ?_|refine (XyB (l₁:=[_])).trans (XyE _ ?_)|fail))) (Xak.refl _ _) (by (repeat' (first|exact VwL.nil|(refine VwL.cons ?_ ?_)|exact Vw.refl _|exact Vw.top _|fail))))⟩
  ·skip
   have hrr:=hr.out
   have hngv:=hng.out
   rw [decide_eq_true hh] at hngv
   subst hngv
   refine Xaa _ _ (XbR rfl (RV.cell 1 rfl rfl XaI.out (by simp) (by simp)) (RV.tmp _) (Xaj.mk' [.box bt _,.box br _] [.box pb _] (by (repeat' (first|exact Xyo _|fail))) (Xak.refl _ _) (VwL.refl _ _))) ⟨?_,?_⟩
   all_goals (rw [hrr];(try simp only);(repeat' split)<;>first|rfl|(rw [Xcs];rfl)|fail)
 ·have hh:¬(p.at_≠s.length∧chr s p.at_=94):=by omega
  rename_i br
  revert b
  intro bt
  rw [←Xfq]
  refine Xah (S:=Nat × Nat × Nat × Nat) (fun q=>frm 75 [(0,.x (.pointer (some ⟨pb,0,none⟩))),(2,.x (.pointer (some ⟨br,0,none⟩))),(3,.x (.int .i64 0)),(4,.x (.pointer (some ⟨bt,0,none⟩))),(5,.x (.bool (!p.at_ == s.length && (chr s p.at_:Int) == 94))),(6,.x (.int .i64 (q.2.2.1:Nat)))]) (fun q=>[.box bt (w4 q.2.1),.box br (w4 0),.box pb [.x (.string (bs s)),.x (.int .i64 (q.1:Nat)),.x (.int .i64 p.opn),.x (.slice ad p.ns.length cap)]]) (fun q=>q.1≤s.length∧q.2.2.1≤q.1∧s.length < q.2.2.2+q.1∧R=XcA ng q.2.2.2 s q.1 q.2.1 (decide (0 < q.2.2.1))) (fun q=>s.length - q.1) (p.at_,0,0,s.length+1) (XaX (D:=[])) ⟨by simp only;omega,Nat.zero_le _,by simp only;omega,by rw [hR,if_neg hh];rfl⟩ fun q hq=>?_
  obtain ⟨k,n,c,m⟩:=q
  obtain ⟨hk,hc,hm,hr⟩:=hq
  simp only at hk hc hm hr
  obtain ⟨m,rfl⟩:∃q,m=q+1:=⟨m - 1,by omega⟩
  rw [XcA] at hr
  simp only [decide_eq_true_eq] at hr
  have hr:=Lib.hid hr
  have ha:=Xdp s k
  have hqk:=Xcm s k
  simp only [wfr]
  (have wx:=And.intro @XaY (And.intro @Xdw (And.intro @Xgz (And.intro @w4r (And.intro @Xex (And.intro @Xif @Xbr)))));(repeat' (first|refine Wkx.go ?_|refine Xc4 ?_|(refine Xaz (fun h=>?_) (fun h=>?_)<;>first|(exfalso;omega;done)|skip)|refine Xad ?_ (h:=by exact fun _=>XdD rfl rfl Tryz.func132 (hS:=h3.out _ (by omega)))|refine Xad ?_ (h:=by exact fun _=>Xbb rfl rfl Tryz.func204 (XkD _ _))|refine Xad ?_ (h:=by exact fun _=>Xam _ _ _ _ _ _ _ rfl rfl rfl (by kernel_rfl) Xdi.out (by omega))|refine Xad ?_|(refine Xab rfl ?_;(first|((refine Xa7 Tryz.func203 [_] rfl rfl (XyB (l₁:=[_,_])) (he.out k (by omega)) ?_;rintro _ _ ⟨rfl,rfl⟩);refine XaJ ?_)|refine Xbh ?_|refine Xb8 (fun b=>?_)))|fail)))<;>(try clear wx)
  ·skip
   have hrr:=hr.out
   have hngv:=hng.out
   rw [decide_eq_false hh] at hngv
   subst hngv
   refine Xaa _ _ (XbR rfl (RV.cell 1 rfl rfl XaI.out (by simp) (by simp)) (RV.tmp _) (Xaj.mk' [.box bt _,.box br _] [.box pb _] (by (repeat' (first|exact Xyo _|fail))) (Xak.refl _ _) (VwL.refl _ _))) ⟨?_,?_⟩
   all_goals (rw [hrr];(try simp only);(repeat' split)<;>first|rfl|(exfalso;omega)|(exfalso;simp_all;done)|fail)
  ·skip
   have hrr:=hr.out
   have hngv:=hng.out
   rw [decide_eq_false hh] at hngv
   subst hngv
   refine Xaa _ _ (XbR rfl (RV.cell 3 rfl rfl XaI.out (by simp) (by simp)) (RV.tmp _) (Xaj.mk' [.box b _,.box bt _,.box br _] [.box pb _] (by (repeat' (first|exact Xyo _|refine XyE _ ?_|refine (XyB (l₁:=[_])).trans (XyE _ ?_)|fail))) (Xak.refl _ _) (VwL.refl _ _))) ⟨?_,?_⟩
   all_goals (rw [hrr];(try simp only);(repeat' split)<;>first|rfl|(rw [Xcs];rfl)|(exfalso;omega)|fail)
  ·have hrr:=hr.out
   rw [if_neg (by omega),if_neg (by omega),if_neg (by omega)] at hrr
   exact ⟨((XaP s k).2.2,n ||| (XaP s k).1,c+1,m),by simp only;omega,⟨by simp only;omega,by simp only;omega,by simp only;omega,by simp only;rw [hrr];simp⟩,(Xaj.mk' [.box b _] [.box bt _,.box br _,.box pb _] (by (repeat' (first|exact Xyo _|refine XyE _ ?_|refine (XyB (l₁:=[_])).trans (XyE _ ?_)|fail))) (Xak.refl _ _) (by (repeat' (first|exact VwL.nil|(refine VwL.cons ?_ ?_)|exact Vw.refl _|exact Vw.top _|fail))))⟩
  ·skip
   have hrr:=hr.out
   have hngv:=hng.out
   rw [decide_eq_false hh] at hngv
   subst hngv
   refine Xaa _ _ (XbR rfl (RV.cell 1 rfl rfl XaI.out (by simp) (by simp)) (RV.tmp _) (Xaj.mk' [.box bt _,.box br _] [.box pb _] (by (repeat' (first|exact Xyo _|fail))) (Xak.refl _ _) (VwL.refl _ _))) ⟨?_,?_⟩
   all_goals (rw [hrr];(try simp only);(repeat' split)<;>first|rfl|(rw [Xcs];rfl)|fail)
def XwO (s:List UInt8) (n:Nat):Prop:=∀(pb:Nat) (p:RS) (ad:Option Addr) (cap:Nat),p.at_≤s.length→p.opn≤24→p.ns.length≤3*p.at_→5*(s.length - p.at_)+4≤n→Xay Tryz.prog 131 [.box pb [.x (.string (bs s)),.x (.int .i64 (p.at_:Nat)),.x (.int .i64 (p.opn:Nat)),.x (.slice ad (p.ns).length cap)],.row ad (p.ns).length cap 127 7 (nda (p.ns))] [.x (.pointer (some ⟨pb,0,none⟩))] (fun r H'=>∃ad' cap',r=.tup [.x (.int .i64 ((rxPat n s p).v:Nat)),.x (.int .i64 ((rxPat n s p).c:Nat))]∧H'=[.box pb [.x (.string (bs s)),.x (.int .i64 ((rxPat n s p).p.at_:Nat)),.x (.int .i64 ((rxPat n s p).p.opn:Nat)),.x (.slice ad' ((rxPat n s p).p.ns).length cap')],.row ad' ((rxPat n s p).p.ns).length cap' 127 7 (nda ((rxPat n s p).p.ns))])
def Xw6 (s:List UInt8) (n:Nat):Prop:=∀(pb:Nat) (p:RS) (ad:Option Addr) (cap:Nat),p.at_≤s.length→p.opn≤24→p.ns.length≤3*p.at_→5*(s.length - p.at_)+2≤n→Xay Tryz.prog 159 [.box pb [.x (.string (bs s)),.x (.int .i64 (p.at_:Nat)),.x (.int .i64 (p.opn:Nat)),.x (.slice ad (p.ns).length cap)],.row ad (p.ns).length cap 127 7 (nda (p.ns))] [.x (.pointer (some ⟨pb,0,none⟩))] (fun r H'=>∃ad' cap',r=.tup [.x (.int .i64 ((XaO n s p none).v:Nat)),.x (.int .i64 ((XaO n s p none).c:Nat))]∧H'=[.box pb [.x (.string (bs s)),.x (.int .i64 ((XaO n s p none).p.at_:Nat)),.x (.int .i64 ((XaO n s p none).p.opn:Nat)),.x (.slice ad' ((XaO n s p none).p.ns).length cap')],.row ad' ((XaO n s p none).p.ns).length cap' 127 7 (nda ((XaO n s p none).p.ns))])
def XsW (s:List UInt8) (n:Nat):Prop:=∀(pb:Nat) (p:RS) (ad:Option Addr) (cap:Nat),p.at_ < s.length→p.opn≤24→p.ns.length≤3*p.at_+1→5*(s.length - p.at_)+1≤n→Xay Tryz.prog 177 [.box pb [.x (.string (bs s)),.x (.int .i64 (p.at_:Nat)),.x (.int .i64 (p.opn:Nat)),.x (.slice ad (p.ns).length cap)],.row ad (p.ns).length cap 127 7 (nda (p.ns))] [.x (.pointer (some ⟨pb,0,none⟩))] (fun r H'=>∃ad' cap',r=.tup [.x (.int .i64 ((XaC n s p).v:Nat)),.x (.int .i64 ((XaC n s p).c:Nat))]∧H'=[.box pb [.x (.string (bs s)),.x (.int .i64 ((XaC n s p).p.at_:Nat)),.x (.int .i64 ((XaC n s p).p.opn:Nat)),.x (.slice ad' ((XaC n s p).p.ns).length cap')],.row ad' ((XaC n s p).p.ns).length cap' 127 7 (nda ((XaC n s p).p.ns))])
def XsQ (s:List UInt8) (n:Nat):Prop:=∀(pb:Nat) (p:RS) (ad:Option Addr) (cap:Nat),p.at_ < s.length→p.opn≤24→p.ns.length≤3*p.at_+1→5*(s.length - p.at_)≤n→Xay Tryz.prog 192 [.box pb [.x (.string (bs s)),.x (.int .i64 (p.at_:Nat)),.x (.int .i64 (p.opn:Nat)),.x (.slice ad (p.ns).length cap)],.row ad (p.ns).length cap 127 7 (nda (p.ns))] [.x (.pointer (some ⟨pb,0,none⟩))] (fun r H'=>∃ad' cap',r=.tup [.x (.int .i64 ((Xa6 n s p).v:Nat)),.x (.int .i64 ((Xa6 n s p).c:Nat))]∧H'=[.box pb [.x (.string (bs s)),.x (.int .i64 ((Xa6 n s p).p.at_:Nat)),.x (.int .i64 ((Xa6 n s p).p.opn:Nat)),.x (.slice ad' ((Xa6 n s p).p.ns).length cap')],.row ad' ((Xa6 n s p).p.ns).length cap' 127 7 (nda ((Xa6 n s p).p.ns))])
theorem XxT (pb:Nat) (s:List UInt8):RowKit.Hid (∀(k o:Nat) (ns:List Nd) (ad:Option Addr) (cap:Nat) (n:Nd),ns.length≤1000→Xay Tryz.prog 160 [.box pb [.x (.string (bs s)),.x (.int .i64 (k:Nat)),.x (.int .i64 (o:Nat)),.x (.slice ad (ns).length cap)],.row ad (ns).length cap 127 7 (nda (ns))] [.x (.pointer (some ⟨pb,0,none⟩)),.x (.agg #[.int .i64 n.kind,.int .i64 n.left,.int .i64 n.right,.int .u64 (wd n.set 0:Nat),.int .u64 (wd n.set 1:Nat),.int .u64 (wd n.set 2:Nat),.int .u64 (wd n.set 3:Nat)])] (fun r H'=>∃ad' cap',r=.x (.int .i64 ns.length)∧H'=[.box pb [.x (.string (bs s)),.x (.int .i64 (k:Nat)),.x (.int .i64 (o:Nat)),.x (.slice ad' (ns++[n]).length cap')],.row ad' (ns++[n]).length cap' 127 7 (nda (ns++[n]))])):=
 Lib.hid fun k o ns ad cap n h=>Xxb pb s ⟨k,o,ns⟩ ad cap n h
def Xc1 (n:Nat) (s:List UInt8) (p:RS):RxR:=
 if p.opn=24 then ⟨0,84,p⟩ else
 if (rxPat n s { p with at_:=p.at_+1,opn:=p.opn+1 }).c≠0 then ⟨0,(rxPat n s { p with at_:=p.at_+1,opn:=p.opn+1 }).c,(rxPat n s { p with at_:=p.at_+1,opn:=p.opn+1 }).p⟩ else
 if (rxPat n s { p with at_:=p.at_+1,opn:=p.opn+1 }).p.at_=s.length then ⟨0,83,(rxPat n s { p with at_:=p.at_+1,opn:=p.opn+1 }).p⟩ else
 ⟨(rxPat n s { p with at_:=p.at_+1,opn:=p.opn+1 }).v,0,{ (rxPat n s { p with at_:=p.at_+1,opn:=p.opn+1 }).p with at_:=(rxPat n s { p with at_:=p.at_+1,opn:=p.opn+1 }).p.at_+1,opn:=(rxPat n s { p with at_:=p.at_+1,opn:=p.opn+1 }).p.opn - 1 }⟩
theorem XtG (k:Nat) (h:1≤k):(k:Int) - 1=((k - 1:Nat):Int):=by omega
theorem XtD (s:List UInt8) (n:Nat) (hs:s.length≤128) (ih:XwO s n) (pb:Nat) (p:RS) (ad:Option Addr) (cap:Nat) (hp:p.at_ < s.length) (ho:p.opn≤24) (hn:p.ns.length≤3*p.at_+1) (hf:5*(s.length - p.at_)≤n+1):Xay Tryz.prog 197 [.box pb [.x (.string (bs s)),.x (.int .i64 (p.at_:Nat)),.x (.int .i64 (p.opn:Nat)),.x (.slice ad (p.ns).length cap)],.row ad (p.ns).length cap 127 7 (nda (p.ns))] [.x (.pointer (some ⟨pb,0,none⟩))] (fun r H'=>∃ad' cap',r=.tup [.x (.int .i64 ((Xc1 n s p).v:Nat)),.x (.int .i64 ((Xc1 n s p).c:Nat))]∧H'=[.box pb [.x (.string (bs s)),.x (.int .i64 ((Xc1 n s p).p.at_:Nat)),.x (.int .i64 ((Xc1 n s p).p.opn:Nat)),.x (.slice ad' ((Xc1 n s p).p.ns).length cap')],.row ad' ((Xc1 n s p).p.ns).length cap' 127 7 (nda ((Xc1 n s p).p.ns))]):=by
 have hc:=fun h=>ih pb { p with at_:=p.at_+1,opn:=p.opn+1 } ad cap (by simp only;omega) h (by simp only;omega) (by simp only;omega)
 have ha:=fun h=>(XcK s n).pat { p with at_:=p.at_+1,opn:=p.opn+1 } (by simp only;omega) h
 simp only at hc ha
 unfold Xc1
 generalize rxPat n s { p with at_:=p.at_+1,opn:=p.opn+1 }=R at *
 obtain ⟨v,c,q⟩:=R
 obtain ⟨k,o,ns⟩:=q
 simp only at hc ha ⊢
 clear ih
 refine XaV Tryz.func197 Tryz.ntmps197 ?_
 by_cases h24:p.opn=24
 ·clear hc ha
  (have wx:=@Xbr;(repeat' (first|refine Wkx.go ?_|(refine Xaz (fun h=>?_) (fun h=>?_)<;>first|(exfalso;omega;done)|skip)|refine Xad ?_|fail)))<;>(try clear wx)
  refine Xaa _ _ (XbR rfl (RV.tmp _) (RV.tmp _) (Xaj.mk' [] [_,_] (Xyo _) (Xak.refl _ _) (VwL.refl _ _))) ⟨ad,cap,?_,?_⟩
  ·rw [if_pos h24];rfl
  ·rw [if_pos h24]
 obtain ⟨a1,a2,a3,a4,a5,a6⟩:=ha (by omega)
 have hc:=hc (by omega)
 clear ha
 simp only at a1 a2 a3 a4 a5 a6
 (have wx:=And.intro @Xbr @XtG;(repeat' (first|refine Wkx.go ?_|(refine Xaz (fun h=>?_) (fun h=>?_)<;>first|(exfalso;omega;done)|skip)|refine Xad ?_ (h:=by exact fun _=>XdD rfl rfl Tryz.func132 (hS:=XjU s ⟨k,o,ns⟩ ad cap hs a2))|refine Xad ?_|(refine Xab rfl ?_;(first|((refine Xa7 Tryz.func131 ([_,_]) rfl rfl (.refl _) (hc) ?_;rintro _ _ ⟨ad,cap,rfl,rfl⟩);refine XaJ ?_)|refine Xbh ?_))|fail)))<;>(try clear wx)
 all_goals
  refine Xaa _ _ (XbR rfl (RV.tmp _) (RV.tmp _) (Xaj.mk' [] [_,_] (Xyo _) (Xak.refl _ _) (VwL.refl _ _))) ⟨ad,cap,?_,?_⟩
  all_goals ((repeat' split)<;>first|rfl|(exfalso;omega)|fail)
theorem Xi5 (n:Nat) (s:List UInt8) (p:RS):Xa6 (n+1) s p =
  if chr s p.at_=42∨chr s p.at_=43∨chr s p.at_=63 then ⟨0,81,p⟩ else
  if chr s p.at_=93 then ⟨0,80,p⟩ else
  if chr s p.at_=40 then Xc1 n s p else
  if chr s p.at_=91 then
   if (Xbn s (p.at_+1)).2.1≠0 then ⟨0,(Xbn s (p.at_+1)).2.1,{ p with at_:=(Xbn s (p.at_+1)).2.2 }⟩ else ({ p with at_:=(Xbn s (p.at_+1)).2.2 }:RS).ok { kind:=2,set:=(Xbn s (p.at_+1)).1 } else
  if chr s p.at_=92 then
   if (XbL s p.at_).2.2.1≠0 then ⟨0,(XbL s p.at_).2.2.1,{ p with at_:=(XbL s p.at_).2.2.2 }⟩ else ({ p with at_:=(XbL s p.at_).2.2.2 }:RS).ok { kind:=2,set:=(XbL s p.at_).2.1 } else
  ({ p with at_:=p.at_+1 }:RS).ok (if chr s p.at_=94 then { kind:=8 } else if chr s p.at_=36 then { kind:=9 } else if chr s p.at_=46 then { kind:=2,set:=Xfg (XaM 10 10) } else { kind:=2,set:=XaM (chr s p.at_) (chr s p.at_) }):=by
 rw [Xa6];rfl
theorem XkY (s:List UInt8) (hs:s.length≤128):RowKit.Hid (∀(k o:Nat) (ns:List Nd) (ad:Option Addr) (cap:Nat),k≤s.length→Xay Tryz.prog 132 [] [.at_ [.x (.string (bs s)),.x (.int .i64 (k:Nat)),.x (.int .i64 (o:Nat)),.x (.slice ad ns.length cap)]] (fun r H'=>r=.x (.bool (k == s.length))∧H'=[])):=
 Lib.hid fun k o ns ad cap h=>XjU s ⟨k,o,ns⟩ ad cap hs h
theorem XsZ (pb:Nat) (s:List UInt8):RowKit.Hid (∀(k o:Nat) (ns:List Nd) (ad:Option Addr) (cap:Nat) (kd l r:Nat) (a b c:Int),a=(kd:Int)→b=(l:Int)→c=(r:Int)→ns.length≤1000→Xay Tryz.prog 160 [.box pb [.x (.string (bs s)),.x (.int .i64 (k:Nat)),.x (.int .i64 (o:Nat)),.x (.slice ad (ns).length cap)],.row ad (ns).length cap 127 7 (nda (ns))] [.x (.pointer (some ⟨pb,0,none⟩)),.x (.agg #[.int .i64 a,.int .i64 b,.int .i64 c,.int .u64 0,.int .u64 0,.int .u64 0,.int .u64 0])] (fun r' H'=>∃ad' cap',r'=.x (.int .i64 ns.length)∧H'=[.box pb [.x (.string (bs s)),.x (.int .i64 (k:Nat)),.x (.int .i64 (o:Nat)),.x (.slice ad' (ns++[(⟨kd,l,r,0⟩:Nd)]).length cap')],.row ad' (ns++[(⟨kd,l,r,0⟩:Nd)]).length cap' 127 7 (nda (ns++[(⟨kd,l,r,0⟩:Nd)]))])):=
 Lib.hid fun k o ns ad cap kd l r a b c ha hb hc h=>by
  subst ha hb hc
  have:=(XxT pb s).out k o ns ad cap ⟨kd,l,r,0⟩ h
  simp only [XaU] at this
  exact this
theorem Xv7 (s:List UInt8) (n:Nat) (hs:s.length≤128) (ih:XsQ s n):XsW s (n+1):=by
 intro pb p ad cap hp ho hn hf
 have hc:=ih pb p ad cap hp ho hn (by omega)
 have ha:=((XcK s n).atom p hp ho).1
 have hR:∀q,Xa6 n s p=q→XaC (n+1) s p=if q.c≠0 then ⟨0,q.c,q.p⟩ else Xcf (s.length+1) s q.p q.v:=fun q hq=>by subst hq;rw [XaC]
 generalize Xa6 n s p=Q at *
 have hR:=hR Q rfl
 generalize XaC (n+1) s p=R at *
 obtain ⟨v,c,q⟩:=Q
 obtain ⟨k,o,ns⟩:=q
 obtain ⟨a1,a2,a3,a4,a5,a6⟩:=ha
 simp only at hc hR a1 a2 a3 a4 a5 a6
 have h3:=XkY s hs
 have hA:=XsZ pb s
 clear ih
 have hR:=Lib.hid hR
 refine XaV Tryz.func177 Tryz.ntmps177 ?_
 (have wx:=@Xbr;(repeat' (first|refine Wkx.go ?_|(refine Xaz (fun h=>?_) (fun h=>?_)<;>skip)|refine Xad ?_|(refine Xab rfl ?_;((refine Xau 192 Tryz.f192 [_,_] _ _ _ rfl rfl Tryz.func192 (by decide) rfl (Xyo _) (VwL.refl _ _) (hc) ?_;rintro _ _ ⟨ad,cap,rfl,rfl⟩);refine XaJ ?_))|fail)))<;>(try clear wx)
 ·have hR:=hR.out
  rw [if_pos (by omega)] at hR
  subst hR
  refine Xaa _ _ (XbR rfl (RV.tmp _) (RV.tmp _) (Xaj.mk' [] [.box pb _,.row ad _ cap _ _ _] (Xyo _) (Xak.refl _ _) (VwL.refl _ _))) ⟨ad,cap,?_,?_⟩
  ·rfl
  ·rfl
 have hR':R=Xcf (s.length+1) s ⟨k,o,ns⟩ v:=by have hR:=hR.out;rw [if_neg (by omega)] at hR;exact hR
 clear hR
 refine Xah (S:=Nat × Nat × List Nd × Nat × Option Addr × Nat) (fun q=>frm 47 [(0,.x (.pointer (some ⟨pb,0,none⟩))),(2,.x (.int .i64 0)),(3,.x (.int .i64 0)),(4,.x (.int .i64 (q.2.1:Nat)))]) (fun q=>[.box pb [.x (.string (bs s)),.x (.int .i64 (q.1:Nat)),.x (.int .i64 (o:Nat)),.x (.slice q.2.2.2.2.1 (q.2.2.1).length q.2.2.2.2.2)],.row q.2.2.2.2.1 (q.2.2.1).length q.2.2.2.2.2 127 7 (nda (q.2.2.1))]) (fun q=>q.1≤s.length∧q.2.2.1.length≤3*q.1+1∧s.length < q.2.2.2.1+q.1∧R=Xcf q.2.2.2.1 s ⟨q.1,o,q.2.2.1⟩ q.2.1) (fun q=>s.length - q.1) (k,v,ns,s.length+1,ad,cap) (XaX (D:=[])) ⟨a2,by simp only;omega,by simp only;omega,hR'⟩ fun q hq=>?_
 clear hR'
 obtain ⟨k,v,ns,m,ad,cap⟩:=q
 obtain ⟨b1,b2,b3,hR⟩:=hq
 simp only at b1 b2 b3 hR
 obtain ⟨m,rfl⟩:∃q,m=q+1:=⟨m - 1,by omega⟩
 rw [Xcf] at hR
 simp only [RS.add] at hR
 have hR:=Lib.hid hR
 have hq:=Xcm s k
 simp only [wfr]
 (have wx:=And.intro @XaY @Xbr;(repeat' (first|refine Wkx.go ?_|refine Xc4 ?_|(refine Xaz (fun h=>?_) (fun h=>?_)<;>skip)|refine Xad ?_ (h:=by exact fun _=>XdD rfl rfl Tryz.func132 (hS:=h3.out _ _ _ _ _ (by omega)))|refine Xad ?_ (h:=by exact fun _=>Xam _ _ _ _ _ _ _ rfl rfl rfl (by kernel_rfl) Xdi.out (by omega))|refine Xad ?_|(refine Xab rfl ?_;(first|((refine Xau 160 Tryz.f160 [_,_] _ _ _ rfl rfl Tryz.func160 (by decide) rfl (Xyo _) (VwL.refl _ _) (hA.out _ _ ns _ _ 5 v 0 _ _ _ rfl rfl rfl (by omega)) ?_;rintro _ _ ⟨ad,cap,rfl,rfl⟩);refine XaJ ?_)|((refine Xau 160 Tryz.f160 [_,_] _ _ _ rfl rfl Tryz.func160 (by decide) rfl (Xyo _) (VwL.refl _ _) (hA.out _ _ ns _ _ 6 v 0 _ _ _ rfl rfl rfl (by omega)) ?_;rintro _ _ ⟨ad,cap,rfl,rfl⟩);refine XaJ ?_)|((refine Xau 160 Tryz.f160 [_,_] _ _ _ rfl rfl Tryz.func160 (by decide) rfl (Xyo _) (VwL.refl _ _) (hA.out _ _ ns _ _ 7 v 0 _ _ _ rfl rfl rfl (by omega)) ?_;rintro _ _ ⟨ad,cap,rfl,rfl⟩);refine XaJ ?_)|refine Xbh ?_))|fail)))<;>(try clear wx)
 ·have hR:=hR.out
  rw [if_neg (by omega),if_pos (by omega)] at hR
  exact ⟨(k+1,ns.length,ns++[⟨5,v,0,0⟩],m,ad,cap),by simp only;omega,⟨by simp only;omega,by simp only [XyA,List.length_singleton];omega,by simp only;omega,hR⟩,(XaX (D:=[]))⟩
 ·have hR:=hR.out
  rw [if_neg (by omega),if_neg (by omega),if_pos (by omega)] at hR
  exact ⟨(k+1,ns.length,ns++[⟨6,v,0,0⟩],m,ad,cap),by simp only;omega,⟨by simp only;omega,by simp only [XyA,List.length_singleton];omega,by simp only;omega,hR⟩,(XaX (D:=[]))⟩
 ·have hR:=hR.out
  rw [if_neg (by omega),if_neg (by omega),if_neg (by omega),if_pos (by omega)] at hR
  exact ⟨(k+1,ns.length,ns++[⟨7,v,0,0⟩],m,ad,cap),by simp only;omega,⟨by simp only;omega,by simp only [XyA,List.length_singleton];omega,by simp only;omega,hR⟩,(XaX (D:=[]))⟩
 ·have hR:=hR.out
  rw [if_neg (by omega),if_neg (by omega),if_neg (by omega),if_neg (by omega)] at hR
  subst hR
  refine Xaa _ _ (XbR rfl (RV.tmp _) (RV.tmp _) (Xaj.mk' [] [.box pb _,.row ad _ cap _ _ _] (Xyo _) (Xak.refl _ _) (VwL.refl _ _))) ⟨ad,cap,?_,?_⟩
  ·rfl
  ·rfl
 ·have hR:=hR.out
  rw [if_pos (by omega)] at hR
  subst hR
  refine Xaa _ _ (XbR rfl (RV.tmp _) (RV.tmp _) (Xaj.mk' [] [.box pb _,.row ad _ cap _ _ _] (Xyo _) (Xak.refl _ _) (VwL.refl _ _))) ⟨ad,cap,?_,?_⟩
  ·rfl
  ·rfl
def lft:Option Nat→Int
 | none => -1
 | some l=>l
theorem Xxc (s:List UInt8) (n:Nat) (hs:s.length≤128) (ih:∀m,m < n→XsW s m):Xw6 s n:=by
 intro pb p ad cap hp ho hn hf
 have h3:=XkY s hs
 have hA:=XsZ pb s
 have hih:=Lib.hid ih
 clear ih
 generalize hR0:XaO n s p none=R
 have hR0:=Lib.hid hR0
 refine XaV Tryz.func159 Tryz.ntmps159 ?_
 (repeat' (first|refine Wkx.go ?_|refine Xad ?_|fail))
 refine Xah (S:=RS × Option Nat × Nat × Option Addr × Nat) (fun q=>frm 56 [(0,.x (.pointer (some ⟨pb,0,none⟩))),(2,.x (.int .i64 0)),(3,.x (.int .i64 0)),(4,.x (.int .i64 (lft q.2.1)))]) (fun q=>[.box pb [.x (.string (bs s)),.x (.int .i64 (q.1.at_:Nat)),.x (.int .i64 (q.1.opn:Nat)),.x (.slice q.2.2.2.1 (q.1.ns).length q.2.2.2.2)],.row q.2.2.2.1 (q.1.ns).length q.2.2.2.2 127 7 (nda (q.1.ns))]) (fun q=>q.1.at_≤s.length∧q.1.opn≤24∧q.1.ns.length≤3*q.1.at_+1∧(q.2.1=none→q.1.ns.length≤3*q.1.at_)∧5*(s.length - q.1.at_)+2≤q.2.2.1∧q.2.2.1≤n∧R=XaO q.2.2.1 s q.1 q.2.1) (fun q=>s.length - q.1.at_) (p,none,n,ad,cap) (XaX (D:=[])) ⟨hp,ho,by simp only;omega,fun _=>hn,by simp only;omega,Nat.le_refl _,hR0.out.symm⟩ fun q hq=>?_
 clear hR0
 obtain ⟨q,left,m,ad,cap⟩:=q
 obtain ⟨b1,b2,b3,b4,b5,b6,hR⟩:=hq
 simp only at b1 b2 b3 b4 b5 b6 hR
 obtain ⟨m,rfl⟩:∃q,m=q+1:=⟨m - 1,by omega⟩
 rw [Xcb] at hR
 have hc:=Lib.hid (fun h:q.at_ < s.length=>hih.out m (by omega) pb q ad cap h b2 b3 (by omega))
 have ha:=fun h:q.at_ < s.length=>(XcK s m).part q h b2
 have hq:=Xcm s q.at_
 obtain ⟨qk,qo,qns⟩:=q
 simp only at b1 b2 b3 b4 b5 hR hc ha hq
 by_cases hlt:qk < s.length
 ·obtain ⟨⟨a1,a2,a3,a4,a5,a6⟩,a7⟩:=ha hlt
  have hc:=Lib.hid (hc.out hlt)
  generalize XaC m s ⟨qk,qo,qns⟩=Q at *
  obtain ⟨rv,rc,rp⟩:=Q
  obtain ⟨rk,ro,rns⟩:=rp
  simp only at hc hR a1 a2 a3 a4 a5 a6 a7
  have hc:=Lib.hid hc.out
  rcases left with _|l
  ·have b4:=b4 rfl
   simp only [RS.ok,RS.add] at hR
   have hR:=Lib.hid hR
   simp only [wfr]
   simp only [lft]
   (have wx:=And.intro @XaY @Xbr;(repeat' (first|refine Wkx.go ?_|refine Xc4 ?_|(refine Xaz (fun h=>?_) (fun h=>?_)<;>first|(exact absurd h (by decide))|skip)|refine Xad ?_ (h:=by exact fun _=>XdD rfl rfl Tryz.func132 (hS:=h3.out _ _ _ _ _ (by omega)))|refine Xad ?_ (h:=by (intro hp;(try simp only [wgp] at hp);(try simp only [hp,wte]);(try simp only [whn] at hp);exact Xam _ _ _ _ _ _ _ rfl rfl rfl (by kernel_rfl) Xdi.out (by omega)))|refine Xad ?_|(refine Xab rfl ?_;(first|((refine Xau 177 Tryz.f177 [_,_] _ _ _ rfl rfl Tryz.func177 (by decide) rfl (Xyo _) (VwL.refl _ _) (hc.out) ?_;rintro _ _ ⟨ad,cap,rfl,rfl⟩);refine XaJ ?_)|((refine Xau 160 Tryz.f160 [_,_] _ _ _ rfl rfl Tryz.func160 (by decide) rfl (Xyo _) (VwL.refl _ _) (hA.out _ _ qns _ _ 1 0 0 _ _ _ rfl rfl rfl (by omega)) ?_;rintro _ _ ⟨ad,cap,rfl,rfl⟩);refine XaJ ?_)))|fail)))<;>(try clear wx)
   ·have hR:=hR.out
    rw [if_pos ⟨by omega,by omega,by omega⟩,if_pos (by omega)] at hR
    subst hR
    refine Xaa _ _ (XbR rfl (RV.tmp _) (RV.tmp _) (Xaj.mk' [] [.box pb _,.row ad _ cap _ _ _] (Xyo _) (Xak.refl _ _) (VwL.refl _ _))) ⟨ad,cap,?_,?_⟩
    ·rfl
    ·rfl
   ·have hR:=hR.out
    rw [if_pos ⟨by omega,by omega,by omega⟩,if_neg (by omega)] at hR
    exact ⟨(⟨rk,ro,rns⟩,some rv,m,ad,cap),by simp only [RS.add];omega,⟨by simp only [RS.add];omega,by simp only [RS.add];omega,by simp only [RS.add,XyA,List.length_singleton];omega,fun h=>(by simp at h),by simp only [RS.add];omega,by simp only;omega,hR⟩,(XaX (D:=[]))⟩
   ·have hR:=hR.out
    rw [if_neg (fun h=>by omega)] at hR
    subst hR
    refine Xaa _ _ (XbR rfl (RV.tmp _) (RV.tmp _) (Xaj.mk' [] [.box pb _,.row ad _ cap _ _ _] (Xyo _) (Xak.refl _ _) (VwL.refl _ _))) ⟨ad,cap,?_,?_⟩
    ·rfl
    ·rfl
  ·clear b4
   simp only [RS.ok,RS.add] at hR
   have hR:=Lib.hid hR
   simp only [wfr]
   simp only [lft]
   (have wx:=And.intro @XaY @Xbr;(repeat' (first|refine Wkx.go ?_|refine Xc4 ?_|(refine Xaz (fun h=>?_) (fun h=>?_)<;>first|(exfalso;omega;done)|skip)|refine Xad ?_ (h:=by exact fun _=>XdD rfl rfl Tryz.func132 (hS:=h3.out _ _ _ _ _ (by omega)))|refine Xad ?_ (h:=by (intro hp;(try simp only [wgp] at hp);(try simp only [hp,wte]);(try simp only [whn] at hp);exact Xam _ _ _ _ _ _ _ rfl rfl rfl (by kernel_rfl) Xdi.out (by omega)))|refine Xad ?_|(refine Xab rfl ?_;(first|((refine Xau 177 Tryz.f177 [_,_] _ _ _ rfl rfl Tryz.func177 (by decide) rfl (Xyo _) (VwL.refl _ _) (hc.out) ?_;rintro _ _ ⟨ad,cap,rfl,rfl⟩);refine XaJ ?_)|((refine Xau 160 Tryz.f160 [_,_] _ _ _ rfl rfl Tryz.func160 (by decide) rfl (Xyo _) (VwL.refl _ _) (hA.out _ _ rns _ _ 3 l rv _ _ _ rfl rfl rfl (by omega)) ?_;rintro _ _ ⟨ad,cap,rfl,rfl⟩);refine XaJ ?_)))|fail)))<;>(try clear wx)
   ·have hR:=hR.out
    rw [if_pos ⟨by omega,by omega,by omega⟩,if_pos (by omega)] at hR
    subst hR
    refine Xaa _ _ (XbR rfl (RV.tmp _) (RV.tmp _) (Xaj.mk' [] [.box pb _,.row ad _ cap _ _ _] (Xyo _) (Xak.refl _ _) (VwL.refl _ _))) ⟨ad,cap,?_,?_⟩
    ·rfl
    ·rfl
   ·have hR:=hR.out
    rw [if_pos ⟨by omega,by omega,by omega⟩,if_neg (by omega)] at hR
    exact ⟨(⟨rk,ro,rns++[⟨3,l,rv,0⟩]⟩,some rns.length,m,ad,cap),by simp only [RS.add];omega,⟨by simp only [RS.add];omega,by simp only [RS.add];omega,by simp only [RS.add,XyA,List.length_singleton];omega,fun h=>(by simp at h),by simp only [RS.add];omega,by simp only;omega,hR⟩,(XaX (D:=[]))⟩
   ·have hR:=hR.out
    rw [if_neg (fun h=>by omega)] at hR
    subst hR
    refine Xaa _ _ (XbR rfl (RV.tmp _) (RV.tmp _) (Xaj.mk' [] [.box pb _,.row ad _ cap _ _ _] (Xyo _) (Xak.refl _ _) (VwL.refl _ _))) ⟨ad,cap,?_,?_⟩
    ·rfl
    ·rfl
 ·clear hc ha
  rcases left with _|l
  ·have b4:=b4 rfl
   simp only [RS.ok,RS.add] at hR
   have hR:=Lib.hid hR
   simp only [wfr]
   simp only [lft]
   (have wx:=And.intro @XaY @Xbr;(repeat' (first|refine Wkx.go ?_|refine Xc4 ?_|(refine Xaz (fun h=>?_) (fun h=>?_)<;>first|(exact absurd h (by decide))|(exfalso;omega;done)|skip)|refine Xad ?_ (h:=by exact fun _=>XdD rfl rfl Tryz.func132 (hS:=h3.out _ _ _ _ _ (by omega)))|refine Xad ?_ (h:=by (intro hp;(try simp only [wgp] at hp);(try simp only [hp,wte]);(try simp only [whn] at hp);exact Xam _ _ _ _ _ _ _ rfl rfl rfl (by kernel_rfl) Xdi.out (by omega)))|refine Xad ?_|(refine Xab rfl ?_;((refine Xau 160 Tryz.f160 [_,_] _ _ _ rfl rfl Tryz.func160 (by decide) rfl (Xyo _) (VwL.refl _ _) (hA.out _ _ qns _ _ 1 0 0 _ _ _ rfl rfl rfl (by omega)) ?_;rintro _ _ ⟨ad,cap,rfl,rfl⟩);refine XaJ ?_))|fail)))<;>(try clear wx)
   ·have hR:=hR.out
    rw [if_neg (fun h=>by omega)] at hR
    subst hR
    refine Xaa _ _ (XbR rfl (RV.tmp _) (RV.tmp _) (Xaj.mk' [] [.box pb _,.row ad _ cap _ _ _] (Xyo _) (Xak.refl _ _) (VwL.refl _ _))) ⟨ad,cap,?_,?_⟩
    ·rfl
    ·rfl
  ·clear b4
   simp only [RS.ok,RS.add] at hR
   have hR:=Lib.hid hR
   simp only [wfr]
   simp only [lft]
   (have wx:=And.intro @XaY @Xbr;(repeat' (first|refine Wkx.go ?_|refine Xc4 ?_|(refine Xaz (fun h=>?_) (fun h=>?_)<;>first|(exfalso;omega;done)|skip)|refine Xad ?_ (h:=by exact fun _=>XdD rfl rfl Tryz.func132 (hS:=h3.out _ _ _ _ _ (by omega)))|refine Xad ?_ (h:=by (intro hp;(try simp only [wgp] at hp);(try simp only [hp,wte]);(try simp only [whn] at hp);exact Xam _ _ _ _ _ _ _ rfl rfl rfl (by kernel_rfl) Xdi.out (by omega)))|refine Xad ?_|fail)))<;>(try clear wx)
   ·have hR:=hR.out
    rw [if_neg (fun h=>by omega)] at hR
    subst hR
    refine Xaa _ _ (XbR rfl (RV.tmp _) (RV.tmp _) (Xaj.mk' [] [.box pb _,.row ad _ cap _ _ _] (Xyo _) (Xak.refl _ _) (VwL.refl _ _))) ⟨ad,cap,?_,?_⟩
    ·rfl
    ·rfl
theorem Xva (s:List UInt8) (n:Nat) (hs:s.length≤128) (ih:XwO s n):XsQ s (n+1):=by
 intro pb p ad cap hp ho hn hf
 rw [Xi5]
 have hg:=XtD s n hs ih pb p ad cap hp ho hn hf
 have hcl:=Xti pb s { p with at_:=p.at_+1 } ad cap hs (by simp only;omega)
 have hes:=Xvw pb s p ad cap hs hp
 have hA:=XxT pb s
 have hq:=Xcm s p.at_
 unfold pcx at hcl hes
 simp only at hcl
 generalize Xc1 n s p=G at *
 clear ih
 refine XaV Tryz.func192 Tryz.ntmps192 ?_
 (have wx:=And.intro @XaY (And.intro @Xdw (And.intro @Xgz (And.intro @w4r (And.intro @Xex (And.intro @Xif @Xbr)))));(repeat' (first|refine Wkx.go ?_|refine Xc4 ?_|(refine Xaz (fun h=>?_) (fun h=>?_)<;>first|(exfalso;omega;done)|skip)|refine Xad ?_ (h:=by exact fun _=>Xbb rfl rfl Tryz.func201 (Xb3 10 10 (by decide) (by decide)))|refine Xad ?_ (h:=by exact fun _=>Xbb rfl rfl Tryz.func201 (Xb3 _ _ hq hq))|refine Xad ?_ (h:=by exact fun _=>Xbb rfl rfl Tryz.func200 (Xld _))|refine Xad ?_ (h:=by exact fun _=>Xam _ _ _ _ _ _ _ rfl rfl rfl (by kernel_rfl) Xdi.out (by omega))|refine Xad ?_|(refine Xab rfl ?_;(first|((refine Xau 197 Tryz.f197 [_,_] _ _ _ rfl rfl Tryz.func197 (by decide) rfl (Xyo _) (VwL.refl _ _) (hg) ?_;rintro _ _ ⟨ad,cap,rfl,rfl⟩);refine XaJ ?_)|((refine Xa7 Tryz.func198 [_] rfl rfl (.refl _) (hcl) ?_;rintro _ _ ⟨rfl,rfl⟩);refine XaJ ?_)|((refine Xa7 Tryz.func199 [_] rfl rfl (.refl _) (hes) ?_;rintro _ _ ⟨rfl,rfl⟩);refine XaJ ?_)|((refine Xau 160 Tryz.f160 [_,_] _ _ _ rfl rfl Tryz.func160 (by decide) rfl (List.perm_append_comm (l₁:=[_]) (l₂:=[_,_])) (VwL.refl _ _) (hA.out _ _ _ _ _ ⟨2,0,0,(Xbn s (p.at_+1)).1⟩ (by omega)) ?_;rintro _ _ ⟨ad,cap,rfl,rfl⟩);refine XaJ ?_)|((refine Xau 160 Tryz.f160 [_,_] _ _ _ rfl rfl Tryz.func160 (by decide) rfl (List.perm_append_comm (l₁:=[_]) (l₂:=[_,_])) (VwL.refl _ _) (hA.out _ _ _ _ _ ⟨2,0,0,(XbL s p.at_).2.1⟩ (by omega)) ?_;rintro _ _ ⟨ad,cap,rfl,rfl⟩);refine XaJ ?_)|((refine Xau 160 Tryz.f160 [_,_] _ _ _ rfl rfl Tryz.func160 (by decide) rfl (Xyo _) (VwL.refl _ _) (hA.out _ _ _ _ _ ⟨8,0,0,0⟩ (by omega)) ?_;rintro _ _ ⟨ad,cap,rfl,rfl⟩);refine XaJ ?_)|((refine Xau 160 Tryz.f160 [_,_] _ _ _ rfl rfl Tryz.func160 (by decide) rfl (Xyo _) (VwL.refl _ _) (hA.out _ _ _ _ _ ⟨9,0,0,0⟩ (by omega)) ?_;rintro _ _ ⟨ad,cap,rfl,rfl⟩);refine XaJ ?_)|((refine Xau 160 Tryz.f160 [_,_] _ _ _ rfl rfl Tryz.func160 (by decide) rfl (Xyo _) (VwL.refl _ _) (hA.out _ _ _ _ _ ⟨2,0,0,Xfg (XaM 10 10)⟩ (by omega)) ?_;rintro _ _ ⟨ad,cap,rfl,rfl⟩);refine XaJ ?_)|((refine Xau 160 Tryz.f160 [_,_] _ _ _ rfl rfl Tryz.func160 (by decide) rfl (Xyo _) (VwL.refl _ _) (hA.out _ _ _ _ _ ⟨2,0,0,XaM (chr s p.at_) (chr s p.at_)⟩ (by omega)) ?_;rintro _ _ ⟨ad,cap,rfl,rfl⟩);refine XaJ ?_)|refine Xbh ?_|refine Xb8 (fun b=>?_)))|fail)))<;>(try clear wx)
 all_goals
  first|refine Xaa _ _ (XbR rfl (RV.tmp _) (RV.tmp _) (Xaj.mk' [] [.box pb _,.row ad _ cap _ _ _] (Xyo _) (Xak.refl _ _) (VwL.refl _ _))) ⟨ad,cap,?_,?_⟩|refine Xaa _ _ (XbR rfl (RV.tmp _) (RV.tmp _) (Xaj.mk' [_] [.box pb _,.row ad _ cap _ _ _] (Xyo _) (Xak.refl _ _) (VwL.refl _ _))) ⟨ad,cap,?_,?_⟩|refine Xaa _ _ (XbR rfl (RV.tmp _) (RV.tmp _) (Xaj.mk' [_] [.box pb _,.row ad _ cap _ _ _] (List.perm_append_comm (l₁:=[_,_]) (l₂:=[_])) (Xak.refl _ _) (VwL.refl _ _))) ⟨ad,cap,?_,?_⟩|fail
  all_goals ((repeat' split)<;>first|rfl|(exfalso;omega)|fail)
end Go.Proofs.YtdlblokjfoggpaaGreatDoor

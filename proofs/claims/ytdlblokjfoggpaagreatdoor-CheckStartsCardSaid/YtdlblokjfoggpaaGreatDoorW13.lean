import Derived.Test.YtdlblokjfoggpaaGreatDoorW7
import Derived.Test.YtdlblokjfoggpaaGreatDoorW10
import Derived.Test.YtdlblokjfoggpaaGreatDoorW12
import Derived.Test.YtdlblokjfoggpaaGreatDoorW11
import Derived.Test.YtdlblokjfoggpaaGreatDoorW6
import Derived.Test.YtdlblokjfoggpaaGreatDoorW8
import Derived.Test.YtdlblokjfoggpaaGreatDoorRows
import Derived.Test.YtdlblokjfoggpaaGreatDoorW0
/- The search: spread, whole. -/
set_option linter.unusedSimpArgs false
set_option linter.unusedVariables false
set_option maxRecDepth 100000
set_option maxHeartbeats 8000000
namespace Go.Proofs.YtdlblokjfoggpaaGreatDoor
open Go.RowKit
theorem XeI (q:SnL × List Sp) (d:Sp) (o:Og):q.2.length≤(XaL q d o).2.length:=by
 unfold XaL
 split
 ·exact Nat.le_refl _
 ·simp
theorem XpY {l:List Sx} {p:Sp} (q:SnL × List Sp) (h:(l.getD p.st default).kind=2):Xdl l p q=XaL (XaL q ⟨(l.getD p.st default).out,p.bol,p.eol⟩ { from_:=p }) ⟨(l.getD p.st default).other,p.bol,p.eol⟩ { from_:=p }:=by
 unfold Xdl;simp only;rw [if_pos h]
theorem XpZ {l:List Sx} {p:Sp} (q:SnL × List Sp) (h:(l.getD p.st default).kind=3):Xdl l p q=if p.bol then XaL q ⟨(l.getD p.st default).out,p.bol,p.eol⟩ { from_:=p } else q:=by
 unfold Xdl;simp only;rw [if_neg (by omega),if_pos h]
theorem Xp0 {l:List Sx} {p:Sp} (q:SnL × List Sp) (h:(l.getD p.st default).kind=4):Xdl l p q=XaL q ⟨(l.getD p.st default).out,p.bol,true⟩ { from_:=p }:=by
 unfold Xdl;simp only;rw [if_neg (by omega),if_neg (by omega),if_pos h]
theorem XpX {l:List Sx} {p:Sp} (q:SnL × List Sp) (h2:(l.getD p.st default).kind≠2) (h3:(l.getD p.st default).kind≠3) (h4:(l.getD p.st default).kind≠4):Xdl l p q=q:=by
 unfold Xdl;simp only;rw [if_neg h2,if_neg h3,if_neg h4]
theorem Xoz (l:List Sx) (p:Sp) (q:SnL × List Sp):q.2.length≤(Xdl l p q).2.length:=by
 by_cases h2:(l.getD p.st default).kind=2
 ·rw [XpY q h2];exact Nat.le_trans (XeI _ _ _) (XeI _ _ _)
 by_cases h3:(l.getD p.st default).kind=3
 ·rw [XpZ q h3]
  split
  ·exact XeI _ _ _
  ·exact Nat.le_refl _
 by_cases h4:(l.getD p.st default).kind=4
 ·rw [Xp0 q h4];exact XeI _ _ _
 ·rw [XpX q h2 h3 h4];exact Nat.le_refl _
theorem Xdm.len {n:Nat} {sn:SnL} {list:List Sp} {q:SnL × List Sp} (h:Xdm n sn list q) (hl:list.length≤sn.length):q.2.length≤4*n:=by
 have h1:=h.ok.len
 obtain ⟨t,e1,e2⟩:=h.ext
 rw [e1] at h1
 rw [e2]
 simp at h1 ⊢
 omega
structure SpI (l:List Sx) (sn:SnL) (list:List Sp) (Q:SnL × List Sp) (i:Nat) (q:SnL × List Sp):Prop where
 grow:Xdm l.length sn list q
 le:i≤q.2.length
 eq:XbF l (4*l.length+1 - i) i q=Q
theorem SpI.next {l:List Sx} (hv:Xbw l=true) {sn:SnL} {list:List Sp} (hi:In sn list) (hl:list.length≤sn.length) {Q:SnL × List Sp} {i:Nat} {q:SnL × List Sp} (h:SpI l sn list Q i q) (hlt:i < q.2.length):SpI l sn list Q (i+1) (Xdl l q.2[i] q):=by
 have hlen:=h.grow.len hl
 have hg:q.2.getD i default=q.2[i]:=by rw [List.getD_eq_getElem?_getD,List.getElem?_eq_getElem hlt];rfl
 refine ⟨h.grow.from hv _ (h.grow.in_ hi _ (List.getElem_mem hlt)),?_,?_⟩
 ·have:=Xoz l q.2[i] q;omega
 ·have e:=h.eq
  rw [show 4*l.length+1 - i=(4*l.length+1 - (i+1))+1 by omega,XbF,if_pos hlt,hg] at e
  exact e
theorem SpI.done {l:List Sx} {sn:SnL} {list:List Sp} {Q:SnL × List Sp} {i:Nat} {q:SnL × List Sp} (h:SpI l sn list Q i q) (hlt:¬i < q.2.length):q=Q:=by
 have e:=h.eq
 rw [XjC _ _ _ hlt] at e
 exact e
theorem SpI.start {l:List Sx} {sn:SnL} {list:List Sp} (h:Xfv l.length sn):SpI l sn list (XbF l (4*l.length+1) 0 (sn,list)) 0 (sn,list):=⟨Xdm.refl h,Nat.zero_le _,rfl⟩
theorem Xqn (l:List Sx) (k:Nat) (h:k < l.length):(sxa l).drop (k*7)=.x (.int .i64 (l.getD k default).kind) :: .x (.int .i64 (l.getD k default).out) :: .x (.int .i64 (l.getD k default).other) :: (w4 (l.getD k default).set++sxa (l.drop (k+1))):=by
 rw [Xhl l k h,List.getD_eq_getElem?_getD,List.getElem?_eq_getElem h];rfl
theorem Xkl (l:List Sp) (k:Nat) (h:k < l.length):(spa l).drop (k*3)=.x (.int .i64 l[k].st) :: .x (.bool l[k].bol) :: .x (.bool l[k].eol) :: spa (l.drop (k+1)):=by
 rw [Xkm l k h];rfl
theorem Xpt (sb mb:Nat) (l:List Sx) (sn:SnL) (list:List Sp) (ad:Option Addr) (cap:Nat) (hv:Xbw l=true) (hn:Xfv l.length sn) (hl:l.length≤1000) (hin:In sn list) (hll:list.length≤sn.length) :
  XaM Tryz.prog 26 [.box sb [.sq l.length (sxa l),.x (.map (some mb))],.map mb (snv sn),.row ad list.length cap 86 3 (spa list)] [.x (.pointer (some ⟨sb,0,none⟩)),.x (.slice ad list.length cap)] (fun r H'=>∃ad' cap',r=.x (.slice ad' (XbF l (4*l.length+1) 0 (sn,list)).2.length cap')∧H'=[.box sb [.sq l.length (sxa l),.x (.map (some mb))],.map mb (snv (XbF l (4*l.length+1) 0 (sn,list)).1),.row ad' (XbF l (4*l.length+1) 0 (sn,list)).2.length cap' 86 3 (spa (XbF l (4*l.length+1) 0 (sn,list)).2)]):=by
 have hI:=SpI.start (list:=list) hn
 generalize XbF l (4*l.length+1) 0 (sn,list)=Q at *
 refine Xbs Tryz.func26 Tryz.ntmps26 ?_
 (repeat' (first|refine Wkx.go ?_|refine XaJ ?_|refine XaG ?_|(refine XaE (fun h=>?_) (fun h=>?_)<;>first|(exact absurd h (by decide))|(exfalso;omega;done)|skip)|refine XaF ?_|refine Xai ?_|(refine Xaa rfl ?_;(first|refine Xax ?_|refine Xaw ?_|refine Xav (fun ad cap=>?_)|refine Xat (fun b=>?_)|refine Xas (fun b=>?_)|refine Xau (fun b=>?_)|fail))|fail))
 rename_i ps
 revert b;intro pl
 refine XaA (S:=Nat × (SnL × List Sp) × Option Addr × Nat) (fun s=>frm 61 [(2,.x (.pointer (some ⟨ps,0,none⟩))),(3,.x (.pointer (some ⟨pl,0,none⟩))),(5,.x (.int .i64 s.1))])
  (fun s=>[.box pl [.x (.slice s.2.2.1 s.2.1.2.length s.2.2.2)],.box ps [.x (.pointer (some ⟨sb,0,none⟩))],.box sb [.sq l.length (sxa l),.x (.map (some mb))],.map mb (snv s.2.1.1),.row s.2.2.1 s.2.1.2.length s.2.2.2 86 3 (spa s.2.1.2)]) (fun s=>SpI l sn list Q s.1 s.2.1) (fun s=>4*l.length+1 - s.1) (0,(sn,list),ad,cap) (XbQ (D:=[])) hI fun s hs=>?_
 clear hI
 obtain ⟨i,q,ad,cap⟩:=s
 simp only at hs
 have hlen:=hs.grow.len hll
 simp only [wfr]
 by_cases hlt:i < q.2.length
 ·have hnx:=hs.next hv hin hll hlt
  have hpin:=hs.grow.in_ hin _ (List.getElem_mem hlt)
  have hd1:=Xkl q.2 i hlt
  generalize q.2[i]=p at hnx hpin hd1
  have hp:p.st < l.length:=by obtain ⟨y,hy,e⟩:=hpin;rw [←e];exact hs.grow.ok.st y hy
  have hd2:=Xqn l p.st hp
  have F2:=XpY (l:=l) (p:=p) q
  have F3:=XpZ (l:=l) (p:=p) q
  have F4:=Xp0 (l:=l) (p:=p) q
  have F0:=XpX (l:=l) (p:=p) q
  have H2:=Xqm (XeO hv hp)
  have H1:=Xih (XeO hv hp)
  generalize l.getD p.st default=d at *
  have hsn:=hs.grow.ok
  have G:=fun (h:d.out < l.length)=>hs.grow.reach ⟨d.out,p.bol,p.eol⟩ { from_:=p } h hpin
  have hgr:=Lib.hid hs
  clear hs hpin
  have hd1:=Lib.hid hd1;have hd2:=Lib.hid hd2
  refine XdG 4 rfl fun _ _ hd=>?_
  rcases hd with ⟨_,h0,_⟩|⟨g,rfl⟩
  ·omega
  have h2i:((d.kind:Nat):Int)=2→d.kind=2:=fun h=>by omega
  (have wx:=@hd1.out;(repeat' (first|refine Wkx.go ?_|refine XaG ?_|(refine XaE (fun h=>?_) (fun h=>?_)<;>first|(exact absurd h (by decide))|(exfalso;omega;done)|skip)|refine XaF ?_|refine Xai ?_|(refine Xaa rfl ?_;(first|refine Xax ?_|refine Xaw ?_|refine Xav (fun ad cap=>?_)|refine Xat (fun b=>?_)|refine Xas (fun b=>?_)|refine Xau (fun b=>?_)|fail))|fail)))<;>(try clear wx)
  refine Xcx (B:=[_,_,_,_]) (R:=[_,_]) mixed [0,1,2,3,4,5,6,7] [] [9] (some 8) _ 1 (Xvt _) (by decide +kernel) rfl (Xdj rfl rfl rfl Xb0.out rfl rfl) (by decide) ?_
  (have wx:=And.intro @hd2.out @w4.eq_1;(repeat' (first|refine XiQ ?_|(refine Xmk ?_;(first|refine XlB (fun ad cap=>?_)|refine Xml (fun b=>?_)))|fail)))<;>(try clear wx)
  (first|(refine XfS (fun b=>?_))|refine XfT ?_);(refine Xdn 9 ?_;(first|refine Xcb ?_|refine Xax ?_|refine Xaw ?_|refine Xav (fun ad cap=>?_)|refine Xat (fun b=>?_)|refine Xas (fun b=>?_)|refine Xau (fun b=>?_)|fail));refine Xar (by decide +kernel) ?_
  (repeat' (first|refine Wkx.go ?_|refine XaJ ?_|refine XaG ?_|(refine XaE (fun h=>?_) (fun h=>?_)<;>first|(exact absurd h (by decide))|(exfalso;omega;done)|skip)|refine XaF ?_|refine Xai ?_|(refine Xaa rfl ?_;(first|((refine Xa5 Tryz.func54 [_,_,_,_,_,_] rfl rfl (by (repeat' (first|exact Xvt _|exact List.Perm.nil|refine XvJ _ ?_|refine (XvG (l₁:=[_])).trans (XvJ _ ?_)|refine (XvG (l₁:=[_,_])).trans (XvJ _ ?_)|refine (XvG (l₁:=[_,_,_])).trans (XvJ _ ?_)|refine (XvG (l₁:=[_,_,_,_])).trans (XvJ _ ?_)|refine (XvG (l₁:=[_,_,_,_,_])).trans (XvJ _ ?_)|refine (XvG (l₁:=[_,_,_,_,_,_])).trans (XvJ _ ?_)|refine (XvG (l₁:=[_,_,_,_,_,_,_])).trans (XvJ _ ?_)|refine (XvG (l₁:=[_,_,_,_,_,_,_,_])).trans (XvJ _ ?_)))) (Xs5 _ _ _ _ _ l q _ _ p d.out _ hsn hl (by rcases (show d.kind=2∨d.kind=3∨d.kind=4 by omega) with h|h;exact (H2 h).1;exact H1 (.inr h)) (by omega)) ?_;rintro _ _ ⟨ad',cap',rfl,rfl⟩);refine XaO ?_)|((refine Xa5 Tryz.func54 [_,_,_,_,_,_] rfl rfl (by (repeat' (first|exact Xvt _|exact List.Perm.nil|refine XvJ _ ?_|refine (XvG (l₁:=[_])).trans (XvJ _ ?_)|refine (XvG (l₁:=[_,_])).trans (XvJ _ ?_)|refine (XvG (l₁:=[_,_,_])).trans (XvJ _ ?_)|refine (XvG (l₁:=[_,_,_,_])).trans (XvJ _ ?_)|refine (XvG (l₁:=[_,_,_,_,_])).trans (XvJ _ ?_)|refine (XvG (l₁:=[_,_,_,_,_,_])).trans (XvJ _ ?_)|refine (XvG (l₁:=[_,_,_,_,_,_,_])).trans (XvJ _ ?_)|refine (XvG (l₁:=[_,_,_,_,_,_,_,_])).trans (XvJ _ ?_)))) (Xs5 _ _ _ _ _ l (XaL q ⟨d.out,p.bol,p.eol⟩ { from_:=p }) _ _ p d.other _ (G (H2 (by omega)).1).ok hl (H2 (by omega)).2 (by have:=(G (H2 (by omega)).1).len hll;omega)) ?_;rintro _ _ ⟨ad',cap',rfl,rfl⟩);refine XaO ?_)|refine Xax ?_|refine Xaw ?_|refine Xav (fun ad cap=>?_)|refine Xat (fun b=>?_)|refine Xas (fun b=>?_)|refine Xau (fun b=>?_)|fail))|fail))
  all_goals first
   | (rw [F2 (by omega)] at hnx;exact ⟨(i+1,_,_,_),(by show 4*l.length+1 - (i+1) < 4*l.length+1 - i;omega),hnx,(Xaq.mk' [.box _ [_,_,_],.box _ [_,_,_,_,_,_,_]] [.box pl _,.box ps _,.box sb _,.map mb _,.row _ _ _ _ _ _] (by (repeat' (first|exact Xvt _|exact List.Perm.nil|refine XvJ _ ?_|refine (XvG (l₁:=[_])).trans (XvJ _ ?_)|refine (XvG (l₁:=[_,_])).trans (XvJ _ ?_)|refine (XvG (l₁:=[_,_,_])).trans (XvJ _ ?_)|refine (XvG (l₁:=[_,_,_,_])).trans (XvJ _ ?_)|refine (XvG (l₁:=[_,_,_,_,_])).trans (XvJ _ ?_)|refine (XvG (l₁:=[_,_,_,_,_,_])).trans (XvJ _ ?_)|refine (XvG (l₁:=[_,_,_,_,_,_,_])).trans (XvJ _ ?_)|refine (XvG (l₁:=[_,_,_,_,_,_,_,_])).trans (XvJ _ ?_)))) (Xap.refl _ _) (by (repeat' (first|exact VwL.nil|(refine VwL.cons ?_ ?_)|exact Vw.refl _|exact Vw.top _|exact Vw.nil|(refine Vw.eq ?_;first|rfl|(simp;done)|(congr 3;omega)|(congr 2;omega))))))⟩)
   | (rw [F3 (by omega),if_pos (by assumption)] at hnx;exact ⟨(i+1,_,_,_),(by show 4*l.length+1 - (i+1) < 4*l.length+1 - i;omega),hnx,(Xaq.mk' [.box _ [_,_,_],.box _ [_,_,_,_,_,_,_]] [.box pl _,.box ps _,.box sb _,.map mb _,.row _ _ _ _ _ _] (by (repeat' (first|exact Xvt _|exact List.Perm.nil|refine XvJ _ ?_|refine (XvG (l₁:=[_])).trans (XvJ _ ?_)|refine (XvG (l₁:=[_,_])).trans (XvJ _ ?_)|refine (XvG (l₁:=[_,_,_])).trans (XvJ _ ?_)|refine (XvG (l₁:=[_,_,_,_])).trans (XvJ _ ?_)|refine (XvG (l₁:=[_,_,_,_,_])).trans (XvJ _ ?_)|refine (XvG (l₁:=[_,_,_,_,_,_])).trans (XvJ _ ?_)|refine (XvG (l₁:=[_,_,_,_,_,_,_])).trans (XvJ _ ?_)|refine (XvG (l₁:=[_,_,_,_,_,_,_,_])).trans (XvJ _ ?_)))) (Xap.refl _ _) (by (repeat' (first|exact VwL.nil|(refine VwL.cons ?_ ?_)|exact Vw.refl _|exact Vw.top _|exact Vw.nil|(refine Vw.eq ?_;first|rfl|(simp;done)|(congr 3;omega)|(congr 2;omega))))))⟩)
   | (rw [F3 (by omega),if_neg (by simp only [‹p.bol=false›];decide)] at hnx;exact ⟨(i+1,_,_,_),(by show 4*l.length+1 - (i+1) < 4*l.length+1 - i;omega),hnx,(Xaq.mk' [.box _ [_,_,_],.box _ [_,_,_,_,_,_,_]] [.box pl _,.box ps _,.box sb _,.map mb _,.row _ _ _ _ _ _] (by (repeat' (first|exact Xvt _|exact List.Perm.nil|refine XvJ _ ?_|refine (XvG (l₁:=[_])).trans (XvJ _ ?_)|refine (XvG (l₁:=[_,_])).trans (XvJ _ ?_)|refine (XvG (l₁:=[_,_,_])).trans (XvJ _ ?_)|refine (XvG (l₁:=[_,_,_,_])).trans (XvJ _ ?_)|refine (XvG (l₁:=[_,_,_,_,_])).trans (XvJ _ ?_)|refine (XvG (l₁:=[_,_,_,_,_,_])).trans (XvJ _ ?_)|refine (XvG (l₁:=[_,_,_,_,_,_,_])).trans (XvJ _ ?_)|refine (XvG (l₁:=[_,_,_,_,_,_,_,_])).trans (XvJ _ ?_)))) (Xap.refl _ _) (by (repeat' (first|exact VwL.nil|(refine VwL.cons ?_ ?_)|exact Vw.refl _|exact Vw.top _|exact Vw.nil|(refine Vw.eq ?_;first|rfl|(simp;done)|(congr 3;omega)|(congr 2;omega))))))⟩)
   | (rw [F4 (by omega)] at hnx;exact ⟨(i+1,_,_,_),(by show 4*l.length+1 - (i+1) < 4*l.length+1 - i;omega),hnx,(Xaq.mk' [.box _ [_,_,_],.box _ [_,_,_,_,_,_,_]] [.box pl _,.box ps _,.box sb _,.map mb _,.row _ _ _ _ _ _] (by (repeat' (first|exact Xvt _|exact List.Perm.nil|refine XvJ _ ?_|refine (XvG (l₁:=[_])).trans (XvJ _ ?_)|refine (XvG (l₁:=[_,_])).trans (XvJ _ ?_)|refine (XvG (l₁:=[_,_,_])).trans (XvJ _ ?_)|refine (XvG (l₁:=[_,_,_,_])).trans (XvJ _ ?_)|refine (XvG (l₁:=[_,_,_,_,_])).trans (XvJ _ ?_)|refine (XvG (l₁:=[_,_,_,_,_,_])).trans (XvJ _ ?_)|refine (XvG (l₁:=[_,_,_,_,_,_,_])).trans (XvJ _ ?_)|refine (XvG (l₁:=[_,_,_,_,_,_,_,_])).trans (XvJ _ ?_)))) (Xap.refl _ _) (by (repeat' (first|exact VwL.nil|(refine VwL.cons ?_ ?_)|exact Vw.refl _|exact Vw.top _|exact Vw.nil|(refine Vw.eq ?_;first|rfl|(simp;done)|(congr 3;omega)|(congr 2;omega))))))⟩)
   | (rw [F0 (by omega) (by omega) (by omega)] at hnx;exact ⟨(i+1,_,_,_),(by show 4*l.length+1 - (i+1) < 4*l.length+1 - i;omega),hnx,(Xaq.mk' [.box _ [_,_,_],.box _ [_,_,_,_,_,_,_]] [.box pl _,.box ps _,.box sb _,.map mb _,.row _ _ _ _ _ _] (by (repeat' (first|exact Xvt _|exact List.Perm.nil|refine XvJ _ ?_|refine (XvG (l₁:=[_])).trans (XvJ _ ?_)|refine (XvG (l₁:=[_,_])).trans (XvJ _ ?_)|refine (XvG (l₁:=[_,_,_])).trans (XvJ _ ?_)|refine (XvG (l₁:=[_,_,_,_])).trans (XvJ _ ?_)|refine (XvG (l₁:=[_,_,_,_,_])).trans (XvJ _ ?_)|refine (XvG (l₁:=[_,_,_,_,_,_])).trans (XvJ _ ?_)|refine (XvG (l₁:=[_,_,_,_,_,_,_])).trans (XvJ _ ?_)|refine (XvG (l₁:=[_,_,_,_,_,_,_,_])).trans (XvJ _ ?_)))) (Xap.refl _ _) (by (repeat' (first|exact VwL.nil|(refine VwL.cons ?_ ?_)|exact Vw.refl _|exact Vw.top _|exact Vw.nil|(refine Vw.eq ?_;first|rfl|(simp;done)|(congr 3;omega)|(congr 2;omega))))))⟩)
   | fail
 ·have e:=hs.done hlt
  subst e
  (repeat' (first|refine Wkx.go ?_|refine XaJ ?_|refine XaG ?_|(refine XaE (fun h=>?_) (fun h=>?_)<;>first|(exact absurd h (by decide))|(exfalso;omega;done)|skip)|refine XaF ?_|refine Xai ?_|(refine Xaa rfl ?_;(first|refine Xax ?_|refine Xaw ?_|refine Xav (fun ad cap=>?_)|refine Xat (fun b=>?_)|refine Xas (fun b=>?_)|refine Xau (fun b=>?_)|fail))|fail))
  refine Xab _ _ (Xa0 rfl (RV.tmp _) (Xaq.mk' [.box pl _,.box ps _] [.box sb _,.map mb _,.row _ _ _ _ _ _] (by (repeat' (first|exact Xvt _|exact List.Perm.nil|refine XvJ _ ?_|refine (XvG (l₁:=[_])).trans (XvJ _ ?_)|refine (XvG (l₁:=[_,_])).trans (XvJ _ ?_)|refine (XvG (l₁:=[_,_,_])).trans (XvJ _ ?_)|refine (XvG (l₁:=[_,_,_,_])).trans (XvJ _ ?_)|refine (XvG (l₁:=[_,_,_,_,_])).trans (XvJ _ ?_)|refine (XvG (l₁:=[_,_,_,_,_,_])).trans (XvJ _ ?_)|refine (XvG (l₁:=[_,_,_,_,_,_,_])).trans (XvJ _ ?_)|refine (XvG (l₁:=[_,_,_,_,_,_,_,_])).trans (XvJ _ ?_)))) (Xap.refl _ _) (VwL.refl _ _))) ⟨_,_,rfl,rfl⟩
set_option linter.defProp false
section
variable {P:Program} {ops:Array Oper} {Q:Xcl} {rest l:List Oper} {o:Oper} {T T':List AV} {H H' R:List Hp} {K:List AV→List Hp→Prop} {B:List Hp} {D L:List Nat} {fuel:Nat} {listed:Array Bool} {av:AV}
theorem Xn3 {g:Prop} {k:List AV→Prop} {u:AV} [L:Wkl g P ops o T H k u] {ρ:Operand→AV} {p:Prop} {f:AV→AV} (hK:k T') (hg:Wkg ops T o ρ p f:=by first|exact .no rfl|exact .yes rfl rfl rfl|fail) (h:p→Evl P o ρ H av:=by first|((first|(refine fun (_:True)=>?_)|(intro hp;(try simp only [wgp] at hp);(try simp only [hp,wte]);(try simp only [whn] at hp)));(first|(apply Xad 0 rfl;(first|exact XaS _ rfl|exact Xa8 _ rfl))|(apply Xad 1 rfl;(first|exact Xb1 _ _ _ rfl rfl|exact Xcd _ _ _ rfl rfl|exact XcU _ _ _ _ _ rfl rfl rfl rfl|exact XdC _ _ _ _ _ rfl rfl rfl rfl|exact XcO _ _ _ _ _ rfl rfl rfl rfl|exact Xdo _ _ _ _ _ rfl rfl rfl rfl))|(apply Xad 2 rfl;(exact XbE _ _ _ _ rfl rfl rfl))|(apply Xad 3 rfl;(exact XcV _ _ _ _ _ _ HEl.out rfl rfl))|(apply Xad 4 rfl;(exact Xa3 _ rfl (by first|exact .inl ⟨_,rfl⟩|exact .inr ⟨_,rfl⟩)))|(apply Xad 5 rfl;(first|exact Xal _ _ _ _ _ _ rfl rfl Xa1.out|exact XbH _ _ _ _ _ rfl rfl Xa1.out))|(apply Xad 6 rfl;(first|exact XaW _ _ _ _ _ rfl rfl XaR.out (by first|exact Xvs rfl|(simp [wlq];first|done|omega)) (by first|exact Xvs rfl|(simp [wlq];first|done|omega))|exact XaN _ _ _ _ _ _ _ _ rfl rfl Xby.out XaR.out (by first|exact Xvs rfl|(simp [wlq];first|done|omega)) (by first|exact Xvs rfl|(simp [wlq];first|done|omega))|exact Xbp _ _ _ _ _ _ _ _ _ _ _ _ rfl rfl Xdp.out XaR.out (by first|exact Xvs rfl|(simp [wlq];first|done|omega)) (by first|exact Xvs rfl|(simp [wlq];first|done|omega))))|(apply Xad 7 rfl;(first|exact Xc5 (Xd2 _ _ _ _ _ _ _ _ _ _ _ rfl rfl rfl Xoa.out Xdb.out (by first|omega|exact XcI _ _|exact Xcy (by omega)|exact Xcz _ (XcI _ _)|assumption|(simp;done)))|exact Xa2 _ _ _ _ _ _ _ _ _ _ rfl rfl rfl HEl.out rfl (by first|omega|assumption) (by simp;first|done|omega)|exact Xbo _ _ _ _ _ _ _ _ _ _ _ _ rfl rfl rfl HEl.out rfl (by first|omega|assumption)))|(apply Xad 8 rfl;(exact Xak _ _ _ _ _ _ _ rfl rfl rfl (by kernel_rfl) rfl (by omega)))|(apply Xad 9 rfl;(first|exact Xbv _ _ _ _ _ _ _ rfl rfl (by kernel_rfl) (by first|exact .inl ⟨rfl,rfl⟩|exact .inr ⟨_,_,rfl,rfl⟩) (by first|exact .inl ⟨rfl,rfl⟩|exact .inr ⟨_,_,rfl,rfl⟩) (by omega) (by omega)|exact XbI _ _ _ _ _ _ _ _ _ _ rfl rfl HEl.out (by first|exact .inl ⟨rfl,rfl⟩|exact .inr ⟨_,_,rfl,rfl⟩) (by first|exact .inl ⟨rfl,rfl⟩|exact .inr ⟨_,_,rfl,rfl⟩) (by omega) (by omega)|exact Xbu _ _ _ _ _ _ _ _ _ _ _ _ rfl rfl HEl.out (by first|exact .inl ⟨rfl,rfl⟩|exact .inr ⟨_,_,rfl,rfl⟩) (by first|exact .inl ⟨rfl,rfl⟩|exact .inr ⟨_,_,rfl,rfl⟩) (by omega) (by omega)))|(apply Xad 10 rfl;(exact XbD _ _ _ _ _ rfl HPl.out (by first|rfl|(simp;done)) rfl))|(apply Xad 12 rfl;(first|exact Xc5 (XgQ _ _ _ _ _ _ _ _ rfl rfl rfl (by first|omega|exact XcI _ _|exact Xcy (by omega)|exact Xcz _ (XcI _ _)|assumption|(simp;done)) (by first|omega|exact XcI _ _|exact Xcy (by omega)|exact Xcz _ (XcI _ _)|assumption|(simp;done)) rfl)|exact Xc5 (Xhu _ _ _ _ _ _ _ rfl rfl rfl Xdb.out (by first|omega|exact XcI _ _|exact Xcy (by omega)|exact Xcz _ (XcI _ _)|assumption|(simp;done)))|exact Xc5 (XjM _ _ _ _ _ _ _ _ rfl rfl rfl Xdb.out (by first|omega|exact XcI _ _|exact Xcy (by omega)|exact Xcz _ (XcI _ _)|assumption|(simp;done)))|exact Xc5 (Xht _ _ _ rfl rfl (by first|omega|exact XcI _ _|exact Xcy (by omega)|exact Xcz _ (XcI _ _)|assumption|(simp;done)))))|(apply XbB;(case hs=>(intro _ _ h;cases h));(case hx=>rfl);(case hrun=>(intro w;simp [wtb,AV.val,go_sem];(try go_bits);rfl)))|fail))|fail) (hT:Xbd T o.dst (f av)=T':=by first|((try simp (disch:=first|assumption|omega) only [wtn,wtf,wx,Nat.reduceAdd,Nat.reduceMul,Nat.reduceSub,↓reduceIte,Nat.reduceEqDiff]);rfl)|fail):g:=L.go hg h hT hK
theorem XdQ (i:Nat) (hK:Xdy P l.toArray Q D B fuel (listed.setIfInBounds i true) T' H) (hi:XcM l i=some o:=by first|rfl|fail) (hg:o.guard=none:=by first|rfl|fail) (hc:XbY l.toArray listed i D=true:=by first|kernel_rfl|fail) (hpan:∀c T H,¬Q (.panic c) T H:=by first|(intro c T H hp;simp [Xbx,XaC,XbG,XcQ] at hp;done)|fail) (h:XeR P o (ev T) (B++H) av:=by (first|exact Xbm _ rfl|exact Xcw _ rfl|exact XbM _ _ _ rfl rfl|exact XaT _ _ _ _ _ _ rfl rfl Xa1.out|exact WInd_nil_at _ _ rfl rfl|exact WInd_index_str _ _ _ _ _ _ _ rfl rfl rfl (by kernel_rfl) rfl (by omega)|exact WInd_field_at _ _ _ _ _ rfl rfl Xa1.out|exact WInd_index_sq _ _ _ _ _ _ _ _ _ _ rfl rfl rfl HEl.out rfl (by first|omega|assumption) (by simp;first|done|omega)|exact XaY _ _ _ _ _ _ _ _ _ _ _ _ rfl rfl rfl HEl.out rfl (by first|omega|assumption)|exact Xd2 _ _ _ _ _ _ _ _ _ _ _ rfl rfl rfl Xoa.out Xdb.out (by first|omega|exact XcI _ _|exact Xcy (by omega)|exact Xcz _ (XcI _ _)|assumption|(simp;done))|exact XgQ _ _ _ _ _ _ _ _ rfl rfl rfl (by first|omega|exact XcI _ _|exact Xcy (by omega)|exact Xcz _ (XcI _ _)|assumption|(simp;done)) (by first|omega|exact XcI _ _|exact Xcy (by omega)|exact Xcz _ (XcI _ _)|assumption|(simp;done)) rfl|exact Xhu _ _ _ _ _ _ _ rfl rfl rfl Xdb.out (by first|omega|exact XcI _ _|exact Xcy (by omega)|exact Xcz _ (XcI _ _)|assumption|(simp;done))|exact XjM _ _ _ _ _ _ _ _ rfl rfl rfl Xdb.out (by first|omega|exact XcI _ _|exact Xcy (by omega)|exact Xcz _ (XcI _ _)|assumption|(simp;done))|exact Xht _ _ _ rfl rfl (by first|omega|exact XcI _ _|exact Xcy (by omega)|exact Xcz _ (XcI _ _)|assumption|(simp;done))|(apply XcW;(case hs=>(intro _ _ h;cases h));(case hx=>rfl);(case hrun=>(intro w;simp [wtb,AV.val,go_sem];(try go_bits);rfl)))|fail)) (hT:Xbd T o.dst (av)=T':=by first|((try simp (disch:=first|assumption|omega) only [wtn,wtf,wx,Nat.reduceAdd,Nat.reduceMul,Nat.reduceSub,↓reduceIte,Nat.reduceEqDiff]);rfl)|fail):Xdy P l.toArray Q D B (fuel+1) listed T H:=XhE i hi hg hc hpan av h (by rw [hT];exact hK)
end
theorem Xib (s:List UInt8) (k:Nat) (h:k < s.length):k≤(XcS s k).2.2.2∧(XcS s k).2.2.2≤s.length∧((XcS s k).2.2.1=0→k < (XcS s k).2.2.2) ∧ -1≤(XcS s k).1∧(XcS s k).1 < 256∧(XcS s k).2.2.1≤100:=by
 have hc:chr s (k+1) < 256:=by unfold chr;exact UInt8.toNat_lt _
 unfold XcS
 repeat' (split;· refine ⟨?_,?_,?_,?_,?_,?_⟩<;>simp<;>omega)
 refine ⟨?_,?_,?_,?_,?_,?_⟩<;>simp<;>omega
theorem XeL (s:List UInt8) (k:Nat) (h:k < s.length):k≤(XcH s k).2.2.2∧(XcH s k).2.2.2≤s.length∧((XcH s k).2.2.1=0→k < (XcH s k).2.2.2) ∧ -1≤(XcH s k).1∧(XcH s k).1 < 256∧(XcH s k).2.2.1≤100:=by
 have hc:chr s k < 256:=by unfold chr;exact UInt8.toNat_lt _
 unfold XcH
 split
 ·refine ⟨?_,?_,?_,?_,?_,?_⟩<;>simp<;>omega
 split
 ·exact Xib s k h
 ·refine ⟨?_,?_,?_,?_,?_,?_⟩<;>simp<;>omega
theorem Xfb (s:List UInt8) (k:Nat) (h:k < s.length):k≤(Xcj s k).2.2∧(Xcj s k).2.2≤s.length∧((Xcj s k).2.1=0→k < (Xcj s k).2.2)∧(Xcj s k).2.1≤100:=by
 obtain ⟨a1,a2,a3,_,_,a6⟩:=XeL s k h
 unfold Xcj
 simp only
 split
 ·exact ⟨a1,a2,a3,a6⟩
 rename_i h1
 have h0:(XcH s k).2.2.1=0:=by omega
 have:=a3 h0
 split
 ·refine ⟨?_,?_,?_,?_⟩<;>simp<;>omega
 obtain ⟨b1,b2,b3,_,_,b6⟩:=XeL s ((XcH s k).2.2.2+1) (by omega)
 split
 ·refine ⟨?_,?_,?_,?_⟩<;>simp<;>omega
 split
 ·refine ⟨?_,?_,?_,?_⟩<;>simp<;>omega
 ·refine ⟨?_,?_,?_,?_⟩<;>simp<;>omega
theorem Xia (neg:Bool) (s:List UInt8):∀(n k set:Nat) (b:Bool),k≤s.length→k≤(Xeg neg n s k set b).2.2∧(Xeg neg n s k set b).2.2≤s.length∧((Xeg neg n s k set b).2.1=0→k < (Xeg neg n s k set b).2.2)∧(Xeg neg n s k set b).2.1≤100:=by
 intro n
 induction n with
 | zero=>intro k set b h;simp only [Xeg];omega
 | succ n ih=>
   intro k set b h
   rw [Xeg]
   split
   ·simp;omega
   split
   ·simp;omega
   obtain ⟨e1,e2,e3,e4⟩:=Xfb s k (by omega)
   simp only
   split
   ·simp;omega
   ·have:=ih (Xcj s k).2.2 (set ||| (Xcj s k).1) true e2
    omega
theorem Xjo (s:List UInt8) (k:Nat) (h:k≤s.length):k≤(XbU s k).2.2∧(XbU s k).2.2≤s.length∧((XbU s k).2.1=0→k < (XbU s k).2.2)∧(XbU s k).2.1≤100:=by
 unfold XbU
 split
 ·have:=Xia true s (s.length+1) (k+1) 0 false (by omega);omega
 ·exact Xia false s (s.length+1) k 0 false h
structure Adv (s:List UInt8) (p:RS) (r:RxR) (x:Nat):Prop where
 le:p.at_≤r.p.at_
 top:r.p.at_≤s.length
 opn:r.p.opn≤24
 ok:r.c=0→r.p.opn=p.opn
 ns:r.p.ns.length+3*p.at_≤p.ns.length+3*r.p.at_+x
 c:r.c≤100
theorem XnE (s:List UInt8):∀(n:Nat) (p:RS) (v:Nat),p.at_≤s.length→p.opn≤24→Adv s p (Xeh n s p v) 0∧(Xeh n s p v).c=0:=by
 intro n
 induction n with
 | zero=>intro p v h ho;exact ⟨⟨Nat.le_refl _,h,ho,fun _=>rfl,by simp [Xeh],by simp [Xeh]⟩,rfl⟩
 | succ n ih=>
   intro p v h ho
   have h0:Adv s p ⟨v,0,p⟩ 0:=⟨Nat.le_refl _,h,ho,fun _=>rfl,by simp,by simp⟩
   rw [Xeh]
   split
   ·exact ⟨h0,rfl⟩
   have hs:∀x,Adv s p (Xeh n s ({ p with at_:=p.at_+1 }.add x) p.ns.length) 0∧(Xeh n s ({ p with at_:=p.at_+1 }.add x) p.ns.length).c=0:=fun x=>by
    obtain ⟨⟨a1,a2,a3,a4,a5,a6⟩,a7⟩:=ih ({ p with at_:=p.at_+1 }.add x) p.ns.length (by simp only [RS.add];omega) (by simpa only [RS.add] using ho)
    simp only [RS.add,XvF,List.length_singleton] at a1 a2 a3 a4 a5 a6 a7 ⊢
    exact ⟨⟨by omega,a2,a3,a4,by omega,a6⟩,a7⟩
   split
   ·exact hs _
   split
   ·exact hs _
   split
   ·exact hs _
   ·exact ⟨h0,rfl⟩
theorem Xki (n:Nat) (s:List UInt8) (p:RS) (left:Option Nat):Xb4 (n+1) s p left =
  if p.at_≠s.length∧chr s p.at_≠124∧chr s p.at_≠41 then
   if (Xbl n s p).c≠0 then ⟨0,(Xbl n s p).c,(Xbl n s p).p⟩ else
   match left with
   | none=>Xb4 n s (Xbl n s p).p (some (Xbl n s p).v)
   | some l=>Xb4 n s ((Xbl n s p).p.add { kind:=3,left:=l,right:=(Xbl n s p).v }) (some (Xbl n s p).p.ns.length)
  else
   match left with
   | none=>p.ok { kind:=1 }
   | some l=>⟨l,0,p⟩:=by
 cases left<;>simp only [Xb4]
structure Xum (s:List UInt8) (n:Nat):Prop where
 atom:∀p,p.at_ < s.length→p.opn≤24→Adv s p (XbS n s p) 0∧((XbS n s p).c=0→p.at_ < (XbS n s p).p.at_∧(XbS n s p).p.ns.length+2+3*p.at_≤p.ns.length+3*(XbS n s p).p.at_)
 part:∀p,p.at_ < s.length→p.opn≤24→Adv s p (Xbl n s p) 0∧((Xbl n s p).c=0→p.at_ < (Xbl n s p).p.at_∧(Xbl n s p).p.ns.length+2+3*p.at_≤p.ns.length+3*(Xbl n s p).p.at_)
 alt:∀p l,p.at_≤s.length→p.opn≤24→Adv s p (Xb4 n s p l) (if l=none then 1 else 0)
 bar:∀r:RxR,r.p.at_≤s.length→r.p.opn≤24→r.c≤100→Adv s r.p (Xfa n s r) 0∧(r.c≠0→Xfa n s r=r)
 pat:∀p,p.at_≤s.length→p.opn≤24→Adv s p (rxPat n s p) 1
theorem XgK (s:List UInt8):∀n,Xum s n:=by
 intro n
 induction n with
 | zero=>
   have h0:∀p:RS,p.at_≤s.length→p.opn≤24→∀x,Adv s p ⟨0,99,p⟩ x:=fun p h1 h2 x=>⟨Nat.le_refl _,h1,h2,fun _=>rfl,by simp only;omega,by simp⟩
   refine ⟨fun p h1 h2=>?_,fun p h1 h2=>?_,fun p l h1 h2=>?_,fun r h1 h2 h3=>?_,fun p h1 h2=>?_⟩
   ·rw [XbS];exact ⟨h0 p (by omega) h2 0,fun h=>absurd h (by simp)⟩
   ·rw [Xbl];exact ⟨h0 p (by omega) h2 0,fun h=>absurd h (by simp)⟩
   ·rw [Xb4];exact h0 p h1 h2 _
   ·rw [Xfa];exact ⟨⟨Nat.le_refl _,h1,h2,fun _=>rfl,by omega,h3⟩,fun _=>rfl⟩
   ·rw [rxPat];exact h0 p h1 h2 1
 | succ n ih=>
   have hatom:∀p,p.at_ < s.length→p.opn≤24→Adv s p (XbS (n+1) s p) 0∧((XbS (n+1) s p).c=0→p.at_ < (XbS (n+1) s p).p.at_∧(XbS (n+1) s p).p.ns.length+2+3*p.at_≤p.ns.length+3*(XbS (n+1) s p).p.at_):=by
    intro p h1 h2
    have he:∀e:Nat,e≠0→e≤100→Adv s p ⟨0,e,p⟩ 0∧((⟨0,e,p⟩:RxR).c=0→p.at_ < (⟨0,e,p⟩:RxR).p.at_∧(⟨0,e,p⟩:RxR).p.ns.length+2+3*p.at_≤p.ns.length+3*(⟨0,e,p⟩:RxR).p.at_):=fun e h h'=>⟨⟨Nat.le_refl _,by simp only;omega,h2,fun h3=>absurd h3 h,by simp,h'⟩,fun h3=>absurd h3 h⟩
    have hk:∀(k:Nat) (x:Nd),p.at_ < k→k≤s.length→Adv s p (({ p with at_:=k }:RS).ok x) 0∧((({ p with at_:=k }:RS).ok x).c=0→p.at_ < (({ p with at_:=k }:RS).ok x).p.at_∧(({ p with at_:=k }:RS).ok x).p.ns.length+2+3*p.at_≤p.ns.length+3*(({ p with at_:=k }:RS).ok x).p.at_):=fun k x h h'=>by
     simp only [RS.ok,RS.add]
     exact ⟨⟨by simp only;omega,h',h2,fun _=>rfl,by simp;omega,by simp⟩,fun _=>⟨h,by simp;omega⟩⟩
    rw [XbS]
    simp only
    split
    ·exact he 81 (by decide) (by decide)
    split
    ·exact he 80 (by decide) (by decide)
    split
    ·split
     ·exact he 84 (by decide) (by decide)
     ·obtain ⟨a1,a2,a3,a4,a5,a6⟩:=ih.pat { p with at_:=p.at_+1,opn:=p.opn+1 } (by simp only;omega) (by simp only;omega)
      simp only at a1 a4 a5
      split
      ·rename_i hc
       exact ⟨⟨by simp only;omega,a2,a3,fun h=>absurd h hc,by simp only;omega,a6⟩,fun h=>absurd h hc⟩
      rename_i hc
      have hc0:(rxPat n s { p with at_:=p.at_+1,opn:=p.opn+1 }).c=0:=by omega
      have ho:=a4 hc0
      split
      ·exact ⟨⟨by simp only;omega,a2,a3,fun h=>absurd h (by simp),by simp only;omega,by simp⟩,fun h=>absurd h (by simp)⟩
      ·exact ⟨⟨by simp only;omega,by simp only;omega,by simp only;omega,fun _=>by simp only;omega,by simp only;omega,by simp⟩,fun _=>⟨by simp only;omega,by simp only;omega⟩⟩
    split
    ·obtain ⟨a1,a2,a3,a4⟩:=Xjo s (p.at_+1) (by omega)
     split
     ·rename_i hc
      exact ⟨⟨by simp only;omega,a2,h2,fun h=>absurd h hc,by simp only;omega,a4⟩,fun h=>absurd h hc⟩
     ·exact hk _ _ (by omega) a2
    split
    ·obtain ⟨a1,a2,a3,_,_,a6⟩:=Xib s p.at_ h1
     split
     ·rename_i hc
      exact ⟨⟨by simp only;omega,a2,h2,fun h=>absurd h hc,by simp only;omega,a6⟩,fun h=>absurd h hc⟩
     ·exact hk _ _ (a3 (by omega)) a2
    ·exact hk _ _ (by omega) (by omega)
   have hpart:∀p,p.at_ < s.length→p.opn≤24→Adv s p (Xbl (n+1) s p) 0∧((Xbl (n+1) s p).c=0→p.at_ < (Xbl (n+1) s p).p.at_∧(Xbl (n+1) s p).p.ns.length+2+3*p.at_≤p.ns.length+3*(Xbl (n+1) s p).p.at_):=by
    intro p h1 h2
    obtain ⟨⟨a1,a2,a3,a4,a5,a6⟩,a7⟩:=ih.atom p h1 h2
    rw [Xbl]
    split
    ·rename_i hc
     exact ⟨⟨a1,a2,a3,fun h=>absurd h hc,a5,a6⟩,fun h=>absurd h hc⟩
    ·rename_i hc
     obtain ⟨⟨b1,b2,b3,b4,b5,b6⟩,b7⟩:=XnE s (s.length+1) (XbS n s p).p (XbS n s p).v a2 a3
     have ho:=a4 (by omega)
     refine ⟨⟨by omega,b2,b3,fun h=>(b4 h).trans ho,by omega,b6⟩,fun _=>?_⟩
     have:=a7 (by omega)
     omega
   have halt:∀p l,p.at_≤s.length→p.opn≤24→Adv s p (Xb4 (n+1) s p l) (if l=none then 1 else 0):=by
    intro p l h1 h2
    rw [Xki]
    split
    ·obtain ⟨⟨a1,a2,a3,a4,a5,a6⟩,a7⟩:=ih.part p (by omega) h2
     split
     ·rename_i hc
      exact ⟨a1,a2,a3,fun h=>absurd h hc,by simp only;omega,a6⟩
     ·rename_i hc
      have ho:=a4 (by omega)
      have hp:=a7 (by omega)
      cases l with
      | none=>
        obtain ⟨b1,b2,b3,b4,b5,b6⟩:=ih.alt (Xbl n s p).p (some (Xbl n s p).v) a2 a3
        simp only [reduceCtorEq,if_false] at b5 ⊢
        exact ⟨by omega,b2,b3,fun h=>(b4 h).trans ho,by simp;omega,b6⟩
      | some l=>
        obtain ⟨b1,b2,b3,b4,b5,b6⟩:=ih.alt ((Xbl n s p).p.add { kind:=3,left:=l,right:=(Xbl n s p).v }) (some (Xbl n s p).p.ns.length) a2 a3
        simp only [reduceCtorEq,if_false] at b5 ⊢
        generalize Xb4 n s _ _=z at *
        simp only [RS.add,XvF,List.length_singleton] at b1 b4 b5
        exact ⟨by omega,b2,b3,fun h=>(b4 h).trans ho,by omega,b6⟩
    ·cases l with
     | none=>exact ⟨Nat.le_refl _,h1,h2,fun _=>rfl,by simp [RS.ok,RS.add];omega,by simp [RS.ok]⟩
     | some l=>exact ⟨Nat.le_refl _,h1,h2,fun _=>rfl,by simp,by simp⟩
   have hbar:∀r:RxR,r.p.at_≤s.length→r.p.opn≤24→r.c≤100→Adv s r.p (Xfa (n+1) s r) 0∧(r.c≠0→Xfa (n+1) s r=r):=by
    intro r h1 h2 h3
    rw [Xfa]
    split
    ·rename_i hc
     refine ⟨?_,fun h=>absurd hc.1 h⟩
     obtain ⟨a1,a2,a3,a4,a5,a6⟩:=ih.alt { r.p with at_:=r.p.at_+1 } none (by simp only;omega) h2
     simp only [if_true] at a1 a4 a5
     simp only
     split
     ·rename_i hq
      obtain ⟨⟨b1,b2,b3,b4,b5,b6⟩,_⟩:=ih.bar ((Xb4 n s { r.p with at_:=r.p.at_+1 } none).p.ok { kind:=4,left:=r.v,right:=(Xb4 n s { r.p with at_:=r.p.at_+1 } none).v }) a2 a3 (by simp [RS.ok])
      simp only [RS.ok,RS.add,XvF,List.length_singleton] at b1 b2 b3 b4 b5 b6 ⊢
      exact ⟨by omega,b2,b3,fun h=>(b4 h).trans (a4 hq),by omega,b6⟩
     ·rename_i hq
      obtain ⟨_,b⟩:=ih.bar ⟨r.v,(Xb4 n s { r.p with at_:=r.p.at_+1 } none).c,(Xb4 n s { r.p with at_:=r.p.at_+1 } none).p⟩ a2 a3 a6
      rw [b hq]
      exact ⟨by simp only;omega,a2,a3,fun h=>absurd h hq,by simp only;omega,a6⟩
    ·exact ⟨⟨Nat.le_refl _,h1,h2,fun _=>rfl,by omega,h3⟩,fun _=>rfl⟩
   refine ⟨hatom,hpart,halt,hbar,fun p h1 h2=>?_⟩
   rw [rxPat]
   obtain ⟨a1,a2,a3,a4,a5,a6⟩:=ih.alt p none h1 h2
   obtain ⟨⟨b1,b2,b3,b4,b5,b6⟩,b7⟩:=ih.bar (Xb4 n s p none) a2 a3 a6
   simp only [if_true] at a5
   refine ⟨by omega,b2,b3,fun h=>?_,by omega,b6⟩
   by_cases hc:(Xb4 n s p none).c=0
   ·exact (b4 h).trans (a4 hc)
   ·rw [b7 hc] at h;exact absurd h hc
set_option maxRecDepth 100000
instance:HFv Tryz.prog 154 0 0 false 1:=⟨by kernel_rfl⟩
open Go.RowKit
theorem Xpx {v n:Int} (hn:0 < n) (h:v.tmod n < 0):v.tmod n+n=v % n:=by
 rw [Int.tmod_eq_emod] at *
 have:=Int.emod_nonneg v (show n≠0 by omega)
 split at h<;>rename_i hc<;>simp [hc] at *
 ·omega
 ·omega
theorem Xpy {v n:Int} (hn:0 < n) (h:0≤v.tmod n):v.tmod n=v % n:=by
 rw [Int.tmod_eq_emod] at *
 have:=Int.emod_lt_of_pos v hn
 split<;>rename_i hc<;>simp [hc] at *
 omega
theorem Xny {a b:Int} (h:a=b):Ending.returned (.int .i64 a)=.returned (.int .i64 b):=by rw [h]
theorem Xru (v n:Int) (w:World) (hn:1≤n) (hn2:n≤9223372036854775807) (hv : -9223372036854775808≤v) (hv2:v≤9223372036854775807) :
  Calls Tryz.prog 69 #[.int .i64 v,.int .i64 n] w fun e w'=>e=.returned (.int .i64 (v % n))∧w=w':=by
 have h0:¬n=0:=by omega
 have h1:v.tmod n < n:=Int.tmod_lt_of_pos v (by omega)
 have h2 : -n < v.tmod n:=by
  have:=Int.lt_tmod_of_pos v (show 0 < n by omega);omega
 go_enter Tryz.func69,Tryz.ntmps69
 go_wp2
 all_goals go_ret
 ·exact ⟨Xny (Xpx (by omega) (by assumption)),rfl⟩
 ·exact ⟨Xny (Xpy (by omega) (by assumption)),rfl⟩
end Go.Proofs.YtdlblokjfoggpaaGreatDoor

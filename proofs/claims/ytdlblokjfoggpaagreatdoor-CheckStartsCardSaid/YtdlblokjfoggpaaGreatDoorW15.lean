import Derived.Test.YtdlblokjfoggpaaGreatDoorW7
import Derived.Test.YtdlblokjfoggpaaGreatDoorW10
import Derived.Test.YtdlblokjfoggpaaGreatDoorW13
import Derived.Test.YtdlblokjfoggpaaGreatDoorW14
import Derived.Test.YtdlblokjfoggpaaGreatDoorW11
import Derived.Test.YtdlblokjfoggpaaGreatDoorW8
/- The search: step. -/
set_option linter.unusedSimpArgs false
set_option linter.unusedVariables false
set_option maxRecDepth 100000
set_option maxHeartbeats 8000000
namespace Go.Proofs.YtdlblokjfoggpaaGreatDoor
open Go.RowKit
theorem XeJ (sb mb:Nat) (l:List Sx) (q:SnL × List Sp) (ad:Option Addr) (cap:Nat) (p:Sp) (o:Og) (hn:Xfv l.length q.1) (hl:l.length≤1000) (hp:p.st < l.length) (hq0:q.2.length≤1000000) :
  XaM Tryz.prog 25 [.box sb [.sq l.length (sxa l),.x (.map (some mb))],.map mb (snv q.1),.row ad q.2.length cap 86 3 (spa q.2)] [.x (.pointer (some ⟨sb,0,none⟩)),.x (.slice ad q.2.length cap),.x (.agg #[.int .i64 p.st,.bool p.bol,.bool p.eol]),.x (.agg #[.int .i64 o.from_.st,.bool o.from_.bol,.bool o.from_.eol,.bool o.root,.bool o.over,.int .u8 (o.c % 256:Nat)])] (fun r H'=>∃ad' cap',r=.x (.slice ad' (XaL q p o).2.length cap')∧H'=[.box sb [.sq l.length (sxa l),.x (.map (some mb))],.map mb (snv (XaL q p o).1),.row ad' (XaL q p o).2.length cap' 86 3 (spa (XaL q p o).2)]):=by
 obtain ⟨sn,list⟩:=q
 exact Xnu sb mb l sn list ad cap p o hn hl hp hq0
theorem Xpv {l:List Sx} {p:Sp} (q:SnL × List Sp) (h:(l.getD p.st default).kind≠1):Xc8 l p q=q:=by
 unfold Xc8;simp only;rw [if_pos h]
theorem XnR {l:List Sx} {p:Sp} (q:SnL × List Sp) (h:(l.getD p.st default).kind=1):Xc8 l p q=match Xe8 (l.getD p.st default).set with
  | none=>if (l.getD p.st default).set.testBit 10 then XaL q ⟨(l.getD p.st default).out,true,false⟩ { from_:=p,over:=true,c:=10 } else q
  | some c=>if p.eol then (if (l.getD p.st default).set.testBit 10 then XaL q ⟨(l.getD p.st default).out,true,false⟩ { from_:=p,over:=true,c:=10 } else q) else XaL (if (l.getD p.st default).set.testBit 10 then XaL q ⟨(l.getD p.st default).out,true,false⟩ { from_:=p,over:=true,c:=10 } else q) ⟨(l.getD p.st default).out,false,false⟩ { from_:=p,over:=true,c:=c }:=by
 unfold Xc8;simp only;rw [if_neg (by omega)];rfl
structure StI (l:List Sx) (sn:SnL) (list:List Sp) (Q:SnL × List Sp) (i:Nat) (q:SnL × List Sp):Prop where
 grow:Xdm l.length sn [] q
 le:i≤list.length
 eq:(list.drop i).foldl (fun q p=>Xc8 l p q) q=Q
theorem StI.next {l:List Sx} (hv:Xbw l=true) {sn:SnL} {list:List Sp} (hi:In sn list) {Q:SnL × List Sp} {i:Nat} {q:SnL × List Sp} (h:StI l sn list Q i q) (hlt:i < list.length):StI l sn list Q (i+1) (Xc8 l list[i] q):=by
 refine ⟨h.grow.step1 hv _ (h.grow.sub (hi _ (List.getElem_mem hlt))),by omega,?_⟩
 have e:=h.eq
 rw [List.drop_eq_getElem_cons hlt,Xvu] at e
 exact e
theorem StI.done {l:List Sx} {sn:SnL} {list:List Sp} {Q:SnL × List Sp} {i:Nat} {q:SnL × List Sp} (h:StI l sn list Q i q) (hlt:¬i < list.length):q=Q:=by
 have e:=h.eq
 rw [List.drop_of_length_le (by omega)] at e
 exact e
theorem XtM (sb mb:Nat) (l:List Sx) (sn:SnL) (list:List Sp) (hv:Xbw l=true) (hn:Xfv l.length sn) (hl:l.length≤1000) (hin:In sn list) (hll:list.length≤1000000) :
  XaM Tryz.prog 29 [.box sb [.sq l.length (sxa l),.x (.map (some mb))],.map mb (snv sn)] [.x (.pointer (some ⟨sb,0,none⟩)),.sq list.length (spa list)] (fun r H'=>∃ad' cap',r=.x (.slice ad' (XcN l sn list).2.length cap')∧H'=[.box sb [.sq l.length (sxa l),.x (.map (some mb))],.map mb (snv (XcN l sn list).1),.row ad' (XcN l sn list).2.length cap' 86 3 (spa (XcN l sn list).2)]):=by
 have hI:StI l sn list (XcN l sn list) 0 (sn,[]):=⟨Xdm.refl hn,Nat.zero_le _,rfl⟩
 generalize XcN l sn list=Q at *
 refine Xbs Tryz.func29 Tryz.ntmps29 ?_
 refine Xa7 86 3 ?_
 (repeat' (first|refine Wkx.go ?_|refine XaJ ?_|refine XaG ?_|(refine XaE (fun h=>?_) (fun h=>?_)<;>first|(exact absurd h (by decide))|(exfalso;omega;done)|skip)|refine XaF ?_|refine Xai ?_|(refine Xaa rfl ?_;(first|refine Xax ?_|refine Xaw ?_|refine Xav (fun ad cap=>?_)|refine Xat (fun b=>?_)|refine Xas (fun b=>?_)|refine Xau (fun b=>?_)|fail))|fail))
 refine XaA (S:=Nat × (SnL × List Sp) × Option Addr × Nat) (fun s=>frm 60 [(0,.x (.pointer (some ⟨sb,0,none⟩))),(5,.x (.slice s.2.2.1 s.2.1.2.length s.2.2.2)),(10,.sq list.length (spa list)),(11,.x (.int .i64 list.length)),(12,.x (.int .i64 s.1))])
  (fun s=>[.box sb [.sq l.length (sxa l),.x (.map (some mb))],.map mb (snv s.2.1.1),.row s.2.2.1 s.2.1.2.length s.2.2.2 86 3 (spa s.2.1.2)]) (fun s=>StI l sn list Q s.1 s.2.1) (fun s=>list.length - s.1) (0,(sn,[]),none,0) (Xaq.mk' [] [.box sb [.sq l.length (sxa l),.x (.map (some mb))],.map mb (snv sn),.row none 0 0 86 3 []] (by (repeat' (first|exact Xvt _|exact List.Perm.nil|refine XvJ _ ?_|refine (XvG (l₁:=[_])).trans (XvJ _ ?_)|refine (XvG (l₁:=[_,_])).trans (XvJ _ ?_)|refine (XvG (l₁:=[_,_,_])).trans (XvJ _ ?_)|refine (XvG (l₁:=[_,_,_,_])).trans (XvJ _ ?_)|refine (XvG (l₁:=[_,_,_,_,_])).trans (XvJ _ ?_)|refine (XvG (l₁:=[_,_,_,_,_,_])).trans (XvJ _ ?_)|refine (XvG (l₁:=[_,_,_,_,_,_,_])).trans (XvJ _ ?_)|refine (XvG (l₁:=[_,_,_,_,_,_,_,_])).trans (XvJ _ ?_)))) (Xap.refl _ _) (by (repeat' (first|exact VwL.nil|(refine VwL.cons ?_ ?_)|exact Vw.refl _|exact Vw.top _|exact Vw.nil|(refine Vw.eq ?_;first|rfl|(simp;done)|(congr 3;omega)|(congr 2;omega)))))) hI fun s hs=>?_
 clear hI
 obtain ⟨i,q,ad,cap⟩:=s
 simp only at hs
 have hlen:=hs.grow.len (Nat.zero_le _)
 simp only [wfr]
 by_cases hlt:i < list.length
 ·have hnx:=hs.next hv hin hlt
  have hpin:=hs.grow.sub (hin _ (List.getElem_mem hlt))
  have hd1:=Xkl list i hlt
  generalize list[i]=p at hnx hpin hd1
  have hp:p.st < l.length:=by obtain ⟨y,hy,e⟩:=hpin;rw [←e];exact hs.grow.ok.st y hy
  have hd2:=Xqn l p.st hp
  have F0:=Xpv (l:=l) (p:=p) q
  have F1:=XnR (l:=l) (p:=p) q
  have H1:=fun h=>Xih (XeO hv hp) (.inl h)
  generalize l.getD p.st default=d at *
  have hsn:=hs.grow.ok
  have G:=fun (h:d.out < l.length)=>hs.grow.reach ⟨d.out,true,false⟩ { from_:=p,over:=true,c:=10 } h hpin
  have hil:=hs.le
  clear hs hpin
  have hd1:=Lib.hid hd1;have hd2:=Lib.hid hd2
  have hC:=XeX d.set 10 (by decide)
  have hO:=XrI d.set
  cases hoo:Xe8 d.set with
  | none=>
    rw [hoo] at F1 hO
    simp only [XuL] at hO F1
    clear hoo
    (have wx:=@hd1.out;(repeat' (first|refine Wkx.go ?_|refine XaG ?_|(refine XaE (fun h=>?_) (fun h=>?_)<;>first|(exact absurd h (by decide))|(exfalso;omega;done)|skip)|refine XaF ?_|refine Xai ?_|(refine Xaa rfl ?_;(first|refine Xax ?_|refine Xaw ?_|refine Xav (fun ad cap=>?_)|refine Xat (fun b=>?_)|refine Xas (fun b=>?_)|refine Xau (fun b=>?_)|fail))|fail)))<;>(try clear wx)
    refine Xcx (B:=[_,_]) (R:=[_,_]) mixed [0,1,2,3,4,5,6,7] [] [9] (some 8) _ 1 (Xvt _) (by decide +kernel) rfl (Xdj rfl rfl rfl Xb0.out rfl rfl) (by decide) ?_
    (have wx:=And.intro @hd2.out @w4.eq_1;(repeat' (first|refine XiQ ?_|(refine Xmk ?_;(first|refine XlB (fun ad cap=>?_)|refine Xml (fun b=>?_)))|fail)))<;>(try clear wx)
    (first|(refine XfS (fun b=>?_))|refine XfT ?_);(refine Xdn 9 ?_;(first|refine Xcb ?_|refine Xax ?_|refine Xaw ?_|refine Xav (fun ad cap=>?_)|refine Xat (fun b=>?_)|refine Xas (fun b=>?_)|refine Xau (fun b=>?_)|fail));refine Xar (by decide +kernel) ?_
    (repeat' (first|refine Wkx.go ?_|refine XaJ ?_|refine XaG ?_|(refine XaE (fun h=>?_) (fun h=>?_)<;>first|(exact absurd h (by decide))|(exfalso;omega;done)|skip)|refine XaF ?_|refine Xai ?_ (h:=by first|exact fun _=>Xb3 rfl rfl Tryz.func58 (hC)|fail)|refine Xai ?_ (h:=by first|exact fun _=>Xb3 rfl rfl Tryz.func59 (hO)|fail)|refine Xai ?_|(refine Xaa rfl ?_;(first|((refine Xa5 Tryz.func25 [_,_,_] rfl rfl (by (repeat' (first|exact Xvt _|exact List.Perm.nil|refine XvJ _ ?_|refine (XvG (l₁:=[_])).trans (XvJ _ ?_)|refine (XvG (l₁:=[_,_])).trans (XvJ _ ?_)|refine (XvG (l₁:=[_,_,_])).trans (XvJ _ ?_)|refine (XvG (l₁:=[_,_,_,_])).trans (XvJ _ ?_)|refine (XvG (l₁:=[_,_,_,_,_])).trans (XvJ _ ?_)|refine (XvG (l₁:=[_,_,_,_,_,_])).trans (XvJ _ ?_)|refine (XvG (l₁:=[_,_,_,_,_,_,_])).trans (XvJ _ ?_)|refine (XvG (l₁:=[_,_,_,_,_,_,_,_])).trans (XvJ _ ?_)))) (XeJ _ _ l q _ _ ⟨d.out,true,false⟩ { from_:=p,over:=true,c:=10 } hsn hl (H1 (by omega)) (by omega)) ?_;rintro _ _ ⟨ad',cap',rfl,rfl⟩);refine XaO ?_)|refine Xax ?_|refine Xaw ?_|refine Xav (fun ad cap=>?_)|refine Xat (fun b=>?_)|refine Xas (fun b=>?_)|refine Xau (fun b=>?_)|fail))|fail))
    all_goals first
     | (rw [F0 (by omega)] at hnx;exact ⟨(i+1,_,_,_),(by show list.length - (i+1) < list.length - i;omega),hnx,(Xaq.mk' [.box _ [_,_,_],.box _ [_,_,_,_,_,_,_]] [.box sb _,.map mb _,.row _ _ _ _ _ _] (by (repeat' (first|exact Xvt _|exact List.Perm.nil|refine XvJ _ ?_|refine (XvG (l₁:=[_])).trans (XvJ _ ?_)|refine (XvG (l₁:=[_,_])).trans (XvJ _ ?_)|refine (XvG (l₁:=[_,_,_])).trans (XvJ _ ?_)|refine (XvG (l₁:=[_,_,_,_])).trans (XvJ _ ?_)|refine (XvG (l₁:=[_,_,_,_,_])).trans (XvJ _ ?_)|refine (XvG (l₁:=[_,_,_,_,_,_])).trans (XvJ _ ?_)|refine (XvG (l₁:=[_,_,_,_,_,_,_])).trans (XvJ _ ?_)|refine (XvG (l₁:=[_,_,_,_,_,_,_,_])).trans (XvJ _ ?_)))) (Xap.refl _ _) (by (repeat' (first|exact VwL.nil|(refine VwL.cons ?_ ?_)|exact Vw.refl _|exact Vw.top _|exact Vw.nil|(refine Vw.eq ?_;first|rfl|(simp;done)|(congr 3;omega)|(congr 2;omega))))))⟩)
     | (rw [F1 (by omega),if_pos (by assumption)] at hnx;exact ⟨(i+1,_,_,_),(by show list.length - (i+1) < list.length - i;omega),hnx,(Xaq.mk' [.box _ [_,_,_],.box _ [_,_,_,_,_,_,_]] [.box sb _,.map mb _,.row _ _ _ _ _ _] (by (repeat' (first|exact Xvt _|exact List.Perm.nil|refine XvJ _ ?_|refine (XvG (l₁:=[_])).trans (XvJ _ ?_)|refine (XvG (l₁:=[_,_])).trans (XvJ _ ?_)|refine (XvG (l₁:=[_,_,_])).trans (XvJ _ ?_)|refine (XvG (l₁:=[_,_,_,_])).trans (XvJ _ ?_)|refine (XvG (l₁:=[_,_,_,_,_])).trans (XvJ _ ?_)|refine (XvG (l₁:=[_,_,_,_,_,_])).trans (XvJ _ ?_)|refine (XvG (l₁:=[_,_,_,_,_,_,_])).trans (XvJ _ ?_)|refine (XvG (l₁:=[_,_,_,_,_,_,_,_])).trans (XvJ _ ?_)))) (Xap.refl _ _) (by (repeat' (first|exact VwL.nil|(refine VwL.cons ?_ ?_)|exact Vw.refl _|exact Vw.top _|exact Vw.nil|(refine Vw.eq ?_;first|rfl|(simp;done)|(congr 3;omega)|(congr 2;omega))))))⟩)
     | (rw [F1 (by omega),if_neg (by simp only [‹d.set.testBit 10=false›];decide)] at hnx;exact ⟨(i+1,_,_,_),(by show list.length - (i+1) < list.length - i;omega),hnx,(Xaq.mk' [.box _ [_,_,_],.box _ [_,_,_,_,_,_,_]] [.box sb _,.map mb _,.row _ _ _ _ _ _] (by (repeat' (first|exact Xvt _|exact List.Perm.nil|refine XvJ _ ?_|refine (XvG (l₁:=[_])).trans (XvJ _ ?_)|refine (XvG (l₁:=[_,_])).trans (XvJ _ ?_)|refine (XvG (l₁:=[_,_,_])).trans (XvJ _ ?_)|refine (XvG (l₁:=[_,_,_,_])).trans (XvJ _ ?_)|refine (XvG (l₁:=[_,_,_,_,_])).trans (XvJ _ ?_)|refine (XvG (l₁:=[_,_,_,_,_,_])).trans (XvJ _ ?_)|refine (XvG (l₁:=[_,_,_,_,_,_,_])).trans (XvJ _ ?_)|refine (XvG (l₁:=[_,_,_,_,_,_,_,_])).trans (XvJ _ ?_)))) (Xap.refl _ _) (by (repeat' (first|exact VwL.nil|(refine VwL.cons ?_ ?_)|exact Vw.refl _|exact Vw.top _|exact Vw.nil|(refine Vw.eq ?_;first|rfl|(simp;done)|(congr 3;omega)|(congr 2;omega))))))⟩)
     | fail
  | some c=>
    rw [hoo] at F1 hO
    simp only [XuL] at hO F1
    clear hoo
    (have wx:=@hd1.out;(repeat' (first|refine Wkx.go ?_|refine XaG ?_|(refine XaE (fun h=>?_) (fun h=>?_)<;>first|(exact absurd h (by decide))|(exfalso;omega;done)|skip)|refine XaF ?_|refine Xai ?_|(refine Xaa rfl ?_;(first|refine Xax ?_|refine Xaw ?_|refine Xav (fun ad cap=>?_)|refine Xat (fun b=>?_)|refine Xas (fun b=>?_)|refine Xau (fun b=>?_)|fail))|fail)))<;>(try clear wx)
    refine Xcx (B:=[_,_]) (R:=[_,_]) mixed [0,1,2,3,4,5,6,7] [] [9] (some 8) _ 1 (Xvt _) (by decide +kernel) rfl (Xdj rfl rfl rfl Xb0.out rfl rfl) (by decide) ?_
    (have wx:=And.intro @hd2.out @w4.eq_1;(repeat' (first|refine XiQ ?_|(refine Xmk ?_;(first|refine XlB (fun ad cap=>?_)|refine Xml (fun b=>?_)))|fail)))<;>(try clear wx)
    (first|(refine XfS (fun b=>?_))|refine XfT ?_);(refine Xdn 9 ?_;(first|refine Xcb ?_|refine Xax ?_|refine Xaw ?_|refine Xav (fun ad cap=>?_)|refine Xat (fun b=>?_)|refine Xas (fun b=>?_)|refine Xau (fun b=>?_)|fail));refine Xar (by decide +kernel) ?_
    (repeat' (first|refine Wkx.go ?_|refine XaJ ?_|refine XaG ?_|(refine XaE (fun h=>?_) (fun h=>?_)<;>first|(exact absurd h (by decide))|(exfalso;omega;done)|skip)|refine XaF ?_|refine Xai ?_ (h:=by first|exact fun _=>Xb3 rfl rfl Tryz.func58 (hC)|fail)|refine Xai ?_ (h:=by first|exact fun _=>Xb3 rfl rfl Tryz.func59 (hO)|fail)|refine Xai ?_|(refine Xaa rfl ?_;(first|((refine Xa5 Tryz.func25 [_,_,_] rfl rfl (by (repeat' (first|exact Xvt _|exact List.Perm.nil|refine XvJ _ ?_|refine (XvG (l₁:=[_])).trans (XvJ _ ?_)|refine (XvG (l₁:=[_,_])).trans (XvJ _ ?_)|refine (XvG (l₁:=[_,_,_])).trans (XvJ _ ?_)|refine (XvG (l₁:=[_,_,_,_])).trans (XvJ _ ?_)|refine (XvG (l₁:=[_,_,_,_,_])).trans (XvJ _ ?_)|refine (XvG (l₁:=[_,_,_,_,_,_])).trans (XvJ _ ?_)|refine (XvG (l₁:=[_,_,_,_,_,_,_])).trans (XvJ _ ?_)|refine (XvG (l₁:=[_,_,_,_,_,_,_,_])).trans (XvJ _ ?_)))) (XeJ _ _ l q _ _ ⟨d.out,true,false⟩ { from_:=p,over:=true,c:=10 } hsn hl (H1 (by omega)) (by omega)) ?_;rintro _ _ ⟨ad',cap',rfl,rfl⟩);refine XaO ?_)|((refine Xa5 Tryz.func25 [_,_,_] rfl rfl (by (repeat' (first|exact Xvt _|exact List.Perm.nil|refine XvJ _ ?_|refine (XvG (l₁:=[_])).trans (XvJ _ ?_)|refine (XvG (l₁:=[_,_])).trans (XvJ _ ?_)|refine (XvG (l₁:=[_,_,_])).trans (XvJ _ ?_)|refine (XvG (l₁:=[_,_,_,_])).trans (XvJ _ ?_)|refine (XvG (l₁:=[_,_,_,_,_])).trans (XvJ _ ?_)|refine (XvG (l₁:=[_,_,_,_,_,_])).trans (XvJ _ ?_)|refine (XvG (l₁:=[_,_,_,_,_,_,_])).trans (XvJ _ ?_)|refine (XvG (l₁:=[_,_,_,_,_,_,_,_])).trans (XvJ _ ?_)))) (XeJ _ _ l (XaL q ⟨d.out,true,false⟩ { from_:=p,over:=true,c:=10 }) _ _ ⟨d.out,false,false⟩ { from_:=p,over:=true,c:=c } (G (H1 (by omega))).ok hl (H1 (by omega)) (by have:=(G (H1 (by omega))).len (Nat.zero_le _);omega)) ?_;rintro _ _ ⟨ad',cap',rfl,rfl⟩);refine XaO ?_)|((refine Xa5 Tryz.func25 [_,_,_] rfl rfl (by (repeat' (first|exact Xvt _|exact List.Perm.nil|refine XvJ _ ?_|refine (XvG (l₁:=[_])).trans (XvJ _ ?_)|refine (XvG (l₁:=[_,_])).trans (XvJ _ ?_)|refine (XvG (l₁:=[_,_,_])).trans (XvJ _ ?_)|refine (XvG (l₁:=[_,_,_,_])).trans (XvJ _ ?_)|refine (XvG (l₁:=[_,_,_,_,_])).trans (XvJ _ ?_)|refine (XvG (l₁:=[_,_,_,_,_,_])).trans (XvJ _ ?_)|refine (XvG (l₁:=[_,_,_,_,_,_,_])).trans (XvJ _ ?_)|refine (XvG (l₁:=[_,_,_,_,_,_,_,_])).trans (XvJ _ ?_)))) (XeJ _ _ l q _ _ ⟨d.out,false,false⟩ { from_:=p,over:=true,c:=c } hsn hl (H1 (by omega)) (by omega)) ?_;rintro _ _ ⟨ad',cap',rfl,rfl⟩);refine XaO ?_)|refine Xax ?_|refine Xaw ?_|refine Xav (fun ad cap=>?_)|refine Xat (fun b=>?_)|refine Xas (fun b=>?_)|refine Xau (fun b=>?_)|fail))|fail))
    all_goals first
     | (rw [F0 (by omega)] at hnx;exact ⟨(i+1,_,_,_),(by show list.length - (i+1) < list.length - i;omega),hnx,(Xaq.mk' [.box _ [_,_,_],.box _ [_,_,_,_,_,_,_]] [.box sb _,.map mb _,.row _ _ _ _ _ _] (by (repeat' (first|exact Xvt _|exact List.Perm.nil|refine XvJ _ ?_|refine (XvG (l₁:=[_])).trans (XvJ _ ?_)|refine (XvG (l₁:=[_,_])).trans (XvJ _ ?_)|refine (XvG (l₁:=[_,_,_])).trans (XvJ _ ?_)|refine (XvG (l₁:=[_,_,_,_])).trans (XvJ _ ?_)|refine (XvG (l₁:=[_,_,_,_,_])).trans (XvJ _ ?_)|refine (XvG (l₁:=[_,_,_,_,_,_])).trans (XvJ _ ?_)|refine (XvG (l₁:=[_,_,_,_,_,_,_])).trans (XvJ _ ?_)|refine (XvG (l₁:=[_,_,_,_,_,_,_,_])).trans (XvJ _ ?_)))) (Xap.refl _ _) (by (repeat' (first|exact VwL.nil|(refine VwL.cons ?_ ?_)|exact Vw.refl _|exact Vw.top _|exact Vw.nil|(refine Vw.eq ?_;first|rfl|(simp;done)|(congr 3;omega)|(congr 2;omega))))))⟩)
     | (rw [F1 (by omega),if_pos (by first|assumption|(rcases h with h|h;exact absurd h (by omega);exact h)|(rcases h with h|h;exact h;exact h)),if_pos (by assumption)] at hnx;exact ⟨(i+1,_,_,_),(by show list.length - (i+1) < list.length - i;omega),hnx,(Xaq.mk' [.box _ [_,_,_],.box _ [_,_,_,_,_,_,_]] [.box sb _,.map mb _,.row _ _ _ _ _ _] (by (repeat' (first|exact Xvt _|exact List.Perm.nil|refine XvJ _ ?_|refine (XvG (l₁:=[_])).trans (XvJ _ ?_)|refine (XvG (l₁:=[_,_])).trans (XvJ _ ?_)|refine (XvG (l₁:=[_,_,_])).trans (XvJ _ ?_)|refine (XvG (l₁:=[_,_,_,_])).trans (XvJ _ ?_)|refine (XvG (l₁:=[_,_,_,_,_])).trans (XvJ _ ?_)|refine (XvG (l₁:=[_,_,_,_,_,_])).trans (XvJ _ ?_)|refine (XvG (l₁:=[_,_,_,_,_,_,_])).trans (XvJ _ ?_)|refine (XvG (l₁:=[_,_,_,_,_,_,_,_])).trans (XvJ _ ?_)))) (Xap.refl _ _) (by (repeat' (first|exact VwL.nil|(refine VwL.cons ?_ ?_)|exact Vw.refl _|exact Vw.top _|exact Vw.nil|(refine Vw.eq ?_;first|rfl|(simp;done)|(congr 3;omega)|(congr 2;omega))))))⟩)
     | (rw [F1 (by omega),if_pos (by first|assumption|(rcases h with h|h;exact absurd h (by omega);exact h)|(rcases h with h|h;exact h;exact h)),if_neg (by simp only [‹d.set.testBit 10=false›];decide)] at hnx;exact ⟨(i+1,_,_,_),(by show list.length - (i+1) < list.length - i;omega),hnx,(Xaq.mk' [.box _ [_,_,_],.box _ [_,_,_,_,_,_,_]] [.box sb _,.map mb _,.row _ _ _ _ _ _] (by (repeat' (first|exact Xvt _|exact List.Perm.nil|refine XvJ _ ?_|refine (XvG (l₁:=[_])).trans (XvJ _ ?_)|refine (XvG (l₁:=[_,_])).trans (XvJ _ ?_)|refine (XvG (l₁:=[_,_,_])).trans (XvJ _ ?_)|refine (XvG (l₁:=[_,_,_,_])).trans (XvJ _ ?_)|refine (XvG (l₁:=[_,_,_,_,_])).trans (XvJ _ ?_)|refine (XvG (l₁:=[_,_,_,_,_,_])).trans (XvJ _ ?_)|refine (XvG (l₁:=[_,_,_,_,_,_,_])).trans (XvJ _ ?_)|refine (XvG (l₁:=[_,_,_,_,_,_,_,_])).trans (XvJ _ ?_)))) (Xap.refl _ _) (by (repeat' (first|exact VwL.nil|(refine VwL.cons ?_ ?_)|exact Vw.refl _|exact Vw.top _|exact Vw.nil|(refine Vw.eq ?_;first|rfl|(simp;done)|(congr 3;omega)|(congr 2;omega))))))⟩)
     | (rw [F1 (by omega),if_neg (by first|(rw [h];decide)|(rw [h.2];decide)),if_pos (by assumption)] at hnx;exact ⟨(i+1,_,_,_),(by show list.length - (i+1) < list.length - i;omega),hnx,(Xaq.mk' [.box _ [_,_,_],.box _ [_,_,_,_,_,_,_]] [.box sb _,.map mb _,.row _ _ _ _ _ _] (by (repeat' (first|exact Xvt _|exact List.Perm.nil|refine XvJ _ ?_|refine (XvG (l₁:=[_])).trans (XvJ _ ?_)|refine (XvG (l₁:=[_,_])).trans (XvJ _ ?_)|refine (XvG (l₁:=[_,_,_])).trans (XvJ _ ?_)|refine (XvG (l₁:=[_,_,_,_])).trans (XvJ _ ?_)|refine (XvG (l₁:=[_,_,_,_,_])).trans (XvJ _ ?_)|refine (XvG (l₁:=[_,_,_,_,_,_])).trans (XvJ _ ?_)|refine (XvG (l₁:=[_,_,_,_,_,_,_])).trans (XvJ _ ?_)|refine (XvG (l₁:=[_,_,_,_,_,_,_,_])).trans (XvJ _ ?_)))) (Xap.refl _ _) (by (repeat' (first|exact VwL.nil|(refine VwL.cons ?_ ?_)|exact Vw.refl _|exact Vw.top _|exact Vw.nil|(refine Vw.eq ?_;first|rfl|(simp;done)|(congr 3;omega)|(congr 2;omega))))))⟩)
     | (rw [F1 (by omega),if_neg (by first|(rw [h];decide)|(rw [h.2];decide)),if_neg (by simp only [‹d.set.testBit 10=false›];decide)] at hnx;exact ⟨(i+1,_,_,_),(by show list.length - (i+1) < list.length - i;omega),hnx,(Xaq.mk' [.box _ [_,_,_],.box _ [_,_,_,_,_,_,_]] [.box sb _,.map mb _,.row _ _ _ _ _ _] (by (repeat' (first|exact Xvt _|exact List.Perm.nil|refine XvJ _ ?_|refine (XvG (l₁:=[_])).trans (XvJ _ ?_)|refine (XvG (l₁:=[_,_])).trans (XvJ _ ?_)|refine (XvG (l₁:=[_,_,_])).trans (XvJ _ ?_)|refine (XvG (l₁:=[_,_,_,_])).trans (XvJ _ ?_)|refine (XvG (l₁:=[_,_,_,_,_])).trans (XvJ _ ?_)|refine (XvG (l₁:=[_,_,_,_,_,_])).trans (XvJ _ ?_)|refine (XvG (l₁:=[_,_,_,_,_,_,_])).trans (XvJ _ ?_)|refine (XvG (l₁:=[_,_,_,_,_,_,_,_])).trans (XvJ _ ?_)))) (Xap.refl _ _) (by (repeat' (first|exact VwL.nil|(refine VwL.cons ?_ ?_)|exact Vw.refl _|exact Vw.top _|exact Vw.nil|(refine Vw.eq ?_;first|rfl|(simp;done)|(congr 3;omega)|(congr 2;omega))))))⟩)
     | fail
 ·have e:=hs.done hlt
  subst e
  (repeat' (first|refine Wkx.go ?_|refine XaJ ?_|refine XaG ?_|(refine XaE (fun h=>?_) (fun h=>?_)<;>first|(exact absurd h (by decide))|(exfalso;omega;done)|skip)|refine XaF ?_|refine Xai ?_|(refine Xaa rfl ?_;(first|refine Xax ?_|refine Xaw ?_|refine Xav (fun ad cap=>?_)|refine Xat (fun b=>?_)|refine Xas (fun b=>?_)|refine Xau (fun b=>?_)|fail))|fail))
  refine Xab _ _ (Xa0 rfl (RV.tmp _) (Xaq.mk' [] [.box sb _,.map mb _,.row _ _ _ _ _ _] (by (repeat' (first|exact Xvt _|exact List.Perm.nil|refine XvJ _ ?_|refine (XvG (l₁:=[_])).trans (XvJ _ ?_)|refine (XvG (l₁:=[_,_])).trans (XvJ _ ?_)|refine (XvG (l₁:=[_,_,_])).trans (XvJ _ ?_)|refine (XvG (l₁:=[_,_,_,_])).trans (XvJ _ ?_)|refine (XvG (l₁:=[_,_,_,_,_])).trans (XvJ _ ?_)|refine (XvG (l₁:=[_,_,_,_,_,_])).trans (XvJ _ ?_)|refine (XvG (l₁:=[_,_,_,_,_,_,_])).trans (XvJ _ ?_)|refine (XvG (l₁:=[_,_,_,_,_,_,_,_])).trans (XvJ _ ?_)))) (Xap.refl _ _) (VwL.refl _ _))) ⟨_,_,rfl,rfl⟩
attribute [local simp] Xse
theorem Xks (l:List UInt8) (k:Nat) (h:k < l.length):(u8a l).drop k=.x (.int .u8 ((l.getD k 0).toNat:Nat)) :: u8a (l.drop (k+1)):=by
 induction l generalizing k with
 | nil=>simp at h
 | cons a l ih=>
   rw [XdX]
   cases k with
   | zero=>rfl
   | succ k=>simpa using ih k (by simpa using h)
theorem XnP (l:List UInt8) (k:Nat) (b:UInt8) (h:k < l.length):spl (u8a l) k [.x (.int .u8 (b.toNat:Nat))]=u8a (l.set k b):=by
 induction l generalizing k with
 | nil=>simp at h
 | cons a l ih=>
   rw [XdX]
   cases k with
   | zero=>rw [XvH,XdX];simp [spl]
   | succ k=>rw [XvI,XdX,Xkn,ih k (by simpa using h)]
theorem XnQ (l:List UInt8) (i:Nat) (c:UInt8) (k:Nat) (b:UInt8) (h:k < l.length):spl (u8a (l.set i c)) k [.x (.int .u8 (b.toNat:Nat))]=u8a ((l.set i c).set k b):=XnP _ _ _ (by rw [List.length_set];exact h)
structure RvI (l:List UInt8) (i:Nat) (m:List UInt8):Prop where
 len:m.length=l.length
 le:2*i≤l.length
 get:∀k,k < l.length→m[k]?=if k < i∨l.length - i≤k then l[l.length - 1 - k]? else l[k]?
theorem RvI.start (l:List UInt8):RvI l 0 l:=⟨rfl,by omega,fun k hk=>by rw [if_neg (by omega)]⟩
theorem getD_some {m:List UInt8} {i:Nat} (h:i < m.length):some (m.getD i 0)=m[i]?:=by rw [List.getD_eq_getElem?_getD,List.getElem?_eq_getElem h];rfl
theorem RvI.next {l:List UInt8} {i:Nat} {m:List UInt8} (h:RvI l i m) (hi:i < l.length - 1 - i):RvI l (i+1) ((m.set i (m.getD (l.length - 1 - i) 0)).set (l.length - 1 - i) (m.getD i 0)):=by
 have hl:=h.len
 refine ⟨by simp [h.len],by omega,fun k hk=>?_⟩
 have hgi:=h.get i (by omega)
 have hgj:=h.get (l.length - 1 - i) (by omega)
 rw [if_neg (by omega)] at hgi hgj
 rw [List.getElem?_set,List.getElem?_set]
 simp only [List.length_set]
 by_cases e1:l.length - 1 - i=k
 ·subst e1
  rw [if_pos rfl,if_pos (by omega),if_pos (by omega),getD_some (by omega),hgi]
  congr 1;omega
 rw [if_neg e1]
 by_cases e2:i=k
 ·subst e2
  rw [if_pos rfl,if_pos (by omega),if_pos (by omega),getD_some (by omega),hgj]
 rw [if_neg e2,h.get k hk]
 by_cases c:k < i∨l.length - i≤k
 ·rw [if_pos c,if_pos (by omega)]
 ·rw [if_neg c,if_neg (by omega)]
theorem RvI.done {l:List UInt8} {i:Nat} {m:List UInt8} (h:RvI l i m) (hi:¬i < l.length - 1 - i):m=l.reverse:=by
 apply List.ext_getElem?
 intro k
 have hle:=h.le
 by_cases hk:k < l.length
 ·rw [h.get k hk,List.getElem?_reverse hk]
  split
  ·rfl
  ·congr 1;omega
 ·rw [List.getElem?_eq_none (by rw [h.len];omega),List.getElem?_eq_none (by simp;omega)]
theorem XuN (l:List UInt8) (ad:Option Addr) (cap:Nat) (hl:l.length≤1000000):XaM Tryz.prog 57 [.row ad l.length cap 5 1 (u8a l)] [.x (.slice ad l.length cap)] (fun r H'=>r=.x (.tuple #[])∧H'=[.row ad l.length cap 5 1 (u8a l.reverse)]):=by
 refine Xbs Tryz.func57 Tryz.ntmps57 ?_
 (repeat' (first|refine Wkx.go ?_|refine XaJ ?_|refine XaG ?_|(refine XaE (fun h=>?_) (fun h=>?_)<;>first|(exact absurd h (by decide))|(exfalso;omega;done)|skip)|refine XaF ?_|refine Xai ?_|(refine Xaa rfl ?_;(first|refine Xax ?_|refine Xaw ?_|refine Xav (fun ad cap=>?_)|refine Xat (fun b=>?_)|refine Xas (fun b=>?_)|refine Xau (fun b=>?_)|fail))|fail))
 refine XaA (S:=Nat × List UInt8) (fun s=>frm 28 [(0,.x (.slice ad l.length cap)),(2,.x (.int .i64 s.1)),(3,.x (.int .i64 ((l.length:Int) - 1 - s.1)))]) (fun s=>[.row ad l.length cap 5 1 (u8a s.2)]) (fun s=>RvI l s.1 s.2) (fun s=>l.length - s.1) (0,l) (XbQ (D:=[])) (RvI.start l) fun s hs=>?_
 obtain ⟨i,m⟩:=s
 simp only at hs
 have hml:=hs.len
 have hle:=hs.le
 simp only [wfr]
 by_cases hlt:i < l.length - 1 - i
 ·have hnx:=hs.next hlt
  have hj:(l.length:Int) - 1 - (i:Int)=((l.length - 1 - i:Nat):Int):=by omega
  rw [hj]
  clear hs
  have hj:=Lib.hid hj
  obtain ⟨j,hjj⟩:∃j,l.length - 1 - i=j:=⟨_,rfl⟩
  simp only [hjj] at hnx hlt ⊢
  have hi2:i < m.length:=by omega
  have hj2:j < m.length:=by omega
  refine XdG 0 rfl fun _ _ hd=>?_
  rcases hd with ⟨_,h0,_⟩|⟨g,rfl⟩
  ·omega
  (repeat' (first|refine Wkx.go ?_|refine XaG ?_|(refine XaE (fun h=>?_) (fun h=>?_)<;>first|(exact absurd h (by decide))|(exfalso;omega;done)|skip)|refine XaF ?_|refine Xai ?_|(refine Xaa rfl ?_;(first|refine Xax ?_|refine Xaw ?_|refine Xav (fun ad cap=>?_)|refine Xat (fun b=>?_)|refine Xas (fun b=>?_)|refine Xau (fun b=>?_)|fail))|fail))
  refine XbO mixed ?_
  (refine Xhp 0 ?_;refine Xhp 1 ?_;refine Xhp 2 ?_;refine Xhp 3 ?_;refine Xhp 4 ?_;refine Xhp 5 ?_;refine Xhp 6 ?_;refine Xhp 8 ?_;refine Xhp 9 ?_;refine Xhp 10 ?_)
  refine XjN 7 11 (by decide +kernel) rfl rfl rfl rfl ?_ ?_
  ·(have wx:=@Xks;(first|refine Xcb ?_|refine Xax ?_|refine Xaw ?_|refine Xav (fun ad cap=>?_)|refine Xat (fun b=>?_)|refine Xas (fun b=>?_)|refine Xau (fun b=>?_)|fail))<;>(try clear wx)
   (have wx:=@Xks;(refine Xdn 11 ?_;(first|refine Xcb ?_|refine Xax ?_|refine Xaw ?_|refine Xav (fun ad cap=>?_)|refine Xat (fun b=>?_)|refine Xas (fun b=>?_)|refine Xau (fun b=>?_)|fail)))<;>(try clear wx)
   ((refine Xdn 12 ?_;(first|refine Xcb ?_|refine Xax ?_|refine Xaw ?_|refine Xav (fun ad cap=>?_)|refine Xat (fun b=>?_)|refine Xas (fun b=>?_)|refine Xau (fun b=>?_)|fail));(have wx:=@XnP;(refine Xdn 13 ?_;(first|refine Xcb ?_|refine Xax ?_|refine Xaw ?_|refine Xav (fun ad cap=>?_)|refine Xat (fun b=>?_)|refine Xas (fun b=>?_)|refine Xau (fun b=>?_)|fail)))<;>(try clear wx);(refine Xdn 14 ?_;(first|refine Xcb ?_|refine Xax ?_|refine Xaw ?_|refine Xav (fun ad cap=>?_)|refine Xat (fun b=>?_)|refine Xas (fun b=>?_)|refine Xau (fun b=>?_)|fail));(have wx:=@XnQ;(refine Xdn 15 ?_;(first|refine Xcb ?_|refine Xax ?_|refine Xaw ?_|refine Xav (fun ad cap=>?_)|refine Xat (fun b=>?_)|refine Xas (fun b=>?_)|refine Xau (fun b=>?_)|fail)))<;>(try clear wx);refine Xar (by decide +kernel) ?_;(repeat' (first|refine Wkx.go ?_|refine XaJ ?_|refine XaG ?_|(refine XaE (fun h=>?_) (fun h=>?_)<;>first|(exact absurd h (by decide))|(exfalso;omega;done)|skip)|refine XaF ?_|refine Xai ?_|(refine Xaa rfl ?_;(first|refine Xax ?_|refine Xaw ?_|refine Xav (fun ad cap=>?_)|refine Xat (fun b=>?_)|refine Xas (fun b=>?_)|refine Xau (fun b=>?_)|fail))|fail));exact ⟨(i+1,_),(by show l.length - (i+1) < l.length - i;omega),hnx,(XbQ (D:=[]))⟩)
  ·(have wx:=@Xks;(first|refine Xcb ?_|refine Xax ?_|refine Xaw ?_|refine Xav (fun ad cap=>?_)|refine Xat (fun b=>?_)|refine Xas (fun b=>?_)|refine Xau (fun b=>?_)|fail))<;>(try clear wx)
   (have wx:=@Xks;(refine Xdn 7 ?_;(first|refine Xcb ?_|refine Xax ?_|refine Xaw ?_|refine Xav (fun ad cap=>?_)|refine Xat (fun b=>?_)|refine Xas (fun b=>?_)|refine Xau (fun b=>?_)|fail)))<;>(try clear wx)
   ((refine Xdn 12 ?_;(first|refine Xcb ?_|refine Xax ?_|refine Xaw ?_|refine Xav (fun ad cap=>?_)|refine Xat (fun b=>?_)|refine Xas (fun b=>?_)|refine Xau (fun b=>?_)|fail));(have wx:=@XnP;(refine Xdn 13 ?_;(first|refine Xcb ?_|refine Xax ?_|refine Xaw ?_|refine Xav (fun ad cap=>?_)|refine Xat (fun b=>?_)|refine Xas (fun b=>?_)|refine Xau (fun b=>?_)|fail)))<;>(try clear wx);(refine Xdn 14 ?_;(first|refine Xcb ?_|refine Xax ?_|refine Xaw ?_|refine Xav (fun ad cap=>?_)|refine Xat (fun b=>?_)|refine Xas (fun b=>?_)|refine Xau (fun b=>?_)|fail));(have wx:=@XnQ;(refine Xdn 15 ?_;(first|refine Xcb ?_|refine Xax ?_|refine Xaw ?_|refine Xav (fun ad cap=>?_)|refine Xat (fun b=>?_)|refine Xas (fun b=>?_)|refine Xau (fun b=>?_)|fail)))<;>(try clear wx);refine Xar (by decide +kernel) ?_;(repeat' (first|refine Wkx.go ?_|refine XaJ ?_|refine XaG ?_|(refine XaE (fun h=>?_) (fun h=>?_)<;>first|(exact absurd h (by decide))|(exfalso;omega;done)|skip)|refine XaF ?_|refine Xai ?_|(refine Xaa rfl ?_;(first|refine Xax ?_|refine Xaw ?_|refine Xav (fun ad cap=>?_)|refine Xat (fun b=>?_)|refine Xas (fun b=>?_)|refine Xau (fun b=>?_)|fail))|fail));exact ⟨(i+1,_),(by show l.length - (i+1) < l.length - i;omega),hnx,(XbQ (D:=[]))⟩)
 ·have e:=hs.done hlt
  subst e
  (repeat' (first|refine Wkx.go ?_|refine XaJ ?_|refine XaG ?_|(refine XaE (fun h=>?_) (fun h=>?_)<;>first|(exact absurd h (by decide))|(exfalso;omega;done)|skip)|refine XaF ?_|refine Xai ?_|(refine Xaa rfl ?_;(first|refine Xax ?_|refine Xaw ?_|refine Xav (fun ad cap=>?_)|refine Xat (fun b=>?_)|refine Xas (fun b=>?_)|refine Xau (fun b=>?_)|fail))|fail))
  refine Xb2 _ _ (Xff rfl (Xaq.mk' [] [_] (Xvt _) (Xap.refl _ _) VwL.nil)) ⟨rfl,rfl⟩
end Go.Proofs.YtdlblokjfoggpaaGreatDoor

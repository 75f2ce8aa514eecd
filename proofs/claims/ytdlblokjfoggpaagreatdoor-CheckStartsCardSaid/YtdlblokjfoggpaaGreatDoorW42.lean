import Derived.Test.YtdlblokjfoggpaaGreatDoorW7
import Derived.Test.YtdlblokjfoggpaaGreatDoorW10
import Derived.Test.YtdlblokjfoggpaaGreatDoorW41
import Derived.Test.YtdlblokjfoggpaaGreatDoorW21
import Derived.Test.YtdlblokjfoggpaaGreatDoorW9
/- The mill: a job; that it ends, and that its texts are short. -/
set_option linter.unusedSimpArgs false
set_option linter.unusedVariables false
set_option maxRecDepth 100000
set_option maxHeartbeats 8000000
namespace Go.Proofs.YtdlblokjfoggpaaGreatDoor
open Go.RowKit
def Xpg:List (List UInt8):=[[120],[114,117,110,32,105,116],[97,32,34,98,34,10],[]]
theorem Xno {v:Nat} (h:v < 4):(List.drop v [.x (.string ⟨#[120]⟩),.x (.string ⟨#[114,117,110,32,105,116]⟩),.x (.string ⟨#[97,32,34,98,34,10]⟩),.x (.string ⟨#[]⟩)]).getD 0 AV.top=.x (.string (bs (Xpg.getD v []))):=Xgf Xpg v h
theorem Xh8 {v:Nat} (h:v < 7):(List.drop v (sa Xo8)).getD 0 AV.top=.x (.string (bs (Xo8.getD v []))):=Xgf Xo8 v h
@[simp] theorem Xuf:Xo8.length=7:=rfl
def XtE:List Int:=[15,2,1]
theorem Xnp {v:Nat} (h:v < 3):(List.drop v [.x (.int .i64 15),.x (.int .i64 2),.x (.int .i64 1)]).getD 0 AV.top=.x (.int .i64 (XtE.getD v 0)):=by
 match v,h with
 | 0,_=>rfl
 | 1,_=>rfl
 | 2,_=>rfl
def XpV:List (List UInt8 × List UInt8):=[([80],[49]),([81],[0,32,113])]
theorem XsT {v:Nat} (h:v≤2):AV.sq (v - 0) (List.take ((v - 0)*2) [.x (.string ⟨#[80]⟩),.x (.string ⟨#[49]⟩),.x (.string ⟨#[81]⟩),.x (.string ⟨#[0,32,113]⟩)])=.sq (XpV.take v).length (ea (XpV.take v)):=by
 match v,h with
 | 0,_=>rfl
 | 1,_=>rfl
 | 2,_=>rfl
def Xso (env:List (List UInt8 × List UInt8)):Prop:=env.length≤2∧∀p∈env,p.1.length≤8∧p.2.length≤8
theorem XqR (v:Nat):Xso (XpV.take v):=by
 refine ⟨by simp [XpV];omega,fun p hp=>?_⟩
 have:=List.mem_of_mem_take hp
 simp only [XpV,List.mem_cons,List.not_mem_nil,or_false] at this
 rcases this with rfl|rfl<;>simp
structure Xsp (name:List UInt8) (others:List (List UInt8)) (j:JF):Prop where
 small:XpK j
 name:j.name=name
 run:j.run∈Xpg
 env:∃v,v≤2∧j.env=XpV.take v
 needs:j.needs.Sublist others
 ready:(j.hasr=true∧j.ready∈Xo8)∨(j.hasr=false∧j.ready=[])
 restart:j.restart=1∨j.restart=2∨j.restart=3
 base:0≤j.base∧j.base≤1000
 cap:0≤j.cap∧j.cap≤1000
 stable:0≤j.stable∧j.stable≤1000
 window:0≤j.window∧j.window≤1000
 burst:1≤j.burst∧j.burst≤4
 ladder:j.ladder≠[]∧j.ladder.length≤3
 laddere:∀p∈j.ladder,p.1∈XtE∧0≤p.2∧p.2≤1000
 capge:j.base≤j.cap
 win1:1≤j.window
theorem Xg4 {α:Type} (l:List α) (d:α) (v:Nat) (h:v < l.length):l.getD v d∈l:=by
 rw [List.getD_eq_getElem?_getD,List.getElem?_eq_getElem h];exact List.getElem_mem h
theorem Xto (bd:Nat) (l:List Int) (k:Nat) (hd:DK l) (hk:k≤l.length) (name:List UInt8) (others:List (List UInt8)) (hn:name.length≤8) (ho:others.length≤4) (hos:∀s∈others,s.length≤8) :
  XaM Tryz.prog 67 [.box bd [.sq l.length (ia l),.x (.int .i64 k)]] [.x (.pointer (some ⟨bd,0,none⟩)),.x (.string (bs name)),.sq others.length (sa others)] (fun r H'=>∃(j:JF) (k':Nat),r=.agg j.cells∧H'=[.box bd [.sq l.length (ia l),.x (.int .i64 k')]]∧k'≤l.length∧Xsp name others j):=by
 have hos':=Lib.hid hos
 clear hos
 refine Xbs Tryz.func67 Tryz.ntmps67 ?_
 (repeat' (first|refine Wkx.go ?_|refine XaG ?_|(refine XaE (fun h=>?_) (fun h=>?_)<;>first|(exact absurd h (by decide))|(exfalso;omega;done)|skip)|refine XaF ?_|refine Xlw ?_|refine Xai ?_|(refine Xaa rfl ?_;(first|refine Xax ?_|refine Xaw ?_|refine Xav (fun ad cap=>?_)|refine Xat (fun b=>?_)|refine Xas (fun b=>?_)|refine Xau (fun b=>?_)|fail))|fail))
 refine Xcx (B:=[_]) (R:=[_]) mixed [0,1,2,6,8,11,14,16,3,4,5,7,9,10,12,13,15,17,18,19] [3,7,9,12,15,17] [21] (some 20) _ 1 (Xvt _) (by decide +kernel) rfl (Xdj rfl rfl rfl Xb0.out rfl rfl) (by decide) ?_
 (have wx:=@Xno;(repeat' (first|refine Xus ?_|refine XsM ?_|refine XiQ ?_|(refine Xmk ?_;(first|((refine Xa5 Tryz.func34 [_] rfl rfl (.refl _) (Xbh _ l k 4 hd hk (by omega) (by omega)) ?_;rintro _ _ ⟨v1,k1,rfl,rfl,hv1,hk1⟩);refine ⟨_,rfl,?_⟩;refine XlA ?_)|((refine Xa5 Tryz.func66 [_] rfl rfl (.refl _) (Xch _ l k1 1 3 hd hk1 (by omega) (by omega)) ?_;rintro _ _ ⟨v2,k2,rfl,rfl,hv2,hv2',hk2⟩);refine ⟨_,rfl,?_⟩;refine XlA ?_)|((refine Xa5 Tryz.func34 [_] rfl rfl (.refl _) (Xbh _ l k2 6 hd hk2 (by omega) (by omega)) ?_;rintro _ _ ⟨v3,k3,rfl,rfl,hv3,hk3⟩);refine ⟨_,rfl,?_⟩;refine XlA ?_)|((refine Xa5 Tryz.func34 [_] rfl rfl (.refl _) (Xbh _ l k3 20 hd hk3 (by omega) (by omega)) ?_;rintro _ _ ⟨v4,k4,rfl,rfl,hv4,hk4⟩);refine ⟨_,rfl,?_⟩;refine XlA ?_)|((refine Xa5 Tryz.func66 [_] rfl rfl (.refl _) (Xch _ l k4 1 4 hd hk4 (by omega) (by omega)) ?_;rintro _ _ ⟨v5,k5,rfl,rfl,hv5,hv5',hk5⟩);refine ⟨_,rfl,?_⟩;refine XlA ?_)|((refine Xa5 Tryz.func66 [_] rfl rfl (.refl _) (Xch _ l k5 1 30 hd hk5 (by omega) (by omega)) ?_;rintro _ _ ⟨v6,k6,rfl,rfl,hv6,hv6',hk6⟩);refine ⟨_,rfl,?_⟩;refine XlA ?_)|refine XlB (fun ad cap=>?_)|refine Xml (fun b=>?_)))|fail)))<;>(try clear wx)
 (first|(refine XfS (fun b=>?_))|refine XfT ?_);(refine Xdn 21 ?_;(first|refine Xcb ?_|refine Xax ?_|refine Xaw ?_|refine Xav (fun ad cap=>?_)|refine Xat (fun b=>?_)|refine Xas (fun b=>?_)|refine Xau (fun b=>?_)|fail));refine Xar (by decide +kernel) ?_
 (repeat' (first|refine Wkx.go ?_|refine XaG ?_|(refine XaE (fun h=>?_) (fun h=>?_)<;>first|(exact absurd h (by decide))|(exfalso;omega;done)|skip)|refine XaF ?_|refine Xlw ?_|refine Xai ?_|(refine Xaa rfl ?_;(first|refine Xax ?_|refine Xaw ?_|refine Xav (fun ad cap=>?_)|refine Xat (fun b=>?_)|refine Xas (fun b=>?_)|refine Xau (fun b=>?_)|fail))|fail))
 refine Xcx (B:=[_,_]) (R:=[_]) mixed [0,1,2,3,4,5] [3] [6,7] none [] 2 (Xvt _) (by decide +kernel) rfl (fun i o h=>by cases h) (by decide) ?_
 (repeat' (first|refine XiQ ?_|(refine Xmk ?_;(first|((refine Xa5 Tryz.func34 [_] rfl rfl (.refl _) (Xbh _ l k6 20 hd hk6 (by omega) (by omega)) ?_;rintro _ _ ⟨v7,k7,rfl,rfl,hv7,hk7⟩);refine ⟨_,rfl,?_⟩;refine XlA ?_)|refine XlB (fun ad cap=>?_)|refine Xml (fun b=>?_)))|fail))
 (first|(refine XfS (fun b=>?_))|refine XfT ?_);(repeat ((first|refine Xdn 6 ?_|refine Xdn 7 ?_);(first|refine Xcb ?_|refine Xax ?_|refine Xaw ?_|refine Xav (fun ad cap=>?_)|refine Xat (fun b=>?_)|refine Xas (fun b=>?_)|refine Xau (fun b=>?_)|fail)));refine Xar (by decide +kernel) ?_
 (repeat' (first|refine Wkx.go ?_|refine XaG ?_|(refine XaE (fun h=>?_) (fun h=>?_)<;>first|(exact absurd h (by decide))|(exfalso;omega;done)|skip)|refine XaF ?_|refine XtY ?_|refine Xlw ?_|refine Xai ?_|(refine Xaa rfl ?_;(first|((refine Xa5 Tryz.func34 [_] rfl rfl (.refl _) (Xbh _ l k7 4 hd hk7 (by omega) (by omega)) ?_;rintro _ _ ⟨v8,k8,rfl,rfl,hv8,hk8⟩);refine XaO ?_)|((refine Xa5 Tryz.func34 [_] rfl rfl (XvG (l₁:=[_])) (Xbh _ l k7 4 hd hk7 (by omega) (by omega)) ?_;rintro _ _ ⟨v8,k8,rfl,rfl,hv8,hk8⟩);refine XaO ?_)|((refine Xa5 Tryz.func34 [_] rfl rfl (XvG (l₁:=[_,_])) (Xbh _ l k7 4 hd hk7 (by omega) (by omega)) ?_;rintro _ _ ⟨v8,k8,rfl,rfl,hv8,hk8⟩);refine XaO ?_)|((refine Xa5 Tryz.func66 [_] rfl rfl (.refl _) (Xch _ l k8 1 2 hd hk8 (by omega) (by omega)) ?_;rintro _ _ ⟨v9,k9,rfl,rfl,hv9,hv9',hk9⟩);refine XaO ?_)|((refine Xa5 Tryz.func66 [_] rfl rfl (XvG (l₁:=[_])) (Xch _ l k8 1 2 hd hk8 (by omega) (by omega)) ?_;rintro _ _ ⟨v9,k9,rfl,rfl,hv9,hv9',hk9⟩);refine XaO ?_)|((refine Xa5 Tryz.func66 [_] rfl rfl (XvG (l₁:=[_,_])) (Xch _ l k8 1 2 hd hk8 (by omega) (by omega)) ?_;rintro _ _ ⟨v9,k9,rfl,rfl,hv9,hv9',hk9⟩);refine XaO ?_)|refine Xax ?_|refine Xaw ?_|refine Xav (fun ad cap=>?_)|refine Xat (fun b=>?_)|refine Xas (fun b=>?_)|refine Xau (fun b=>?_)|fail))|fail))
 all_goals
  first
   | (have hEs:=XqR v9;have he:=XsT hv9';generalize hgen:XpV.take v9=env at he hEs)
   | (have hEs:Xso []:=⟨Nat.zero_le _,by simp⟩;generalize hgen:([]:List (List UInt8 × List UInt8))=env at hEs)
  have hEv':Hid (∃v,v≤2∧env=XpV.take v):=Lib.hid (by first|exact ⟨v9,hv9',hgen.symm⟩|exact ⟨0,by decide,hgen.symm⟩)
  rename_i ob
  obtain ⟨jb,rfl⟩:∃x,x=b:=⟨b,rfl⟩
  refine Xa7 9 1 ?_
  apply XaA (S:=Nat × Nat × List (List UInt8) × Option Addr × Nat) (fun s=>frm 95 [(0,.x (.pointer (some ⟨bd,0,none⟩))),(6,.x (.pointer (some ⟨ob,0,none⟩))),(7,.x (.pointer (some ⟨jb,0,none⟩))),(48,.sq others.length (sa others)),(49,.x (.int .i64 others.length)),(50,.x (.int .i64 s.1))])
   (fun s=>[.row s.2.2.2.1 s.2.2.1.length s.2.2.2.2 9 1 (sa s.2.2.1),.box bd [.sq l.length (ia l),.x (.int .i64 s.2.1)],.box ob [.x (.string ⟨#[]⟩),.x (.string ⟨#[]⟩),.x (.slice none 0 0),.x (.slice none 0 0),.x (.bool false),.x (.string ⟨#[]⟩),.x (.int .i64 0),.x (.int .u64 0),.x (.int .u64 0),.x (.int .u64 0),.x (.int .i64 0),.x (.int .u64 0),.x (.slice none 0 0),.x (.int .i64 0),.x (.int .i64 0)],.box jb [.x (.string (bs name)),.x (.string (bs (Xpg.getD v1 []))),.sq env.length (ea env),.x (.slice s.2.2.2.1 s.2.2.1.length s.2.2.2.2),.x (.bool false),.x (.string ⟨#[]⟩),.x (.int .i64 v2),.x (.int .u64 v3),.x (.int .u64 ((v3:Int)+v7)),.x (.int .u64 v4),.x (.int .i64 v5),.x (.int .u64 v6),.x (.slice none 0 0),.x (.int .i64 0),.x (.int .i64 0)]])
   (fun s=>s.1≤others.length∧s.2.1≤l.length∧s.2.2.1.length≤s.1∧(∀x∈s.2.2.1,x.length≤8)∧s.2.2.1.Sublist (others.take s.1)) (fun s=>others.length - s.1) (0,_,[],none,0)
  case h0=>exact Xaq.mk' [] [_,_,_,_] (Xvt _) (Xap.cons (VwH.refl _ _) (Xap.cons (VwH.refl _ _) (Xap.cons (VwH.refl _ _) (Xap.cons (VwH.box _ (by (repeat' (first|exact VwL.nil|apply VwL.cons|exact Vw.refl _|exact Vw.eq he|exact (hgen▸Vw.nil)|exact Vw.nil)))) Xap.nil)))) (by (repeat' (first|exact VwL.nil|(refine VwL.cons ?_ ?_)|exact Vw.refl _|exact Vw.top _|exact Vw.nil|(refine Vw.eq ?_;first|rfl|(simp;done)|(congr 3;omega)|(congr 2;omega)))))
  case hi=>exact ⟨Nat.zero_le _,by assumption,Nat.zero_le _,by simp,by simp⟩
  rintro ⟨i,kk,ns,ad,cap⟩ ⟨g1,g2,g3,g4,g5⟩
  simp only at g1 g2 g3 g4 g5
  have g4':=Lib.hid g4
  have g5':=Lib.hid g5
  clear g4 g5
  simp only [wfr]
  by_cases hlt:i < others.length
  ·have hq:=hos'.out others[i] (List.getElem_mem hlt)
   (have wx:=@Xei;(repeat' (first|refine Wkx.go ?_|refine XaJ ?_|refine XaG ?_|(refine XaE (fun h=>?_) (fun h=>?_)<;>first|(exact absurd h (by decide))|(exfalso;omega;done)|skip)|refine XaF ?_|refine Xai ?_|(refine Xaa rfl ?_;(first|((refine Xa5 Tryz.func34 [_] rfl rfl (.refl _) (Xbh _ l kk 3 hd g2 (by omega) (by omega)) ?_;rintro _ _ ⟨u1,k11,rfl,rfl,hu1,hk11⟩);refine XaO ?_)|((refine Xa5 Tryz.func34 [_] rfl rfl (XvG (l₁:=[_])) (Xbh _ l kk 3 hd g2 (by omega) (by omega)) ?_;rintro _ _ ⟨u1,k11,rfl,rfl,hu1,hk11⟩);refine XaO ?_)|((refine Xa5 Tryz.func34 [_] rfl rfl (XvG (l₁:=[_,_])) (Xbh _ l kk 3 hd g2 (by omega) (by omega)) ?_;rintro _ _ ⟨u1,k11,rfl,rfl,hu1,hk11⟩);refine XaO ?_)|((refine Xa5 Tryz.func34 [_] rfl rfl (XvG (l₁:=[_,_,_])) (Xbh _ l kk 3 hd g2 (by omega) (by omega)) ?_;rintro _ _ ⟨u1,k11,rfl,rfl,hu1,hk11⟩);refine XaO ?_)|refine Xax ?_|refine Xaw ?_|refine Xav (fun ad cap=>?_)|refine Xat (fun b=>?_)|refine Xas (fun b=>?_)|refine Xau (fun b=>?_)|fail))|fail)))<;>(try clear wx)
   ·refine ⟨(i+1,k11,ns++[others[i]],ad,cap),by simp only;omega,⟨by simp only;omega,hk11,by simp only [XvF,Xvw,Xvz];omega,fun x hx=>?_,by simp only;rw [XbC others i hlt];exact g5'.out.append (List.Sublist.refl _)⟩,?_⟩
    ·rcases List.mem_append.1 hx with hx|hx
     ·exact g4'.out x hx
     ·rw [List.mem_singleton] at hx;subst hx;exact hq
    ·simp only [XnG,XvF,Xvw,Xvz]
     exact Xaq.mk' [_] [.row ad _ cap _ _ _,.box bd _,.box ob _,.box jb _] (List.Perm.trans (l₂:=[.row ad _ cap _ _ _,.box bd _,.box ob _,.box jb _]++[_]) (by (repeat' (first|exact Xvt _|exact List.Perm.nil|refine XvJ _ ?_|refine (XvG (l₁:=[_])).trans (XvJ _ ?_)|refine (XvG (l₁:=[_,_])).trans (XvJ _ ?_)|refine (XvG (l₁:=[_,_,_])).trans (XvJ _ ?_)|refine (XvG (l₁:=[_,_,_,_])).trans (XvJ _ ?_)|refine (XvG (l₁:=[_,_,_,_,_])).trans (XvJ _ ?_)|refine (XvG (l₁:=[_,_,_,_,_,_])).trans (XvJ _ ?_)|refine (XvG (l₁:=[_,_,_,_,_,_,_])).trans (XvJ _ ?_)|refine (XvG (l₁:=[_,_,_,_,_,_,_,_])).trans (XvJ _ ?_)))) List.perm_append_comm) (Xap.refl _ _) (by (repeat' (first|exact VwL.nil|(refine VwL.cons ?_ ?_)|exact Vw.refl _|exact Vw.top _|exact Vw.nil|(refine Vw.eq ?_;first|rfl|(simp;done)|(congr 3;omega)|(congr 2;omega)))))
   ·exact ⟨(i+1,k11,ns,ad,cap),by simp only;omega,⟨by simp only;omega,hk11,by simp only;omega,g4'.out,by simp only;rw [XbC others i hlt];exact g5'.out.trans (List.sublist_append_left _ _)⟩,Xaq.mk' [] [.row ad _ cap _ _ _,.box bd _,.box ob _,.box jb _] (by (repeat' (first|exact Xvt _|exact List.Perm.nil|refine XvJ _ ?_|refine (XvG (l₁:=[_])).trans (XvJ _ ?_)|refine (XvG (l₁:=[_,_])).trans (XvJ _ ?_)|refine (XvG (l₁:=[_,_,_])).trans (XvJ _ ?_)|refine (XvG (l₁:=[_,_,_,_])).trans (XvJ _ ?_)|refine (XvG (l₁:=[_,_,_,_,_])).trans (XvJ _ ?_)|refine (XvG (l₁:=[_,_,_,_,_,_])).trans (XvJ _ ?_)|refine (XvG (l₁:=[_,_,_,_,_,_,_])).trans (XvJ _ ?_)|refine (XvG (l₁:=[_,_,_,_,_,_,_,_])).trans (XvJ _ ?_)))) (Xap.refl _ _) (by (repeat' (first|exact VwL.nil|(refine VwL.cons ?_ ?_)|exact Vw.refl _|exact Vw.top _|exact Vw.nil|(refine Vw.eq ?_;first|rfl|(simp;done)|(congr 3;omega)|(congr 2;omega)))))⟩
  ·(repeat' (first|refine Wkx.go ?_|refine XaG ?_|(refine XaE (fun h=>?_) (fun h=>?_)<;>first|(exact absurd h (by decide))|(exfalso;omega;done)|skip)|refine XaF ?_|refine Xai ?_|(refine Xaa rfl ?_;(first|((refine Xa5 Tryz.func34 [_] rfl rfl (.refl _) (Xbh _ l kk 2 hd g2 (by omega) (by omega)) ?_;rintro _ _ ⟨u1,k11,rfl,rfl,hu1,hk11⟩);refine XaO ?_)|((refine Xa5 Tryz.func34 [_] rfl rfl (XvG (l₁:=[_])) (Xbh _ l kk 2 hd g2 (by omega) (by omega)) ?_;rintro _ _ ⟨u1,k11,rfl,rfl,hu1,hk11⟩);refine XaO ?_)|((refine Xa5 Tryz.func34 [_] rfl rfl (XvG (l₁:=[_,_])) (Xbh _ l kk 2 hd g2 (by omega) (by omega)) ?_;rintro _ _ ⟨u1,k11,rfl,rfl,hu1,hk11⟩);refine XaO ?_)|((refine Xa5 Tryz.func34 [_] rfl rfl (XvG (l₁:=[_,_,_])) (Xbh _ l kk 2 hd g2 (by omega) (by omega)) ?_;rintro _ _ ⟨u1,k11,rfl,rfl,hu1,hk11⟩);refine XaO ?_)|((refine Xa5 Tryz.func66 [_] rfl rfl (.refl _) (Xch _ l k11 1 3 hd hk11 (by omega) (by omega)) ?_;rintro _ _ ⟨u2,k12,rfl,rfl,hu2,hu2',hk12⟩);refine XaO ?_)|((refine Xa5 Tryz.func66 [_] rfl rfl (XvG (l₁:=[_])) (Xch _ l k11 1 3 hd hk11 (by omega) (by omega)) ?_;rintro _ _ ⟨u2,k12,rfl,rfl,hu2,hu2',hk12⟩);refine XaO ?_)|((refine Xa5 Tryz.func66 [_] rfl rfl (XvG (l₁:=[_,_])) (Xch _ l k11 1 3 hd hk11 (by omega) (by omega)) ?_;rintro _ _ ⟨u2,k12,rfl,rfl,hu2,hu2',hk12⟩);refine XaO ?_)|((refine Xa5 Tryz.func66 [_] rfl rfl (XvG (l₁:=[_,_,_])) (Xch _ l k11 1 3 hd hk11 (by omega) (by omega)) ?_;rintro _ _ ⟨u2,k12,rfl,rfl,hu2,hu2',hk12⟩);refine XaO ?_)|refine Xax ?_|refine Xaw ?_|refine Xav (fun ad cap=>?_)|refine Xat (fun b=>?_)|refine Xas (fun b=>?_)|refine Xau (fun b=>?_)|fail))|fail))
   focus
    refine XbO mixed ?_
    (refine Xhp 1 ?_;refine Xhp 5 ?_)
    (refine Xdn 0 ?_;(first|refine Xcb ?_ (h:=by first|exact Xb3 rfl rfl Tryz.func96 (Xlh)|fail)|refine Xcb ?_|refine Xax ?_|refine Xaw ?_|refine Xav (fun ad cap=>?_)|refine Xat (fun b=>?_)|refine Xas (fun b=>?_)|refine Xau (fun b=>?_)|fail))
    (refine Xdn 2 ?_;(first|refine Xcb ?_|((refine Xa5 Tryz.func34 [_] rfl rfl (.refl _) (Xbh _ l k11 7 hd hk11 (by omega) (by omega)) ?_;rintro _ _ ⟨u3,k13,rfl,rfl,hu3,hk13⟩);refine XaO ?_)|((refine Xa5 Tryz.func34 [_] rfl rfl (XvG (l₁:=[_])) (Xbh _ l k11 7 hd hk11 (by omega) (by omega)) ?_;rintro _ _ ⟨u3,k13,rfl,rfl,hu3,hk13⟩);refine XaO ?_)|((refine Xa5 Tryz.func34 [_] rfl rfl (XvG (l₁:=[_,_])) (Xbh _ l k11 7 hd hk11 (by omega) (by omega)) ?_;rintro _ _ ⟨u3,k13,rfl,rfl,hu3,hk13⟩);refine XaO ?_)|((refine Xa5 Tryz.func34 [_] rfl rfl (XvG (l₁:=[_,_,_])) (Xbh _ l k11 7 hd hk11 (by omega) (by omega)) ?_;rintro _ _ ⟨u3,k13,rfl,rfl,hu3,hk13⟩);refine XaO ?_)|refine Xax ?_|refine Xaw ?_|refine Xav (fun ad cap=>?_)|refine Xat (fun b=>?_)|refine Xas (fun b=>?_)|refine Xau (fun b=>?_)|fail))
    (refine Xhp 3 ?_)
    refine XjN 4 6 (by decide +kernel) rfl rfl rfl rfl ?_ ?_
    all_goals
     (have wx:=@Xh8;(first|refine Xcb ?_|refine Xax ?_|refine Xaw ?_|refine Xav (fun ad cap=>?_)|refine Xat (fun b=>?_)|refine Xas (fun b=>?_)|refine Xau (fun b=>?_)|fail))<;>(try clear wx)
     (have wx:=@Xh8;(repeat ((first|refine Xdn 4 ?_|refine Xdn 6 ?_|refine Xdn 7 ?_|refine Xdn 8 ?_);(first|refine Xcb ?_|refine Xax ?_|refine Xaw ?_|refine Xav (fun ad cap=>?_)|refine Xat (fun b=>?_)|refine Xas (fun b=>?_)|refine Xau (fun b=>?_)|fail))))<;>(try clear wx)
     refine Xar (by decide +kernel) ?_
     (repeat' (first|refine Wkx.go ?_|refine XaG ?_|(refine XaE (fun h=>?_) (fun h=>?_)<;>first|(exact absurd h (by decide))|(exfalso;omega;done)|skip)|refine XaF ?_|refine Xai ?_|(refine Xaa rfl ?_;(first|((refine Xa5 Tryz.func66 [_] rfl rfl (.refl _) (Xch _ l k13 1 3 hd hk13 (by omega) (by omega)) ?_;rintro _ _ ⟨u2,k12,rfl,rfl,hu2,hu2',hk12⟩);refine XaO ?_)|((refine Xa5 Tryz.func66 [_] rfl rfl (XvG (l₁:=[_])) (Xch _ l k13 1 3 hd hk13 (by omega) (by omega)) ?_;rintro _ _ ⟨u2,k12,rfl,rfl,hu2,hu2',hk12⟩);refine XaO ?_)|((refine Xa5 Tryz.func66 [_] rfl rfl (XvG (l₁:=[_,_])) (Xch _ l k13 1 3 hd hk13 (by omega) (by omega)) ?_;rintro _ _ ⟨u2,k12,rfl,rfl,hu2,hu2',hk12⟩);refine XaO ?_)|((refine Xa5 Tryz.func66 [_] rfl rfl (XvG (l₁:=[_,_,_])) (Xch _ l k13 1 3 hd hk13 (by omega) (by omega)) ?_;rintro _ _ ⟨u2,k12,rfl,rfl,hu2,hu2',hk12⟩);refine XaO ?_)|refine Xax ?_|refine Xaw ?_|refine Xav (fun ad cap=>?_)|refine Xat (fun b=>?_)|refine Xas (fun b=>?_)|refine Xau (fun b=>?_)|fail))|fail))
   all_goals
    refine Xa7 100 2 ?_
    apply XaA (S:=Nat × Nat × List (Int × Int) × Option Addr × Nat × Bool × List UInt8) (fun s=>frm 95 [(0,.x (.pointer (some ⟨bd,0,none⟩))),(6,.x (.pointer (some ⟨ob,0,none⟩))),(7,.x (.pointer (some ⟨jb,0,none⟩))),(10,.x (.int .i64 s.1))])
     (fun s=>[.row s.2.2.2.1 s.2.2.1.length s.2.2.2.2.1 100 2 (ra s.2.2.1),.box bd [.sq l.length (ia l),.x (.int .i64 s.2.1)],.box ob [.x (.string ⟨#[]⟩),.x (.string ⟨#[]⟩),.x (.slice none 0 0),.x (.slice none 0 0),.x (.bool false),.x (.string ⟨#[]⟩),.x (.int .i64 0),.x (.int .u64 0),.x (.int .u64 0),.x (.int .u64 0),.x (.int .i64 0),.x (.int .u64 0),.x (.slice none 0 0),.x (.int .i64 0),.x (.int .i64 0)],.box jb [.x (.string (bs name)),.x (.string (bs (Xpg.getD v1 []))),.sq env.length (ea env),.sq ns.length (sa ns),.x (.bool s.2.2.2.2.2.1),.x (.string (bs s.2.2.2.2.2.2)),.x (.int .i64 v2),.x (.int .u64 v3),.x (.int .u64 ((v3:Int)+v7)),.x (.int .u64 v4),.x (.int .i64 v5),.x (.int .u64 v6),.x (.slice s.2.2.2.1 s.2.2.1.length s.2.2.2.2.1),.x (.int .i64 0),.x (.int .i64 0)]])
     (fun s=>s.1≤3∧s.2.1≤l.length∧s.2.2.1.length+s.1=u2∧(∀p∈s.2.2.1,p.1∈XtE∧0≤p.2∧p.2≤1000)∧s.2.2.2.2.2.2.length≤16∧((s.2.2.2.2.2.1=true∧s.2.2.2.2.2.2∈Xo8)∨(s.2.2.2.2.2.1=false∧s.2.2.2.2.2.2=[]))) (fun s=>s.1) (u2,k12,[],none,0,_,_)
    case h0=>exact Xaq.mk' [.row ad ns.length cap _ _ _] [.row none 0 0 _ _ _,.box bd _,.box ob _,.box jb _] (by (repeat' (first|exact Xvt _|exact List.Perm.nil|refine XvJ _ ?_|refine (XvG (l₁:=[_])).trans (XvJ _ ?_)|refine (XvG (l₁:=[_,_])).trans (XvJ _ ?_)|refine (XvG (l₁:=[_,_,_])).trans (XvJ _ ?_)|refine (XvG (l₁:=[_,_,_,_])).trans (XvJ _ ?_)|refine (XvG (l₁:=[_,_,_,_,_])).trans (XvJ _ ?_)|refine (XvG (l₁:=[_,_,_,_,_,_])).trans (XvJ _ ?_)|refine (XvG (l₁:=[_,_,_,_,_,_,_])).trans (XvJ _ ?_)|refine (XvG (l₁:=[_,_,_,_,_,_,_,_])).trans (XvJ _ ?_)))) (Xap.cons (VwH.refl _ _) (Xap.cons (VwH.refl _ _) (Xap.cons (VwH.refl _ _) (Xap.cons (VwH.box _ (by (repeat' (first|exact VwL.nil|apply VwL.cons|exact Vw.refl _|exact Vw.nil|exact Vw.row (List.Mem.head _) (VwL.refl _ _)|exact Vw.row (List.Mem.tail _ (List.Mem.head _)) (VwL.refl _ _))))) Xap.nil)))) (by (repeat' (first|exact VwL.nil|(refine VwL.cons ?_ ?_)|exact Vw.refl _|exact Vw.top _|exact Vw.nil|(refine Vw.eq ?_;first|rfl|(simp;done)|(congr 3;omega)|(congr 2;omega)))))
    case hi=>exact ⟨by omega,hk12,by first|(simp;done)|(simp;omega),by simp,by first|(simp;done)|exact Xsx Xo8 (fun s=>s.length≤16) (by decide) _ (by assumption),by first|exact .inr ⟨rfl,rfl⟩|exact .inl ⟨rfl,Xg4 Xo8 [] _ (by assumption)⟩⟩
    rintro ⟨m,k4',rs,ad2,cap2,hr,rd⟩ ⟨f1,f2,f3,f4,f5,f6⟩
    simp only at f1 f2 f3 f4 f5 f6
    have f4':=Lib.hid f4
    have f6':=Lib.hid f6
    clear f4 f6
    simp only [wfr]
    by_cases hm:0 < m
    ·(repeat' (first|refine Wkx.go ?_|refine XaG ?_|(refine XaE (fun h=>?_) (fun h=>?_)<;>first|(exact absurd h (by decide))|(exfalso;omega;done)|skip)|refine XaF ?_|refine Xai ?_|(refine Xaa rfl ?_;(first|refine Xax ?_|refine Xaw ?_|refine Xav (fun ad cap=>?_)|refine Xat (fun b=>?_)|refine Xas (fun b=>?_)|refine Xau (fun b=>?_)|fail))|fail))
     refine Xcx (B:=[_,_]) (R:=[_,_]) mixed [0,1,2,3,7,4,5,6,8,9,10,11,12] [4,8,12] [13,14] none [] 2 (List.perm_append_comm (l₁:=[_,_]) (l₂:=[_,_])) (by decide +kernel) rfl (fun i o h=>by cases h) (by decide) ?_
     (have wx:=@Xnp;(repeat' (first|refine XsN ?_|refine XsM ?_|refine XiQ ?_|refine XlB (fun ad cap=>?_) (hT:=fun _ _=>rfl) (hH:=fun _ _=>rfl)|(refine Xmk ?_;(first|((refine Xa5 Tryz.func34 [_] rfl rfl (XvG (l₁:=[_])) (Xbh _ l k4' 3 hd f2 (by omega) (by omega)) ?_;rintro _ _ ⟨w1,k5',rfl,rfl,hw1,hk5'⟩);refine ⟨_,rfl,?_⟩;refine XlA ?_)|((refine Xa5 Tryz.func34 [_] rfl rfl (.refl _) (Xbh _ l k5' 9 hd hk5' (by omega) (by omega)) ?_;rintro _ _ ⟨w2,k6',rfl,rfl,hw2,hk6'⟩);refine ⟨_,rfl,?_⟩;refine XlA ?_)|((refine Xa5 Tryz.func34 [_] rfl rfl (XvG (l₁:=[_])) (Xbh _ l k5' 9 hd hk5' (by omega) (by omega)) ?_;rintro _ _ ⟨w2,k6',rfl,rfl,hw2,hk6'⟩);refine ⟨_,rfl,?_⟩;refine XlA ?_)|refine XlB (fun ad cap=>?_)|refine Xml (fun b=>?_)))|fail)))<;>(try clear wx)
     (first|(refine XfS (fun b=>?_))|refine XfT ?_);(repeat ((first|refine Xdn 13 ?_|refine Xdn 14 ?_);(first|refine Xcb ?_|refine Xax ?_|refine Xaw ?_|refine Xav (fun ad cap=>?_)|refine Xat (fun b=>?_)|refine Xas (fun b=>?_)|refine Xau (fun b=>?_)|fail)));refine Xar (by decide +kernel) ?_
     (repeat' (first|refine Wkx.go ?_|refine XaJ ?_|refine XaG ?_|(refine XaE (fun h=>?_) (fun h=>?_)<;>first|(exact absurd h (by decide))|(exfalso;omega;done)|skip)|refine XaF ?_|refine Xai ?_|(refine Xaa rfl ?_;(first|refine Xax ?_|refine Xaw ?_|refine Xav (fun ad cap=>?_)|refine Xat (fun b=>?_)|refine Xas (fun b=>?_)|refine Xau (fun b=>?_)|fail))|fail))
     refine ⟨(m - 1,k6',rs++[(XtE.getD w1 0,(w2:Int))],ad,cap,hr,rd),by simp only;omega,⟨by simp only;omega,hk6',by simp only [XvF,Xvw,Xvz];omega,fun p hp=>?_,f5,f6'.out⟩,?_⟩
     ·rcases List.mem_append.1 hp with hp|hp
      ·exact f4'.out p hp
      ·rw [List.mem_singleton] at hp;subst hp;exact ⟨Xg4 XtE 0 _ hw1,by simp only;omega,by simp only;omega⟩
     ·simp only [Xqd,XvF,Xvw,Xvz]
      exact Xaq.mk' [] [.row ad _ cap _ _ _,.box bd _,.box ob _,.box jb _] (by (repeat' (first|exact Xvt _|exact List.Perm.nil|refine XvJ _ ?_|refine (XvG (l₁:=[_])).trans (XvJ _ ?_)|refine (XvG (l₁:=[_,_])).trans (XvJ _ ?_)|refine (XvG (l₁:=[_,_,_])).trans (XvJ _ ?_)|refine (XvG (l₁:=[_,_,_,_])).trans (XvJ _ ?_)|refine (XvG (l₁:=[_,_,_,_,_])).trans (XvJ _ ?_)|refine (XvG (l₁:=[_,_,_,_,_,_])).trans (XvJ _ ?_)|refine (XvG (l₁:=[_,_,_,_,_,_,_])).trans (XvJ _ ?_)|refine (XvG (l₁:=[_,_,_,_,_,_,_,_])).trans (XvJ _ ?_)))) (Xap.refl _ _) (by (repeat' (first|exact VwL.nil|(refine VwL.cons ?_ ?_)|exact Vw.refl _|exact Vw.top _|exact Vw.nil|(refine Vw.eq ?_;first|rfl|(simp;done)|(congr 3;omega)|(congr 2;omega)))))
    ·(repeat' (first|refine Wkx.go ?_|refine XaG ?_|(refine XaE (fun h=>?_) (fun h=>?_)<;>first|(exact absurd h (by decide))|(exfalso;omega;done)|skip)|refine XaF ?_|refine Xai ?_|(refine Xaa rfl ?_;(first|refine Xax ?_|refine Xaw ?_|refine Xav (fun ad cap=>?_)|refine Xat (fun b=>?_)|refine Xas (fun b=>?_)|refine Xau (fun b=>?_)|fail))|fail))
     have hU:∀p∈rs,U64 p.2:=fun p hp=>by have:=f4'.out p hp;exact ⟨by omega,by omega⟩
     have hS:XpK ⟨name,Xpg.getD v1 [],env,ns,hr,rd,v2,v3,(v3:Int)+v7,v4,v5,v6,rs,0,0⟩:=⟨hn,Xsx Xpg (fun s=>s.length≤16) (by decide) _ hv1,hEs.1,hEs.2,by simp only;omega,g4'.out,f5,by simp only;omega,hU,⟨by simp only;omega,by simp only;omega⟩,⟨by simp only;omega,by simp only;omega⟩,⟨by simp only;omega,by simp only;omega⟩,⟨by simp only;omega,by simp only;omega⟩,⟨by simp only;omega,by simp only;omega⟩⟩
     refine Xab _ _ ?_ ⟨⟨name,Xpg.getD v1 [],env,ns,hr,rd,v2,v3,(v3:Int)+v7,v4,v5,v6,rs,0,0⟩,k4',rfl,rfl,f2,hS,rfl,Xg4 Xpg [] _ hv1,hEv'.out,g5'.out.trans (List.take_sublist _ _),f6'.out,by simp only;omega,by simp only;omega,by simp only;omega,by simp only;omega,by simp only;omega,by simp only;omega,⟨by simp only;intro e;rw [e] at f3;simp at f3;omega,by simp only;omega⟩,f4'.out,by simp only;omega,by simp only;omega⟩
     exact Xa0 rfl (RV.cell 2 rfl rfl XaR.out (by simp) (by simp)) (Xaq.mk' [_,.box ob _,.box jb _] [.box bd _] (by (repeat' (first|exact Xvt _|exact List.Perm.nil|refine XvJ _ ?_|refine (XvG (l₁:=[_])).trans (XvJ _ ?_)|refine (XvG (l₁:=[_,_])).trans (XvJ _ ?_)|refine (XvG (l₁:=[_,_,_])).trans (XvJ _ ?_)|refine (XvG (l₁:=[_,_,_,_])).trans (XvJ _ ?_)|refine (XvG (l₁:=[_,_,_,_,_])).trans (XvJ _ ?_)|refine (XvG (l₁:=[_,_,_,_,_,_])).trans (XvJ _ ?_)|refine (XvG (l₁:=[_,_,_,_,_,_,_])).trans (XvJ _ ?_)|refine (XvG (l₁:=[_,_,_,_,_,_,_,_])).trans (XvJ _ ?_)))) (Xap.refl _ _) (VwL.cons (Vw.agg (by (repeat' (first|exact VwL.nil|apply VwL.cons|exact Vw.refl _|exact Vw.nil|exact Vw.row (List.Mem.head _) (VwL.refl _ _)|exact Vw.row (List.Mem.tail _ (List.Mem.head _)) (VwL.refl _ _))))) VwL.nil))
def Xdk:List (List UInt8):=[[97],[98],[99],[100]]
theorem Xjh {v:Nat} (h:v < 4):(List.drop v [.x (.string ⟨#[97]⟩),.x (.string ⟨#[98]⟩),.x (.string ⟨#[99]⟩),.x (.string ⟨#[100]⟩)]).getD 0 AV.top=.x (.string (bs (Xdk.getD v []))):=Xgf Xdk v h
theorem XjD {v:Nat} (h:v≤4):AV.sq (v - 0) (List.take (v - 0) [.x (.string ⟨#[97]⟩),.x (.string ⟨#[98]⟩),.x (.string ⟨#[99]⟩),.x (.string ⟨#[100]⟩)])=.sq (Xdk.take v).length (sa (Xdk.take v)):=by
 match v,h with
 | 0,_=>rfl
 | 1,_=>rfl
 | 2,_=>rfl
 | 3,_=>rfl
 | 4,_=>rfl
theorem Xj2 (l m:List JF):jfa (l++m)=jfa l++jfa m:=by simp [jfa]
theorem Xld (v:Nat):∀s∈Xdk.take v,s.length≤8:=fun s hs=>by
 have:=List.mem_of_mem_take hs
 simp only [Xdk,List.mem_cons,List.not_mem_nil,or_false] at this
 rcases this with rfl|rfl|rfl|rfl<;>simp
def JM (j:JF):Prop:=∃i,i < 4∧Xsp (Xdk.getD i []) (Xdk.take i) j
theorem Xtg (bd:Nat) (l:List Int) (k:Nat) (hd:DK l) (hk:k≤l.length):XaM Tryz.prog 33 [.box bd [.sq l.length (ia l),.x (.int .i64 k)]] [.x (.pointer (some ⟨bd,0,none⟩))] (fun r H'=>∃(js:List JF) (k':Nat) (ad:Option Addr) (cap:Nat),r=.x (.slice ad js.length cap)∧H'=[.row ad js.length cap 29 15 (jfa js),.box bd [.sq l.length (ia l),.x (.int .i64 k')]]∧k'≤l.length∧1≤js.length∧js.length≤4∧∀j∈js,JM j):=by
 refine Xbs Tryz.func33 Tryz.ntmps33 ?_
 (repeat' (first|refine Wkx.go ?_|refine XaG ?_|(refine XaE (fun h=>?_) (fun h=>?_)<;>first|(exact absurd h (by decide))|(exfalso;omega;done)|skip)|refine XaF ?_|refine Xlw ?_|refine Xai ?_|(refine Xaa rfl ?_;(first|((refine Xa5 Tryz.func34 [_] rfl rfl (.refl _) (Xbh _ l k 2 hd hk (by omega) (by omega)) ?_;rintro _ _ ⟨v1,k1,rfl,rfl,hv1,hk1⟩);refine XaO ?_)|((refine Xa5 Tryz.func66 [_] rfl rfl (.refl _) (Xch _ l k1 1 4 hd hk1 (by omega) (by omega)) ?_;rintro _ _ ⟨v2,k2,rfl,rfl,hv2,hv2',hk2⟩);refine XaO ?_)|refine Xax ?_|refine Xaw ?_|refine Xav (fun ad cap=>?_)|refine Xat (fun b=>?_)|refine Xas (fun b=>?_)|refine Xau (fun b=>?_)|fail))|fail))
 refine Xa7 29 15 ?_
 apply XaA (S:=Nat × Nat × List JF × Option Addr × Nat) (fun s=>frm 39 [(0,.x (.pointer (some ⟨bd,0,none⟩))),(3,.x (.slice s.2.2.2.1 s.2.2.1.length s.2.2.2.2)),(4,.sq 4 [.x (.string ⟨#[97]⟩),.x (.string ⟨#[98]⟩),.x (.string ⟨#[99]⟩),.x (.string ⟨#[100]⟩)]),(5,.x (.int .i64 v1)),(6,.x (.int .i64 v2)),(7,.x (.int .i64 s.1))])
  (fun s=>[.row s.2.2.2.1 s.2.2.1.length s.2.2.2.2 29 15 (jfa s.2.2.1),.box bd [.sq l.length (ia l),.x (.int .i64 s.2.1)]]) (fun s=>s.1≤v2∧s.2.1≤l.length∧s.2.2.1.length=s.1∧∀j∈s.2.2.1,JM j) (fun s=>v2 - s.1) (0,k2,[],none,0)
 case h0=>exact (XbQ (D:=[]))
 case hi=>exact ⟨Nat.zero_le _,hk2,rfl,by simp⟩
 rintro ⟨i,kk,js,ad,cap⟩ ⟨g1,g2,g3,g4⟩
 simp only at g1 g2 g3 g4
 have g4':=Lib.hid g4
 clear g4
 simp only [wfr]
 by_cases hlt:i < v2
 ·(repeat' (first|refine Wkx.go ?_|refine XaG ?_|(refine XaE (fun h=>?_) (fun h=>?_)<;>first|(exact absurd h (by decide))|(exfalso;omega;done)|skip)|refine XaF ?_|refine Xai ?_|(refine Xaa rfl ?_;(first|refine Xax ?_|refine Xaw ?_|refine Xav (fun ad cap=>?_)|refine Xat (fun b=>?_)|refine Xas (fun b=>?_)|refine Xau (fun b=>?_)|fail))|fail))
  refine Xcx (B:=[]) (R:=[_,_]) mixed [0,1,2,3,4,5,6,7,8] [8] [10] (some 9) _ 1 (Xvt _) (by decide +kernel) rfl (Xdj rfl rfl rfl Xb0.out rfl rfl) (by decide) ?_
  (have wx:=And.intro @Xjh (And.intro @XjD @JF.cells.eq_1);(repeat' (first|refine XiQ ?_|(refine Xmk ?_;(first|((refine Xa5 Tryz.func67 [_] rfl rfl (XvG (l₁:=[_])) (Xto _ l kk hd g2 (Xdk.getD i []) (Xdk.take i) (Xsx Xdk (fun s=>s.length≤8) (by decide) i (by simp [Xdk];omega)) (by simp [Xdk];omega) (Xld i)) ?_;rintro _ _ ⟨j,k3,rfl,rfl,hk3,hj⟩);refine ⟨_,rfl,?_⟩;refine XlA ?_)|refine XlB (fun ad cap=>?_)|refine Xml (fun b=>?_)))|fail)))<;>(try clear wx)
  (first|(refine XfS (fun b=>?_))|refine XfT ?_);(refine Xdn 10 ?_;(first|refine Xcb ?_|refine Xax ?_|refine Xaw ?_|refine Xav (fun ad cap=>?_)|refine Xat (fun b=>?_)|refine Xas (fun b=>?_)|refine Xau (fun b=>?_)|fail));refine Xar (by decide +kernel) ?_
  (repeat' (first|refine Wkx.go ?_|refine XaJ ?_|refine XaG ?_|(refine XaE (fun h=>?_) (fun h=>?_)<;>first|(exact absurd h (by decide))|(exfalso;omega;done)|skip)|refine XaF ?_|refine Xai ?_|(refine Xaa rfl ?_;(first|refine Xax ?_|refine Xaw ?_|refine Xav (fun ad cap=>?_)|refine Xat (fun b=>?_)|refine Xas (fun b=>?_)|refine Xau (fun b=>?_)|fail))|fail))
  ·refine ⟨(i+1,k3,js++[j],ad,cap),by simp only;omega,⟨by simp only;omega,hk3,by simp only [XvF,Xvw,Xvz];omega,fun x hx=>?_⟩,?_⟩
   ·rcases List.mem_append.1 hx with hx|hx
    ·exact g4'.out x hx
    ·rw [List.mem_singleton] at hx;subst hx;exact ⟨i,by omega,hj⟩
   ·simp only [Xj2,XvF,Xvw,Xvz]
    exact Xaq.mk' [_,_] [.row ad _ cap _ _ _,.box bd _] (List.Perm.trans (l₂:=[.row ad _ cap _ _ _,.box bd _]++[_,_]) (by (repeat' (first|exact Xvt _|exact List.Perm.nil|refine XvJ _ ?_|refine (XvG (l₁:=[_])).trans (XvJ _ ?_)|refine (XvG (l₁:=[_,_])).trans (XvJ _ ?_)|refine (XvG (l₁:=[_,_,_])).trans (XvJ _ ?_)|refine (XvG (l₁:=[_,_,_,_])).trans (XvJ _ ?_)|refine (XvG (l₁:=[_,_,_,_,_])).trans (XvJ _ ?_)|refine (XvG (l₁:=[_,_,_,_,_,_])).trans (XvJ _ ?_)|refine (XvG (l₁:=[_,_,_,_,_,_,_])).trans (XvJ _ ?_)|refine (XvG (l₁:=[_,_,_,_,_,_,_,_])).trans (XvJ _ ?_)))) List.perm_append_comm) (Xap.refl _ _) (by (repeat' (first|exact VwL.nil|(refine VwL.cons ?_ ?_)|exact Vw.refl _|exact Vw.top _|exact Vw.nil|(refine Vw.eq ?_;first|rfl|(simp;done)|(congr 3;omega)|(congr 2;omega)))))
  ·refine ⟨(i+1,k3,[j]++js,ad,cap),by simp only;omega,⟨by simp only;omega,hk3,by simp only [XvF,Xvw,Xvz];omega,fun x hx=>?_⟩,?_⟩
   ·rcases List.mem_append.1 hx with hx|hx
    ·rw [List.mem_singleton] at hx;subst hx;exact ⟨i,by omega,hj⟩
    ·exact g4'.out x hx
   ·simp only [Xj2,XvF,Xvw,Xvz]
    exact Xaq.mk' [_,_] [.row ad _ cap _ _ _,.box bd _] (List.Perm.trans (l₂:=[.row ad _ cap _ _ _,.box bd _]++[_,_]) (by (repeat' (first|exact Xvt _|exact List.Perm.nil|refine XvJ _ ?_|refine (XvG (l₁:=[_])).trans (XvJ _ ?_)|refine (XvG (l₁:=[_,_])).trans (XvJ _ ?_)|refine (XvG (l₁:=[_,_,_])).trans (XvJ _ ?_)|refine (XvG (l₁:=[_,_,_,_])).trans (XvJ _ ?_)|refine (XvG (l₁:=[_,_,_,_,_])).trans (XvJ _ ?_)|refine (XvG (l₁:=[_,_,_,_,_,_])).trans (XvJ _ ?_)|refine (XvG (l₁:=[_,_,_,_,_,_,_])).trans (XvJ _ ?_)|refine (XvG (l₁:=[_,_,_,_,_,_,_,_])).trans (XvJ _ ?_)))) List.perm_append_comm) (Xap.refl _ _) (by (repeat' (first|exact VwL.nil|(refine VwL.cons ?_ ?_)|exact Vw.refl _|exact Vw.top _|exact Vw.nil|(refine Vw.eq ?_;first|rfl|(simp;done)|(congr 3;omega)|(congr 2;omega)))))
 ·(repeat' (first|refine Wkx.go ?_|refine XaJ ?_|refine XaG ?_|(refine XaE (fun h=>?_) (fun h=>?_)<;>first|(exact absurd h (by decide))|(exfalso;omega;done)|skip)|refine XaF ?_|refine Xai ?_|(refine Xaa rfl ?_;(first|refine Xax ?_|refine Xaw ?_|refine Xav (fun ad cap=>?_)|refine Xat (fun b=>?_)|refine Xas (fun b=>?_)|refine Xau (fun b=>?_)|fail))|fail))
  refine Xab _ _ (Xa0 rfl (RV.tmp _) (Xaq.mk' [] [.row _ _ _ _ _ _,.box _ _] (Xvt _) (Xap.refl _ _) (VwL.refl _ _))) ⟨js,kk,_,_,rfl,rfl,g2,by omega,by omega,g4'.out⟩
end Go.Proofs.YtdlblokjfoggpaaGreatDoor

import Derived.Test.YtdlblokjfoggpaaGreatDoorW7
import Derived.Test.YtdlblokjfoggpaaGreatDoorW41
import Derived.Test.YtdlblokjfoggpaaGreatDoorW43
import Derived.Test.YtdlblokjfoggpaaGreatDoorW24
import Derived.Test.YtdlblokjfoggpaaGreatDoorW0
import Derived.ProofKit
import Derived.OpenShut
import Derived.ShutString
import Derived.ChangeOld
import Derived.Lib.SmallJoins
import Derived.SizedLaws
import Derived.Test.YtdlblokjfoggpaaGreatDoorW22
import Derived.Test.YtdlblokjfoggpaaGreatDoorW21
import Derived.Stop.LaidErr
import Derived.LaidLaws
/- CheckStarts: the sanity check; the law's walk. -/
set_option linter.unusedSimpArgs false
set_option linter.unusedVariables false
set_option maxRecDepth 100000
set_option maxHeartbeats 8000000
namespace Go.Proofs.YtdlblokjfoggpaaGreatDoor
open Go.RowKit
theorem Xpj (ad:Nat→Addr) (hinj:Xfg ad):XaM Tryz.prog 5 [.sen ad] [] (fun r H'=>r=.x (.bool true)∧H'=[.sen ad]):=by
 have jok:∀j,j.needs.length≤1→j.ladder.length≤1→j.ready.length≤1→Xt1 j:=fun j h1 h2 h3=>⟨by omega,by omega,by omega⟩
 have hA:=XmZ ad hinj exA (by decide) [XuA] Xk0 (by decide) (fun j hj=>by rw [List.mem_singleton] at hj;subst hj;exact jok _ (by decide) (by decide) (by decide)) _ _ _ XsF
 have hB:=XmZ ad hinj exB (by decide) [XuB] Xk1 (by decide) (fun j hj=>by rw [List.mem_singleton] at hj;subst hj;exact jok _ (by decide) (by decide) (by decide)) _ _ _ XsG
 have hX:=XmZ ad hinj ex1 (by decide) [Xt9] XkZ (by decide) (fun j hj=>by rw [List.mem_singleton] at hj;subst hj;exact jok _ (by decide) (by decide) (by decide)) _ _ _ XsH
 rw [if_neg (by decide)] at hA hB
 rw [if_pos rfl] at hX
 have hA:=Lib.hid hA
 have hB:=Lib.hid hB
 have hX:=Lib.hid hX
 refine Xbs Tryz.func5 Tryz.ntmps5 ?_
 (repeat' (first|refine Wkx.go ?_|refine XaJ ?_|refine XaG ?_|(refine XaE (fun h=>?_) (fun h=>?_)<;>first|(exact absurd h (by decide))|(exfalso;omega;done)|skip)|refine XaF ?_|refine Xai ?_|(refine Xaa rfl ?_;(first|((refine Xa5 Tryz.func15 [_] rfl rfl (by (repeat' (first|exact Xvt _|exact List.Perm.nil|refine XvJ _ ?_|refine (XvG (l₁:=[_])).trans (XvJ _ ?_)|refine (XvG (l₁:=[_,_])).trans (XvJ _ ?_)|refine (XvG (l₁:=[_,_,_])).trans (XvJ _ ?_)|refine (XvG (l₁:=[_,_,_,_])).trans (XvJ _ ?_)|refine (XvG (l₁:=[_,_,_,_,_])).trans (XvJ _ ?_)|refine (XvG (l₁:=[_,_,_,_,_,_])).trans (XvJ _ ?_)|refine (XvG (l₁:=[_,_,_,_,_,_,_])).trans (XvJ _ ?_)|refine (XvG (l₁:=[_,_,_,_,_,_,_,_])).trans (XvJ _ ?_)))) hA.out ?_;rintro _ _ ⟨rfl,rfl⟩);refine XaO ?_)|((refine Xa5 Tryz.func15 [_] rfl rfl (by (repeat' (first|exact Xvt _|exact List.Perm.nil|refine XvJ _ ?_|refine (XvG (l₁:=[_])).trans (XvJ _ ?_)|refine (XvG (l₁:=[_,_])).trans (XvJ _ ?_)|refine (XvG (l₁:=[_,_,_])).trans (XvJ _ ?_)|refine (XvG (l₁:=[_,_,_,_])).trans (XvJ _ ?_)|refine (XvG (l₁:=[_,_,_,_,_])).trans (XvJ _ ?_)|refine (XvG (l₁:=[_,_,_,_,_,_])).trans (XvJ _ ?_)|refine (XvG (l₁:=[_,_,_,_,_,_,_])).trans (XvJ _ ?_)|refine (XvG (l₁:=[_,_,_,_,_,_,_,_])).trans (XvJ _ ?_)))) hB.out ?_;rintro _ _ ⟨rfl,rfl⟩);refine XaO ?_)|((refine Xa5 Tryz.func15 [_] rfl rfl (by (repeat' (first|exact Xvt _|exact List.Perm.nil|refine XvJ _ ?_|refine (XvG (l₁:=[_])).trans (XvJ _ ?_)|refine (XvG (l₁:=[_,_])).trans (XvJ _ ?_)|refine (XvG (l₁:=[_,_,_])).trans (XvJ _ ?_)|refine (XvG (l₁:=[_,_,_,_])).trans (XvJ _ ?_)|refine (XvG (l₁:=[_,_,_,_,_])).trans (XvJ _ ?_)|refine (XvG (l₁:=[_,_,_,_,_,_])).trans (XvJ _ ?_)|refine (XvG (l₁:=[_,_,_,_,_,_,_])).trans (XvJ _ ?_)|refine (XvG (l₁:=[_,_,_,_,_,_,_,_])).trans (XvJ _ ?_)))) hX.out ?_;rintro _ _ ⟨rfl,rfl⟩);refine XaO ?_)|refine Xax ?_|refine Xaw ?_|refine Xav (fun ad cap=>?_)|refine Xat (fun b=>?_)|refine Xas (fun b=>?_)|refine Xau (fun b=>?_)|fail))|fail))
 refine Xab _ _ (Xa0 rfl (RV.tmp _) (Xaq.mk' [.box _ _,.box _ _,.box _ _] [.sen ad] (by (repeat' (first|exact Xvt _|exact List.Perm.nil|refine XvJ _ ?_|refine (XvG (l₁:=[_])).trans (XvJ _ ?_)|refine (XvG (l₁:=[_,_])).trans (XvJ _ ?_)|refine (XvG (l₁:=[_,_,_])).trans (XvJ _ ?_)|refine (XvG (l₁:=[_,_,_,_])).trans (XvJ _ ?_)|refine (XvG (l₁:=[_,_,_,_,_])).trans (XvJ _ ?_)|refine (XvG (l₁:=[_,_,_,_,_,_])).trans (XvJ _ ?_)|refine (XvG (l₁:=[_,_,_,_,_,_,_])).trans (XvJ _ ?_)|refine (XvG (l₁:=[_,_,_,_,_,_,_,_])).trans (XvJ _ ?_)))) (Xap.refl _ _) (VwL.refl _ _))) ⟨rfl,rfl⟩
theorem Xpu (ad:Nat→Addr) (hinj:Xfg ad) (l:List Int) (hd:DK l):XaM Tryz.prog 4 [.sen ad] [.sq l.length (ia l)] (fun r H'=>r=.x (.bool true)∧H'=[.sen ad]):=by
 have hS:=Lib.hid (Xpj ad hinj)
 refine Xbs Tryz.func4 Tryz.ntmps4 ?_
 (repeat' (first|refine Wkx.go ?_|refine XaG ?_|(refine XaE (fun h=>?_) (fun h=>?_)<;>first|(exact absurd h (by decide))|(exfalso;omega;done)|skip)|refine XaF ?_|refine Xai ?_|(refine Xaa rfl ?_;(first|((refine Xa5 Tryz.func5 [_] rfl rfl (by (repeat' (first|exact Xvt _|exact List.Perm.nil|refine XvJ _ ?_|refine (XvG (l₁:=[_])).trans (XvJ _ ?_)|refine (XvG (l₁:=[_,_])).trans (XvJ _ ?_)|refine (XvG (l₁:=[_,_,_])).trans (XvJ _ ?_)|refine (XvG (l₁:=[_,_,_,_])).trans (XvJ _ ?_)|refine (XvG (l₁:=[_,_,_,_,_])).trans (XvJ _ ?_)|refine (XvG (l₁:=[_,_,_,_,_,_])).trans (XvJ _ ?_)|refine (XvG (l₁:=[_,_,_,_,_,_,_])).trans (XvJ _ ?_)|refine (XvG (l₁:=[_,_,_,_,_,_,_,_])).trans (XvJ _ ?_)))) hS.out ?_;rintro _ _ ⟨rfl,rfl⟩);refine XaO ?_)|((refine Xa5 Tryz.func12 ([]) rfl rfl (.refl _) (XuI l []) ?_;rintro _ _ ⟨bl,rfl,rfl⟩);refine XaO ?_)|((refine Xa5 Tryz.func11 [_] rfl rfl (.refl _) (Xi6 _ l 0 hd (Nat.zero_le _)) ?_;rintro _ _ ⟨x,kx,gx,cx,rfl,rfl,hkx,hx1,hx4,hxs⟩);refine XaO ?_)|((refine Xa5 Tryz.func11 [_] rfl rfl (XvG (l₁:=[_])) (Xi6 _ l 0 hd (Nat.zero_le _)) ?_;rintro _ _ ⟨x,kx,gx,cx,rfl,rfl,hkx,hx1,hx4,hxs⟩);refine XaO ?_)|((refine Xa5 Tryz.func11 [_] rfl rfl (XvG (l₁:=[_,_])) (Xi6 _ l 0 hd (Nat.zero_le _)) ?_;rintro _ _ ⟨x,kx,gx,cx,rfl,rfl,hkx,hx1,hx4,hxs⟩);refine XaO ?_)|refine Xax ?_|refine Xaw ?_|refine Xav (fun ad cap=>?_)|refine Xat (fun b=>?_)|refine Xas (fun b=>?_)|refine Xau (fun b=>?_)|fail))|fail))
 apply XdF;(case h=>(apply Xaq.mk' [.row (some ⟨gx,0,none⟩) _ cx _ _ _,.box _ _] [.sen ad] (by (repeat' (first|exact Xvt _|exact List.Perm.nil|refine XvJ _ ?_|refine (XvG (l₁:=[_])).trans (XvJ _ ?_)|refine (XvG (l₁:=[_,_])).trans (XvJ _ ?_)|refine (XvG (l₁:=[_,_,_])).trans (XvJ _ ?_)|refine (XvG (l₁:=[_,_,_,_])).trans (XvJ _ ?_)|refine (XvG (l₁:=[_,_,_,_,_])).trans (XvJ _ ?_)|refine (XvG (l₁:=[_,_,_,_,_,_])).trans (XvJ _ ?_)|refine (XvG (l₁:=[_,_,_,_,_,_,_])).trans (XvJ _ ?_)|refine (XvG (l₁:=[_,_,_,_,_,_,_,_])).trans (XvJ _ ?_)))) (Xap.refl _ _);(repeat' (first|exact VwL.nil|apply VwL.cons|exact Vw.row (List.Mem.head _) (VwL.refl _ _)|exact Vw.row (List.Mem.tail _ (List.Mem.head _)) (VwL.refl _ _)|exact Vw.refl _))))
 have hJ:=Xme ad hinj x (by omega) (fun j hj=>by obtain ⟨h1,h2,h3,h4⟩:=hxs j hj;exact ⟨by omega,by omega,by omega⟩)
 have hO:=XiU (x.map JF.toJA) (by rw [List.length_map];omega) (fun j h=>by obtain ⟨y,hy,rfl⟩:=List.mem_map.1 h;have:=(hxs y hy).2.1;show y.needs.length≤_;omega)
 rw [←XmQ,List.length_map] at hO
 have hO:=Lib.hid hO
 have hlen:=Xot x
 have hfine:=@XqX x
 generalize Xly x=cf at *
 obtain ⟨c1,c2,c3⟩:=cf
 simp only at hJ hlen
 have hJ:=Lib.hid hJ
 rcases hlen with ⟨e1,e2⟩|⟨e1,-⟩
 ·obtain ⟨hf1,hf2,hf3,hf4,-⟩:=hfine e2
  cases e1
  have hf1:=Lib.hid hf1;have hf2:=Lib.hid hf2;have hf3:=Lib.hid hf3
  clear e2 hfine
  generalize ord (x.map JF.toJA)=od at *
  have hIx:=Lib.hid (fun s=>Xi0 x s (by omega))
  (repeat' (first|refine Wkx.go ?_|refine XaJ ?_|refine XaG ?_|(refine XaE (fun h=>?_) (fun h=>?_)<;>first|(exact absurd h (by decide))|(exfalso;omega;done)|skip)|refine XaF ?_|refine Xai ?_|(refine Xaa rfl ?_;(first|((refine Xa5 Tryz.func6 [_] rfl rfl (by (repeat' (first|exact Xvt _|exact List.Perm.nil|refine XvJ _ ?_|refine (XvG (l₁:=[_])).trans (XvJ _ ?_)|refine (XvG (l₁:=[_,_])).trans (XvJ _ ?_)|refine (XvG (l₁:=[_,_,_])).trans (XvJ _ ?_)|refine (XvG (l₁:=[_,_,_,_])).trans (XvJ _ ?_)|refine (XvG (l₁:=[_,_,_,_,_])).trans (XvJ _ ?_)|refine (XvG (l₁:=[_,_,_,_,_,_])).trans (XvJ _ ?_)|refine (XvG (l₁:=[_,_,_,_,_,_,_])).trans (XvJ _ ?_)|refine (XvG (l₁:=[_,_,_,_,_,_,_,_])).trans (XvJ _ ?_)))) hJ.out ?_;rintro _ _ ⟨rfl,rfl⟩);refine XaO ?_)|((refine Xa5 Tryz.func13 [] rfl rfl (Xvt _) hO.out ?_;rintro _ _ ⟨ad',cap',rfl,rfl⟩);refine XaO ?_)|refine Xax ?_|refine Xaw ?_|refine Xav (fun ad cap=>?_)|refine Xat (fun b=>?_)|refine Xas (fun b=>?_)|refine Xau (fun b=>?_)|fail))|fail))
  refine XaA (S:=Nat) (fun i=>frm 65 [(3,.sq x.length (jfa x)),(27,.sq x.length (jfa x)),(28,.x (.int .i64 x.length)),(29,.x (.int .i64 i))]) (fun _=>[.sen ad]) (fun i=>i≤x.length) (fun i=>x.length - i) 0 (Xaq.mk' [.row ad' _ cap' _ _ _] [.sen ad] (by (repeat' (first|exact Xvt _|exact List.Perm.nil|refine XvJ _ ?_|refine (XvG (l₁:=[_])).trans (XvJ _ ?_)|refine (XvG (l₁:=[_,_])).trans (XvJ _ ?_)|refine (XvG (l₁:=[_,_,_])).trans (XvJ _ ?_)|refine (XvG (l₁:=[_,_,_,_])).trans (XvJ _ ?_)|refine (XvG (l₁:=[_,_,_,_,_])).trans (XvJ _ ?_)|refine (XvG (l₁:=[_,_,_,_,_,_])).trans (XvJ _ ?_)|refine (XvG (l₁:=[_,_,_,_,_,_,_])).trans (XvJ _ ?_)|refine (XvG (l₁:=[_,_,_,_,_,_,_,_])).trans (XvJ _ ?_)))) (Xap.refl _ _) (by (repeat' (first|exact VwL.nil|(refine VwL.cons ?_ ?_)|exact Vw.refl _|exact Vw.top _|exact Vw.nil|(refine Vw.eq ?_;first|rfl|(simp;done)|(congr 3;omega)|(congr 2;omega)))))) (Nat.zero_le _) fun i hi=>?_
  simp only [wfr]
  by_cases hlt:i < x.length
  ·have hd1:=Lib.hid (XeB x i hlt)
   have g1:=hf1.out i hlt
   have g2:=Lib.hid (hf2.out i hlt)
   have g3:=hf3.out i hlt
   have gn:=(hxs _ (List.getElem_mem hlt)).2.1
   have hI:=hIx.out x[i].name
   rw [g1] at hI
   generalize x[i]=j at *
   have hI:=Lib.hid hI
   clear g1
   (have wx:=And.intro @hd1.out @JF.cells.eq_1;(repeat' (first|refine Wkx.go ?_|refine XaJ ?_|refine XaG ?_|(refine XaE (fun h=>?_) (fun h=>?_)<;>first|(exact absurd h (by decide))|(exfalso;omega;done)|skip)|refine XaF ?_|refine Xai ?_ (h:=by first|exact fun _=>Xb3 rfl rfl Tryz.func14 (hI.out)|fail)|refine Xai ?_|(refine Xaa rfl ?_;(first|refine Xax ?_|refine Xaw ?_|refine Xav (fun ad cap=>?_)|refine Xat (fun b=>?_)|refine Xas (fun b=>?_)|refine Xau (fun b=>?_)|fail))|fail)))<;>(try clear wx)
   refine XaA (S:=Nat) (fun k=>frm 65 [(3,.sq x.length (jfa x)),(27,.sq x.length (jfa x)),(28,.x (.int .i64 x.length)),(29,.x (.int .i64 i)),(53,.sq j.needs.length (sa j.needs)),(54,.x (.int .i64 j.needs.length)),(55,.x (.int .i64 k))]) (fun _=>[.sen ad]) (fun k=>k≤j.needs.length) (fun k=>j.needs.length - k) 0 (Xaq.mk' [.box _ _] [.sen ad] (by (repeat' (first|exact Xvt _|exact List.Perm.nil|refine XvJ _ ?_|refine (XvG (l₁:=[_])).trans (XvJ _ ?_)|refine (XvG (l₁:=[_,_])).trans (XvJ _ ?_)|refine (XvG (l₁:=[_,_,_])).trans (XvJ _ ?_)|refine (XvG (l₁:=[_,_,_,_])).trans (XvJ _ ?_)|refine (XvG (l₁:=[_,_,_,_,_])).trans (XvJ _ ?_)|refine (XvG (l₁:=[_,_,_,_,_,_])).trans (XvJ _ ?_)|refine (XvG (l₁:=[_,_,_,_,_,_,_])).trans (XvJ _ ?_)|refine (XvG (l₁:=[_,_,_,_,_,_,_,_])).trans (XvJ _ ?_)))) (Xap.refl _ _) (by (repeat' (first|exact VwL.nil|(refine VwL.cons ?_ ?_)|exact Vw.refl _|exact Vw.top _|exact Vw.nil|(refine Vw.eq ?_;first|rfl|(simp;done)|(congr 3;omega)|(congr 2;omega)))))) (Nat.zero_le _) fun k hk=>?_
   simp only [wfr]
   by_cases hkl:k < j.needs.length
   ·have hI2:=Lib.hid (hIx.out j.needs[k])
    have gk:=g2.out _ (List.getElem_mem hkl)
    generalize XiV x j.needs[k]=iv at *
    (have wx:=@Xei;(repeat' (first|refine Wkx.go ?_|refine XaJ ?_|refine XaG ?_|(refine XaE (fun h=>?_) (fun h=>?_)<;>first|(exact absurd h (by decide))|(exfalso;omega;done)|skip)|refine XaF ?_|refine Xai ?_ (h:=by first|exact fun _=>Xb3 rfl rfl Tryz.func14 (hI2.out)|fail)|refine Xai ?_|(refine Xaa rfl ?_;(first|refine Xax ?_|refine Xaw ?_|refine Xav (fun ad cap=>?_)|refine Xat (fun b=>?_)|refine Xas (fun b=>?_)|refine Xau (fun b=>?_)|fail))|fail)))<;>(try clear wx)
    exact ⟨k+1,by omega,by omega,(XbQ (D:=[]))⟩
   ·(repeat' (first|refine Wkx.go ?_|refine XaJ ?_|refine XaG ?_|(refine XaE (fun h=>?_) (fun h=>?_)<;>first|(exact absurd h (by decide))|(exfalso;omega;done)|skip)|refine XaF ?_|refine Xai ?_|(refine Xaa rfl ?_;(first|refine Xax ?_|refine Xaw ?_|refine Xav (fun ad cap=>?_)|refine Xat (fun b=>?_)|refine Xas (fun b=>?_)|refine Xau (fun b=>?_)|fail))|fail))
    exact ⟨i+1,by omega,by omega,(XbQ (D:=[]))⟩
  ·(repeat' (first|refine Wkx.go ?_|refine XaJ ?_|refine XaG ?_|(refine XaE (fun h=>?_) (fun h=>?_)<;>first|(exact absurd h (by decide))|(exfalso;omega;done)|skip)|refine XaF ?_|refine Xai ?_|(refine Xaa rfl ?_;(first|refine Xax ?_|refine Xaw ?_|refine Xav (fun ad cap=>?_)|refine Xat (fun b=>?_)|refine Xas (fun b=>?_)|refine Xau (fun b=>?_)|fail))|fail))
   refine Xab _ _ (Xa0 rfl (RV.tmp _) (XcJ (D:=[]))) ?_
   exact ⟨rfl,rfl⟩
 ·(repeat' (first|refine Wkx.go ?_|refine XaJ ?_|refine XaG ?_|(refine XaE (fun h=>?_) (fun h=>?_)<;>first|(exact absurd h (by decide))|(exfalso;omega;done)|skip)|refine XaF ?_|refine Xai ?_|(refine Xaa rfl ?_;(first|((refine Xa5 Tryz.func6 [_] rfl rfl (by (repeat' (first|exact Xvt _|exact List.Perm.nil|refine XvJ _ ?_|refine (XvG (l₁:=[_])).trans (XvJ _ ?_)|refine (XvG (l₁:=[_,_])).trans (XvJ _ ?_)|refine (XvG (l₁:=[_,_,_])).trans (XvJ _ ?_)|refine (XvG (l₁:=[_,_,_,_])).trans (XvJ _ ?_)|refine (XvG (l₁:=[_,_,_,_,_])).trans (XvJ _ ?_)|refine (XvG (l₁:=[_,_,_,_,_,_])).trans (XvJ _ ?_)|refine (XvG (l₁:=[_,_,_,_,_,_,_])).trans (XvJ _ ?_)|refine (XvG (l₁:=[_,_,_,_,_,_,_,_])).trans (XvJ _ ?_)))) hJ.out ?_;rintro _ _ ⟨rfl,rfl⟩);refine XaO ?_)|refine Xax ?_|refine Xaw ?_|refine Xav (fun ad cap=>?_)|refine Xat (fun b=>?_)|refine Xas (fun b=>?_)|refine Xau (fun b=>?_)|fail))|fail))
  refine Xai (av:=.x (.bool true)) ?_ (h:=fun _=>by apply XbB;(case hs=>(intro _ _ h;cases h));(case hx=>rfl);(case hrun=>(intro w;simp [wtb,AV.val,go_sem,e1])))
  (repeat' (first|refine Wkx.go ?_|refine XaJ ?_|refine XaG ?_|(refine XaE (fun h=>?_) (fun h=>?_)<;>first|(exact absurd h (by decide))|(exfalso;omega;done)|skip)|refine XaF ?_|refine Xai ?_|(refine Xaa rfl ?_;(first|((refine Xa5 Tryz.func6 [_] rfl rfl (by (repeat' (first|exact Xvt _|exact List.Perm.nil|refine XvJ _ ?_|refine (XvG (l₁:=[_])).trans (XvJ _ ?_)|refine (XvG (l₁:=[_,_])).trans (XvJ _ ?_)|refine (XvG (l₁:=[_,_,_])).trans (XvJ _ ?_)|refine (XvG (l₁:=[_,_,_,_])).trans (XvJ _ ?_)|refine (XvG (l₁:=[_,_,_,_,_])).trans (XvJ _ ?_)|refine (XvG (l₁:=[_,_,_,_,_,_])).trans (XvJ _ ?_)|refine (XvG (l₁:=[_,_,_,_,_,_,_])).trans (XvJ _ ?_)|refine (XvG (l₁:=[_,_,_,_,_,_,_,_])).trans (XvJ _ ?_)))) hJ.out ?_;rintro _ _ ⟨rfl,rfl⟩);refine XaO ?_)|refine Xax ?_|refine Xaw ?_|refine Xav (fun ad cap=>?_)|refine Xat (fun b=>?_)|refine Xas (fun b=>?_)|refine Xau (fun b=>?_)|fail))|fail))
  refine Xab _ _ (Xa0 rfl (RV.tmp _) (Xaq.mk' [] [.sen ad] (by (repeat' (first|exact Xvt _|exact List.Perm.nil|refine XvJ _ ?_|refine (XvG (l₁:=[_])).trans (XvJ _ ?_)|refine (XvG (l₁:=[_,_])).trans (XvJ _ ?_)|refine (XvG (l₁:=[_,_,_])).trans (XvJ _ ?_)|refine (XvG (l₁:=[_,_,_,_])).trans (XvJ _ ?_)|refine (XvG (l₁:=[_,_,_,_,_])).trans (XvJ _ ?_)|refine (XvG (l₁:=[_,_,_,_,_,_])).trans (XvJ _ ?_)|refine (XvG (l₁:=[_,_,_,_,_,_,_])).trans (XvJ _ ?_)|refine (XvG (l₁:=[_,_,_,_,_,_,_,_])).trans (XvJ _ ?_)))) (Xap.refl _ _) (VwL.refl _ _))) ⟨congrArg (fun b=>AV.x (.bool b)) (show (c1 != 0)=true from bne_iff_ne.2 e1),rfl⟩
open Go.ChangeShapes Go.WideShapes Go.ChangeAt Go.RowKit Go.Joins
def Is (lo:Nat) (w:World) (v:Value) (l:List Int):Prop:=Sl lo w v l.length (l.map (Value.int .i64))
theorem Is.mono {lo:Nat} {w w':World} {v:Value} {l:List Int} (h:Is lo w v l) (hb:Ext w w'):Is lo w' v l:=Sl.mono h hb
theorem Is.shape {lo:Nat} {w:World} {v:Value} {l:List Int} (h:Is lo w v l):∃ad cap,v=.slice ad l.length cap∧l.length≤cap:=Sl.shape h
def Xu0 (l:List Int):Prop:=∀x∈l,-9223372036854775808≤x∧x≤9223372036854775807
section
variable {H:Type} {enc:TypeId × Value→H} {P:Program} {W:World} {fuel:Nat} {t e:TypeId} {v:Value} {x:DataW H × List MemPlace}
theorem Xo5 {k:IntKind} (ht:P.underlying t=some (.slice e)) (he:P.underlying e=some (.int k)) (hc:P.cellsOf e=1)
  (h:DataW.trod enc P W 0 (fun _=>true) true fuel t [v]=some x) (hsz:∀n∈x.1.weights P t,n≤reachBytes) :
  ∃zs:List Int,Sl 0 W v zs.length (zs.map (Value.int k))∧(∀n∈zs,(Lit.int k n).wf=true)∧zs.length*P.bytesOf e≤reachBytes:=by
 rcases open_ints ht he hc h with ⟨hcs,hx⟩|⟨a,len,cap,zs,hcs,_,hl,hm,hz,hx,hcell,hwz⟩
 ·simp at hcs
  subst hcs
  exact ⟨[],Sl.nil _ _,by simp,by simp⟩
 ·simp at hcs
  subst hcs
  have hz':zs.length=cap:=by simpa using hz
  have hlen:(zs.take len).length=len:=by simp;omega
  refine ⟨zs.take len,?_,fun n hn=>hwz n (List.mem_of_mem_take hn),?_⟩
  ·refine ⟨some a,cap,by rw [hlen],by rw [hlen];exact hl,hm,(by intro h;cases h),fun _ _=>Nat.zero_le _,fun j u hj=>⟨a,rfl,?_⟩⟩
   rw [List.getElem?_map,List.getElem?_take] at hj
   split at hj
   ·rename_i hjl
    have hjz:j < zs.length:=by omega
    rw [hcell j hjz]
    simp [List.getElem?_eq_getElem hjz] at hj
    simp [←hj,List.getD,List.getElem?_eq_getElem hjz]
   ·simp at hj
  ·have:=hsz ((lits (H:=H) k (zs.take len)).length*P.bytesOf e+(lits (H:=H) k (zs.drop len)).length*P.bytesOf e) (by rw [hx];simp [DataW.weights,ht,Nat.add_mul])
   have h2:(lits (H:=H) k (zs.take len)).length=(zs.take len).length:=by simp [lits]
   rw [h2] at this
   omega
theorem XrH (ht:P.underlying t=some (.slice e)) (he:P.underlying e=some (.int .i64)) (hc:P.cellsOf e=1) (hb:P.bytesOf e=8)
  (h:DataW.trod enc P W 0 (fun _=>true) true fuel t [v]=some x) (hsz:∀n∈x.1.weights P t,n≤reachBytes) :
  ∃l:List Int,Is 0 W v l∧Xu0 l∧l.length≤140737488355328:=by
 obtain ⟨zs,h1,h2,h3⟩:=Xo5 ht he hc h hsz
 refine ⟨zs,h1,fun n hn=>?_,?_⟩
 ·have hw:=h2 n hn
  simp [Lit.wf,IntKind.min,IntKind.max,IntKind.signed,IntKind.bits] at hw
  omega
 ·rw [hb] at h3
  have:=reachBytes_lt
  omega
end
theorem Xlv {H:Type} {P:Program} {ts:List TypeId} {ds:List (DataW H)} (h:(DataW.weightsEach P ts ds).all (·≤reachBytes)=true) {j:Nat} {t:TypeId} {d:DataW H} (ht:ts[j]?=some t) (hd:ds[j]?=some d):∀n∈d.weights P t,n≤reachBytes:=fun n hn=>by
 have:=List.all_eq_true.1 h _ (DataW.weights_mem_each ht hd n hn)
 simpa using this
open Go.RowKit
theorem Sl.den {W:World} {v:Value} {n:Nat} {xs:List Value} (h:Sl 0 W v n xs) (h1:∀u∈xs,u.oneCell'=true):Den (fun _=>False) W (.sq n (xs.map AV.x)) v:=by
 obtain ⟨ad,cap,rfl,h1',h2,h3,h4⟩:=Sl.split h
 rw [Den]
 refine ⟨ad,cap,xs,rfl,h1',h2,h3,?_,DenL.exact⟩
 rcases h4 with h4|⟨b,o,rfl,_,hc⟩
 ·exact .inl h4
 ·exact .inr ⟨b,o,rfl,fun h=>h,fun j u hj=>⟨hc j u hj,h1 u (List.mem_of_getElem? hj)⟩⟩
theorem Is.den {W:World} {v:Value} {l:List Int} (h:Is 0 W v l):Den (fun _=>False) W (.sq l.length (ia l)) v:=by
 have:=Sl.den h (fun u hu=>by obtain ⟨n,-,rfl⟩:=List.mem_map.1 hu;rfl)
 have e:ia l=(l.map (Value.int .i64)).map AV.x:=by simp [ia]
 rw [e];exact this
theorem Bs.den {W:World} {v:Value} {l:List UInt8} (h:Bs 0 W v l):Den (fun _=>False) W (.sq l.length (u8a l)) v:=
 Sl.den h (fun u hu=>by obtain ⟨n,-,rfl⟩:=List.mem_map.1 hu;rfl)
open Go.RowKit Go Go.ChangeShapes
theorem law_walk_sen {P:Program} {f:FuncId} {args:List AV} {ad:Nat→Addr} (h:XaM P f [.sen ad] args (fun r H'=>r=.x (.bool true)∧H'=[.sen ad])) (W:World) (hg:Gw W) (hs:Xgr ad W) (vs:Array Value) (hd:DenL (fun _=>False) W args vs.toList):Calls P f vs W fun e w'=>e=.returned (.bool true)∧Ext W w':=by
 have hn:∀k,¬FB (fun _=>False) [Hp.sen ad] k:=fun k hk=>by
  rcases hk with hk|⟨x,hx,e⟩
  ·exact hk
  ·rw [List.mem_singleton] at hx;subst hx;cases e
 have:=h (fun _=>False) W vs.toList (fun _ h=>h.elim) ⟨fun x hx=>by rw [List.mem_singleton] at hx;subst hx;exact ⟨hs,fun k _ hf=>hn k hf⟩,List.pairwise_singleton _ _,fun x hx k hk=>by rw [List.mem_singleton] at hx;subst hx;cases hk⟩
  (hd.weak fun k hk=>(hn k hk).elim) ⟨fun k _ ⟨x,hx,e⟩=>(by rw [List.mem_singleton] at hx;subst hx;cases e),hg⟩
 refine this.mono fun e w' ⟨r,H',v,⟨hr,_⟩,he,hdv,_,hfr,_⟩=>?_
 subst hr
 rw [Den] at hdv
 subst hdv
 refine ⟨he,Fr.ext ⟨hfr.os,hfr.tape,hfr.output,hfr.size,fun k hk _=>hfr.block k hk fun ⟨x,hx,e⟩=>by rw [List.mem_singleton] at hx;subst hx;cases e⟩⟩
section
variable {P:Program} {W:World} {ti tp te ts:TypeId} {ms:Array (String × TypeId)} {f:Field} {nm:String}
theorem XnI (hi:P.underlying ti=some (.interface ms)) (hrow:∀u,P.typeName? 3 u=some nm→u=tp) (hp:P.underlying tp=some (.pointer te)) (he:P.underlying te=some (.struct #[f])) (hft:f.type=ts) (hfo:f.offset=0) (hs:P.underlying ts=some .string) (hc:P.cellsOf te=1) (hcs:P.cellsOf ts=1) (r:List (String × DataW Unit)) :
  ∀(S:List (String × Nat × List UInt8)) (ps:List MemPlace),(∀x∈S,P.globalNamed x.1=some x.2.1∧(P.globals[x.2.1]?).map (·.type)=some ti) →
   DataW.LaidVars P W (S.map (fun x=>(x.1,DataW.iface nm (.ptr (.agg [.lit (.string x.2.2)]))))++r) ps →
   (∀b off,MemPlace.cell b off∈ps→(∃c t,W.heap[b]?=some (.cells c t (0,0)))∧∀u v,W.cell? ⟨b,off,none⟩=some (.iface u v)→Value.okWide P W .any 0 u v) →
   ∃al:List Addr,al.length=S.length∧(al.map fun a=>MemPlace.cell a.block a.off).Sublist ps∧∀(i:Nat) x,S[i]?=some x→∃a,al[i]?=some a∧W.cell? ⟨x.2.1,0,none⟩=some (.iface tp (.pointer (some a)))
 | [],ps,_,_,_=>⟨[],rfl,List.nil_sublist _,fun i x h=>by simp at h⟩
 | x :: S,ps,hg,hv,hrows=>by
   obtain ⟨g0,t0,cs0,f0,p0,q0,hg0,ht0,hv0,hd0,hq,rfl⟩:=hv
   obtain ⟨hgx,htx⟩:=hg x (List.mem_cons_self ..)
   obtain rfl:=Option.some.inj (hgx.symm.trans hg0)
   obtain rfl:=Option.some.inj (htx.symm.trans ht0)
   obtain ⟨l0⟩:=cs0
   have hw:∀u v,l0=[.iface u v]→W.cell? ⟨x.2.1,0,none⟩=some (.iface u v):=fun u v e=>by subst e;simpa using World.var?_cell hg0 hv0 0
   have ok0:∀u v,l0=[.iface u v]→Value.okWide P W .any 0 u v:=fun u v e=>by
    have h1:=hw u v e
    subst e
    exact (hrows x.2.1 0 (by simp [MemPlace.row])).2 u v h1
   obtain ⟨a0,s0,e0,hc0,hs0,hz0,rfl⟩:=errorString_of_trod hi hrow hp he hft hfo hs hc hcs hd0 ok0
   obtain ⟨al,h1,h2,h3⟩:=XnI hi hrow hp he hft hfo hs hc hcs r S q0 (fun y hy=>hg y (List.mem_cons_of_mem _ hy)) hq (fun b off hm=>hrows b off (List.mem_append_right _ hm))
   refine ⟨a0 :: al,by simp [h1],?_,fun i y hy=>?_⟩
   ·rw [Xvy,List.append_assoc]
    refine List.Sublist.trans ?_ (List.sublist_append_right _ _)
    have:MemPlace.row a0 1++q0=MemPlace.cell a0.block a0.off :: q0:=by simp [MemPlace.row]
    rw [this]
    exact h2.cons_cons _
   ·cases i with
    | zero=>simp only [List.getElem?_cons_zero,Option.some.injEq] at hy;subst hy;exact ⟨a0,rfl,hw _ _ e0⟩
    | succ i=>exact h3 i y (by simpa using hy)
theorem Xpl (hi:P.underlying ti=some (.interface ms)) (hrow:∀u,P.typeName? 3 u=some nm→u=tp) (hp:P.underlying tp=some (.pointer te)) (he:P.underlying te=some (.struct #[f])) (hft:f.type=ts) (hfo:f.offset=0) (hs:P.underlying ts=some .string) (hc:P.cellsOf te=1) (hcs:P.cellsOf ts=1) (r:List (String × DataW Unit)) (S:List (String × Nat × List UInt8)) (hg:∀x∈S,P.globalNamed x.1=some x.2.1∧(P.globals[x.2.1]?).map (·.type)=some ti)
  (h:laidMet P (S.map (fun x=>(x.1,DataW.iface nm (.ptr (.agg [.lit (.string x.2.2)]))))++r) W) :
  ∃al:List Addr,al.length=S.length∧(∀(i j:Nat) a,al[i]?=some a→al[j]?=some a→i=j)∧(∀a∈al,∃c t,W.heap[a.block]?=some (.cells c t (0,0)))∧∀(i:Nat) x,S[i]?=some x→∃a,al[i]?=some a∧W.cell? ⟨x.2.1,0,none⟩=some (.iface tp (.pointer (some a))):=by
 obtain ⟨ps,hv,hnd,hrows⟩:=h
 obtain ⟨al,h1,h2,h3⟩:=XnI hi hrow hp he hft hfo hs hc hcs r S ps hg hv hrows
 have hn:=List.Nodup.sublist h2 hnd
 refine ⟨al,h1,fun i j a hi' hj'=>?_,fun a ha=>?_,h3⟩
 ·obtain ⟨li,ei⟩:=List.getElem?_eq_some_iff.1 hi'
  obtain ⟨lj,ej⟩:=List.getElem?_eq_some_iff.1 hj'
  rw [List.nodup_iff_pairwise_ne] at hn
  have hp:=List.pairwise_iff_getElem.1 hn
  rcases Nat.lt_trichotomy i j with h4|h4|h4
  ·exact (hp i j (by simpa using li) (by simpa using lj) h4 (by simp [ei,ej])).elim
  ·exact h4
  ·exact (hp j i (by simpa using lj) (by simpa using li) h4 (by simp [ei,ej])).elim
 ·exact (hrows a.block a.off (h2.subset (List.mem_map.2 ⟨a,ha,rfl⟩))).1
end
theorem Xjs {W:World} (al:List Addr) (S:List (String × Nat × List UInt8)) (k:Nat) (hk:(S.drop k).map (fun x=>x.2.1)=Xpk) (h1:al.length=S.length) (h2:∀(i j:Nat) a,al[i]?=some a→al[j]?=some a→i=j) (h4:∀a∈al,∃c t,W.heap[a.block]?=some (.cells c t (0,0)))
  (h3:∀(i:Nat) x,S[i]?=some x→∃a,al[i]?=some a∧W.cell? ⟨x.2.1,0,none⟩=some (.iface XrV (.pointer (some a)))) (hlen:Xpk.length=7):∃ad,Xgr ad W∧Xfg ad:=by
 have hl:S.length=k+7∨S.length < k:=by
  have:=congrArg List.length hk
  rw [List.length_map,List.length_drop,hlen] at this
  omega
 have hl:S.length=k+7:=by
  rcases hl with hl|hl
  ·exact hl
  ·have:=congrArg List.length hk
   rw [List.length_map,List.length_drop,hlen] at this
   omega
 have hat:∀i,i < 7→al[k+i]?=some (al.getD (k+i) ⟨0,0,none⟩):=fun i hi=>by
  rw [List.getD_eq_getElem?_getD,List.getElem?_eq_getElem (by omega)];rfl
 refine ⟨fun i=>al.getD (k+i) ⟨0,0,none⟩,⟨fun i g hg=>?_,fun i hi=>?_⟩,fun i j hi hj e=>?_⟩
 ·have hi:i < 7:=by have:=(List.getElem?_eq_some_iff.1 hg).1;omega
  rw [←hk,List.getElem?_map,List.getElem?_drop] at hg
  obtain ⟨x,hx,rfl⟩:=Option.map_eq_some_iff.1 hg
  obtain ⟨a,ha,hc⟩:=h3 _ x hx
  rw [hat i hi] at ha
  cases ha
  exact hc
 ·rw [hlen] at hi
  exact h4 _ (List.mem_of_getElem? (hat i hi))
 ·have e1:=hat i hi
  have e2:=hat j hj
  simp only at e
  rw [←e] at e2
  have:=h2 _ _ _ e1 e2
  omega
end Go.Proofs.YtdlblokjfoggpaaGreatDoor

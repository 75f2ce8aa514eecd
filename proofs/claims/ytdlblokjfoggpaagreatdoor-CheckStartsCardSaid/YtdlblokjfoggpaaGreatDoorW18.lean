import Derived.Test.YtdlblokjfoggpaaGreatDoorW7
import Derived.Test.YtdlblokjfoggpaaGreatDoorW17
import Derived.Test.YtdlblokjfoggpaaGreatDoorW10
import Derived.Test.YtdlblokjfoggpaaGreatDoorW11
/- The program's patterns: a part. -/
set_option linter.unusedSimpArgs false
set_option linter.unusedVariables false
set_option maxRecDepth 100000
set_option maxHeartbeats 8000000
namespace Go.Proofs.YtdlblokjfoggpaaGreatDoor
open Go.RowKit
theorem XjV (s:List UInt8) (hs:s.length≤128):RowKit.Hid (∀(k o:Nat) (ns:List Nd) (ad:Option Addr) (cap:Nat),k≤s.length→XaM Tryz.prog 132 [] [.at_ [.x (.string (bs s)),.x (.int .i64 (k:Nat)),.x (.int .i64 (o:Nat)),.x (.slice ad ns.length cap)]] (fun r H'=>r=.x (.bool (k == s.length))∧H'=[])):=
 Lib.hid fun k o ns ad cap h=>XiS s ⟨k,o,ns⟩ ad cap hs h
theorem Xqy (pb:Nat) (s:List UInt8):RowKit.Hid (∀(k o:Nat) (ns:List Nd) (ad:Option Addr) (cap:Nat) (kd l r:Nat) (a b c:Int),a=(kd:Int)→b=(l:Int)→c=(r:Int)→ns.length≤1000→XaM Tryz.prog 160 [.box pb [.x (.string (bs s)),.x (.int .i64 (k:Nat)),.x (.int .i64 (o:Nat)),.x (.slice ad (ns).length cap)],.row ad (ns).length cap 127 7 (nda (ns))] [.x (.pointer (some ⟨pb,0,none⟩)),.x (.agg #[.int .i64 a,.int .i64 b,.int .i64 c,.int .u64 0,.int .u64 0,.int .u64 0,.int .u64 0])] (fun r' H'=>∃ad' cap',r'=.x (.int .i64 ns.length)∧H'=[.box pb [.x (.string (bs s)),.x (.int .i64 (k:Nat)),.x (.int .i64 (o:Nat)),.x (.slice ad' (ns++[(⟨kd,l,r,0⟩:Nd)]).length cap')],.row ad' (ns++[(⟨kd,l,r,0⟩:Nd)]).length cap' 127 7 (nda (ns++[(⟨kd,l,r,0⟩:Nd)]))])):=
 Lib.hid fun k o ns ad cap kd l r a b c ha hb hc h=>by
  subst ha hb hc
  have:=(Xu1 pb s).out k o ns ad cap ⟨kd,l,r,0⟩ h
  simp only [XaI] at this
  exact this
theorem Xtx (s:List UInt8) (n:Nat) (hs:s.length≤128) (ih:Xqt s n):Xqx s (n+1):=by
 intro pb p ad cap hp ho hn hf
 have hc:=ih pb p ad cap hp ho hn (by omega)
 have ha:=((XgK s n).atom p hp ho).1
 have hR:∀q,XbS n s p=q→Xbl (n+1) s p=if q.c≠0 then ⟨0,q.c,q.p⟩ else Xeh (s.length+1) s q.p q.v:=fun q hq=>by subst hq;rw [Xbl]
 generalize XbS n s p=Q at *
 have hR:=hR Q rfl
 generalize Xbl (n+1) s p=R at *
 obtain ⟨v,c,q⟩:=Q
 obtain ⟨k,o,ns⟩:=q
 obtain ⟨a1,a2,a3,a4,a5,a6⟩:=ha
 simp only at hc hR a1 a2 a3 a4 a5 a6
 have h3:=XjV s hs
 have hA:=Xqy pb s
 clear ih
 have hR:=Lib.hid hR
 refine Xbs Tryz.func177 Tryz.ntmps177 ?_
 (have wx:=@XbZ;(repeat' (first|refine Wkx.go ?_|refine XaJ ?_|refine XaG ?_|(refine XaE (fun h=>?_) (fun h=>?_)<;>first|(exact absurd h (by decide))|(exfalso;omega;done)|skip)|refine XaF ?_|refine Xai ?_|(refine Xaa rfl ?_;(first|((refine Xaj 192 Tryz.f192 [_,_] _ _ _ rfl rfl Tryz.func192 (by decide) rfl (Xvt _) (VwL.refl _ _) (hc) ?_;rintro _ _ ⟨ad,cap,rfl,rfl⟩);refine XaO ?_)|refine Xax ?_|refine Xaw ?_|refine Xav (fun ad cap=>?_)|refine Xat (fun b=>?_)|refine Xas (fun b=>?_)|refine Xau (fun b=>?_)|fail))|fail)))<;>(try clear wx)
 ·have hR:=hR.out
  rw [if_pos (by omega)] at hR
  subst hR
  refine Xab _ _ (Xcn rfl (RV.tmp _) (RV.tmp _) (Xaq.mk' [] [.box pb _,.row ad _ cap _ _ _] (Xvt _) (Xap.refl _ _) (VwL.refl _ _))) ⟨ad,cap,?_,?_⟩
  ·rfl
  ·rfl
 have hR':R=Xeh (s.length+1) s ⟨k,o,ns⟩ v:=by have hR:=hR.out;rw [if_neg (by omega)] at hR;exact hR
 clear hR
 refine XaA (S:=Nat × Nat × List Nd × Nat × Option Addr × Nat) (fun q=>frm 47 [(0,.x (.pointer (some ⟨pb,0,none⟩))),(2,.x (.int .i64 0)),(3,.x (.int .i64 0)),(4,.x (.int .i64 (q.2.1:Nat)))]) (fun q=>[.box pb [.x (.string (bs s)),.x (.int .i64 (q.1:Nat)),.x (.int .i64 (o:Nat)),.x (.slice q.2.2.2.2.1 (q.2.2.1).length q.2.2.2.2.2)],.row q.2.2.2.2.1 (q.2.2.1).length q.2.2.2.2.2 127 7 (nda (q.2.2.1))]) (fun q=>q.1≤s.length∧q.2.2.1.length≤3*q.1+1∧s.length < q.2.2.2.1+q.1∧R=Xeh q.2.2.2.1 s ⟨q.1,o,q.2.2.1⟩ q.2.1) (fun q=>s.length - q.1) (k,v,ns,s.length+1,ad,cap) (XbQ (D:=[])) ⟨a2,by simp only;omega,by simp only;omega,hR'⟩ fun q hq=>?_
 clear hR'
 obtain ⟨k,v,ns,m,ad,cap⟩:=q
 obtain ⟨b1,b2,b3,hR⟩:=hq
 simp only at b1 b2 b3 hR
 obtain ⟨m,rfl⟩:∃q,m=q+1:=⟨m - 1,by omega⟩
 rw [Xeh] at hR
 simp only [RS.add] at hR
 have hR:=Lib.hid hR
 have hq:=Xdz s k
 simp only [wfr]
 (have wx:=And.intro @Xcr @XbZ;(repeat' (first|refine Wkx.go ?_|refine XaJ ?_|refine XaG ?_|(refine XaE (fun h=>?_) (fun h=>?_)<;>first|(exact absurd h (by decide))|(exfalso;omega;done)|skip)|refine XaF ?_|refine Xai ?_ (h:=by first|exact fun _=>XeY rfl rfl Tryz.func132 (hS:=h3.out _ _ _ _ _ (by omega))|fail)|refine Xai ?_ (h:=by first|exact fun _=>Xak _ _ _ _ _ _ _ rfl rfl rfl (by kernel_rfl) Xdb.out (by omega)|fail)|refine Xai ?_|(refine Xaa rfl ?_;(first|((refine Xaj 160 Tryz.f160 [_,_] _ _ _ rfl rfl Tryz.func160 (by decide) rfl (Xvt _) (VwL.refl _ _) (hA.out _ _ ns _ _ 5 v 0 _ _ _ rfl rfl rfl (by omega)) ?_;rintro _ _ ⟨ad,cap,rfl,rfl⟩);refine XaO ?_)|((refine Xaj 160 Tryz.f160 [_,_] _ _ _ rfl rfl Tryz.func160 (by decide) rfl (Xvt _) (VwL.refl _ _) (hA.out _ _ ns _ _ 6 v 0 _ _ _ rfl rfl rfl (by omega)) ?_;rintro _ _ ⟨ad,cap,rfl,rfl⟩);refine XaO ?_)|((refine Xaj 160 Tryz.f160 [_,_] _ _ _ rfl rfl Tryz.func160 (by decide) rfl (Xvt _) (VwL.refl _ _) (hA.out _ _ ns _ _ 7 v 0 _ _ _ rfl rfl rfl (by omega)) ?_;rintro _ _ ⟨ad,cap,rfl,rfl⟩);refine XaO ?_)|refine Xax ?_|refine Xaw ?_|refine Xav (fun ad cap=>?_)|refine Xat (fun b=>?_)|refine Xas (fun b=>?_)|refine Xau (fun b=>?_)|fail))|fail)))<;>(try clear wx)
 ·have hR:=hR.out
  rw [if_neg (by omega),if_pos (by omega)] at hR
  exact ⟨(k+1,ns.length,ns++[⟨5,v,0,0⟩],m,ad,cap),by simp only;omega,⟨by simp only;omega,by simp only [XvF,List.length_singleton];omega,by simp only;omega,hR⟩,(XbQ (D:=[]))⟩
 ·have hR:=hR.out
  rw [if_neg (by omega),if_neg (by omega),if_pos (by omega)] at hR
  exact ⟨(k+1,ns.length,ns++[⟨6,v,0,0⟩],m,ad,cap),by simp only;omega,⟨by simp only;omega,by simp only [XvF,List.length_singleton];omega,by simp only;omega,hR⟩,(XbQ (D:=[]))⟩
 ·have hR:=hR.out
  rw [if_neg (by omega),if_neg (by omega),if_neg (by omega),if_pos (by omega)] at hR
  exact ⟨(k+1,ns.length,ns++[⟨7,v,0,0⟩],m,ad,cap),by simp only;omega,⟨by simp only;omega,by simp only [XvF,List.length_singleton];omega,by simp only;omega,hR⟩,(XbQ (D:=[]))⟩
 ·have hR:=hR.out
  rw [if_neg (by omega),if_neg (by omega),if_neg (by omega),if_neg (by omega)] at hR
  subst hR
  refine Xab _ _ (Xcn rfl (RV.tmp _) (RV.tmp _) (Xaq.mk' [] [.box pb _,.row ad _ cap _ _ _] (Xvt _) (Xap.refl _ _) (VwL.refl _ _))) ⟨ad,cap,?_,?_⟩
  ·rfl
  ·rfl
 ·have hR:=hR.out
  rw [if_pos (by omega)] at hR
  subst hR
  refine Xab _ _ (Xcn rfl (RV.tmp _) (RV.tmp _) (Xaq.mk' [] [.box pb _,.row ad _ cap _ _ _] (Xvt _) (Xap.refl _ _) (VwL.refl _ _))) ⟨ad,cap,?_,?_⟩
  ·rfl
  ·rfl
def lft:Option Nat→Int
 | none => -1
 | some l=>l
theorem Xuo (s:List UInt8) (n:Nat) (hs:s.length≤128) (ih:∀m,m < n→Xqx s m):Xuj s n:=by
 intro pb p ad cap hp ho hn hf
 have h3:=XjV s hs
 have hA:=Xqy pb s
 have hih:=Lib.hid ih
 clear ih
 generalize hR0:Xb4 n s p none=R
 have hR0:=Lib.hid hR0
 refine Xbs Tryz.func159 Tryz.ntmps159 ?_
 (repeat' (first|refine Wkx.go ?_|refine XaJ ?_|refine XaG ?_|(refine XaE (fun h=>?_) (fun h=>?_)<;>first|(exact absurd h (by decide))|(exfalso;omega;done)|skip)|refine XaF ?_|refine Xai ?_|(refine Xaa rfl ?_;(first|refine Xax ?_|refine Xaw ?_|refine Xav (fun ad cap=>?_)|refine Xat (fun b=>?_)|refine Xas (fun b=>?_)|refine Xau (fun b=>?_)|fail))|fail))
 refine XaA (S:=RS × Option Nat × Nat × Option Addr × Nat) (fun q=>frm 56 [(0,.x (.pointer (some ⟨pb,0,none⟩))),(2,.x (.int .i64 0)),(3,.x (.int .i64 0)),(4,.x (.int .i64 (lft q.2.1)))]) (fun q=>[.box pb [.x (.string (bs s)),.x (.int .i64 (q.1.at_:Nat)),.x (.int .i64 (q.1.opn:Nat)),.x (.slice q.2.2.2.1 (q.1.ns).length q.2.2.2.2)],.row q.2.2.2.1 (q.1.ns).length q.2.2.2.2 127 7 (nda (q.1.ns))]) (fun q=>q.1.at_≤s.length∧q.1.opn≤24∧q.1.ns.length≤3*q.1.at_+1∧(q.2.1=none→q.1.ns.length≤3*q.1.at_)∧5*(s.length - q.1.at_)+2≤q.2.2.1∧q.2.2.1≤n∧R=Xb4 q.2.2.1 s q.1 q.2.1) (fun q=>s.length - q.1.at_) (p,none,n,ad,cap) (XbQ (D:=[])) ⟨hp,ho,by simp only;omega,fun _=>hn,by simp only;omega,Nat.le_refl _,hR0.out.symm⟩ fun q hq=>?_
 clear hR0
 obtain ⟨q,left,m,ad,cap⟩:=q
 obtain ⟨b1,b2,b3,b4,b5,b6,hR⟩:=hq
 simp only at b1 b2 b3 b4 b5 b6 hR
 obtain ⟨m,rfl⟩:∃q,m=q+1:=⟨m - 1,by omega⟩
 rw [Xki] at hR
 have hc:=Lib.hid (fun h:q.at_ < s.length=>hih.out m (by omega) pb q ad cap h b2 b3 (by omega))
 have ha:=fun h:q.at_ < s.length=>(XgK s m).part q h b2
 have hq:=Xdz s q.at_
 obtain ⟨qk,qo,qns⟩:=q
 simp only at b1 b2 b3 b4 b5 hR hc ha hq
 by_cases hlt:qk < s.length
 ·obtain ⟨⟨a1,a2,a3,a4,a5,a6⟩,a7⟩:=ha hlt
  have hc:=Lib.hid (hc.out hlt)
  generalize Xbl m s ⟨qk,qo,qns⟩=Q at *
  obtain ⟨rv,rc,rp⟩:=Q
  obtain ⟨rk,ro,rns⟩:=rp
  simp only at hc hR a1 a2 a3 a4 a5 a6 a7
  have hc:=Lib.hid hc.out
  rcases left with _|l
  ·have b4:=b4 rfl
   simp only [RS.ok,RS.add] at hR
   have hR:=Lib.hid hR
   simp only [wfr]
   simp only [lft]
   (have wx:=And.intro @Xcr @XbZ;(repeat' (first|refine Wkx.go ?_|refine XaJ ?_|refine XaG ?_|(refine XaE (fun h=>?_) (fun h=>?_)<;>first|(exact absurd h (by decide))|(exfalso;omega;done)|skip)|refine XaF ?_|refine Xai ?_ (h:=by first|exact fun _=>XeY rfl rfl Tryz.func132 (hS:=h3.out _ _ _ _ _ (by omega))|fail)|refine Xai ?_ (h:=by first|exact fun _=>Xak _ _ _ _ _ _ _ rfl rfl rfl (by kernel_rfl) Xdb.out (by omega)|fail)|refine Xai ?_ (h:=by first|(intro hp;(try simp only [wgp] at hp);(try simp only [hp,wte]);(try simp only [whn] at hp);exact Xak _ _ _ _ _ _ _ rfl rfl rfl (by kernel_rfl) Xdb.out (by omega))|fail)|refine Xai ?_|(refine Xaa rfl ?_;(first|((refine Xaj 177 Tryz.f177 [_,_] _ _ _ rfl rfl Tryz.func177 (by decide) rfl (Xvt _) (VwL.refl _ _) (hc.out) ?_;rintro _ _ ⟨ad,cap,rfl,rfl⟩);refine XaO ?_)|((refine Xaj 160 Tryz.f160 [_,_] _ _ _ rfl rfl Tryz.func160 (by decide) rfl (Xvt _) (VwL.refl _ _) (hA.out _ _ qns _ _ 1 0 0 _ _ _ rfl rfl rfl (by omega)) ?_;rintro _ _ ⟨ad,cap,rfl,rfl⟩);refine XaO ?_)|refine Xax ?_|refine Xaw ?_|refine Xav (fun ad cap=>?_)|refine Xat (fun b=>?_)|refine Xas (fun b=>?_)|refine Xau (fun b=>?_)|fail))|fail)))<;>(try clear wx)
   ·have hR:=hR.out
    rw [if_pos ⟨by omega,by omega,by omega⟩,if_pos (by omega)] at hR
    subst hR
    refine Xab _ _ (Xcn rfl (RV.tmp _) (RV.tmp _) (Xaq.mk' [] [.box pb _,.row ad _ cap _ _ _] (Xvt _) (Xap.refl _ _) (VwL.refl _ _))) ⟨ad,cap,?_,?_⟩
    ·rfl
    ·rfl
   ·have hR:=hR.out
    rw [if_pos ⟨by omega,by omega,by omega⟩,if_neg (by omega)] at hR
    exact ⟨(⟨rk,ro,rns⟩,some rv,m,ad,cap),by simp only [RS.add];omega,⟨by simp only [RS.add];omega,by simp only [RS.add];omega,by simp only [RS.add,XvF,List.length_singleton];omega,fun h=>(by simp at h),by simp only [RS.add];omega,by simp only;omega,hR⟩,(XbQ (D:=[]))⟩
   ·have hR:=hR.out
    rw [if_neg (fun h=>by omega)] at hR
    subst hR
    refine Xab _ _ (Xcn rfl (RV.tmp _) (RV.tmp _) (Xaq.mk' [] [.box pb _,.row ad _ cap _ _ _] (Xvt _) (Xap.refl _ _) (VwL.refl _ _))) ⟨ad,cap,?_,?_⟩
    ·rfl
    ·rfl
  ·clear b4
   simp only [RS.ok,RS.add] at hR
   have hR:=Lib.hid hR
   simp only [wfr]
   simp only [lft]
   (have wx:=And.intro @Xcr @XbZ;(repeat' (first|refine Wkx.go ?_|refine XaJ ?_|refine XaG ?_|(refine XaE (fun h=>?_) (fun h=>?_)<;>first|(exact absurd h (by decide))|(exfalso;omega;done)|skip)|refine XaF ?_|refine Xai ?_ (h:=by first|exact fun _=>XeY rfl rfl Tryz.func132 (hS:=h3.out _ _ _ _ _ (by omega))|fail)|refine Xai ?_ (h:=by first|exact fun _=>Xak _ _ _ _ _ _ _ rfl rfl rfl (by kernel_rfl) Xdb.out (by omega)|fail)|refine Xai ?_ (h:=by first|(intro hp;(try simp only [wgp] at hp);(try simp only [hp,wte]);(try simp only [whn] at hp);exact Xak _ _ _ _ _ _ _ rfl rfl rfl (by kernel_rfl) Xdb.out (by omega))|fail)|refine Xai ?_|(refine Xaa rfl ?_;(first|((refine Xaj 177 Tryz.f177 [_,_] _ _ _ rfl rfl Tryz.func177 (by decide) rfl (Xvt _) (VwL.refl _ _) (hc.out) ?_;rintro _ _ ⟨ad,cap,rfl,rfl⟩);refine XaO ?_)|((refine Xaj 160 Tryz.f160 [_,_] _ _ _ rfl rfl Tryz.func160 (by decide) rfl (Xvt _) (VwL.refl _ _) (hA.out _ _ rns _ _ 3 l rv _ _ _ rfl rfl rfl (by omega)) ?_;rintro _ _ ⟨ad,cap,rfl,rfl⟩);refine XaO ?_)|refine Xax ?_|refine Xaw ?_|refine Xav (fun ad cap=>?_)|refine Xat (fun b=>?_)|refine Xas (fun b=>?_)|refine Xau (fun b=>?_)|fail))|fail)))<;>(try clear wx)
   ·have hR:=hR.out
    rw [if_pos ⟨by omega,by omega,by omega⟩,if_pos (by omega)] at hR
    subst hR
    refine Xab _ _ (Xcn rfl (RV.tmp _) (RV.tmp _) (Xaq.mk' [] [.box pb _,.row ad _ cap _ _ _] (Xvt _) (Xap.refl _ _) (VwL.refl _ _))) ⟨ad,cap,?_,?_⟩
    ·rfl
    ·rfl
   ·have hR:=hR.out
    rw [if_pos ⟨by omega,by omega,by omega⟩,if_neg (by omega)] at hR
    exact ⟨(⟨rk,ro,rns++[⟨3,l,rv,0⟩]⟩,some rns.length,m,ad,cap),by simp only [RS.add];omega,⟨by simp only [RS.add];omega,by simp only [RS.add];omega,by simp only [RS.add,XvF,List.length_singleton];omega,fun h=>(by simp at h),by simp only [RS.add];omega,by simp only;omega,hR⟩,(XbQ (D:=[]))⟩
   ·have hR:=hR.out
    rw [if_neg (fun h=>by omega)] at hR
    subst hR
    refine Xab _ _ (Xcn rfl (RV.tmp _) (RV.tmp _) (Xaq.mk' [] [.box pb _,.row ad _ cap _ _ _] (Xvt _) (Xap.refl _ _) (VwL.refl _ _))) ⟨ad,cap,?_,?_⟩
    ·rfl
    ·rfl
 ·clear hc ha
  rcases left with _|l
  ·have b4:=b4 rfl
   simp only [RS.ok,RS.add] at hR
   have hR:=Lib.hid hR
   simp only [wfr]
   simp only [lft]
   (have wx:=And.intro @Xcr @XbZ;(repeat' (first|refine Wkx.go ?_|refine XaJ ?_|refine XaG ?_|(refine XaE (fun h=>?_) (fun h=>?_)<;>first|(exact absurd h (by decide))|(exfalso;omega;done)|skip)|refine XaF ?_|refine Xai ?_ (h:=by first|exact fun _=>XeY rfl rfl Tryz.func132 (hS:=h3.out _ _ _ _ _ (by omega))|fail)|refine Xai ?_ (h:=by first|exact fun _=>Xak _ _ _ _ _ _ _ rfl rfl rfl (by kernel_rfl) Xdb.out (by omega)|fail)|refine Xai ?_ (h:=by first|(intro hp;(try simp only [wgp] at hp);(try simp only [hp,wte]);(try simp only [whn] at hp);exact Xak _ _ _ _ _ _ _ rfl rfl rfl (by kernel_rfl) Xdb.out (by omega))|fail)|refine Xai ?_|(refine Xaa rfl ?_;(first|((refine Xaj 160 Tryz.f160 [_,_] _ _ _ rfl rfl Tryz.func160 (by decide) rfl (Xvt _) (VwL.refl _ _) (hA.out _ _ qns _ _ 1 0 0 _ _ _ rfl rfl rfl (by omega)) ?_;rintro _ _ ⟨ad,cap,rfl,rfl⟩);refine XaO ?_)|refine Xax ?_|refine Xaw ?_|refine Xav (fun ad cap=>?_)|refine Xat (fun b=>?_)|refine Xas (fun b=>?_)|refine Xau (fun b=>?_)|fail))|fail)))<;>(try clear wx)
   ·have hR:=hR.out
    rw [if_neg (fun h=>by omega)] at hR
    subst hR
    refine Xab _ _ (Xcn rfl (RV.tmp _) (RV.tmp _) (Xaq.mk' [] [.box pb _,.row ad _ cap _ _ _] (Xvt _) (Xap.refl _ _) (VwL.refl _ _))) ⟨ad,cap,?_,?_⟩
    ·rfl
    ·rfl
  ·clear b4
   simp only [RS.ok,RS.add] at hR
   have hR:=Lib.hid hR
   simp only [wfr]
   simp only [lft]
   (have wx:=And.intro @Xcr @XbZ;(repeat' (first|refine Wkx.go ?_|refine XaJ ?_|refine XaG ?_|(refine XaE (fun h=>?_) (fun h=>?_)<;>first|(exact absurd h (by decide))|(exfalso;omega;done)|skip)|refine XaF ?_|refine Xai ?_ (h:=by first|exact fun _=>XeY rfl rfl Tryz.func132 (hS:=h3.out _ _ _ _ _ (by omega))|fail)|refine Xai ?_ (h:=by first|exact fun _=>Xak _ _ _ _ _ _ _ rfl rfl rfl (by kernel_rfl) Xdb.out (by omega)|fail)|refine Xai ?_ (h:=by first|(intro hp;(try simp only [wgp] at hp);(try simp only [hp,wte]);(try simp only [whn] at hp);exact Xak _ _ _ _ _ _ _ rfl rfl rfl (by kernel_rfl) Xdb.out (by omega))|fail)|refine Xai ?_|(refine Xaa rfl ?_;(first|refine Xax ?_|refine Xaw ?_|refine Xav (fun ad cap=>?_)|refine Xat (fun b=>?_)|refine Xas (fun b=>?_)|refine Xau (fun b=>?_)|fail))|fail)))<;>(try clear wx)
   ·have hR:=hR.out
    rw [if_neg (fun h=>by omega)] at hR
    subst hR
    refine Xab _ _ (Xcn rfl (RV.tmp _) (RV.tmp _) (Xaq.mk' [] [.box pb _,.row ad _ cap _ _ _] (Xvt _) (Xap.refl _ _) (VwL.refl _ _))) ⟨ad,cap,?_,?_⟩
    ·rfl
    ·rfl
theorem Xsz (s:List UInt8) (n:Nat) (hs:s.length≤128) (ih:Xt2 s n):Xqt s (n+1):=by
 intro pb p ad cap hp ho hn hf
 rw [XnB]
 have hg:=Xq5 s n hs ih pb p ad cap hp ho hn hf
 have hcl:=XqN pb s { p with at_:=p.at_+1 } ad cap hs (by simp only;omega)
 have hes:=XsU pb s p ad cap hs hp
 have hA:=Xu1 pb s
 have hq:=Xdz s p.at_
 unfold pcx at hcl hes
 simp only at hcl
 generalize Xda n s p=G at *
 clear ih
 refine Xbs Tryz.func192 Tryz.ntmps192 ?_
 (have wx:=And.intro @Xcr (And.intro @Xdt (And.intro @Xgc (And.intro @w4r (And.intro @Xgm (And.intro @Xho @XbZ)))));(repeat' (first|refine Wkx.go ?_|refine XaJ ?_|refine XaG ?_|(refine XaE (fun h=>?_) (fun h=>?_)<;>first|(exact absurd h (by decide))|(exfalso;omega;done)|skip)|refine XaF ?_|refine Xai ?_ (h:=by first|exact fun _=>Xb3 rfl rfl Tryz.func201 (Xb9 10 10 (by decide) (by decide))|fail)|refine Xai ?_ (h:=by first|exact fun _=>Xb3 rfl rfl Tryz.func201 (Xb9 _ _ hq hq)|fail)|refine Xai ?_ (h:=by first|exact fun _=>Xb3 rfl rfl Tryz.func200 (Xhe _)|fail)|refine Xai ?_ (h:=by first|exact fun _=>Xak _ _ _ _ _ _ _ rfl rfl rfl (by kernel_rfl) Xdb.out (by omega)|fail)|refine Xai ?_|(refine Xaa rfl ?_;(first|((refine Xaj 197 Tryz.f197 [_,_] _ _ _ rfl rfl Tryz.func197 (by decide) rfl (Xvt _) (VwL.refl _ _) (hg) ?_;rintro _ _ ⟨ad,cap,rfl,rfl⟩);refine XaO ?_)|((refine Xa5 Tryz.func198 [_] rfl rfl (.refl _) (hcl) ?_;rintro _ _ ⟨rfl,rfl⟩);refine XaO ?_)|((refine Xa5 Tryz.func198 [_] rfl rfl (XvG (l₁:=[_])) (hcl) ?_;rintro _ _ ⟨rfl,rfl⟩);refine XaO ?_)|((refine Xa5 Tryz.func199 [_] rfl rfl (.refl _) (hes) ?_;rintro _ _ ⟨rfl,rfl⟩);refine XaO ?_)|((refine Xa5 Tryz.func199 [_] rfl rfl (XvG (l₁:=[_])) (hes) ?_;rintro _ _ ⟨rfl,rfl⟩);refine XaO ?_)|((refine Xaj 160 Tryz.f160 [_,_] _ _ _ rfl rfl Tryz.func160 (by decide) rfl (List.perm_append_comm (l₁:=[_]) (l₂:=[_,_])) (VwL.refl _ _) (hA.out _ _ _ _ _ ⟨2,0,0,(XbU s (p.at_+1)).1⟩ (by omega)) ?_;rintro _ _ ⟨ad,cap,rfl,rfl⟩);refine XaO ?_)|((refine Xaj 160 Tryz.f160 [_,_] _ _ _ rfl rfl Tryz.func160 (by decide) rfl (List.perm_append_comm (l₁:=[_]) (l₂:=[_,_])) (VwL.refl _ _) (hA.out _ _ _ _ _ ⟨2,0,0,(XcS s p.at_).2.1⟩ (by omega)) ?_;rintro _ _ ⟨ad,cap,rfl,rfl⟩);refine XaO ?_)|((refine Xaj 160 Tryz.f160 [_,_] _ _ _ rfl rfl Tryz.func160 (by decide) rfl (Xvt _) (VwL.refl _ _) (hA.out _ _ _ _ _ ⟨8,0,0,0⟩ (by omega)) ?_;rintro _ _ ⟨ad,cap,rfl,rfl⟩);refine XaO ?_)|((refine Xaj 160 Tryz.f160 [_,_] _ _ _ rfl rfl Tryz.func160 (by decide) rfl (Xvt _) (VwL.refl _ _) (hA.out _ _ _ _ _ ⟨9,0,0,0⟩ (by omega)) ?_;rintro _ _ ⟨ad,cap,rfl,rfl⟩);refine XaO ?_)|((refine Xaj 160 Tryz.f160 [_,_] _ _ _ rfl rfl Tryz.func160 (by decide) rfl (Xvt _) (VwL.refl _ _) (hA.out _ _ _ _ _ ⟨2,0,0,XhL (XcK 10 10)⟩ (by omega)) ?_;rintro _ _ ⟨ad,cap,rfl,rfl⟩);refine XaO ?_)|((refine Xaj 160 Tryz.f160 [_,_] _ _ _ rfl rfl Tryz.func160 (by decide) rfl (Xvt _) (VwL.refl _ _) (hA.out _ _ _ _ _ ⟨2,0,0,XcK (chr s p.at_) (chr s p.at_)⟩ (by omega)) ?_;rintro _ _ ⟨ad,cap,rfl,rfl⟩);refine XaO ?_)|refine Xax ?_|refine Xaw ?_|refine Xav (fun ad cap=>?_)|refine Xat (fun b=>?_)|refine Xas (fun b=>?_)|refine Xau (fun b=>?_)|fail))|fail)))<;>(try clear wx)
 all_goals
  first|refine Xab _ _ (Xcn rfl (RV.tmp _) (RV.tmp _) (Xaq.mk' [] [.box pb _,.row ad _ cap _ _ _] (Xvt _) (Xap.refl _ _) (VwL.refl _ _))) ⟨ad,cap,?_,?_⟩|refine Xab _ _ (Xcn rfl (RV.tmp _) (RV.tmp _) (Xaq.mk' [_] [.box pb _,.row ad _ cap _ _ _] (Xvt _) (Xap.refl _ _) (VwL.refl _ _))) ⟨ad,cap,?_,?_⟩|refine Xab _ _ (Xcn rfl (RV.tmp _) (RV.tmp _) (Xaq.mk' [_] [.box pb _,.row ad _ cap _ _ _] (List.perm_append_comm (l₁:=[_,_]) (l₂:=[_])) (Xap.refl _ _) (VwL.refl _ _))) ⟨ad,cap,?_,?_⟩
  all_goals ((repeat' split)<;>first|rfl|(rw [Xci];rfl)|(exfalso;omega)|(exfalso;simp_all;done))
theorem Xph (n:Nat) (s:List UInt8) (r:RxR):Xfa (n+1) s r =
  if r.c=0∧r.p.at_≠s.length∧chr s r.p.at_=124 then
   Xfa n s (if (Xb4 n s { r.p with at_:=r.p.at_+1 } none).c=0 then ((Xb4 n s { r.p with at_:=r.p.at_+1 } none).p.ok { kind:=4,left:=r.v,right:=(Xb4 n s { r.p with at_:=r.p.at_+1 } none).v }) else ⟨r.v,(Xb4 n s { r.p with at_:=r.p.at_+1 } none).c,(Xb4 n s { r.p with at_:=r.p.at_+1 } none).p⟩)
  else r:=by
 rw [Xfa]
theorem XuM (s:List UInt8) (n:Nat) (hs:s.length≤128) (ih:∀m,m < n→Xuj s m):Xt2 s n:=by
 intro pb p ad cap hp ho hn hf
 obtain ⟨n,rfl⟩:∃q,n=q+1:=⟨n - 1,by omega⟩
 have hc:=ih n (by omega) pb p ad cap hp ho hn (by omega)
 have ha:=(XgK s n).alt p none hp ho
 have hR0:rxPat (n+1) s p=Xfa n s (Xb4 n s p none):=by rw [rxPat]
 generalize rxPat (n+1) s p=R at *
 generalize Xb4 n s p none=Q at *
 obtain ⟨v,c,q⟩:=Q
 obtain ⟨k,o,ns⟩:=q
 obtain ⟨a1,a2,a3,a4,a5,a6⟩:=ha
 simp only [if_true] at hc hR0 a1 a2 a3 a4 a5 a6
 have h3:=XjV s hs
 have hA:=Xqy pb s
 have hih:=Lib.hid ih
 clear ih
 have hR0:=Lib.hid hR0
 refine Xbs Tryz.func131 Tryz.ntmps131 ?_
 (have wx:=@XbZ;(repeat' (first|refine Wkx.go ?_|refine XaJ ?_|refine XaG ?_|(refine XaE (fun h=>?_) (fun h=>?_)<;>first|(exact absurd h (by decide))|(exfalso;omega;done)|skip)|refine XaF ?_|refine Xai ?_|(refine Xaa rfl ?_;(first|((refine Xaj 159 Tryz.f159 [_,_] _ _ _ rfl rfl Tryz.func159 (by decide) rfl (Xvt _) (VwL.refl _ _) (hc) ?_;rintro _ _ ⟨ad,cap,rfl,rfl⟩);refine XaO ?_)|refine Xax ?_|refine Xaw ?_|refine Xav (fun ad cap=>?_)|refine Xat (fun b=>?_)|refine Xas (fun b=>?_)|refine Xau (fun b=>?_)|fail))|fail)))<;>(try clear wx)
 refine XaA (S:=RxR × Nat × Option Addr × Nat) (fun q=>frm 52 [(0,.x (.pointer (some ⟨pb,0,none⟩))),(2,.x (.int .i64 0)),(3,.x (.int .i64 0)),(4,.x (.int .i64 (q.1.v:Nat))),(5,.x (.int .i64 (q.1.c:Nat)))]) (fun q=>[.box pb [.x (.string (bs s)),.x (.int .i64 (q.1.p.at_:Nat)),.x (.int .i64 (q.1.p.opn:Nat)),.x (.slice q.2.2.1 (q.1.p.ns).length q.2.2.2)],.row q.2.2.1 (q.1.p.ns).length q.2.2.2 127 7 (nda (q.1.p.ns))]) (fun q=>q.1.p.at_≤s.length∧q.1.p.opn≤24∧q.1.p.ns.length≤3*q.1.p.at_+1∧5*(s.length - q.1.p.at_)+2≤q.2.1∧q.2.1≤n∧R=Xfa q.2.1 s q.1) (fun q=>s.length - q.1.p.at_) (⟨v,c,⟨k,o,ns⟩⟩,n,ad,cap) (XbQ (D:=[])) ⟨a2,a3,by simp only;omega,by simp only;omega,Nat.le_refl _,hR0.out⟩ fun q hq=>?_
 clear hR0
 obtain ⟨r,m,ad,cap⟩:=q
 obtain ⟨b1,b2,b3,b5,b6,hR⟩:=hq
 obtain ⟨rv,rc,rp⟩:=r
 obtain ⟨rk,ro,rns⟩:=rp
 simp only at b1 b2 b3 b5 b6 hR
 obtain ⟨m,rfl⟩:∃q,m=q+1:=⟨m - 1,by omega⟩
 rw [Xph] at hR
 simp only [RS.ok,RS.add] at hR
 have hc:=Lib.hid (fun h:rk+1≤s.length=>hih.out m (by omega) pb ⟨rk+1,ro,rns⟩ ad cap h b2 (by simp only;omega) (by simp only;omega))
 have ha:=fun h:rk+1≤s.length=>(XgK s m).alt ⟨rk+1,ro,rns⟩ none h b2
 have hq:=Xdz s rk
 by_cases hlt:rk < s.length
 ·obtain ⟨a1,a2,a3,a4,a5,a6⟩:=ha hlt
  have hc:=Lib.hid (hc.out hlt)
  generalize Xb4 m s ⟨rk+1,ro,rns⟩ none=Q at *
  obtain ⟨qv,qc,qp⟩:=Q
  obtain ⟨qk,qo,qns⟩:=qp
  simp only [if_true] at hc hR a1 a2 a3 a4 a5 a6
  have hc:=Lib.hid hc.out
  have hR:=Lib.hid hR
  simp only [wfr]
  (have wx:=And.intro @Xcr @XbZ;(repeat' (first|refine Wkx.go ?_|refine XaJ ?_|refine XaG ?_|(refine XaE (fun h=>?_) (fun h=>?_)<;>first|(exact absurd h (by decide))|(exfalso;omega;done)|skip)|refine XaF ?_|refine Xai ?_ (h:=by first|exact fun _=>XeY rfl rfl Tryz.func132 (hS:=h3.out _ _ _ _ _ (by omega))|fail)|refine Xai ?_ (h:=by first|(intro hp;(try simp only [wgp] at hp);(try simp only [hp,wte]);(try simp only [whn] at hp);exact XeY rfl rfl Tryz.func132 (hS:=h3.out _ _ _ _ _ (by omega)))|fail)|refine Xai ?_ (h:=by first|exact fun _=>Xak _ _ _ _ _ _ _ rfl rfl rfl (by kernel_rfl) Xdb.out (by omega)|fail)|refine Xai ?_ (h:=by first|(intro hp;(try simp only [wgp] at hp);(try simp only [hp,wte]);(try simp only [whn] at hp);exact Xak _ _ _ _ _ _ _ rfl rfl rfl (by kernel_rfl) Xdb.out (by omega))|fail)|refine Xai ?_|(refine Xaa rfl ?_;(first|((refine Xaj 159 Tryz.f159 [_,_] _ _ _ rfl rfl Tryz.func159 (by decide) rfl (Xvt _) (VwL.refl _ _) (hc.out) ?_;rintro _ _ ⟨ad,cap,rfl,rfl⟩);refine XaO ?_)|((refine Xaj 160 Tryz.f160 [_,_] _ _ _ rfl rfl Tryz.func160 (by decide) rfl (Xvt _) (VwL.refl _ _) (hA.out _ _ qns _ _ 4 rv qv _ _ _ rfl rfl rfl (by omega)) ?_;rintro _ _ ⟨ad,cap,rfl,rfl⟩);refine XaO ?_)|refine Xax ?_|refine Xaw ?_|refine Xav (fun ad cap=>?_)|refine Xat (fun b=>?_)|refine Xas (fun b=>?_)|refine Xau (fun b=>?_)|fail))|fail)))<;>(try clear wx)
  ·obtain rfl:qc=0:=by omega
   have hR2:=hR.out
   rw [if_pos ⟨by omega,by omega,by omega⟩,if_pos rfl] at hR2
   exact ⟨(⟨qns.length,0,⟨qk,qo,qns++[⟨4,rv,qv,0⟩]⟩⟩,m,ad,cap),by simp only;omega,⟨a2,a3,by simp only [XvF,List.length_singleton];omega,by simp only;omega,by simp only;omega,hR2⟩,(XbQ (D:=[]))⟩
  ·have hR:=hR.out
   rw [if_pos ⟨by omega,by omega,by omega⟩,if_neg (by omega)] at hR
   exact ⟨(⟨rv,qc,⟨qk,qo,qns⟩⟩,m,ad,cap),by simp only;omega,⟨a2,a3,by simp only;omega,by simp only;omega,by simp only;omega,hR⟩,(XbQ (D:=[]))⟩
  ·have hR:=hR.out
   rw [if_neg (fun h=>by omega)] at hR
   subst hR
   refine Xab _ _ (Xcn rfl (RV.tmp _) (RV.tmp _) (Xaq.mk' [] [.box pb _,.row ad _ cap _ _ _] (Xvt _) (Xap.refl _ _) (VwL.refl _ _))) ⟨ad,cap,?_,?_⟩
   ·rfl
   ·rfl
 ·clear hc ha
  have hR:=Lib.hid hR
  simp only [wfr]
  (have wx:=And.intro @Xcr @XbZ;(repeat' (first|refine Wkx.go ?_|refine XaJ ?_|refine XaG ?_|(refine XaE (fun h=>?_) (fun h=>?_)<;>first|(exact absurd h (by decide))|(exfalso;omega;done)|skip)|refine XaF ?_|refine Xai ?_ (h:=by first|exact fun _=>XeY rfl rfl Tryz.func132 (hS:=h3.out _ _ _ _ _ (by omega))|fail)|refine Xai ?_ (h:=by first|(intro hp;(try simp only [wgp] at hp);(try simp only [hp,wte]);(try simp only [whn] at hp);exact XeY rfl rfl Tryz.func132 (hS:=h3.out _ _ _ _ _ (by omega)))|fail)|refine Xai ?_ (h:=by first|exact fun _=>Xak _ _ _ _ _ _ _ rfl rfl rfl (by kernel_rfl) Xdb.out (by omega)|fail)|refine Xai ?_ (h:=by first|(intro hp;(try simp only [wgp] at hp);(try simp only [hp,wte]);(try simp only [whn] at hp);exact Xak _ _ _ _ _ _ _ rfl rfl rfl (by kernel_rfl) Xdb.out (by omega))|fail)|refine Xai ?_|(refine Xaa rfl ?_;(first|refine Xax ?_|refine Xaw ?_|refine Xav (fun ad cap=>?_)|refine Xat (fun b=>?_)|refine Xas (fun b=>?_)|refine Xau (fun b=>?_)|fail))|fail)))<;>(try clear wx)
  have hR:=hR.out
  rw [if_neg (fun h=>by omega)] at hR
  subst hR
  refine Xab _ _ (Xcn rfl (RV.tmp _) (RV.tmp _) (Xaq.mk' [] [.box pb _,.row ad _ cap _ _ _] (Xvt _) (Xap.refl _ _) (VwL.refl _ _))) ⟨ad,cap,?_,?_⟩
  ·rfl
  ·rfl
theorem XtC (s:List UInt8) (hs:s.length≤128):∀N n,n≤N→Xt2 s n∧Xuj s n∧Xqx s n∧Xqt s n:=by
 intro N
 induction N with
 | zero=>
   intro n hn
   obtain rfl:n=0:=by omega
   exact ⟨fun pb p ad cap h1 h2 h3 h4=>by omega,fun pb p ad cap h1 h2 h3 h4=>by omega,fun pb p ad cap h1 h2 h3 h4=>by omega,fun pb p ad cap h1 h2 h3 h4=>by omega⟩
 | succ N ih=>
   intro n hn
   by_cases h:n≤N
   ·exact ih n h
   obtain rfl:n=N+1:=by omega
   exact ⟨XuM s _ hs fun m hm=>(ih m (by omega)).2.1,Xuo s _ hs fun m hm=>(ih m (by omega)).2.2.1,Xtx s N hs (ih N (Nat.le_refl _)).2.2.2,Xsz s N hs (ih N (Nat.le_refl _)).1⟩
def XrT (s:List UInt8):AV:=match XdM s with
 | .error c=>.tup [.x (.slice none 0 0),.x (.int .i64 (c:Nat))]
 | .ok l=>.tup [.sq l.length (nda l),.x (.int .i64 0)]
theorem Xlg (s:List UInt8) (hl:s.length≤100000000) (hs:128 < s.length):XaM Tryz.prog 112 [] [.x (.string (bs s))] (fun r H'=>r=.tup [.x (.slice none 0 0),.x (.int .i64 ((1:Nat):Int))]∧H'=[]):=by
 refine Xbs Tryz.func112 Tryz.ntmps112 ?_
 (repeat' (first|refine Wkx.go ?_|refine XaJ ?_|refine XaG ?_|(refine XaE (fun h=>?_) (fun h=>?_)<;>first|(exact absurd h (by decide))|(exfalso;omega;done)|skip)|refine XaF ?_|refine Xai ?_|(refine Xaa rfl ?_;(first|refine Xax ?_|refine Xaw ?_|refine Xav (fun ad cap=>?_)|refine Xat (fun b=>?_)|refine Xas (fun b=>?_)|refine Xau (fun b=>?_)|fail))|fail))
 refine Xab _ _ (Xcn rfl (RV.tmp _) (RV.tmp _) (Xaq.mk' [] [] (Xvt _) Xap.nil (VwL.refl _ _))) ⟨rfl,rfl⟩
theorem Xjd (s:List UInt8) (hs:s.length≤128):XaM Tryz.prog 112 [] [.x (.string (bs s))] (fun r H'=>r=(match (if (rxPat (5*s.length+5) s ⟨0,0,[]⟩).c≠0 then .error (rxPat (5*s.length+5) s ⟨0,0,[]⟩).c else if (rxPat (5*s.length+5) s ⟨0,0,[]⟩).p.at_≠s.length then .error 83 else if 256 < (rxPat (5*s.length+5) s ⟨0,0,[]⟩).p.ns.length then .error 1 else .ok (rxPat (5*s.length+5) s ⟨0,0,[]⟩).p.ns:Except Nat (List Nd)) with
  | .error c=>.tup [.x (.slice none 0 0),.x (.int .i64 (c:Nat))]
  | .ok l=>.tup [.sq l.length (nda l),.x (.int .i64 0)])∧H'=[]):=by
 have hP:=fun pb=>(XtC s hs _ (5*s.length+5) (Nat.le_refl _)).1 pb ⟨0,0,[]⟩ none 0 (Nat.zero_le _) (by decide) (by decide) (by simp only;omega)
 have ha:=(XgK s (5*s.length+5)).pat ⟨0,0,[]⟩ (Nat.zero_le _) (by decide)
 generalize rxPat (5*s.length+5) s ⟨0,0,[]⟩=Q at *
 obtain ⟨v,c,q⟩:=Q
 obtain ⟨k,o,ns⟩:=q
 obtain ⟨a1,a2,a3,a4,a5,a6⟩:=ha
 simp only at hP a1 a2 a3 a4 a5 a6 ⊢
 have h3:=XjV s hs
 have hP:=Lib.hid hP
 refine Xbs Tryz.func112 Tryz.ntmps112 ?_
 refine Xa7 127 7 ?_
 (repeat' (first|refine Wkx.go ?_|refine XaJ ?_|refine XaG ?_|(refine XaE (fun h=>?_) (fun h=>?_)<;>first|(exact absurd h (by decide))|(exfalso;omega;done)|skip)|refine XaF ?_|refine Xai ?_ (h:=by first|exact fun _=>XeY rfl rfl Tryz.func132 (hS:=h3.out _ _ _ _ _ (by omega))|fail)|refine Xai ?_|(refine Xaa rfl ?_;(first|((refine Xaj 131 Tryz.f131 [_,_] _ _ _ rfl rfl Tryz.func131 (by decide) rfl (Xvt _) (VwL.refl _ _) (hP.out _) ?_;rintro _ _ ⟨ad,cap,rfl,rfl⟩);refine XaO ?_)|refine Xax ?_|refine Xaw ?_|refine Xav (fun ad cap=>?_)|refine Xat (fun b=>?_)|refine Xas (fun b=>?_)|refine Xau (fun b=>?_)|fail))|fail))
 ·refine Xab _ _ (Xcn rfl (RV.tmp _) (RV.tmp _) (Xaq.mk' [_,_] [] (Xvt _) Xap.nil (VwL.refl _ _))) ⟨?_,rfl⟩
  rw [if_pos (by omega)];rfl
 ·refine Xab _ _ (Xcn rfl (RV.tmp _) (RV.tmp _) (Xaq.mk' [_,_] [] (Xvt _) Xap.nil (VwL.refl _ _))) ⟨?_,rfl⟩
  rw [if_neg (by omega),if_pos (by omega)];rfl
 ·refine Xab _ _ (Xcn rfl (RV.tmp _) (RV.tmp _) (Xaq.mk' [_,_] [] (Xvt _) Xap.nil (VwL.refl _ _))) ⟨?_,rfl⟩
  rw [if_neg (by omega),if_neg (by omega),if_pos (by omega)];rfl
 ·refine Xab _ _ (Xcn rfl (RV.tmp _) (RV.tmp _) (Xaq.mk' [_,_] [] (Xvt _) Xap.nil (VwL.cons (Vw.row (List.Mem.tail _ (List.Mem.head _)) (VwL.refl _ _)) (VwL.refl _ _)))) ⟨?_,rfl⟩
  rw [if_neg (by omega),if_neg (by omega),if_neg (by omega)];rfl
theorem XrN (s:List UInt8) (hl:s.length≤100000000):XaM Tryz.prog 112 [] [.x (.string (bs s))] (fun r H'=>r=XrT s∧H'=[]):=by
 unfold XrT XdM
 by_cases hs:128 < s.length
 ·rw [if_pos hs]
  simp only
  exact Xlg s hl hs
 rw [if_neg hs]
 simp only
 exact Xjd s (by omega)
theorem XcB (l:List Nd) (k:Nat) (h:k < l.length):(nda l).drop (k*7)=l[k].cells++nda (l.drop (k+1)):=by
 induction l generalizing k with
 | nil=>simp at h
 | cons a l ih=>
   have e:nda (a :: l)=a.cells++nda l:=by simp [nda]
   cases k with
   | zero=>simp [e]
   | succ k=>
     rw [e,show (k+1)*7=a.cells.length+k*7 by simp [Nd.cells];omega,List.drop_append]
     simp only [XvF,Nat.add_sub_cancel_left]
     rw [List.drop_eq_nil_of_le (by omega),XvD,ih k (by simpa using h)]
     simp
theorem Xsu (bb:Nat) (l:List Nd) (ss:List Sx) (ad:Option Addr) (cap:Nat) (n:Sx) (hn:ss.length≤1000):XaM Tryz.prog 22 [.box bb [.sq l.length (nda l),.x (.slice ad (ss).length cap)],.row ad (ss).length cap 76 7 (sxa (ss))] [.x (.pointer (some ⟨bb,0,none⟩)),.x n.val] (fun r H'=>∃g cap',r=.x (.int .i64 ss.length)∧H'=[.box bb [.sq l.length (nda l),.x (.slice (some ⟨g,0,none⟩) (ss++[n]).length cap')],.row (some ⟨g,0,none⟩) (ss++[n]).length cap' 76 7 (sxa (ss++[n]))]):=by
 unfold Sx.val
 refine Xbs Tryz.func22 Tryz.ntmps22 ?_
 (repeat' (first|refine Wkx.go ?_|refine XaG ?_|(refine XaE (fun h=>?_) (fun h=>?_)<;>first|(exact absurd h (by decide))|(exfalso;omega;done)|skip)|refine XaF ?_|refine Xai ?_|(refine Xaa rfl ?_;(first|refine Xax ?_|refine Xaw ?_|refine Xav (fun ad cap=>?_)|refine Xat (fun b=>?_)|refine Xas (fun b=>?_)|refine Xau (fun b=>?_)|fail))|fail))
 refine XaP mixed [10] [_,_] [_] (Xvt _) ?_
 ((first|refine Xbj 0 ?_|refine Xbt 0 ?_);(first|refine Xbj 1 ?_|refine Xbt 1 ?_);(first|refine Xbj 2 ?_|refine Xbt 2 ?_);(first|refine Xbj 3 ?_|refine Xbt 3 ?_);(first|refine Xbj 4 ?_|refine Xbt 4 ?_);(first|refine Xbj 5 ?_|refine Xbt 5 ?_))
 (refine Xdd 6 ?_;(first|refine Xcb ?_|refine Xax ?_|refine Xaw ?_|refine Xav (fun ad cap=>?_)|refine Xat (fun b=>?_)|refine Xas (fun b=>?_)|refine Xau (fun b=>?_)|fail))
 (refine Xdd 7 ?_;(first|refine Xcb ?_|refine Xax ?_|refine Xaw ?_|refine Xav (fun ad cap=>?_)|refine Xat (fun b=>?_)|refine Xas (fun b=>?_)|refine Xau (fun b=>?_)|fail))
 (repeat ((first|refine Xdd 8 ?_|refine Xdd 9 ?_);(first|refine Xcb ?_|refine Xax ?_|refine Xaw ?_|refine Xav (fun ad cap=>?_)|refine Xat (fun b=>?_)|refine Xas (fun b=>?_)|refine Xau (fun b=>?_)|fail)))
 refine XaV (by decide +kernel) ?_
 refine Xag rfl (by simp only [XvE,XvD];rfl) ?_
 (refine Xdn 10 ?_;(first|refine Xcb ?_|refine Xax ?_|refine Xaw ?_|refine Xav (fun ad cap=>?_)|refine Xat (fun b=>?_)|refine Xas (fun b=>?_)|refine Xau (fun b=>?_)|fail))
 refine Xar (by decide +kernel) ?_
 refine XdG 3 rfl fun _ _ hd=>?_
 rcases hd with ⟨_,h0,_⟩|⟨g,rfl⟩
 ·omega
 (repeat' (first|refine Wkx.go ?_|refine XaJ ?_|refine XaG ?_|(refine XaE (fun h=>?_) (fun h=>?_)<;>first|(exact absurd h (by decide))|(exfalso;omega;done)|skip)|refine XaF ?_|refine Xai ?_|(refine Xaa rfl ?_;(first|refine Xax ?_|refine Xaw ?_|refine Xav (fun ad cap=>?_)|refine Xat (fun b=>?_)|refine Xas (fun b=>?_)|refine Xau (fun b=>?_)|fail))|fail))
 refine Xab _ _ (Xa0 rfl (RV.tmp _) (Xaq.mk' [.box _ _,.row (some ⟨b,_,_⟩) 1 1 _ _ _] [.box bb _,.row (some ⟨g,_,_⟩) _ cap _ _ _] (by (repeat' (first|exact Xvt _|exact List.Perm.nil|refine XvJ _ ?_|refine (XvG (l₁:=[_])).trans (XvJ _ ?_)|refine (XvG (l₁:=[_,_])).trans (XvJ _ ?_)|refine (XvG (l₁:=[_,_,_])).trans (XvJ _ ?_)|refine (XvG (l₁:=[_,_,_,_])).trans (XvJ _ ?_)|refine (XvG (l₁:=[_,_,_,_,_])).trans (XvJ _ ?_)|refine (XvG (l₁:=[_,_,_,_,_,_])).trans (XvJ _ ?_)|refine (XvG (l₁:=[_,_,_,_,_,_,_])).trans (XvJ _ ?_)|refine (XvG (l₁:=[_,_,_,_,_,_,_,_])).trans (XvJ _ ?_)))) (Xap.refl _ _) (VwL.refl _ _))) ⟨g,cap,rfl,?_⟩
 simp only [←Xsc,XvF,Xvw,Xvz]
 rfl
end Go.Proofs.YtdlblokjfoggpaaGreatDoor

import Derived.Test.YtdpobjakdplljaaGreatDoorV29
import Derived.Test.YtdpobjakdplljaaGreatDoorV40
import Derived.Test.YtdpobjakdplljaaGreatDoorV43
import Derived.Test.YtdpobjakdplljaaGreatDoorV0
import Derived.ProofKit
import Derived.OpenShut
import Derived.ShutString
import Derived.ChangeOld
import Derived.Lib.SmallJoins
import Derived.SizedLaws
import Derived.Test.YtdpobjakdplljaaGreatDoorV16
import Derived.Test.YtdpobjakdplljaaGreatDoorV6
import Derived.Test.YtdpobjakdplljaaGreatDoorRows
import Derived.Test.YtdpobjakdplljaaGreatDoorV8
import Derived.ChangeSame
import Derived.ChangeVars
import Derived.JoinedOf
import Derived.LaidLaws
import Derived.LaidHandle
import Derived.Stop.Joined
import Derived.Stop.LaidErr
import Derived.Deep.Strs
import Derived.Lay
import Derived.RowKit
/- An event that is written and read back is one that comes. No program in sight. -/
set_option linter.unusedSimpArgs false
set_option linter.unusedVariables false
set_option maxRecDepth 100000
set_option maxHeartbeats 8000000
namespace Go.Proofs.YtdpobjakdplljaaGreatDoor
open Go.RowKit
theorem Xtd {e a:EF} {f:UInt8} (ha:EOk a) (hf:FOk e f) (hl:(Xcs e f).length≤8192):EOk (XpE e a f):=by
 obtain ⟨a1,a2,a3,a4,a5,a6⟩:=ha
 unfold FOk at hf
 unfold Xcs at hl
 unfold XpE
 by_cases h1:f.toNat=78
 ·rw [if_pos h1] at hl;rw [if_pos h1];exact ⟨by simp only;omega,a2,a3,a4,a5,a6⟩
 rw [if_neg h1] at hf hl ⊢
 by_cases h2:f.toNat=75
 ·rw [if_pos h2];exact ⟨a1,a2,a3,a4,a5,a6⟩
 rw [if_neg h2] at hf hl ⊢
 by_cases h3:f.toNat=68
 ·rw [if_pos h3] at hl;rw [if_pos h3]
  refine ⟨a1,?_,a3,a4,a5,a6⟩
  have h5:e.data.length≤(Xcq e.data).length:=by
   unfold Xcq XfG
   simp only [Xvh,Xu8,Xvb,List.length_flatMap]
   have:∀s:List UInt8,s.length≤(s.map fun b=>(XdM b).length).sum:=fun s=>by
    induction s with
    | nil=>simp
    | cons b s ih=>
      have hb:1≤(XdM b).length:=by unfold XdM;(repeat' split)<;>simp
      simp only [Xu8,Xva,List.sum_cons];omega
   have:=this e.data
   omega
  simp only;omega
 rw [if_neg h3] at hf hl ⊢
 by_cases h4:f.toNat=84
 ·rw [if_pos h4] at hf;rw [if_pos h4]
  exact ⟨a1,a2,a3,⟨hf.1,by have:=hf.2;simp only;omega⟩,a5,a6⟩
 rw [if_neg h4] at hf ⊢
 by_cases h5:f.toNat=67
 ·rw [if_pos h5] at hf;rw [if_pos h5]
  exact ⟨a1,a2,⟨by have:=hf.1;simp only;omega,by have:=hf.2;simp only;omega⟩,a4,a5,a6⟩
 rw [if_neg h5] at hf ⊢
 by_cases h6:f.toNat=76
 ·rw [if_pos h6] at hf;rw [if_pos h6]
  exact ⟨a1,a2,a3,a4,⟨by have:=hf.1;simp only;omega,by have:=hf.2;simp only;omega⟩,a6⟩
 rw [if_neg h6] at hf ⊢
 exact ⟨a1,a2,a3,a4,a5,⟨by have:=hf.1;simp only;omega,by have:=hf.2;simp only;omega⟩⟩
theorem XnE {e:EF}:∀(fs:List UInt8) (a:EF),EOk a→(∀f∈fs,FOk e f∧(Xcs e f).length≤8192)→EOk (fs.foldl (XpE e) a)
 | [],a,h,_=>h
 | f :: fs,a,h,hf=>XnE fs _ (Xtd h (hf f (by simp)).1 (hf f (by simp)).2) fun g hg=>hf g (by simp [hg])
theorem Xnt {e:EF}:∀(fs:List UInt8),∀f∈fs,(Xcs e f).length≤(XbP e fs).length
 | [],f,h=>by cases h
 | g :: fs,f,h=>by
   have e1:XbP e (g :: fs)=32 :: Xcs e g++XbP e fs:=rfl
   rw [e1,Xvh,Xu8]
   rcases List.mem_cons.1 h with rfl|h
   ·omega
   ·have:=Xnt (e:=e) fs f h;omega
theorem Xc3.ok {e:EF} (h:Xc3 e) (hl:(Xcr e).length≤8192):EOk e:=by
 obtain ⟨k,h14,hkd,hlk,hf⟩:=h.line
 obtain ⟨k',-,hkd',hf',hw⟩:=h
 obtain rfl:k'=k:=by omega
 rw [←hw]
 refine XnE _ _ ⟨by simp [ev0],by simp [ev0],by simp [ev0],by simp [ev0],by simp [ev0],by simp [ev0]⟩ fun f hm=>⟨hf' f hm,?_⟩
 have h5:=Xnt (e:=e) _ f hm
 rw [hlk] at hl
 unfold XfE at hl
 rw [Xvh] at hl
 omega
theorem Xs9 (l:List Int) (raw:List UInt8) (hd:DK l):Xa8 Tryz.prog 5 [] [.sq l.length (ia l),.x (.string (bs raw))] (fun r H'=>r=.x (.bool true)∧H'=[]):=by
 refine XaE Tryz.func5 rfl ?_
 simp only [Tryz.ntmps5,Xu8,Xvb,Xvc,Xvd,Xvg,Xvf,Nat.reduceAdd,Nat.reduceSub]
 (repeat' (first|with_reducible (first|refine Xai ?_|refine Xac ?_|refine Xas ?_|refine Xaw ?_|refine Xae ?_|refine Xaa ?_|refine Xay ?_)|(refine Xal _ rfl (fun h=>?_) (fun h=>?_)<;>first|(exact absurd h (by decide))|((try (simp only [whn] at h));skip))|((apply Xad rfl);(case h=>((try (intro (hp:(_:Bool)=true);((try simp only [Bool.and_eq_true,Bool.not_eq_true',Bool.not_eq_true] at hp);(try simp only [hp,wte]);(try simp only [whn] at hp))));(first|(apply Xab 0 rfl;(first|exact Xar _ rfl|exact Xap _ rfl))|(apply Xab 11 rfl;(exact XaA 8 Tryz.f8 _ _ rfl rfl Tryz.func8 (by decide) rfl (VwL.refl _ _) (XqI)))|(apply XaD;(case hs=>(intro _ _ h;cases h));(case hx=>rfl);(case hrun=>(intro w;simp [wtb,AV.val,go_sem];(try go_bits);rfl))))));(case hT=>((try simp only [wtn,Xu9,Xu6,Xu7,Xva,Xve,Nat.reduceAdd,Nat.reduceMul,Nat.reduceSub,↓reduceIte,Nat.reduceEqDiff]);rfl)))|(refine Xah rfl ?_;((refine Xaq 11 rfl ?_;(refine Xak 13 Tryz.f13 ([]) _ _ _ rfl rfl Tryz.func13 (by decide) rfl (Xu5 _) (VwL.refl _ _) (XpT l hd) ?_;rintro _ _ ⟨out,rfl,rfl,ho1,ho2,ho3⟩));apply Xag;(case hT=>((try simp only [wtn,Xu9,Xu6,Xu7,Xva,Xve,Nat.reduceAdd,Nat.reduceMul,Nat.reduceSub,↓reduceIte,Nat.reduceEqDiff]);rfl));(case hH=>((try simp only [wtn,Xu9,Xu6,Xu7,Xva,Xve,Nat.reduceAdd,Nat.reduceMul,Nat.reduceSub,↓reduceIte,Nat.reduceEqDiff]);rfl))))|fail))
 ·refine Xaf _ _ (Xbi rfl (RV.tmp _) (XaH.mk' [] _ (Xu5 _) (XaB.refl _ _) (VwL.refl _ _))) ?_
  exact ⟨rfl,rfl⟩
 have hM:=MEs.of ho1 ho2 ho3
 clear ho1 ho2 ho3
 generalize out.map clE=x at hM ⊢
 obtain ⟨m1,m2,m3,m4⟩:=hM
 have hF:=Xlb x m3 (by omega)
 rw [XfD m2 (by omega) m4] at hF
 have hP:=Xfs (Xbr x) (by omega)
 rw [Xet m2 (by omega) m4] at hP
 have hS:=Xo8 x x (by omega)
 rw [XgI] at hS
 have hq:=Xfs raw (by omega)
 unfold Xuf at hP hq
 unfold Xuv at hF
 clear m2 m3 m4
 by_cases hc:(XbS raw).2.2=0
 ·obtain ⟨g1,g2,g3⟩:=Xj3 raw (by omega) hc
  rw [hc] at hq
  generalize XbS raw=q at hq g1 g2 g3
  have hF2:=Xlb q.1 (fun e he=>(g1 e he).1.ok (g1 e he).2) (by omega)
  rw [XfD g1 g2 g3] at hF2
  have hP2:=Xfs (Xbr q.1) (by omega)
  rw [Xet g1 g2 g3] at hP2
  have hS2:=Xo8 q.1 q.1 (by omega)
  rw [XgI] at hS2
  unfold Xuf at hP2
  unfold Xuv at hF2
  clear g1 hc
  (repeat' (first|with_reducible (first|refine Xai ?_|refine Xac ?_|refine Xas ?_|refine Xaw ?_|refine Xae ?_|refine Xaa ?_)|(refine Xal _ rfl (fun h=>?_) (fun h=>?_)<;>first|(exact absurd h (by decide))|((try (simp only [whn] at h));skip))|((first|apply Xad rfl|apply Xbe _ _ rfl rfl rfl);(case h=>((try (intro (hp:(_:Bool)=true);((try simp only [Bool.and_eq_true,Bool.not_eq_true',Bool.not_eq_true] at hp);(try simp only [hp,wte]);(try simp only [whn] at hp))));(first|(apply Xab 0 rfl;(first|exact Xar _ rfl|exact Xap _ rfl))|(apply Xab 1 rfl;(first|exact XcO _ _ _ rfl rfl|exact Xct _ _ _ rfl rfl))|(apply Xab 2 rfl;(exact XaO _ _ _ _ rfl rfl rfl))|(apply Xab 3 rfl;(exact Xa2 _ _ _ _ _ _ HEl.out rfl rfl))|(apply Xab 11 rfl;(first|exact XaA 14 Tryz.f14 _ _ rfl rfl Tryz.func14 (by decide) rfl (VwL.refl _ _) (hF)|exact XaA 14 Tryz.f14 _ _ rfl rfl Tryz.func14 (by decide) rfl (VwL.refl _ _) (hF2)|exact XaA 10 Tryz.f10 _ _ rfl rfl Tryz.func10 (by decide) rfl (VwL.refl _ _) (hP)|exact XaA 10 Tryz.f10 _ _ rfl rfl Tryz.func10 (by decide) rfl (VwL.refl _ _) (hq)|exact XaA 10 Tryz.f10 _ _ rfl rfl Tryz.func10 (by decide) rfl (VwL.refl _ _) (hP2)|exact XaA 12 Tryz.f12 _ _ rfl rfl Tryz.func12 (by decide) rfl (VwL.refl _ _) (hS)|exact XaA 12 Tryz.f12 _ _ rfl rfl Tryz.func12 (by decide) rfl (VwL.refl _ _) (hS2)))|(apply XaD;(case hs=>(intro _ _ h;cases h));(case hx=>rfl);(case hrun=>(intro w;simp [wtb,AV.val,go_sem];(try go_bits);rfl))))));(case hT=>((try simp only [wtn,Xu9,Xu6,Xu7,Xva,Xve,Nat.reduceAdd,Nat.reduceMul,Nat.reduceSub,↓reduceIte,Nat.reduceEqDiff]);rfl)))|fail))
  refine Xaf _ _ (Xbi rfl (RV.tmp _) (XaH.mk' [] _ (Xu5 _) (XaB.refl _ _) (VwL.refl _ _))) ?_
  exact ⟨rfl,rfl⟩
 ·have hb:=Xl4 raw hc
  generalize XbS raw=q at hq hb hc
  rw [hb] at hq
  have hc':(q.2.2 != 0)=true:=bne_iff_ne.2 hc
  (repeat' (first|with_reducible (first|refine Xai ?_|refine Xac ?_|refine Xas ?_|refine Xaw ?_|refine Xae ?_|refine Xaa ?_|refine Xay ?_)|(refine Xal _ rfl (fun h=>?_) (fun h=>?_)<;>first|(exact absurd h (by decide))|((try (simp only [whn] at h));skip))|((first|apply Xad rfl|apply Xbe _ _ rfl rfl rfl);(case h=>((try (intro (hp:(_:Bool)=true);((try simp only [Bool.and_eq_true,Bool.not_eq_true',Bool.not_eq_true] at hp);(try simp only [hp,wte]);(try simp only [whn] at hp))));(first|(apply Xab 0 rfl;(first|exact Xar _ rfl|exact Xap _ rfl))|(apply Xab 1 rfl;(exact XcO _ _ _ rfl rfl))|(apply Xab 2 rfl;(exact XaO _ _ _ _ rfl rfl rfl))|(apply Xab 3 rfl;(exact Xa2 _ _ _ _ _ _ HEl.out rfl rfl))|(apply Xab 11 rfl;(first|exact XaA 14 Tryz.f14 _ _ rfl rfl Tryz.func14 (by decide) rfl (VwL.refl _ _) (hF)|exact XaA 10 Tryz.f10 _ _ rfl rfl Tryz.func10 (by decide) rfl (VwL.refl _ _) (hP)|exact XaA 10 Tryz.f10 _ _ rfl rfl Tryz.func10 (by decide) rfl (VwL.refl _ _) (hq)|exact XaA 12 Tryz.f12 _ _ rfl rfl Tryz.func12 (by decide) rfl (VwL.refl _ _) (hS)))|(apply XaD;(case hs=>(intro _ _ h;cases h));(case hx=>rfl);(case hrun=>(intro w;simp [wtb,AV.val,go_sem];(try go_bits);rfl))))));(case hT=>((try simp (disch:=omega) only [wtn,hc',Xu9,Xu6,Xu7,Xva,Xve,Nat.reduceAdd,Nat.reduceMul,Nat.reduceSub,↓reduceIte,Nat.reduceEqDiff]);rfl)))|fail))
  refine Xaf _ _ (Xbi rfl (RV.tmp _) (XaH.mk' [] _ (Xu5 _) (XaB.refl _ _) (VwL.refl _ _))) ?_
  exact ⟨rfl,rfl⟩
open Go.ChangeShapes Go.WideShapes Go.ChangeAt Go.RowKit Go.Joins
def Is (lo:Nat) (w:World) (v:Value) (l:List Int):Prop:=Sl lo w v l.length (l.map (Value.int .i64))
theorem Is.mono {lo:Nat} {w w':World} {v:Value} {l:List Int} (h:Is lo w v l) (hb:Ext w w'):Is lo w' v l:=Sl.mono h hb
theorem Is.shape {lo:Nat} {w:World} {v:Value} {l:List Int} (h:Is lo w v l):∃ad cap,v=.slice ad l.length cap∧l.length≤cap:=Sl.shape h
def XuN (l:List Int):Prop:=∀x∈l,-9223372036854775808≤x∧x≤9223372036854775807
section
variable {H:Type} {enc:TypeId × Value→H} {P:Program} {W:World} {fuel:Nat} {t e:TypeId} {v:Value} {x:DataW H × List MemPlace}
theorem Xqp {k:IntKind} (ht:P.underlying t=some (.slice e)) (he:P.underlying e=some (.int k)) (hc:P.cellsOf e=1)
  (h:DataW.trod enc P W 0 (fun _=>true) true fuel t [v]=some x) (hsz:∀n∈x.1.weights P t,n≤reachBytes) :
  ∃zs:List Int,Sl 0 W v zs.length (zs.map (Value.int k))∧(∀n∈zs,(Lit.int k n).wf=true)∧zs.length*P.bytesOf e≤reachBytes:=by
 rcases open_ints ht he hc h with ⟨hcs,hx⟩|⟨a,len,cap,zs,hcs,_,hl,hm,hz,hx,hcell,hwz⟩
 ·simp at hcs
  subst hcs
  exact ⟨[],Sl.nil _ _,by simp,by simp⟩
 ·simp at hcs
  subst hcs
  have hz':zs.length=cap:=by simpa using hz
  have hlen:(zs.take len).length=len:=by simp;omega
  refine ⟨zs.take len,?_,fun n hn=>hwz n (List.mem_of_mem_take hn),?_⟩
  ·refine ⟨some a,cap,by rw [hlen],by rw [hlen];exact hl,hm,(by intro h;cases h),fun _ _=>Nat.zero_le _,fun j u hj=>⟨a,rfl,?_⟩⟩
   rw [List.getElem?_map,List.getElem?_take] at hj
   split at hj
   ·rename_i hjl
    have hjz:j < zs.length:=by omega
    rw [hcell j hjz]
    simp [List.getElem?_eq_getElem hjz] at hj
    simp [←hj,List.getD,List.getElem?_eq_getElem hjz]
   ·simp at hj
  ·have:=hsz ((lits (H:=H) k (zs.take len)).length*P.bytesOf e+(lits (H:=H) k (zs.drop len)).length*P.bytesOf e) (by rw [hx];simp [DataW.weights,ht,Nat.add_mul])
   have h2:(lits (H:=H) k (zs.take len)).length=(zs.take len).length:=by simp [lits]
   rw [h2] at this
   omega
theorem Xsl (ht:P.underlying t=some (.slice e)) (he:P.underlying e=some (.int .i64)) (hc:P.cellsOf e=1) (hb:P.bytesOf e=8)
  (h:DataW.trod enc P W 0 (fun _=>true) true fuel t [v]=some x) (hsz:∀n∈x.1.weights P t,n≤reachBytes) :
  ∃l:List Int,Is 0 W v l∧XuN l∧l.length≤140737488355328:=by
 obtain ⟨zs,h1,h2,h3⟩:=Xqp ht he hc h hsz
 refine ⟨zs,h1,fun n hn=>?_,?_⟩
 ·have hw:=h2 n hn
  simp [Lit.wf,IntKind.min,IntKind.max,IntKind.signed,IntKind.bits] at hw
  omega
 ·rw [hb] at h3
  have:=reachBytes_lt
  omega
end
theorem XhA {H:Type} {P:Program} {ts:List TypeId} {ds:List (DataW H)} (h:(DataW.weightsEach P ts ds).all (·≤reachBytes)=true) {j:Nat} {t:TypeId} {d:DataW H} (ht:ts[j]?=some t) (hd:ds[j]?=some d):∀n∈d.weights P t,n≤reachBytes:=fun n hn=>by
 have:=List.all_eq_true.1 h _ (DataW.weights_mem_each ht hd n hn)
 simpa using this
open Go.RowKit
theorem Sl.den {W:World} {v:Value} {n:Nat} {xs:List Value} (h:Sl 0 W v n xs) (h1:∀u∈xs,u.oneCell'=true):Den (fun _=>False) W (.sq n (xs.map AV.x)) v:=by
 obtain ⟨ad,cap,rfl,h1',h2,h3,h4⟩:=Sl.split h
 rw [Den]
 refine ⟨ad,cap,xs,rfl,h1',h2,h3,?_,XaT.exact⟩
 rcases h4 with h4|⟨b,o,rfl,_,hc⟩
 ·exact .inl h4
 ·exact .inr ⟨b,o,rfl,fun h=>h,fun j u hj=>⟨hc j u hj,h1 u (List.mem_of_getElem? hj)⟩⟩
theorem Is.den {W:World} {v:Value} {l:List Int} (h:Is 0 W v l):Den (fun _=>False) W (.sq l.length (ia l)) v:=by
 have:=Sl.den h (fun u hu=>by obtain ⟨n,-,rfl⟩:=List.mem_map.1 hu;rfl)
 have e:ia l=(l.map (Value.int .i64)).map AV.x:=by simp [ia]
 rw [e];exact this
theorem Bs.den {W:World} {v:Value} {l:List UInt8} (h:Bs 0 W v l):Den (fun _=>False) W (.sq l.length (u8a l)) v:=
 Sl.den h (fun u hu=>by obtain ⟨n,-,rfl⟩:=List.mem_map.1 hu;rfl)
open Go.RowKit Go Go.ChangeShapes Go.Deep
abbrev LL:List (String × DataW Unit):=Rows.consoleParsesRow.laid
theorem Xr3:Tryz.prog.globalNamed "errors.errorType"=some 1:=by kernel_rfl
theorem Xr4:(Tryz.prog.cutTypes.find? (·.1 == "internal/reflectlite.rtype")).map (·.2)=some 196:=by kernel_rfl
theorem Xoj:Tryz.prog.types.size=297:=by kernel_rfl
theorem Xp7:((List.range 297).filter fun t=>Tryz.prog.rowNamed t [101,114,114,111,114])=[81]:=by kernel_rfl
theorem XhV {w:World} {base:Nat} {sp:Nat→Bool} {held:Bool} {fuel:Nat} {t:TypeId} {ms:Array (String × TypeId)} {cs:List Value} {nm:String} {d:DataW Unit} {p:List MemPlace} (hi:Tryz.prog.underlying t=some (.interface ms))
  (h:DataW.trod (fun _=>()) Tryz.prog w base sp held fuel t cs=some (.iface nm d,p)):∃u v,cs=[.iface u v]:=by
 cases fuel with
 | zero=>simp [DataW.trod] at h
 | succ n=>
   unfold DataW.trod at h
   rw [hi] at h
   split at h<;>simp_all
theorem XeZ {W:World} {n nm:String} {d:DataW Unit} {r:List (String × DataW Unit)} {g:Nat} {ti:TypeId} {ms:Array (String × TypeId)} (h:laidMet Tryz.prog ((n,.iface nm d) :: r) W)
  (hg:Tryz.prog.globalNamed n=some g) (ht:(Tryz.prog.globals[g]?).map (·.type)=some ti) (hi:Tryz.prog.underlying ti=some (.interface ms)):∃u v,W.cell? ⟨g,0,none⟩=some (.iface u v):=by
 obtain ⟨ps,⟨g0,t0,cs0,f0,p0,q0,hg0,ht0,hv0,hd0,-⟩,-⟩:=h
 obtain rfl:=Option.some.inj (hg.symm.trans hg0)
 obtain rfl:=Option.some.inj (ht.symm.trans ht0)
 obtain ⟨l0⟩:=cs0
 obtain ⟨u,v,hcs⟩:=XhV hi hd0
 simp only at hcs
 subst hcs
 exact ⟨u,v,by simpa using World.var?_cell hg0 hv0 0⟩
/-! ### The table of forms -/
theorem Xmh {w:World} {base:Nat} {sp:Nat→Bool} {held:Bool} {fuel:Nat} {c:List Value} {b:DataW Unit × List MemPlace} {wd fs:List UInt8} {k:Int} (h:DataW.trod (fun _=>()) Tryz.prog w base sp held fuel 76 c=some b)
  (hb:b.1=.agg [.lit (.string wd),.lit (.int .i64 k),.lit (.string fs)]):c=[.string (bs wd),.int .i64 k,.string (bs fs)]:=by
 obtain ⟨y0,y1,y2,n,rfl,hl,h0,h1,h2⟩:=trod_struct3 Tryz.underlying76 h
 obtain ⟨s0,e0,rfl,-⟩:=DataW.trod_string Tryz.underlying9 h0
 obtain ⟨n1,e1,rfl,-⟩:=DataW.trod_int Tryz.underlying3 h1
 obtain ⟨s2,e2,rfl,-⟩:=DataW.trod_string Tryz.underlying9 h2
 have hl3:c.length=3:=hl.trans (by kernel_rfl)
 simp only [DataW.agg.injEq,List.cons.injEq,DataW.lit.injEq,Lit.string.injEq,Lit.int.injEq,true_and,and_true] at hb
 obtain ⟨b0,b1,b2⟩:=hb
 have c9:Tryz.prog.cellsOf 9=1:=by kernel_rfl
 have c3:Tryz.prog.cellsOf 3=1:=by kernel_rfl
 match c,hl3 with
 | [x,y,z],_=>
   have e0':[x]=[Value.string s0]:=by rw [←e0];show _=([x,y,z].drop 0).take (Tryz.prog.cellsOf 9);rw [c9];rfl
   have e1':[y]=[Value.int .i64 n1]:=by rw [←e1];show _=([x,y,z].drop 1).take (Tryz.prog.cellsOf 3);rw [c3];rfl
   have e2':[z]=[Value.string s2]:=by rw [←e2];show _=([x,y,z].drop 2).take (Tryz.prog.cellsOf 9);rw [c9];rfl
   cases e0'
   cases e1'
   cases e2'
   subst b1
   have q:∀(s:ByteArray) (l:List UInt8),s.data.toList=l→s=bs l:=fun s l h=>by subst h;rfl
   rw [q _ _ b0,q _ _ b2]
theorem Xq8 {α:Type} (c:Nat) (f:Nat→List α):∀(n:Nat) (cs:List α),cs.length=n*c→(∀i,i < n→(cs.drop (i*c)).take c=f i)→cs=(List.range n).flatMap f
 | 0,cs,h,_=>by simpa using h
 | n+1,cs,h,hf=>by
   rw [Nat.succ_mul] at h
   have ih:=Xq8 c f n (cs.take (n*c)) (by rw [List.length_take];omega) fun i hi=>by
    rw [←hf i (by omega),List.drop_take,List.take_take]
    have:i*c+c≤n*c:=by rw [←Nat.succ_mul];exact Nat.mul_le_mul_right _ hi
    rw [Nat.min_eq_left (by omega)]
   have hl:=hf n (by omega)
   rw [List.take_of_length_le (by rw [List.length_drop];omega)] at hl
   rw [List.range_succ,List.flatMap_append,←ih,List.flatMap_cons,List.flatMap_nil,List.append_nil,←hl,List.take_append_drop]
def XpV (i:Nat):List UInt8 × Int × List UInt8:=Xn1.getD i ([],0,[])
theorem XhS {W:World} {r:List (String × DataW Unit)} (h:laidMet Tryz.prog (("jobmux/console.forms",Rows.laid_jobmux_console_forms) :: r) W):W.var? Tryz.prog "jobmux/console.forms"=some Xby.toArray:=by
 obtain ⟨ps,⟨g0,t0,cs,fuel,p0,q0,hg0,ht0,hv0,hd0,-⟩,-⟩:=h
 obtain rfl:=Option.some.inj ((show Tryz.prog.globalNamed "jobmux/console.forms"=some 0 by kernel_rfl).symm.trans hg0)
 obtain rfl:=Option.some.inj ((show (Tryz.prog.globals[0]?).map (·.type)=some 129 by kernel_rfl).symm.trans ht0)
 rw [hv0]
 obtain ⟨l⟩:=cs
 simp only at hd0
 have hl:l=Xby:=by
  cases fuel with
  | zero=>simp [DataW.trod] at hd0
  | succ n=>
    unfold DataW.trod at hd0
    rw [Tryz.underlying129] at hd0
    simp only at hd0
    split at hd0
    ·rename_i hlen
     obtain ⟨xs,hm,hx⟩:=Option.map_eq_some_iff.1 hd0
     have hxs:xs.map (·.1)=Xn1.map fun f=>(.agg [.lit (.string f.1),.lit (.int .i64 f.2.1),.lit (.string f.2.2)]:DataW Unit):=by
      have:=congrArg Prod.fst hx
      exact DataW.agg.inj this
     have hce:Tryz.prog.cellsOf 76=3:=by kernel_rfl
     have hlen':l.length=14*3:=hlen.trans (by kernel_rfl)
     have hc:=Xq8 3 (fun i=>[Value.string (bs (XpV i).1),.int .i64 (XpV i).2.1,.string (bs (XpV i).2.2)]) 14 l hlen' fun i hi=>by
      obtain ⟨b,hb,hf⟩:=Lib.mapM_at hm i i (by rw [List.getElem?_range hi])
      rw [hce] at hf
      refine Xmh hf ?_
      have h1:=congrArg (fun z=>z[i]?) hxs
      simp only [List.getElem?_map,hb,Option.map_some] at h1
      have hi':i < Xn1.length:=hi
      rw [List.getElem?_eq_getElem hi',Option.map_some] at h1
      have h2:=Option.some.inj h1
      rw [h2]
      simp only [XpV,List.getD_eq_getElem?_getD,List.getElem?_eq_getElem hi',Option.getD_some]
     rw [hc]
     rfl
    ·cases hd0
 rw [hl]
theorem Xmp {W:World} (h:laidMetH Tryz.prog LL W) (hS:W.ShapedOpen Tryz.prog):Gw W:=by
 have hf:(LL.filter fun x=>x.2.handleName?.isSome)=[("errors.errorType",Rows.laid_errors_errorType)]:=by kernel_rfl
 have hn:(LL.filter fun x=>x.2.handleName?.isNone)=[("math/bits.deBruijn32tab",Rows.laid_math_bits_deBruijn32tab),("math/bits.deBruijn64tab",Rows.laid_math_bits_deBruijn64tab),("internal/strconv.uint64pow10",Rows.laid_internal_strconv_uint64pow10),("strconv.ErrRange",Rows.laid_strconv_ErrRange),("strconv.ErrSyntax",Rows.laid_strconv_ErrSyntax),("jobmux/console.forms",Rows.laid_jobmux_console_forms)]:=by kernel_rfl
 unfold laidMetH at h
 rw [hf] at h
 obtain ⟨h1,h2⟩:=(show laidMet Tryz.prog (LL.filter fun x=>x.2.handleName?.isNone) W∧handlesMet Tryz.prog [("errors.errorType",Rows.laid_errors_errorType)] W from h)
 rw [hn] at h1
 obtain ⟨name,u,ty,e1,e2,e3,e4,e5⟩:=h2 _ (List.mem_singleton.2 rfl)
 have en:name=[101,114,114,111,114]:=(Option.some.inj e1).symm
 subst en
 obtain rfl:=Option.some.inj (Xr4.symm.trans e2)
 have hm:ty∈(List.range 297).filter fun t=>Tryz.prog.rowNamed t [101,114,114,111,114]:=List.mem_filter.2 ⟨List.mem_range.2 (by rw [←Xoj];exact e3),e4⟩
 rw [Xp7] at hm
 obtain rfl:=List.mem_singleton.1 hm
 have hh:typeHandle Tryz.prog 81=.pointer (some ⟨10,81,none⟩):=by kernel_rfl
 rw [hh] at e5
 have t1:=h1.tail
 have t2:=t1.tail
 have t3:=t2.tail
 have t4:=t3.tail
 have t5:=t4.tail
 obtain ⟨t,v,hr⟩:=XeZ (g:=5) (ti:=81) t3 (by kernel_rfl) (by kernel_rfl) Tryz.underlying81
 obtain ⟨t',v',hs⟩:=XeZ (g:=4) (ti:=81) t4 (by kernel_rfl) (by kernel_rfl) Tryz.underlying81
 refine ⟨by simpa using World.var?_cell Xr3 e5 0,⟨_,_,hs⟩,⟨_,_,hr⟩,?_,XhS t5,?_⟩
 ·exact Lib.tabIs_of_head (g:=3) (t:=236) (e:=38) (n:=20) (by kernel_rfl) (by kernel_rfl) (by kernel_rfl) (by kernel_rfl) (by kernel_rfl) (by kernel_rfl) t2
 ·have h0:(((begin Tryz.prog (fun _ _=>0) default).world.heap[gN - 1]?).bind Obj.row?).isSome=true:=by kernel_rfl
  obtain ⟨⟨z,t⟩,hz⟩:=Option.isSome_iff_exists.1 h0
  obtain ⟨cs,hh,-⟩:=hS.1 (gN - 1) z t (of_decide_eq_true (by kernel_rfl)) hz
  have h1:=(Array.getElem?_eq_some_iff.1 hh).1
  have h2:1≤gN:=by decide
  omega
noncomputable def laidWorld (os:Os):World:=
 let w0:=World.holding Tryz.prog os ⟨#[],#[],[]⟩
 { w0 with heap:=w0.heap.modify 1 fun
   | .cells _ t frozen=>.cells #[.iface 196 (.agg #[.pointer (some ⟨10,81,none⟩)])] t frozen
   | o=>o }
noncomputable def laidWorldL (os:Os) (L:List (String × DataW Unit)):World:=(laidWorld os).layVars Tryz.prog (L.filter fun x=>x.2.handleName?.isNone)
theorem XhY (os:Os) (L:List (String × DataW Unit)):(laidWorldL os L).os=os:=(World.layVars_os _ _ _).trans rfl
theorem Xg3 {os:Os} {L:List (String × DataW Unit)} (args:Array Value) (hf:(laidWorld os).layFits Tryz.prog (L.filter fun x=>x.2.handleName?.isNone) []=true) (hi:(laidWorld os).layIfaces Tryz.prog (L.filter fun x=>x.2.handleName?.isNone) (laidWorldL os L)=true)
  (hh:(L.filter fun x=>x.2.handleName?.isSome).all (handleAtB Tryz.prog (laidWorldL os L))=true):laidMetH Tryz.prog L ((laidWorldL os L).forCall (fun _ _=>0) ⟨#[],args,[]⟩).memory:=by
 have h:laidMetH Tryz.prog L (laidWorldL os L):=by
  refine laidMetH_of_parts ?_ hh
  generalize hL:(L.filter fun x=>x.2.handleName?.isNone)=L' at *
  have e1:(L'.filter fun x=>(L'.map (·.1)).contains x.1)=L':=List.filter_eq_self.2 fun x hx=>List.contains_iff_mem.2 (List.mem_map.2 ⟨x,hx,rfl⟩)
  have e2:(L'.filter fun x=>!(L'.map (·.1)).contains x.1)=[]:=List.filter_eq_nil_iff.2 fun x hx=>by rw [List.contains_iff_mem.2 (List.mem_map.2 ⟨x,hx,rfl⟩)];simp
  exact laidMet_layVars (w0:=laidWorld os) (L'.map (·.1)) [] (by rw [e1];unfold laidWorldL;rw [hL]) (by rw [e1];exact hf) (by rw [e1];exact hi) (by rw [e2];exact LaidIn.none)
 exact h.of_heap (by simp [World.memory,World.forCall,Input.heap])
section
variable {H:Type} {enc:TypeId × Value→H}
theorem Xg4 {a:Assume} {C:Checked} {os:Os} {f:FuncId} {fn:Func} {s:ChangeSpec} {conds:List PathCond} {apart fresh handsOn again:Bool} {X:World→Array Value→Prop}
  (hX:∀(w w':World) (args:Array Value),w.heap=w'.heap→X w args→X w' args)
  (own:ownKnob C.prog.godebug=none) (started:os.Started) (noInit:C.prog.inits.idxOf? f=none) (hfn:C.prog.funcs[f]?=some fn)
  (witness:∃(w:World) (tape:Tape) (i:Input),w.os=os∧(w.forCall tape i).Shaped C.prog∧i.vars=[]∧Input.okWide C.prog (w.forCall tape i) .any w.heap.size f i ∧
   ((s.pre enc C.prog fn conds apart (w.forCall tape i).memory i.args∧X (w.forCall tape i).memory i.args)∧sizedMet enc C.prog fn (OpenSpec.ofChange s) apart (w.forCall tape i).memory i.args)∧a.holds C.prog (lone (Frame.enter C.prog f i.args .normal) [] (w.forCall tape i)))
  (contract:∀(W:World) (base:Nat) (args:Array Value) (ds gs:List (DataW H)) (before:List MemPlace),
   (∀(j:Nat) t v,fn.params[j]?=some t→args[j]?=some v→Value.okWide C.prog W .any base t v) →
   DataW.Whole enc C.prog fn.params.toList s.vars apart W args.toList ds gs before →
   conds.all (PathCond.test C.prog ⟨fn.params.toList,ds,s.plain.varTypes C.prog,gs⟩)=true →
   (DataW.weightsEach C.prog (fn.params.toList++s.plain.varTypes C.prog) (ds++gs)).all (·≤reachBytes)=true→X W args→W.ShapedOpen C.prog →
   Calls C.prog f args W fun e W'=>∃v,e=.returned v∧s.post enc C.prog fn apart fresh handsOn again W args v W') :
  ReturnsInHanded a C os f .any (fun w args=>(s.pre enc C.prog fn conds apart w args∧X w args)∧sizedMet enc C.prog fn (OpenSpec.ofChange s) apart w args) (s.post enc C.prog fn apart fresh handsOn again):=by
 refine returnsInHanded_of_calls own started noInit witness fun w tape i _ hsh _ hok hpre _=>?_
 obtain ⟨_,_,_,fn',hfn',_,_,_,_,hval⟩:=hok
 obtain rfl:fn'=fn:=Option.some.inj (hfn'.symm.trans hfn)
 obtain ⟨⟨⟨ds,gs,before,hw,hc⟩,hx⟩,hz⟩:=hpre
 refine (contract (w.forCall tape i) w.heap.size i.args ds gs before hval (DataW.Whole.of_heap (w':=w.forCall tape i) (by rfl) hw) hc (hz.weights hw) (hX _ _ _ (by rfl) hx) hsh).mono fun e W' ⟨v,he,hp⟩=>?_
 subst he
 exact ChangeSpec.post_blind hp
end
end Go.Proofs.YtdpobjakdplljaaGreatDoor

import Derived.Test.YtdlblokjfoggpaaGreatDoorW7
import Derived.Test.YtdlblokjfoggpaaGreatDoorW10
import Derived.Test.YtdlblokjfoggpaaGreatDoorW46
import Derived.Test.YtdlblokjfoggpaaGreatDoorW44
import Derived.Test.YtdlblokjfoggpaaGreatDoorW0
import Derived.ProofKit
import Derived.OpenShut
import Derived.ShutString
import Derived.ChangeOld
import Derived.Lib.SmallJoins
import Derived.SizedLaws
import Derived.Test.YtdlblokjfoggpaaGreatDoorW20
import Derived.Test.YtdlblokjfoggpaaGreatDoorW23
import Derived.Stop.LaidErr
import Derived.LaidLaws
import Derived.Test.YtdlblokjfoggpaaGreatDoorRows
import Derived.Test.YtdlblokjfoggpaaGreatDoorW12
import Derived.ChangeSame
import Derived.ChangeVars
import Derived.JoinedOf
import Derived.LaidHandle
import Derived.Stop.Joined
import Derived.Deep.Strs
import Derived.Lay
import Derived.RowKit
/- CheckPatterns: the law's walk. -/
set_option linter.unusedSimpArgs false
set_option linter.unusedVariables false
set_option maxRecDepth 100000
set_option maxHeartbeats 8000000
namespace Go.Proofs.YtdlblokjfoggpaaGreatDoor
open Go.RowKit
theorem Xay.args {P:Program} {f:FuncId} {H:List Hp} {args args':List AV} {Q:AV→List Hp→Prop} (h:Xay P f H args Q) (hv:VwL [] args' args):Xay P f H args' Q:=fun V w vs h1 h2 h3 h4=>h V w vs h1 h2 (hv.den (fun _ h=>h) (fun h hh=>by cases hh) _ h3) h4
def Xw1 (s:List UInt8):List AV:=[.x (.string (bs [97])),.x (.string (bs [])),.x (.slice none 0 0),.x (.slice none 0 0),.x (.bool true),.x (.string (bs s)),.x (.int .i64 1),.x (.int .u64 0),.x (.int .u64 0),.x (.int .u64 0),.x (.int .i64 1),.x (.int .u64 1),.x (.slice none 0 0),.x (.int .i64 3),.x (.int .i64 4)]
theorem Xv8 (ad:Nat→Addr) (hinj:XeD ad) (s:List UInt8) (hs:s.length≤20):Xay Tryz.prog 6 [.sen ad] [.sq 1 (Xw1 s)] (fun r H'=>r=.x (.agg #[.int .i64 (XjM [Xii s]).1,.int .i64 (XjM [Xii s]).2.1,.int .i64 (XjM [Xii s]).2.2])∧H'=[.sen ad]):=by
 refine (XnC ad hinj [Xii s] (by simp) (fun j hj=>by rw [List.mem_singleton] at hj;subst hj;exact ⟨by simp [Xii],by simp [Xii],by show s.length≤_;omega⟩)).args ?_
 refine VwL.cons (Vw.sq ?_) VwL.nil
 show VwL [] (Xw1 s) [.x (.string (bs [97])),.x (.string (bs [])),.sq 0 [],.sq 0 [],.x (.bool true),.x (.string (bs s)),.x (.int .i64 1),.x (.int .u64 0),.x (.int .u64 0),.x (.int .u64 0),.x (.int .i64 1),.x (.int .u64 1),.sq 0 [],.x (.int .i64 3),.x (.int .i64 4)]
 unfold Xw1
 repeat (first|exact VwL.nil|refine VwL.cons ?_ ?_|exact Vw.nil|exact Vw.refl _|fail)
theorem XmK (ad:Nat→Addr) (hinj:XeD ad) (raw text:List UInt8) (h2:text.length≤140737488355328):Xay Tryz.prog 3 [.sen ad] [.x (.string (bs raw)),.sq text.length (u8a text)] (fun r H'=>r=.x (.bool true)∧H'=[.sen ad]):=by
 have hS:=Lib.hid (Xrj ad hinj)
 by_cases hsz:raw.length≤20∧text.length≤14
 ·obtain ⟨z1,z2⟩:=hsz
  have hJ:=Xv8 ad hinj raw z1
  have hP:=Xre raw (by omega)
  unfold Xw1 at hJ
  cases hp:XbG raw with
  | error c=>
    have hP:Xay Tryz.prog 7 [] [.x (.string (bs raw))] (fun r H'=>∃e v,e≠0∧r=.tup [v,.x (.int .i64 e)]∧H'=[]):=hP.mono fun r H' ⟨h,h'⟩=>by
     unfold XkG at h
     rw [hp] at h
     rcases h with ⟨l,hl,_⟩|⟨c',e,v,_,he,hr⟩
     ·cases hl
     ·exact ⟨e,v,he,hr,h'⟩
    rw [Xq5 hp] at hJ
    simp only at hJ
    have hP:=Lib.hid hP
    have hJ:=Lib.hid hJ
    clear hp
    refine XaV Tryz.func3 Tryz.ntmps3 ?_
    (repeat' (first|refine Wkx.go ?_|(refine Xaz (fun h=>?_) (fun h=>?_)<;>first|(exact absurd h (by decide))|(exfalso;omega;done)|skip)|refine XpL ?_|(refine Xab rfl ?_;(first|((refine Xa7 Tryz.func5 [_] rfl rfl (by (repeat' (first|exact Xyo _|fail))) hS.out ?_;rintro _ _ ⟨rfl,rfl⟩);refine XaJ ?_)|((refine Xa7 Tryz.func6 [_] rfl rfl (by (repeat' (first|exact Xyo _|refine (XyB (l₁:=[_])).trans (XyE _ ?_)|fail))) hJ.out ?_;rintro _ _ ⟨rfl,rfl⟩);refine XaJ ?_)|((refine Xa7 Tryz.func7 [] rfl rfl (Xyo _) hP.out ?_;rintro _ _ ⟨e,v,he,rfl,rfl⟩);refine XaJ ?_)|refine Xbh ?_|refine Xb8 (fun b=>?_)))|fail))
    refine Xaa _ _ (XaF rfl (RV.tmp _) (Xaj.mk' [.box _ _,.box _ _] [.sen ad] (by (repeat' (first|exact Xyo _|refine XyE _ ?_|refine (XyB (l₁:=[_])).trans (XyE _ ?_)|fail))) (Xak.refl _ _) (VwL.refl _ _))) ⟨rfl,rfl⟩
  | ok l=>
    obtain ⟨hv,hl0,hl⟩:=Xeu hp
    have hP:Xay Tryz.prog 7 [] [.x (.string (bs raw))] (fun r H'=>r=.tup [.sq l.length (nda l),.x (.int .i64 0)]∧H'=[]):=hP.mono fun r H' ⟨h,h'⟩=>by
     unfold XkG at h
     rw [hp] at h
     rcases h with ⟨l',hl,hr⟩|⟨c',e,v,hc,_,_⟩
     ·cases hl;exact ⟨hr,h'⟩
     ·cases hc
    rw [Xuk hp] at hJ
    have hC:=XiG l hl
    unfold Xqm at hC
    rw [if_pos hv] at hC
    have hcl:=XkV hv
    have hM:=Xlp (XbU l) (by omega)
    have hF:Xay Tryz.prog 10 [] [.sq l.length (nda l),.sq text.length (u8a text)] (fun r H'=>∃v:Int,r=.x (.int .i64 v)∧H'=[]∧(0≤v→(Xbk (XbU l)).isNone=false)):=(Xrd l text hl0 hl (by omega) (Xok hv)).mono fun r H' ⟨v,h,h',hm⟩=>⟨v,h,h',fun h0=>by obtain ⟨n,i,k,hm⟩:=hm h0;exact XoQ hp hm⟩
    have hP:=Lib.hid hP
    have hC:=Lib.hid hC
    have hF:=Lib.hid hF
    clear hp hv
    generalize XbU l=X at *
    cases hn:Xbk X with
    | none=>
      rw [hn] at hJ hM hF
      unfold Xh3 at hM
      simp only [Option.isNone,if_true] at hJ hM
      have hJ:=Lib.hid hJ
      have hM:=Lib.hid hM
      clear hn
      refine XaV Tryz.func3 Tryz.ntmps3 ?_
      (repeat' (first|refine Wkx.go ?_|(refine Xaz (fun h=>?_) (fun h=>?_)<;>first|(exact absurd h (by decide))|(exfalso;omega;done)|skip)|refine Xad ?_ (h:=by exact fun _=>Xbb rfl rfl Tryz.func8 (hC.out))|refine Xad ?_ (h:=by exact fun _=>Xbb rfl rfl Tryz.func9 (hM.out))|refine XpL ?_|(refine Xab rfl ?_;(first|((refine Xa7 Tryz.func5 [_] rfl rfl (by (repeat' (first|exact Xyo _|fail))) hS.out ?_;rintro _ _ ⟨rfl,rfl⟩);refine XaJ ?_)|((refine Xa7 Tryz.func6 [_] rfl rfl (by (repeat' (first|exact Xyo _|refine (XyB (l₁:=[_])).trans (XyE _ ?_)|fail))) hJ.out ?_;rintro _ _ ⟨rfl,rfl⟩);refine XaJ ?_)|((refine Xa7 Tryz.func7 [] rfl rfl (Xyo _) hP.out ?_;rintro _ _ ⟨rfl,rfl⟩);refine XaJ ?_)|refine Xbh ?_|refine Xb8 (fun b=>?_)))|fail))
      refine Xhy true rfl rfl rfl (fun _=>?_) (fun hp=>by cases hp)
      simp only [Xyt,Xyx,str]
      refine Xa7 Tryz.func10 [] rfl rfl (Xyo _) hF.out ?_
      rintro _ _ ⟨v,rfl,rfl,hv⟩
      refine XaJ ?_
      have hd:decide (v < 0)=true:=decide_eq_true (by
       rcases Int.lt_or_le v 0 with h|h
       ·exact h
       ·exact absurd (hv h) (by decide))
      have hd:=Lib.hid hd
      (have wx:=@hd.out;(repeat' (first|refine Wkx.go ?_|refine XlL ?_|refine Xad ?_|fail)))<;>(try clear wx)
      refine Xaa _ _ (XaF rfl (RV.tmp _) (Xaj.mk' [.box _ _,.box _ _] [.sen ad] (by (repeat' (first|exact Xyo _|refine XyE _ ?_|refine (XyB (l₁:=[_])).trans (XyE _ ?_)|fail))) (Xak.refl _ _) (VwL.refl _ _))) ⟨rfl,rfl⟩
    | some t=>
      rw [hn] at hJ hM hF
      unfold Xh3 at hM
      simp only [Option.isNone,Bool.false_eq_true,if_false] at hJ hM
      have hJ:=Lib.hid hJ
      have hM:=Lib.hid hM
      clear hn
      refine XaV Tryz.func3 Tryz.ntmps3 ?_
      (repeat' (first|refine Wkx.go ?_|(refine Xaz (fun h=>?_) (fun h=>?_)<;>first|(exact absurd h (by decide))|(exfalso;omega;done)|skip)|refine XlL ?_|refine Xad ?_ (h:=by exact fun _=>Xbb rfl rfl Tryz.func8 (hC.out))|refine Xad ?_ (h:=by exact fun _=>Xbb rfl rfl Tryz.func9 (hM.out))|refine XpL ?_|(refine Xab rfl ?_;(first|((refine Xa7 Tryz.func5 [_] rfl rfl (by (repeat' (first|exact Xyo _|fail))) hS.out ?_;rintro _ _ ⟨rfl,rfl⟩);refine XaJ ?_)|((refine Xa7 Tryz.func6 [_] rfl rfl (by (repeat' (first|exact Xyo _|refine (XyB (l₁:=[_])).trans (XyE _ ?_)|fail))) hJ.out ?_;rintro _ _ ⟨rfl,rfl⟩);refine XaJ ?_)|((refine Xa7 Tryz.func7 [] rfl rfl (Xyo _) hP.out ?_;rintro _ _ ⟨rfl,rfl⟩);refine XaJ ?_)|refine Xbh ?_|refine Xb8 (fun b=>?_)))|fail))
      refine Xhy true rfl rfl rfl (fun _=>?_) (fun hp=>by cases hp)
      simp only [Xyt,Xyx,str]
      refine Xa7 Tryz.func10 [] rfl rfl (Xyo _) hF.out ?_
      rintro _ _ ⟨v,rfl,rfl,hv⟩
      refine XaJ ?_
      by_cases hv0:v < 0
      ·have hd:=Lib.hid (decide_eq_true hv0)
       (have wx:=@hd.out;(repeat' (first|refine Wkx.go ?_|refine XlL ?_|refine Xad ?_|fail)))<;>(try clear wx)
       refine Xaa _ _ (XaF rfl (RV.tmp _) (Xaj.mk' [.box _ _,.box _ _] [.sen ad] (by (repeat' (first|exact Xyo _|refine XyE _ ?_|refine (XyB (l₁:=[_])).trans (XyE _ ?_)|fail))) (Xak.refl _ _) (VwL.refl _ _))) ⟨rfl,rfl⟩
      ·have hd:=Lib.hid (decide_eq_false hv0)
       (have wx:=@hd.out;(repeat' (first|refine Wkx.go ?_|refine Xad ?_|fail)))<;>(try clear wx)
       refine Xaa _ _ (XaF rfl (RV.tmp _) (Xaj.mk' [.box _ _,.box _ _] [.sen ad] (by (repeat' (first|exact Xyo _|refine XyE _ ?_|refine (XyB (l₁:=[_])).trans (XyE _ ?_)|fail))) (Xak.refl _ _) (VwL.refl _ _))) ⟨rfl,rfl⟩
 ·refine XaV Tryz.func3 Tryz.ntmps3 ?_
  (repeat' (first|refine Wkx.go ?_|(refine Xaz (fun h=>?_) (fun h=>?_)<;>first|(exact absurd h (by decide))|(exfalso;omega;done)|skip)|refine Xad ?_|(refine Xab rfl ?_;((refine Xa7 Tryz.func5 [_] rfl rfl (by (repeat' (first|exact Xyo _|fail))) hS.out ?_;rintro _ _ ⟨rfl,rfl⟩);refine XaJ ?_))|fail))
  refine Xaa _ _ (XaF rfl (RV.tmp _) (Xaj.mk' [] [.sen ad] (by (repeat' (first|exact Xyo _|fail))) (Xak.refl _ _) (VwL.refl _ _))) ⟨rfl,rfl⟩
open Go.ChangeShapes Go.WideShapes Go.ChangeAt Go.RowKit Go.Joins
def Is (lo:Nat) (w:World) (v:Value) (l:List Int):Prop:=Sl lo w v l.length (l.map (Value.int .i64))
theorem Is.mono {lo:Nat} {w w':World} {v:Value} {l:List Int} (h:Is lo w v l) (hb:Ext w w'):Is lo w' v l:=Sl.mono h hb
theorem Is.shape {lo:Nat} {w:World} {v:Value} {l:List Int} (h:Is lo w v l):∃ad cap,v=.slice ad l.length cap∧l.length≤cap:=Sl.shape h
section
variable {H:Type} {enc:TypeId × Value→H} {P:Program} {W:World} {fuel:Nat} {t e:TypeId} {v:Value} {x:DataW H × List MemPlace}
theorem Xq2 {k:IntKind} (ht:P.underlying t=some (.slice e)) (he:P.underlying e=some (.int k)) (hc:P.cellsOf e=1)
  (h:DataW.trod enc P W 0 (fun _=>true) true fuel t [v]=some x) (hsz:∀n∈x.1.weights P t,n≤reachBytes) :
  ∃zs:List Int,Sl 0 W v zs.length (zs.map (Value.int k))∧(∀n∈zs,(Lit.int k n).wf=true)∧zs.length*P.bytesOf e≤reachBytes:=by
 rcases open_ints ht he hc h with ⟨hcs,hx⟩|⟨a,len,cap,zs,hcs,_,hl,hm,hz,hx,hcell,hwz⟩
 ·simp at hcs
  subst hcs
  exact ⟨[],Sl.nil _ _,by simp,by simp⟩
 ·simp at hcs
  subst hcs
  have hz':zs.length=cap:=by simpa using hz
  have hlen:(zs.take len).length=len:=by simp;omega
  refine ⟨zs.take len,?_,fun n hn=>hwz n (List.mem_of_mem_take hn),?_⟩
  ·refine ⟨some a,cap,by rw [hlen],by rw [hlen];exact hl,hm,(by intro h;cases h),fun _ _=>Nat.zero_le _,fun j u hj=>⟨a,rfl,?_⟩⟩
   rw [List.getElem?_map,List.getElem?_take] at hj
   split at hj
   ·rename_i hjl
    have hjz:j < zs.length:=by omega
    rw [hcell j hjz]
    simp [List.getElem?_eq_getElem hjz] at hj
    simp [←hj,List.getD,List.getElem?_eq_getElem hjz]
   ·simp at hj
  ·have:=hsz ((lits (H:=H) k (zs.take len)).length*P.bytesOf e+(lits (H:=H) k (zs.drop len)).length*P.bytesOf e) (by rw [hx];simp [DataW.weights,ht,Nat.add_mul])
   have h2:(lits (H:=H) k (zs.take len)).length=(zs.take len).length:=by simp [lits]
   rw [h2] at this
   omega
theorem XmH (ht:P.underlying t=some (.slice e)) (he:P.underlying e=some (.int .u8)) (hc:P.cellsOf e=1) (hb:P.bytesOf e=1)
  (h:DataW.trod enc P W 0 (fun _=>true) true fuel t [v]=some x) (hsz:∀n∈x.1.weights P t,n≤reachBytes) :
  ∃l:List UInt8,Bs 0 W v l∧l.length≤140737488355328:=by
 obtain ⟨zs,h1,h2,h3⟩:=Xq2 ht he hc h hsz
 refine ⟨zs.map fun n=>UInt8.ofNat n.toNat,?_,?_⟩
 ·unfold Bs
  have:u8s (zs.map fun n=>UInt8.ofNat n.toNat)=zs.map (Value.int .u8):=by
   simp only [u8s,List.map_map]
   apply List.map_congr_left
   intro n hn
   have hw:=h2 n hn
   simp [Lit.wf,IntKind.min,IntKind.max,IntKind.signed,IntKind.bits] at hw
   simp
   omega
  rw [this,List.length_map];exact h1
 ·rw [List.length_map,]
  rw [hb,Nat.mul_one] at h3
  have:=reachBytes_lt
  omega
end
theorem Xhn {H:Type} {P:Program} {ts:List TypeId} {ds:List (DataW H)} (h:(DataW.weightsEach P ts ds).all (·≤reachBytes)=true) {j:Nat} {t:TypeId} {d:DataW H} (ht:ts[j]?=some t) (hd:ds[j]?=some d):∀n∈d.weights P t,n≤reachBytes:=fun n hn=>by
 have:=List.all_eq_true.1 h _ (DataW.weights_mem_each ht hd n hn)
 simpa using this
open Go.RowKit
theorem Sl.den {W:World} {v:Value} {n:Nat} {xs:List Value} (h:Sl 0 W v n xs) (h1:∀u∈xs,u.oneCell'=true):Den (fun _=>False) W (.sq n (xs.map AV.x)) v:=by
 obtain ⟨ad,cap,rfl,h1',h2,h3,h4⟩:=Sl.split h
 rw [Den]
 refine ⟨ad,cap,xs,rfl,h1',h2,h3,?_,DenL.exact⟩
 rcases h4 with h4|⟨b,o,rfl,_,hc⟩
 ·exact .inl h4
 ·exact .inr ⟨b,o,rfl,fun h=>h,fun j u hj=>⟨hc j u hj,h1 u (List.mem_of_getElem? hj)⟩⟩
theorem Is.den {W:World} {v:Value} {l:List Int} (h:Is 0 W v l):Den (fun _=>False) W (.sq l.length (ia l)) v:=by
 have:=Sl.den h (fun u hu=>by obtain ⟨n,-,rfl⟩:=List.mem_map.1 hu;rfl)
 have e:ia l=(l.map (Value.int .i64)).map AV.x:=by simp [ia]
 rw [e];exact this
theorem Bs.den {W:World} {v:Value} {l:List UInt8} (h:Bs 0 W v l):Den (fun _=>False) W (.sq l.length (u8a l)) v:=
 Sl.den h (fun u hu=>by obtain ⟨n,-,rfl⟩:=List.mem_map.1 hu;rfl)
open Go.RowKit Go Go.ChangeShapes
theorem law_walk_sen {P:Program} {f:FuncId} {args:List AV} {ad:Nat→Addr} (h:Xay P f [.sen ad] args (fun r H'=>r=.x (.bool true)∧H'=[.sen ad])) (W:World) (hg:Gw W) (hs:XgV ad W) (vs:Array Value) (hd:DenL (fun _=>False) W args vs.toList):Calls P f vs W fun e w'=>e=.returned (.bool true)∧Ext W w':=by
 have hn:∀k,¬FB (fun _=>False) [Hp.sen ad] k:=fun k hk=>by
  rcases hk with hk|⟨x,hx,e⟩
  ·exact hk
  ·rw [List.mem_singleton] at hx;subst hx;cases e
 have:=h (fun _=>False) W vs.toList (fun _ h=>h.elim) ⟨fun x hx=>by rw [List.mem_singleton] at hx;subst hx;exact ⟨hs,fun k _ hf=>hn k hf⟩,List.pairwise_singleton _ _,fun x hx k hk=>by rw [List.mem_singleton] at hx;subst hx;cases hk⟩
  (hd.weak fun k hk=>(hn k hk).elim) ⟨fun k _ ⟨x,hx,e⟩=>(by rw [List.mem_singleton] at hx;subst hx;cases e),hg⟩
 refine this.mono fun e w' ⟨r,H',v,⟨hr,_⟩,he,hdv,_,hfr,_⟩=>?_
 subst hr
 rw [Den] at hdv
 subst hdv
 refine ⟨he,Fr.ext ⟨hfr.os,hfr.tape,hfr.output,hfr.size,fun k hk _=>hfr.block k hk fun ⟨x,hx,e⟩=>by rw [List.mem_singleton] at hx;subst hx;cases e⟩⟩
section
variable {P:Program} {W:World} {ti tp te ts:TypeId} {ms:Array (String × TypeId)} {f:Field} {nm:String}
theorem Xpc (hi:P.underlying ti=some (.interface ms)) (hrow:∀u,P.typeName? 3 u=some nm→u=tp) (hp:P.underlying tp=some (.pointer te)) (he:P.underlying te=some (.struct #[f])) (hft:f.type=ts) (hfo:f.offset=0) (hs:P.underlying ts=some .string) (hc:P.cellsOf te=1) (hcs:P.cellsOf ts=1) (r:List (String × DataW Unit)) :
  ∀(S:List (String × Nat × List UInt8)) (ps:List MemPlace),(∀x∈S,P.globalNamed x.1=some x.2.1∧(P.globals[x.2.1]?).map (·.type)=some ti) →
   DataW.LaidVars P W (S.map (fun x=>(x.1,DataW.iface nm (.ptr (.agg [.lit (.string x.2.2)]))))++r) ps →
   (∀b off,MemPlace.cell b off∈ps→(∃c t,W.heap[b]?=some (.cells c t (0,0)))∧∀u v,W.cell? ⟨b,off,none⟩=some (.iface u v)→Value.okWide P W .any 0 u v) →
   ∃al:List Addr,al.length=S.length∧(al.map fun a=>MemPlace.cell a.block a.off).Sublist ps∧∀(i:Nat) x,S[i]?=some x→∃a,al[i]?=some a∧W.cell? ⟨x.2.1,0,none⟩=some (.iface tp (.pointer (some a)))
 | [],ps,_,_,_=>⟨[],rfl,List.nil_sublist _,fun i x h=>by simp at h⟩
 | x :: S,ps,hg,hv,hrows=>by
   obtain ⟨g0,t0,cs0,f0,p0,q0,hg0,ht0,hv0,hd0,hq,rfl⟩:=hv
   obtain ⟨hgx,htx⟩:=hg x (List.mem_cons_self ..)
   obtain rfl:=Option.some.inj (hgx.symm.trans hg0)
   obtain rfl:=Option.some.inj (htx.symm.trans ht0)
   obtain ⟨l0⟩:=cs0
   have hw:∀u v,l0=[.iface u v]→W.cell? ⟨x.2.1,0,none⟩=some (.iface u v):=fun u v e=>by subst e;simpa using World.var?_cell hg0 hv0 0
   have ok0:∀u v,l0=[.iface u v]→Value.okWide P W .any 0 u v:=fun u v e=>by
    have h1:=hw u v e
    subst e
    exact (hrows x.2.1 0 (by simp [MemPlace.row])).2 u v h1
   obtain ⟨a0,s0,e0,hc0,hs0,hz0,rfl⟩:=errorString_of_trod hi hrow hp he hft hfo hs hc hcs hd0 ok0
   obtain ⟨al,h1,h2,h3⟩:=Xpc hi hrow hp he hft hfo hs hc hcs r S q0 (fun y hy=>hg y (List.mem_cons_of_mem _ hy)) hq (fun b off hm=>hrows b off (List.mem_append_right _ hm))
   refine ⟨a0 :: al,by simp [h1],?_,fun i y hy=>?_⟩
   ·rw [Xyt,List.append_assoc]
    refine List.Sublist.trans ?_ (List.sublist_append_right _ _)
    have:MemPlace.row a0 1++q0=MemPlace.cell a0.block a0.off :: q0:=by simp [MemPlace.row]
    rw [this]
    exact h2.cons_cons _
   ·cases i with
    | zero=>simp only [List.getElem?_cons_zero,Option.some.injEq] at hy;subst hy;exact ⟨a0,rfl,hw _ _ e0⟩
    | succ i=>exact h3 i y (by simpa using hy)
theorem Xrl (hi:P.underlying ti=some (.interface ms)) (hrow:∀u,P.typeName? 3 u=some nm→u=tp) (hp:P.underlying tp=some (.pointer te)) (he:P.underlying te=some (.struct #[f])) (hft:f.type=ts) (hfo:f.offset=0) (hs:P.underlying ts=some .string) (hc:P.cellsOf te=1) (hcs:P.cellsOf ts=1) (r:List (String × DataW Unit)) (S:List (String × Nat × List UInt8)) (hg:∀x∈S,P.globalNamed x.1=some x.2.1∧(P.globals[x.2.1]?).map (·.type)=some ti)
  (h:laidMet P (S.map (fun x=>(x.1,DataW.iface nm (.ptr (.agg [.lit (.string x.2.2)]))))++r) W) :
  ∃al:List Addr,al.length=S.length∧(∀(i j:Nat) a,al[i]?=some a→al[j]?=some a→i=j)∧(∀a∈al,∃c t,W.heap[a.block]?=some (.cells c t (0,0)))∧∀(i:Nat) x,S[i]?=some x→∃a,al[i]?=some a∧W.cell? ⟨x.2.1,0,none⟩=some (.iface tp (.pointer (some a))):=by
 obtain ⟨ps,hv,hnd,hrows⟩:=h
 obtain ⟨al,h1,h2,h3⟩:=Xpc hi hrow hp he hft hfo hs hc hcs r S ps hg hv hrows
 have hn:=List.Nodup.sublist h2 hnd
 refine ⟨al,h1,fun i j a hi' hj'=>?_,fun a ha=>?_,h3⟩
 ·obtain ⟨li,ei⟩:=List.getElem?_eq_some_iff.1 hi'
  obtain ⟨lj,ej⟩:=List.getElem?_eq_some_iff.1 hj'
  rw [List.nodup_iff_pairwise_ne] at hn
  have hp:=List.pairwise_iff_getElem.1 hn
  rcases Nat.lt_trichotomy i j with h4|h4|h4
  ·exact (hp i j (by simpa using li) (by simpa using lj) h4 (by simp [ei,ej])).elim
  ·exact h4
  ·exact (hp j i (by simpa using lj) (by simpa using li) h4 (by simp [ei,ej])).elim
 ·exact (hrows a.block a.off (h2.subset (List.mem_map.2 ⟨a,ha,rfl⟩))).1
end
theorem Xkq {W:World} (al:List Addr) (S:List (String × Nat × List UInt8)) (k:Nat) (hk:(S.drop k).map (fun x=>x.2.1)=Xrk) (h1:al.length=S.length) (h2:∀(i j:Nat) a,al[i]?=some a→al[j]?=some a→i=j) (h4:∀a∈al,∃c t,W.heap[a.block]?=some (.cells c t (0,0)))
  (h3:∀(i:Nat) x,S[i]?=some x→∃a,al[i]?=some a∧W.cell? ⟨x.2.1,0,none⟩=some (.iface Xux (.pointer (some a)))) (hlen:Xrk.length=7):∃ad,XgV ad W∧XeD ad:=by
 have hl:S.length=k+7∨S.length < k:=by
  have:=congrArg List.length hk
  rw [List.length_map,List.length_drop,hlen] at this
  omega
 have hl:S.length=k+7:=by
  rcases hl with hl|hl
  ·exact hl
  ·have:=congrArg List.length hk
   rw [List.length_map,List.length_drop,hlen] at this
   omega
 have hat:∀i,i < 7→al[k+i]?=some (al.getD (k+i) ⟨0,0,none⟩):=fun i hi=>by
  rw [List.getD_eq_getElem?_getD,List.getElem?_eq_getElem (by omega)];rfl
 refine ⟨fun i=>al.getD (k+i) ⟨0,0,none⟩,⟨fun i g hg=>?_,fun i hi=>?_⟩,fun i j hi hj e=>?_⟩
 ·have hi:i < 7:=by have:=(List.getElem?_eq_some_iff.1 hg).1;omega
  rw [←hk,List.getElem?_map,List.getElem?_drop] at hg
  obtain ⟨x,hx,rfl⟩:=Option.map_eq_some_iff.1 hg
  obtain ⟨a,ha,hc⟩:=h3 _ x hx
  rw [hat i hi] at ha
  cases ha
  exact hc
 ·rw [hlen] at hi
  exact h4 _ (List.mem_of_getElem? (hat i hi))
 ·have e1:=hat i hi
  have e2:=hat j hj
  simp only at e
  rw [←e] at e2
  have:=h2 _ _ _ e1 e2
  omega
open Go.RowKit Go Go.ChangeShapes Go.Deep
abbrev LL:List (String × DataW Unit):=Rows.checkStartsRow.laid
theorem XtL:Tryz.prog.globalNamed "errors.errorType"=some 7:=by kernel_rfl
theorem XtM:(Tryz.prog.cutTypes.find? (·.1 == "internal/reflectlite.rtype")).map (·.2)=some 167:=by kernel_rfl
theorem Xom:Tryz.prog.types.size=332:=by kernel_rfl
theorem XqJ:((List.range 332).filter fun t=>Tryz.prog.rowNamed t [101,114,114,111,114])=[55]:=by kernel_rfl
theorem XhK {w:World} {base:Nat} {sp:Nat→Bool} {held:Bool} {fuel:Nat} {t:TypeId} {ms:Array (String × TypeId)} {cs:List Value} {nm:String} {d:DataW Unit} {p:List MemPlace} (hi:Tryz.prog.underlying t=some (.interface ms))
  (h:DataW.trod (fun _=>()) Tryz.prog w base sp held fuel t cs=some (.iface nm d,p)):∃u v,cs=[.iface u v]:=by
 cases fuel with
 | zero=>simp [DataW.trod] at h
 | succ n=>
   unfold DataW.trod at h
   rw [hi] at h
   split at h<;>simp_all
theorem XeP {W:World} {n nm:String} {d:DataW Unit} {r:List (String × DataW Unit)} {g:Nat} {ti:TypeId} {ms:Array (String × TypeId)} (h:laidMet Tryz.prog ((n,.iface nm d) :: r) W)
  (hg:Tryz.prog.globalNamed n=some g) (ht:(Tryz.prog.globals[g]?).map (·.type)=some ti) (hi:Tryz.prog.underlying ti=some (.interface ms)):∃u v,W.cell? ⟨g,0,none⟩=some (.iface u v):=by
 obtain ⟨ps,⟨g0,t0,cs0,f0,p0,q0,hg0,ht0,hv0,hd0,-⟩,-⟩:=h
 obtain rfl:=Option.some.inj (hg.symm.trans hg0)
 obtain rfl:=Option.some.inj (ht.symm.trans ht0)
 obtain ⟨l0⟩:=cs0
 obtain ⟨u,v,hcs⟩:=XhK hi hd0
 simp only at hcs
 subst hcs
 exact ⟨u,v,by simpa using World.var?_cell hg0 hv0 0⟩
def Xuw:List (String × Nat × List UInt8):=[("strconv.ErrRange",10,[118,97,108,117,101,32,111,117,116,32,111,102,32,114,97,110,103,101]),("strconv.ErrSyntax",9,[105,110,118,97,108,105,100,32,115,121,110,116,97,120]),("jobmux/check.errLimit",0,[116,111,111,32,109,97,110,121,32,106,111,98,115]),("jobmux/check.errTwice",2,[116,104,101,32,110,97,109,101,32,105,115,32,117,115,101,100,32,116,119,105,99,101]),("jobmux/check.errUnknown",3,[97,32,110,101,101,100,32,105,115,32,110,111,32,106,111,98]),("jobmux/check.errRange",4,[97,32,118,97,108,117,101,32,105,115,32,111,117,116,32,111,102,32,105,116,115,32,114,97,110,103,101]),("jobmux/check.errPattern",5,[116,104,101,32,112,97,116,116,101,114,110,32,105,115,32,119,114,111,110,103]),("jobmux/check.errNever",6,[116,104,101,32,112,97,116,116,101,114,110,32,109,97,116,99,104,101,115,32,110,111,116,104,105,110,103]),("jobmux/check.errCycle",1,[106,111,98,115,32,110,101,101,100,32,111,110,101,32,97,110,111,116,104,101,114])]
theorem Xi8:∀x∈Xuw,Tryz.prog.globalNamed x.1=some x.2.1∧(Tryz.prog.globals[x.2.1]?).map (·.type)=some 55:=by
 have h:(Xuw.all fun x=>decide (Tryz.prog.globalNamed x.1=some x.2.1) && decide ((Tryz.prog.globals[x.2.1]?).map (·.type)=some 55))=true:=by kernel_rfl
 intro x hx
 have:=List.all_eq_true.1 h x hx
 rw [Bool.and_eq_true,decide_eq_true_eq,decide_eq_true_eq] at this
 exact this
theorem Xuy:∀u,Tryz.prog.typeName? 3 u=some "*errors.errorString"→u=Xux:=fun u h=>typeName_ptr_named (nm:= "errors.errorString") (by kernel_rfl) (by kernel_rfl) (by decide) u h
theorem Xkp {W:World} (h:laidMetH Tryz.prog LL W):∃ad,XgV ad W∧XeD ad:=by
 have hf:(LL.filter fun x=>x.2.handleName?.isSome)=[("errors.errorType",Rows.laid_errors_errorType)]:=by kernel_rfl
 have hn:(LL.filter fun x=>x.2.handleName?.isNone)=[("math/bits.deBruijn32tab",Rows.laid_math_bits_deBruijn32tab),("math/bits.deBruijn64tab",Rows.laid_math_bits_deBruijn64tab),("internal/strconv.uint64pow10",Rows.laid_internal_strconv_uint64pow10)]++Xuw.map (fun x=>(x.1,DataW.iface "*errors.errorString" (.ptr (.agg [.lit (.string x.2.2)]))))++[]:=by kernel_rfl
 unfold laidMetH at h
 rw [hf] at h
 have h1:laidMet Tryz.prog (LL.filter fun x=>x.2.handleName?.isNone) W:=h.1
 rw [hn] at h1
 have t3:laidMet Tryz.prog (Xuw.map (fun x=>(x.1,DataW.iface "*errors.errorString" (.ptr (.agg [.lit (.string x.2.2)]))))++[]) W:=h1.tail.tail.tail
 obtain ⟨al,a1,a2,a4,a3⟩:=Xrl (ti:=55) (tp:=Xux) (te:=295) (ts:=9) (nm:= "*errors.errorString") Tryz.underlying55 Xuy Tryz.underlying293 Tryz.underlying295 rfl rfl Tryz.underlying9 (by kernel_rfl) (by kernel_rfl) [] Xuw Xi8 t3
 exact Xkq al Xuw 2 (by decide) a1 a2 a4 a3 (by decide)
theorem Xms {W:World} (h:laidMetH Tryz.prog LL W) (hS:W.ShapedOpen Tryz.prog):Gw W:=by
 have hf:(LL.filter fun x=>x.2.handleName?.isSome)=[("errors.errorType",Rows.laid_errors_errorType)]:=by kernel_rfl
 have hn:(LL.filter fun x=>x.2.handleName?.isNone)=[("math/bits.deBruijn32tab",Rows.laid_math_bits_deBruijn32tab),("math/bits.deBruijn64tab",Rows.laid_math_bits_deBruijn64tab),("internal/strconv.uint64pow10",Rows.laid_internal_strconv_uint64pow10)]++Xuw.map (fun x=>(x.1,DataW.iface "*errors.errorString" (.ptr (.agg [.lit (.string x.2.2)]))))++[]:=by kernel_rfl
 unfold laidMetH at h
 rw [hf] at h
 obtain ⟨h1,h2⟩:=(show laidMet Tryz.prog (LL.filter fun x=>x.2.handleName?.isNone) W∧handlesMet Tryz.prog [("errors.errorType",Rows.laid_errors_errorType)] W from h)
 rw [hn] at h1
 obtain ⟨name,u,ty,e1,e2,e3,e4,e5⟩:=h2 _ (List.mem_singleton.2 rfl)
 have en:name=[101,114,114,111,114]:=(Option.some.inj e1).symm
 subst en
 obtain rfl:=Option.some.inj (XtM.symm.trans e2)
 have hm:ty∈(List.range 332).filter fun t=>Tryz.prog.rowNamed t [101,114,114,111,114]:=List.mem_filter.2 ⟨List.mem_range.2 (by rw [←Xom];exact e3),e4⟩
 rw [XqJ] at hm
 obtain rfl:=List.mem_singleton.1 hm
 have hh:typeHandle Tryz.prog 55=.pointer (some ⟨14,55,none⟩):=by kernel_rfl
 rw [hh] at e5
 have t1:=h1.tail
 have t2:=t1.tail
 have t3:=t2.tail
 have t4:=t3.tail
 have t5:=t4.tail
 obtain ⟨t,v,hr⟩:=XeP (g:=10) (ti:=55) t3 (by kernel_rfl) (by kernel_rfl) Tryz.underlying55
 obtain ⟨t',v',hs⟩:=XeP (g:=9) (ti:=55) t4 (by kernel_rfl) (by kernel_rfl) Tryz.underlying55
 refine ⟨by simpa using World.var?_cell XtL e5 0,⟨_,_,hs⟩,⟨_,_,hr⟩,?_,?_⟩
 ·exact Lib.tabIs_of_head (g:=11) (t:=302) (e:=24) (n:=20) (by kernel_rfl) (by kernel_rfl) (by kernel_rfl) (by kernel_rfl) (by kernel_rfl) (by kernel_rfl) t2
 ·have h0:(((begin Tryz.prog (fun _ _=>0) default).world.heap[gN - 1]?).bind Obj.row?).isSome=true:=by kernel_rfl
  obtain ⟨⟨z,t⟩,hz⟩:=Option.isSome_iff_exists.1 h0
  obtain ⟨cs,hh,-⟩:=hS.1 (gN - 1) z t (of_decide_eq_true (by kernel_rfl)) hz
  have h1:=(Array.getElem?_eq_some_iff.1 hh).1
  have h2:1≤gN:=by decide
  omega
noncomputable def laidWorld (os:Os):World:=
 let w0:=World.holding Tryz.prog os ⟨#[],#[],[]⟩
 { w0 with heap:=w0.heap.modify 7 fun
   | .cells _ t frozen=>.cells #[.iface 167 (.agg #[.pointer (some ⟨14,55,none⟩)])] t frozen
   | o=>o }
noncomputable def laidWorldL (os:Os) (L:List (String × DataW Unit)):World:=(laidWorld os).layVars Tryz.prog (L.filter fun x=>x.2.handleName?.isNone)
theorem XhQ (os:Os) (L:List (String × DataW Unit)):(laidWorldL os L).os=os:=(World.layVars_os _ _ _).trans rfl
theorem Xg0 {os:Os} {L:List (String × DataW Unit)} (args:Array Value) (hf:(laidWorld os).layFits Tryz.prog (L.filter fun x=>x.2.handleName?.isNone) []=true) (hi:(laidWorld os).layIfaces Tryz.prog (L.filter fun x=>x.2.handleName?.isNone) (laidWorldL os L)=true)
  (hh:(L.filter fun x=>x.2.handleName?.isSome).all (handleAtB Tryz.prog (laidWorldL os L))=true):laidMetH Tryz.prog L ((laidWorldL os L).forCall (fun _ _=>0) ⟨#[],args,[]⟩).memory:=by
 have h:laidMetH Tryz.prog L (laidWorldL os L):=by
  refine laidMetH_of_parts ?_ hh
  generalize hL:(L.filter fun x=>x.2.handleName?.isNone)=L' at *
  have e1:(L'.filter fun x=>(L'.map (·.1)).contains x.1)=L':=List.filter_eq_self.2 fun x hx=>List.contains_iff_mem.2 (List.mem_map.2 ⟨x,hx,rfl⟩)
  have e2:(L'.filter fun x=>!(L'.map (·.1)).contains x.1)=[]:=List.filter_eq_nil_iff.2 fun x hx=>by rw [List.contains_iff_mem.2 (List.mem_map.2 ⟨x,hx,rfl⟩)];simp
  exact laidMet_layVars (w0:=laidWorld os) (L'.map (·.1)) [] (by rw [e1];unfold laidWorldL;rw [hL]) (by rw [e1];exact hf) (by rw [e1];exact hi) (by rw [e2];exact LaidIn.none)
 exact h.of_heap (by simp [World.memory,World.forCall,Input.heap])
section
variable {H:Type} {enc:TypeId × Value→H}
theorem Xg1 {a:Assume} {C:Checked} {os:Os} {f:FuncId} {fn:Func} {s:ChangeSpec} {conds:List PathCond} {apart fresh handsOn again:Bool} {X:World→Array Value→Prop}
  (hX:∀(w w':World) (args:Array Value),w.heap=w'.heap→X w args→X w' args)
  (own:ownKnob C.prog.godebug=none) (started:os.Started) (noInit:C.prog.inits.idxOf? f=none) (hfn:C.prog.funcs[f]?=some fn)
  (witness:∃(w:World) (tape:Tape) (i:Input),w.os=os∧(w.forCall tape i).Shaped C.prog∧i.vars=[]∧Input.okWide C.prog (w.forCall tape i) .any w.heap.size f i ∧
   ((s.pre enc C.prog fn conds apart (w.forCall tape i).memory i.args∧X (w.forCall tape i).memory i.args)∧sizedMet enc C.prog fn (OpenSpec.ofChange s) apart (w.forCall tape i).memory i.args)∧a.holds C.prog (lone (Frame.enter C.prog f i.args .normal) [] (w.forCall tape i)))
  (contract:∀(W:World) (base:Nat) (args:Array Value) (ds gs:List (DataW H)) (before:List MemPlace),
   (∀(j:Nat) t v,fn.params[j]?=some t→args[j]?=some v→Value.okWide C.prog W .any base t v) →
   DataW.Whole enc C.prog fn.params.toList s.vars apart W args.toList ds gs before →
   conds.all (PathCond.test C.prog ⟨fn.params.toList,ds,s.plain.varTypes C.prog,gs⟩)=true →
   (DataW.weightsEach C.prog (fn.params.toList++s.plain.varTypes C.prog) (ds++gs)).all (·≤reachBytes)=true→X W args→W.ShapedOpen C.prog →
   Calls C.prog f args W fun e W'=>∃v,e=.returned v∧s.post enc C.prog fn apart fresh handsOn again W args v W') :
  ReturnsInHanded a C os f .any (fun w args=>(s.pre enc C.prog fn conds apart w args∧X w args)∧sizedMet enc C.prog fn (OpenSpec.ofChange s) apart w args) (s.post enc C.prog fn apart fresh handsOn again):=by
 refine returnsInHanded_of_calls own started noInit witness fun w tape i _ hsh _ hok hpre _=>?_
 obtain ⟨_,_,_,fn',hfn',_,_,_,_,hval⟩:=hok
 obtain rfl:fn'=fn:=Option.some.inj (hfn'.symm.trans hfn)
 obtain ⟨⟨⟨ds,gs,before,hw,hc⟩,hx⟩,hz⟩:=hpre
 refine (contract (w.forCall tape i) w.heap.size i.args ds gs before hval (DataW.Whole.of_heap (w':=w.forCall tape i) (by rfl) hw) hc (hz.weights hw) (hX _ _ _ (by rfl) hx) hsh).mono fun e W' ⟨v,he,hp⟩=>?_
 subst he
 exact ChangeSpec.post_blind hp
end
end Go.Proofs.YtdlblokjfoggpaaGreatDoor

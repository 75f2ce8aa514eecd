import Derived.Test.YtcmfamgnmehojaaGreatDoorW0
import Derived.ProofKit
import Derived.OpenShut
import Derived.ShutString
import Derived.ChangeOld
import Derived.Lib.SmallJoins
import Derived.SizedLaws
import Derived.Test.YtcmfamgnmehojaaGreatDoorW15
import Derived.Test.YtcmfamgnmehojaaGreatDoorW6
import Derived.Test.YtcmfamgnmehojaaGreatDoorW19
import Derived.Deep.Slices
import Derived.Deep.Fields
/- How a law's arguments are opened: what the reading of a []byte, a []int or a struct gives the walk. No program in sight. -/
set_option linter.unusedSimpArgs false
set_option linter.unusedVariables false
set_option maxRecDepth 100000
set_option maxHeartbeats 8000000
namespace Go.Proofs.YtcmfamgnmehojaaGreatDoor
open Go.ChangeShapes Go.WideShapes Go.ChangeAt Go.RowKit Go.Joins
def Is (lo:Nat) (w:World) (v:Value) (l:List Int):Prop:=Sl lo w v l.length (l.map (Value.int .i64))
theorem Is.mono {lo:Nat} {w w':World} {v:Value} {l:List Int} (h:Is lo w v l) (hb:Ext w w'):Is lo w' v l:=Sl.mono h hb
theorem Is.shape {lo:Nat} {w:World} {v:Value} {l:List Int} (h:Is lo w v l):∃ad cap,v=.slice ad l.length cap∧l.length≤cap:=Sl.shape h
def Xow (l:List Int):Prop:=∀x∈l,-9223372036854775808≤x∧x≤9223372036854775807
section
variable {H:Type} {enc:TypeId × Value→H} {P:Program} {W:World} {fuel:Nat} {t e:TypeId} {v:Value} {x:DataW H × List MemPlace}
theorem Xla {k:IntKind} (ht:P.underlying t=some (.slice e)) (he:P.underlying e=some (.int k)) (hc:P.cellsOf e=1)
  (h:DataW.trod enc P W 0 (fun _=>true) true fuel t [v]=some x) (hsz:∀n∈x.1.weights P t,n≤reachBytes) :
  ∃zs:List Int,Sl 0 W v zs.length (zs.map (Value.int k))∧(∀n∈zs,(Lit.int k n).wf=true)∧zs.length*P.bytesOf e≤reachBytes:=by
 rcases open_ints ht he hc h with ⟨hcs,hx⟩|⟨a,len,cap,zs,hcs,_,hl,hm,hz,hx,hcell,hwz⟩
 ·simp at hcs
  subst hcs
  exact ⟨[],Sl.nil _ _,by simp,by simp⟩
 ·simp at hcs
  subst hcs
  have hz':zs.length=cap:=by simpa using hz
  have hlen:(zs.take len).length=len:=by simp;omega
  refine ⟨zs.take len,?_,fun n hn=>hwz n (List.mem_of_mem_take hn),?_⟩
  ·refine ⟨some a,cap,by rw [hlen],by rw [hlen];exact hl,hm,(by intro h;cases h),fun _ _=>Nat.zero_le _,fun j u hj=>⟨a,rfl,?_⟩⟩
   rw [List.getElem?_map,List.getElem?_take] at hj
   split at hj
   ·rename_i hjl
    have hjz:j < zs.length:=by omega
    rw [hcell j hjz]
    simp [List.getElem?_eq_getElem hjz] at hj
    simp [←hj,List.getD,List.getElem?_eq_getElem hjz]
   ·simp at hj
  ·have:=hsz ((lits (H:=H) k (zs.take len)).length*P.bytesOf e+(lits (H:=H) k (zs.drop len)).length*P.bytesOf e) (by rw [hx];simp [DataW.weights,ht,Nat.add_mul])
   have h2:(lits (H:=H) k (zs.take len)).length=(zs.take len).length:=by simp [lits]
   rw [h2] at this
   omega
theorem XjT (ht:P.underlying t=some (.slice e)) (he:P.underlying e=some (.int .i64)) (hc:P.cellsOf e=1) (hb:P.bytesOf e=8)
  (h:DataW.trod enc P W 0 (fun _=>true) true fuel t [v]=some x) (hsz:∀n∈x.1.weights P t,n≤reachBytes) :
  ∃l:List Int,Is 0 W v l∧Xow l∧l.length≤140737488355328:=by
 obtain ⟨zs,h1,h2,h3⟩:=Xla ht he hc h hsz
 refine ⟨zs,h1,fun n hn=>?_,?_⟩
 ·have hw:=h2 n hn
  simp [Lit.wf,IntKind.min,IntKind.max,IntKind.signed,IntKind.bits] at hw
  omega
 ·rw [hb] at h3
  have:=reachBytes_lt
  omega
end
theorem Xiy {a:Int} (h:(Lit.int .i64 a).wf=true) : -9223372036854775808≤a∧a≤9223372036854775807:=by
 simp [Lit.wf,IntKind.min,IntKind.max,IntKind.signed,IntKind.bits] at h
 omega
theorem Xdm {H:Type} {P:Program} {ts:List TypeId} {ds:List (DataW H)} (h:(DataW.weightsEach P ts ds).all (·≤reachBytes)=true) {j:Nat} {t:TypeId} {d:DataW H} (ht:ts[j]?=some t) (hd:ds[j]?=some d):∀n∈d.weights P t,n≤reachBytes:=fun n hn=>by
 have:=List.all_eq_true.1 h _ (DataW.weights_mem_each ht hd n hn)
 simpa using this
open Go.RowKit
theorem Sl.den {W:World} {v:Value} {n:Nat} {xs:List Value} (h:Sl 0 W v n xs) (h1:∀u∈xs,u.oneCell'=true):Den (fun _=>False) W (.sq n (xs.map AV.x)) v:=by
 obtain ⟨ad,cap,rfl,h1',h2,h3,h4⟩:=Sl.split h
 rw [Den]
 refine ⟨ad,cap,xs,rfl,h1',h2,h3,?_,DenL.exact⟩
 rcases h4 with h4|⟨b,o,rfl,_,hc⟩
 ·exact .inl h4
 ·exact .inr ⟨b,o,rfl,fun h=>h,fun j u hj=>⟨hc j u hj,h1 u (List.mem_of_getElem? hj)⟩⟩
theorem Is.den {W:World} {v:Value} {l:List Int} (h:Is 0 W v l):Den (fun _=>False) W (.sq l.length (ia l)) v:=by
 have:=Sl.den h (fun u hu=>by obtain ⟨n,-,rfl⟩:=List.mem_map.1 hu;rfl)
 have e:ia l=(l.map (Value.int .i64)).map AV.x:=by simp [ia]
 rw [e];exact this
theorem Bs.den {W:World} {v:Value} {l:List UInt8} (h:Bs 0 W v l):Den (fun _=>False) W (.sq l.length (u8a l)) v:=
 Sl.den h (fun u hu=>by obtain ⟨n,-,rfl⟩:=List.mem_map.1 hu;rfl)
open Go.ChangeShapes Go.WideShapes Go.ChangeAt Go.RowKit Go.Joins Go.Deep
section
variable {H:Type} {enc:TypeId × Value→H} {W:World}
theorem Xgw {P:Program} {n:Nat}:∀(ts:List TypeId) (ds:List (DataW H)) (i:Nat) (t:TypeId) (d:DataW H),ts[i]?=some t→ds[i]?=some d→n∈d.weights P t→n∈DataW.weightsEach P ts ds
 | t :: ts,d :: ds,0,t',d',h1,h2,h3=>by
   simp at h1 h2;subst h1 h2
   rw [DataW.weightsEach];exact List.mem_append_left _ h3
 | t :: ts,d :: ds,i+1,t',d',h1,h2,h3=>by
   rw [DataW.weightsEach];exact List.mem_append_right _ (Xgw ts ds i t' d' (by simpa using h1) (by simpa using h2) h3)
 | [],_,i,_,_,h1,_,_=>by simp at h1
 | _ :: _,[],i,_,_,_,h2,_=>by simp at h2
theorem Xh5 {P:Program} {n:Nat} {e:TypeId}:∀(ds:List (DataW H)) (d:DataW H),d∈ds→n∈d.weights P e→n∈DataW.weightsAll P e ds
 | x :: ds,d,h,h3=>by
   rw [DataW.weightsAll]
   rcases List.mem_cons.1 h with rfl|h
   ·exact List.mem_append_left _ h3
   ·exact List.mem_append_right _ (Xh5 ds d h h3)
def XiQ (enc:TypeId × Value→H) (W:World) {α:Type} (e:TypeId) (c:Nat) (f:α→List AV) (Q:α→Prop):Prop:=
 ∀(n:Nat) (cs:List Value) (y:DataW H × List MemPlace),DataW.trod enc Tryz.prog W 0 (fun _=>true) true n e cs=some y→(∀k∈y.1.weights Tryz.prog e,k≤reachBytes)→∃a,DenL (fun _=>False) W (f a) cs∧cs.length=c∧(∀u∈cs,u.oneCell'=true)∧Q a
theorem XdR {α:Type} {t e:TypeId} {c:Nat} {f:α→List AV} {Q:α→Prop} (hel:XiQ enc W e c f Q) (ht:Tryz.prog.underlying t=some (.slice e)) (hC:Tryz.prog.cellsOf e=c) (hb1:1≤Tryz.prog.bytesOf e) {n:Nat} {v:Value} {x:DataW H × List MemPlace}
  (h:DataW.trod enc Tryz.prog W 0 (fun _=>true) true n t [v]=some x) (hw:∀k∈x.1.weights Tryz.prog t,k≤reachBytes) :
  ∃l:List α,Den (fun _=>False) W (.sq l.length (l.flatMap f)) v∧l.length≤140737488355328∧(∀a∈l,Q a)∧v.oneCell'=true:=by
 rcases open_slice ht h with ⟨e1,-⟩|⟨a,len,cap,m,q,D,Pl,e1,hb,hlc,hcm,hm,hx,hsl⟩
 ·simp at e1
  rw [e1]
  exact ⟨[],Sl.den (xs:=[]) (Sl.nil _ _) (by simp),by simp,by simp,rfl⟩
 ·simp at e1
  rw [e1]
  have hle:len≤m:=by rw [hm];split<;>omega
  have hwts:∀i,i < len→∀k∈(D i).weights Tryz.prog e,k≤reachBytes:=by
   intro i hi k hk
   refine hw k ?_
   rw [hx]
   simp only [DataW.weights,ht]
   refine List.mem_cons_of_mem _ (List.mem_append_left _ ?_)
   exact Xh5 _ _ (List.mem_map.2 ⟨i,List.mem_range.2 hi,rfl⟩) hk
  have hlenb:len≤140737488355328:=by
   have hwt:=hw ((len+(m - len))*Tryz.prog.bytesOf e) (by
    rw [hx]
    simp only [DataW.weights,ht,List.length_map,List.length_range]
    exact List.mem_cons_self)
   unfold reachBytes at hwt
   have:len*1≤(len+(m - len))*Tryz.prog.bytesOf e:=Nat.mul_le_mul (by omega) hb1
   omega
  have build:∀k,k≤len→∃(l:List α) (vals:List Value),l.length=k∧DenL (fun _=>False) W (l.flatMap f) vals∧vals.length=k*c∧(∀j u,vals[j]?=some u→W.cell? (a.add j)=some u∧u.oneCell'=true)∧∀j∈l,Q j:=by
   intro k
   induction k with
   | zero=>exact fun _=>⟨[],[],rfl,DenL.nil',by simp,by simp,by simp⟩
   | succ k ih=>
     intro hk
     obtain ⟨l,vals,h1,h2,h3',h4,h5⟩:=ih (by omega)
     obtain ⟨cs,hc,htr⟩:=hsl k (by omega)
     obtain ⟨j,g1,g2,g3,g4⟩:=hel _ _ _ htr (hwts k (by omega))
     rw [hC] at hc
     obtain ⟨-,-,hcell⟩:=World.cells?_some hc
     refine ⟨l++[j],vals++cs,by simp [h1],?_,by rw [Xpz,h3',g2,Nat.succ_mul],?_,?_⟩
     ·rw [List.flatMap_append]
      refine DenL.app h2 ?_
      have:[j].flatMap f=f j:=by simp
      rw [this];exact g1
     ·intro i u hi
      by_cases hlt:i < vals.length
      ·rw [List.getElem?_append_left hlt] at hi
       exact h4 i u hi
      ·rw [List.getElem?_append_right (by omega)] at hi
       have hi2:i - vals.length < c:=by
        have:=(List.getElem?_eq_some_iff.1 hi).1
        omega
       have:=hcell (i - vals.length) hi2
       rw [hi,Addr.add_add] at this
       rw [show i=k*c+(i - vals.length) by omega]
       exact ⟨this,g3 u (List.mem_of_getElem? hi)⟩
     ·intro j' hj'
      rcases List.mem_append.1 hj' with hj'|hj'
      ·exact h5 j' hj'
      ·rw [List.mem_singleton] at hj';subst hj';exact g4
  obtain ⟨l,vals,h1,h2,h3',h4,h5⟩:=build len (Nat.le_refl _)
  refine ⟨l,?_,by omega,h5,rfl⟩
  rw [h1]
  have hsl:Sl 0 W (.slice (some a) len cap) len vals:=⟨some a,cap,rfl,hlc,hcm,(by intro h;cases h),fun _ _=>Nat.zero_le _,fun j u hj=>⟨a,rfl,(h4 j u hj).1⟩⟩
  obtain ⟨ad,cap',e2,k1,k2,k3,k4⟩:=Sl.split hsl
  rw [Den]
  refine ⟨ad,cap',vals,e2,k1,k2,k3,?_,h2⟩
  rcases k4 with k4|⟨b,o,rfl,_,hcl⟩
  ·exact .inl k4
  ·exact .inr ⟨b,o,rfl,fun h=>h,fun j u hj=>⟨hcl j u hj,(h4 j u hj).2⟩⟩
theorem Xdx {e:TypeId} {fs:Array Field} {n:Nat} {cs:List Value} {y:DataW H × List MemPlace} (he:Tryz.prog.underlying e=some (.struct fs)) (hone:oneCellFields Tryz.prog fs=true) (hC:Tryz.prog.cellsOf e=fs.size)
  (h:DataW.trod enc Tryz.prog W 0 (fun _=>true) true n e cs=some y) (hw:∀k∈y.1.weights Tryz.prog e,k≤reachBytes) :
  cs.length=fs.size∧∃m,∀(i:Nat) (f:Field),fs[i]?=some f→∃(c:Value) (x:DataW H × List MemPlace),cs[i]?=some c∧DataW.trod enc Tryz.prog W 0 (fun _=>true) true m f.type [c]=some x∧∀k∈x.1.weights Tryz.prog f.type,k≤reachBytes:=by
 obtain ⟨xs,m,rfl,rfl,hl,hlen,hf⟩:=DataW.trod_struct he h
 rw [hC] at hl
 refine ⟨hl,m,fun i f hi=>?_⟩
 have hif:i < fs.size:=(Array.getElem?_eq_some_iff.1 hi).1
 obtain ⟨o1,o2⟩:=hone_of hone i f hi
 have hx:=hf i f hi
 rw [o1,o2,List.getElem?_eq_getElem (by omega)] at hx
 rw [List.drop_eq_getElem_cons (by omega),List.take_succ_cons,List.take_zero] at hx
 refine ⟨cs[i]'(by omega),xs[i]'(by omega),List.getElem?_eq_getElem (by omega),hx,fun k hk=>hw k ?_⟩
 simp only [DataW.weights,he]
 refine Xgw _ _ i f.type _ ?_ ?_ hk
 ·rw [List.getElem?_map,Array.getElem?_toList,hi];rfl
 ·rw [List.getElem?_map,List.getElem?_eq_getElem (by omega)];rfl
theorem Xn6:∀l:List (List UInt8),l.flatMap (fun s=>[AV.x (.string (bs s))])=sa l
 | []=>rfl
 | s :: l=>by rw [List.flatMap_cons,Xn6 l];rfl
theorem XnZ:XiQ enc W 9 1 (fun s:List UInt8=>[AV.x (.string (bs s))]) (fun _=>True):=by
 intro n cs y h _
 obtain ⟨s,e,-⟩:=DataW.trod_string Tryz.underlying9 h
 subst e
 exact ⟨s.data.toList,DenL.cons' (Xd2 s) DenL.nil',rfl,by simp;rfl,trivial⟩
theorem Xn0:XiQ enc W 39 2 (fun p:List UInt8 × List UInt8=>[AV.x (.string (bs p.1)),.x (.string (bs p.2))]) (fun _=>True):=by
 intro n cs y h hw
 obtain ⟨hl,m,hf⟩:=Xdx Tryz.underlying39 (by kernel_rfl) (by kernel_rfl) h hw
 obtain ⟨c0,c1,rfl⟩:∃c0 c1,cs=[c0,c1]:=by
  match cs,hl with
  | [c0,c1],_=>exact ⟨c0,c1,rfl⟩
 obtain ⟨a0,x0,e0,h0,-⟩:=hf 0 _ rfl
 obtain ⟨a1,x1,e1,h1,-⟩:=hf 1 _ rfl
 obtain rfl:=Option.some.inj e0
 obtain rfl:=Option.some.inj e1
 obtain ⟨s0,z0,-⟩:=DataW.trod_string Tryz.underlying9 h0
 obtain ⟨s1,z1,-⟩:=DataW.trod_string Tryz.underlying9 h1
 simp only [List.cons.injEq,and_true] at z0 z1
 subst z0 z1
 exact ⟨(s0.data.toList,s1.data.toList),DenL.cons' (Xd2 s0) (DenL.cons' (Xd2 s1) DenL.nil'),rfl,by simp;exact ⟨rfl,rfl⟩,trivial⟩
theorem XmQ:XiQ enc W 37 2 (fun p:Int × Int=>[AV.x (.int .i64 p.1),.x (.int .u64 p.2)]) (fun _=>True):=by
 intro n cs y h hw
 obtain ⟨hl,m,hf⟩:=Xdx Tryz.underlying37 (by kernel_rfl) (by kernel_rfl) h hw
 obtain ⟨c0,c1,rfl⟩:∃c0 c1,cs=[c0,c1]:=by
  match cs,hl with
  | [c0,c1],_=>exact ⟨c0,c1,rfl⟩
 obtain ⟨a0,x0,e0,h0,-⟩:=hf 0 _ rfl
 obtain ⟨a1,x1,e1,h1,-⟩:=hf 1 _ rfl
 obtain rfl:=Option.some.inj e0
 obtain rfl:=Option.some.inj e1
 obtain ⟨v0,z0,-⟩:=DataW.trod_int Tryz.underlying3 h0
 obtain ⟨v1,z1,-⟩:=DataW.trod_int Tryz.underlying31 h1
 simp only [List.cons.injEq,and_true] at z0 z1
 subst z0 z1
 exact ⟨(v0,v1),DenL.cons' (Xcu _) (DenL.cons' (Xcu _) DenL.nil'),rfl,by simp;exact ⟨rfl,rfl⟩,trivial⟩
def Xpa (j:JF):Prop:=j.env.length≤140737488355328∧j.needs.length≤140737488355328∧j.ladder.length≤140737488355328
theorem XnY:XiQ enc W 34 15 JF.cells Xpa:=by
 intro n cs y h hw
 obtain ⟨hl,m,hf⟩:=Xdx Tryz.underlying34 (by kernel_rfl) (by kernel_rfl) h hw
 obtain ⟨c0,c1,c2,c3,c4,c5,c6,c7,c8,c9,c10,c11,c12,c13,c14,rfl⟩:∃c0 c1 c2 c3 c4 c5 c6 c7 c8 c9 c10 c11 c12 c13 c14,cs=[c0,c1,c2,c3,c4,c5,c6,c7,c8,c9,c10,c11,c12,c13,c14]:=by
  match cs,hl with
  | [c0,c1,c2,c3,c4,c5,c6,c7,c8,c9,c10,c11,c12,c13,c14],_=>exact ⟨c0,c1,c2,c3,c4,c5,c6,c7,c8,c9,c10,c11,c12,c13,c14,rfl⟩
 obtain ⟨a0,x0,e0,h0,w0⟩:=hf 0 _ rfl
 obtain rfl:=Option.some.inj e0
 obtain ⟨a1,x1,e1,h1,w1⟩:=hf 1 _ rfl
 obtain rfl:=Option.some.inj e1
 obtain ⟨a2,x2,e2,h2,w2⟩:=hf 2 _ rfl
 obtain rfl:=Option.some.inj e2
 obtain ⟨a3,x3,e3,h3,w3⟩:=hf 3 _ rfl
 obtain rfl:=Option.some.inj e3
 obtain ⟨a4,x4,e4,h4,w4⟩:=hf 4 _ rfl
 obtain rfl:=Option.some.inj e4
 obtain ⟨a5,x5,e5,h5,w5⟩:=hf 5 _ rfl
 obtain rfl:=Option.some.inj e5
 obtain ⟨a6,x6,e6,h6,w6⟩:=hf 6 _ rfl
 obtain rfl:=Option.some.inj e6
 obtain ⟨a7,x7,e7,h7,w7⟩:=hf 7 _ rfl
 obtain rfl:=Option.some.inj e7
 obtain ⟨a8,x8,e8,h8,w8⟩:=hf 8 _ rfl
 obtain rfl:=Option.some.inj e8
 obtain ⟨a9,x9,e9,h9,w9⟩:=hf 9 _ rfl
 obtain rfl:=Option.some.inj e9
 obtain ⟨a10,x10,e10,h10,w10⟩:=hf 10 _ rfl
 obtain rfl:=Option.some.inj e10
 obtain ⟨a11,x11,e11,h11,w11⟩:=hf 11 _ rfl
 obtain rfl:=Option.some.inj e11
 obtain ⟨a12,x12,e12,h12,w12⟩:=hf 12 _ rfl
 obtain rfl:=Option.some.inj e12
 obtain ⟨a13,x13,e13,h13,w13⟩:=hf 13 _ rfl
 obtain rfl:=Option.some.inj e13
 obtain ⟨a14,x14,e14,h14,w14⟩:=hf 14 _ rfl
 obtain rfl:=Option.some.inj e14
 obtain ⟨s0,z0,-⟩:=DataW.trod_string Tryz.underlying9 h0
 obtain ⟨s1,z1,-⟩:=DataW.trod_string Tryz.underlying9 h1
 obtain ⟨l2,g2,n2,-,o2⟩:=XdR Xn0 Tryz.underlying29 (by kernel_rfl) (of_decide_eq_true (by kernel_rfl)) h2 w2
 obtain ⟨l3,g3,n3,-,o3⟩:=XdR XnZ Tryz.underlying30 (by kernel_rfl) (of_decide_eq_true (by kernel_rfl)) h3 w3
 obtain ⟨s4,z4,-⟩:=DataW.trod_bool Tryz.underlying4 h4
 obtain ⟨s5,z5,-⟩:=DataW.trod_string Tryz.underlying9 h5
 obtain ⟨s6,z6,-⟩:=DataW.trod_int Tryz.underlying3 h6
 obtain ⟨s7,z7,-⟩:=DataW.trod_int Tryz.underlying31 h7
 obtain ⟨s8,z8,-⟩:=DataW.trod_int Tryz.underlying31 h8
 obtain ⟨s9,z9,-⟩:=DataW.trod_int Tryz.underlying31 h9
 obtain ⟨s10,z10,-⟩:=DataW.trod_int Tryz.underlying3 h10
 obtain ⟨s11,z11,-⟩:=DataW.trod_int Tryz.underlying31 h11
 obtain ⟨l12,g12,n12,-,o12⟩:=XdR XmQ Tryz.underlying32 (by kernel_rfl) (of_decide_eq_true (by kernel_rfl)) h12 w12
 obtain ⟨s13,z13,-⟩:=DataW.trod_int Tryz.underlying3 h13
 obtain ⟨s14,z14,-⟩:=DataW.trod_int Tryz.underlying3 h14
 simp only [List.cons.injEq,and_true] at z0 z1 z4 z5 z6 z7 z8 z9 z10 z11 z13 z14
 subst z0 z1 z4 z5 z6 z7 z8 z9 z10 z11 z13 z14
 rw [Xn6] at g3
 refine ⟨⟨s0.data.toList,s1.data.toList,l2,l3,s4,s5.data.toList,s6,s7,s8,s9,s10,s11,l12,s13,s14⟩,?_,rfl,?_,⟨n2,n3,n12⟩⟩
 ·unfold JF.cells
  exact DenL.cons' (Xd2 s0) (DenL.cons' (Xd2 s1) (DenL.cons' g2 (DenL.cons' g3 (DenL.cons' (Xcu _) (DenL.cons' (Xd2 s5) (DenL.cons' (Xcu _) (DenL.cons' (Xcu _) (DenL.cons' (Xcu _) (DenL.cons' (Xcu _) (DenL.cons' (Xcu _) (DenL.cons' (Xcu _) (DenL.cons' g12 (DenL.cons' (Xcu _) (DenL.cons' (Xcu _) (DenL.nil')))))))))))))))
 ·intro u hu
  simp only [List.mem_cons,List.mem_nil_iff,or_false] at hu
  rcases hu with rfl|rfl|rfl|rfl|rfl|rfl|rfl|rfl|rfl|rfl|rfl|rfl|rfl|rfl|rfl<;>first|rfl|assumption
theorem Xk9 {n:Nat} {v:Value} {x:DataW H × List MemPlace} (h:DataW.trod enc Tryz.prog W 0 (fun _=>true) true n 23 [v]=some x) (hw:∀k∈x.1.weights Tryz.prog 23,k≤reachBytes) :
  ∃l:List JF,Den (fun _=>False) W (.sq l.length (jfa l)) v∧JBs l:=by
 obtain ⟨l,g,n,hq,-⟩:=XdR XnY Tryz.underlying23 (by kernel_rfl) (of_decide_eq_true (by kernel_rfl)) h hw
 exact ⟨l,g,n,hq⟩
end
end Go.Proofs.YtcmfamgnmehojaaGreatDoor

import Derived.Test.YtdpobjakdplljaaGreatDoorY45
import Derived.Test.YtdpobjakdplljaaGreatDoorY31
import Derived.Test.YtdpobjakdplljaaGreatDoorRows
import Derived.Deep.Slices
/- A law's argument that is a list of events, opened; of small bulk. -/
set_option linter.unusedSimpArgs false
set_option linter.unusedVariables false
set_option maxRecDepth 100000
set_option maxHeartbeats 8000000
namespace Go.Proofs.YtdpobjakdplljaaGreatDoor
open Go.ChangeShapes Go.WideShapes Go.ChangeAt Go.RowKit Go.Joins Go.Deep
section
variable {H:Type} {enc:TypeId × Value→H} {W:World}
theorem XpG (d:DataW H):1≤Rows.uptoBulk d:=by
 unfold Rows.uptoBulk
 split<;>omega
theorem XeR {d:DataW H}:∀{ds:List (DataW H)},d∈ds→Rows.uptoBulk d≤Rows.uptoBulkAll ds
 | x :: ds,h=>by
   rw [Rows.uptoBulkAll]
   rcases List.mem_cons.1 h with rfl|h
   ·omega
   ·have:=XeR h;omega
theorem Xk3:∀ds:List (DataW H),ds.length≤Rows.uptoBulkAll ds
 | []=>by simp
 | d :: ds=>by
   rw [Rows.uptoBulkAll,Xvy]
   have h1:=Xk3 ds
   have h2:=XpG d
   omega
theorem XoL {n:Nat} {c:Value} {y:DataW H × List MemPlace} (h:DataW.trod enc Tryz.prog W 0 (fun _=>true) true n 39 [c]=some y):∃l:List UInt8,Den (fun _=>False) W (.sq l.length (u8a l)) c∧l.length≤Rows.uptoBulk y.1∧c.oneCell'=true:=by
 rcases open_ints Tryz.underlying39 Tryz.underlying5 (by kernel_rfl) h with ⟨hcs,hx⟩|⟨a,len,cap,zs,hcs,_,hl,hm,hz,hx,hcell,hwz⟩
 ·simp at hcs
  subst hcs
  exact ⟨[],Sl.den (xs:=[]) (Sl.nil _ _) (by simp),by simp,rfl⟩
 ·simp at hcs
  subst hcs
  have hz':zs.length=cap:=by simpa using hz
  have hlen:(zs.take len).length=len:=by simp;omega
  have hu:u8s ((zs.take len).map fun n=>UInt8.ofNat n.toNat)=(zs.take len).map (Value.int .u8):=by
   simp only [u8s,List.map_map]
   apply List.map_congr_left
   intro n hn
   have hw:=hwz n (List.mem_of_mem_take hn)
   simp [Lit.wf,IntKind.min,IntKind.max,IntKind.signed,IntKind.bits] at hw
   simp
   omega
  have hb:Bs 0 W (.slice (some a) len cap) ((zs.take len).map fun n=>UInt8.ofNat n.toNat):=by
   unfold Bs
   rw [hu,List.length_map,hlen]
   refine ⟨some a,cap,rfl,hl,hm,(by intro h;cases h),fun _ _=>Nat.zero_le _,fun j u hj=>⟨a,rfl,?_⟩⟩
   rw [List.getElem?_map,List.getElem?_take] at hj
   split at hj
   ·rename_i hjl
    have hjz:j < zs.length:=by omega
    rw [hcell j hjz]
    simp [List.getElem?_eq_getElem hjz] at hj
    simp [←hj,List.getD,List.getElem?_eq_getElem hjz]
   ·simp at hj
  refine ⟨_,hb.den,?_,rfl⟩
  rw [hx]
  have h1:=Xk3 (lits (H:=H) .u8 (zs.take len))
  have h2:(lits (H:=H) .u8 (zs.take len)).length=(zs.take len).length:=by simp [lits]
  simp only [Rows.uptoBulk,List.length_map]
  omega
theorem XmA {n:Nat} {cs:List Value} {y:DataW H × List MemPlace} (h:DataW.trod enc Tryz.prog W 0 (fun _=>true) true n 41 cs=some y) (hb:Rows.uptoBulk y.1≤1048576):∃e:EF,XaV (fun _=>False) W e.cells cs∧cs.length=8∧(∀u∈cs,u.oneCell'=true)∧EOk e:=by
 obtain ⟨xs,m,rfl,rfl,hl,hlen,hf⟩:=DataW.trod_struct Tryz.underlying41 h
 rw [show Tryz.prog.cellsOf 41=8 by kernel_rfl] at hl
 have hlen':xs.length=8:=hlen
 have k3:Tryz.prog.cellsOf 3=1:=by kernel_rfl
 have k9:Tryz.prog.cellsOf 9=1:=by kernel_rfl
 have k4:Tryz.prog.cellsOf 4=1:=by kernel_rfl
 have kd:Tryz.prog.cellsOf 39=1:=by kernel_rfl
 have ku:Tryz.prog.cellsOf 38=1:=by kernel_rfl
 obtain ⟨c0,c1,c2,c3,c4,c5,c6,c7,rfl⟩:∃c0 c1 c2 c3 c4 c5 c6 c7,cs=[c0,c1,c2,c3,c4,c5,c6,c7]:=by
  match cs,hl with
  | [c0,c1,c2,c3,c4,c5,c6,c7],_=>exact ⟨c0,c1,c2,c3,c4,c5,c6,c7,rfl⟩
 obtain ⟨x0,x1,x2,x3,x4,x5,x6,x7,rfl⟩:∃x0 x1 x2 x3 x4 x5 x6 x7,xs=[x0,x1,x2,x3,x4,x5,x6,x7]:=by
  match xs,hlen' with
  | [x0,x1,x2,x3,x4,x5,x6,x7],_=>exact ⟨x0,x1,x2,x3,x4,x5,x6,x7,rfl⟩
 have each:=fun (i:Nat) (f:Field) (t:TypeId) (c:Value) h1 (h2:f.type=t) (h3:f.offset=i) (h4:Tryz.prog.cellsOf t=1) (h5:([c0,c1,c2,c3,c4,c5,c6,c7].drop i).take 1=[c])=>(by have q:=hf i f h1;rw [h2,h3,h4,h5] at q;exact q:DataW.trod enc Tryz.prog W 0 (fun _=>true) true m t [c]=[x0,x1,x2,x3,x4,x5,x6,x7][i]?)
 have q0:DataW.trod enc Tryz.prog W 0 (fun _=>true) true m 3 [c0]=some x0:=each 0 _ _ c0 rfl rfl rfl k3 rfl
 have q1:DataW.trod enc Tryz.prog W 0 (fun _=>true) true m 9 [c1]=some x1:=each 1 _ _ c1 rfl rfl rfl k9 rfl
 have q2:DataW.trod enc Tryz.prog W 0 (fun _=>true) true m 4 [c2]=some x2:=each 2 _ _ c2 rfl rfl rfl k4 rfl
 have q3:DataW.trod enc Tryz.prog W 0 (fun _=>true) true m 3 [c3]=some x3:=each 3 _ _ c3 rfl rfl rfl k3 rfl
 have q4:DataW.trod enc Tryz.prog W 0 (fun _=>true) true m 39 [c4]=some x4:=each 4 _ _ c4 rfl rfl rfl kd rfl
 have q5:DataW.trod enc Tryz.prog W 0 (fun _=>true) true m 38 [c5]=some x5:=each 5 _ _ c5 rfl rfl rfl ku rfl
 have q6:DataW.trod enc Tryz.prog W 0 (fun _=>true) true m 3 [c6]=some x6:=each 6 _ _ c6 rfl rfl rfl k3 rfl
 have q7:DataW.trod enc Tryz.prog W 0 (fun _=>true) true m 3 [c7]=some x7:=each 7 _ _ c7 rfl rfl rfl k3 rfl
 clear each hf h hlen hlen' hl
 obtain ⟨v0,e0,-,u0⟩:=DataW.trod_int Tryz.underlying3 q0
 obtain ⟨s1,e1,z1,-⟩:=DataW.trod_string Tryz.underlying9 q1
 obtain ⟨w2,e2,-⟩:=DataW.trod_bool Tryz.underlying4 q2
 obtain ⟨v3,e3,-,u3⟩:=DataW.trod_int Tryz.underlying3 q3
 obtain ⟨l4,g4,n4,o4⟩:=XoL q4
 obtain ⟨v5,e5,-,u5⟩:=DataW.trod_int Tryz.underlying38 q5
 obtain ⟨v6,e6,-,u6⟩:=DataW.trod_int Tryz.underlying3 q6
 obtain ⟨v7,e7,-,u7⟩:=DataW.trod_int Tryz.underlying3 q7
 simp only [List.cons.injEq,and_true] at e0 e1 e2 e3 e5 e6 e7
 subst e0 e1 e2 e3 e5 e6 e7
 have b1:=XeR (d:=x1.1) (ds:=[x0.1,x1.1,x2.1,x3.1,x4.1,x5.1,x6.1,x7.1]) (by simp)
 have b4:=XeR (d:=x4.1) (ds:=[x0.1,x1.1,x2.1,x3.1,x4.1,x5.1,x6.1,x7.1]) (by simp)
 have hb':Rows.uptoBulkAll [x0.1,x1.1,x2.1,x3.1,x4.1,x5.1,x6.1,x7.1]+1≤1048576:=by
  have h5:=hb
  rw [Rows.uptoBulk] at h5
  exact h5
 have z2:Rows.uptoBulk x1.1=s1.data.toList.length+1:=by rw [z1,Rows.uptoBulk]
 clear hb
 have p3:=Xfm u3
 have p6:=Xfm u6
 have p7:=Xfm u7
 have p5:0≤v5∧v5≤18446744073709551615:=by
  simp [Lit.wf,IntKind.min,IntKind.max,IntKind.signed,IntKind.bits] at u5
  omega
 refine ⟨⟨v0,s1.data.toList,w2,v3,l4,v5,v6,v7⟩,?_,rfl,?_,⟨by simp only;omega,by simp only;omega,p3,p5,p6,p7⟩⟩
 ·unfold EF.cells
  exact XaV.cons' (XdP _) (XaV.cons' (Xr0 s1) (XaV.cons' (XdP _) (XaV.cons' (XdP _) (XaV.cons' g4 (XaV.cons' (XdP _) (XaV.cons' (XdP _) (XaV.cons' (XdP _) XaV.nil')))))))
 ·intro u hu
  simp only [List.mem_cons,List.mem_nil_iff,or_false] at hu
  rcases hu with rfl|rfl|rfl|rfl|rfl|rfl|rfl|rfl<;>first|rfl|exact o4
theorem XkB {n:Nat} {v:Value} {x:DataW H × List MemPlace} (h:DataW.trod enc Tryz.prog W 0 (fun _=>true) true n 26 [v]=some x) (hb:Rows.uptoBulk x.1≤1048576) :
  ∃l:List EF,Den (fun _=>False) W (.sq l.length (va l)) v∧∀e∈l,EOk e:=by
 have hC:Tryz.prog.cellsOf 41=8:=by kernel_rfl
 rcases open_slice Tryz.underlying26 h with ⟨e1,-⟩|⟨a,len,cap,m,q,D,Pl,e1,hb',hlc,hcm,hm,hx,hel⟩
 ·simp at e1
  rw [e1]
  exact ⟨[],Sl.den (xs:=[]) (Sl.nil _ _) (by simp),by simp⟩
 ·simp at e1
  rw [e1]
  have hle:len≤m:=by rw [hm];split<;>omega
  have hbl:∀i,i < len→Rows.uptoBulk (D i)≤1048576:=by
   intro i hi
   rw [hx] at hb
   have h1:=XeR (d:=D i) (ds:=(List.range len).map D) (List.mem_map.2 ⟨i,List.mem_range.2 hi,rfl⟩)
   simp only [Rows.uptoBulk] at hb
   omega
  have build:∀k,k≤len→∃(l:List EF) (vals:List Value),l.length=k∧XaV (fun _=>False) W (va l) vals∧vals.length=k*8∧(∀j u,vals[j]?=some u→W.cell? (a.add j)=some u∧u.oneCell'=true)∧∀e∈l,EOk e:=by
   intro k
   induction k with
   | zero=>exact fun _=>⟨[],[],rfl,XaV.nil',rfl,by simp,by simp⟩
   | succ k ih=>
     intro hk
     obtain ⟨l,vals,h1,h2,h3',h4,h5⟩:=ih (by omega)
     obtain ⟨cs,hc,htr⟩:=hel k (by omega)
     obtain ⟨j,g1,g2,g3,g4⟩:=XmA htr (hbl k (by omega))
     rw [hC] at hc
     obtain ⟨-,-,hcell⟩:=World.cells?_some hc
     refine ⟨l++[j],vals++cs,by simp [h1],?_,by simp [h3',g2];omega,?_,?_⟩
     ·rw [XjH]
      refine XaV.app h2 ?_
      have:va [j]=j.cells:=by simp [va]
      rw [this];exact g1
     ·intro i u hi
      by_cases hlt:i < vals.length
      ·rw [List.getElem?_append_left hlt] at hi
       exact h4 i u hi
      ·rw [List.getElem?_append_right (by omega)] at hi
       have hi2:i - vals.length < 8:=by
        have:=(List.getElem?_eq_some_iff.1 hi).1
        omega
       have:=hcell (i - vals.length) hi2
       rw [hi,Addr.add_add] at this
       rw [show i=k*8+(i - vals.length) by omega]
       exact ⟨this,g3 u (List.mem_of_getElem? hi)⟩
     ·intro j' hj'
      rcases List.mem_append.1 hj' with hj'|hj'
      ·exact h5 j' hj'
      ·rw [List.mem_singleton] at hj';subst hj';exact g4
  obtain ⟨l,vals,h1,h2,h3',h4,h5⟩:=build len (Nat.le_refl _)
  refine ⟨l,?_,h5⟩
  rw [h1]
  have hsl:Sl 0 W (.slice (some a) len cap) len vals:=⟨some a,cap,rfl,hlc,hcm,(by intro h;cases h),fun _ _=>Nat.zero_le _,fun j u hj=>⟨a,rfl,(h4 j u hj).1⟩⟩
  obtain ⟨ad,cap',e2,k1,k2,k3,k4⟩:=Sl.split hsl
  rw [Den]
  refine ⟨ad,cap',vals,e2,k1,k2,k3,?_,h2⟩
  rcases k4 with k4|⟨b,o,rfl,_,hcl⟩
  ·exact .inl k4
  ·exact .inr ⟨b,o,rfl,fun h=>h,fun j u hj=>⟨hcl j u hj,(h4 j u hj).2⟩⟩
end
end Go.Proofs.YtdpobjakdplljaaGreatDoor

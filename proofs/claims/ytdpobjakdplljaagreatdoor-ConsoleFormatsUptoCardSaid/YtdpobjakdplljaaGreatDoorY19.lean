import Derived.Test.YtdpobjakdplljaaGreatDoorY18
import Derived.Test.YtdpobjakdplljaaGreatDoorY16
import Derived.Test.YtdpobjakdplljaaGreatDoorY8
import Derived.Test.YtdpobjakdplljaaGreatDoorY9
/- What a made event of the mill is like, and what becomes of it. No program in sight. -/
set_option linter.unusedSimpArgs false
set_option linter.unusedVariables false
set_option maxRecDepth 100000
set_option maxHeartbeats 8000000
namespace Go.Proofs.YtdpobjakdplljaaGreatDoor
open Go.RowKit
def NmE (s:List UInt8):Prop:=Xct s∧s.length=1
theorem XsF {v:Nat} (hv:v < 5):NmE (Xkw.getD v []):=by
 match v,hv with
 | 0,_|1,_|2,_|3,_|4,_=>exact ⟨XbD (by decide),rfl⟩
structure SK (m k:Nat) (e:EF):Prop where
 kind:e.kind=((k+1:Nat):Int)
 job:if 78∈Xa2.getD k [] then NmE e.job else e.job=[]
 ok:if 75∈Xa2.getD k [] then True else e.ok=false
 code:if 67∈Xa2.getD k [] then -1≤e.code∧e.code≤1 else e.code=0
 data:if 68∈Xa2.getD k []∨k=12 then e.data.length≤m else e.data=[]
 time:if 84∈Xa2.getD k [] then 0≤e.time∧e.time≤18446744073709551615 else e.time=0
 client:if 76∈Xa2.getD k [] then 0≤e.client∧e.client≤3 else e.client=0
 num:if 77∈Xa2.getD k [] then -5≤e.num∧e.num≤294 else e.num=0
def SE (m:Nat) (e:EF):Prop:=∃k,k < 14∧SK m k e
section
variable {m:Nat} {s d:List UInt8} {b:Bool} {c n:Int} {K:Int}
theorem XhA (hs:NmE s) (h:K=1):SE m ⟨K,s,b,0,[],0,0,0⟩:=by subst h;exact ⟨0,by decide,⟨rfl,hs,trivial,rfl,rfl,rfl,rfl,rfl⟩⟩
theorem Xs2 (hs:NmE s) (h1 : -1≤c) (h2:c≤1) (h:K=2):SE m ⟨K,s,false,c,[],0,0,0⟩:=by subst h;exact ⟨1,by decide,⟨rfl,hs,rfl,⟨h1,h2⟩,rfl,rfl,rfl,rfl⟩⟩
theorem Xpa (hs:NmE s) (hd:d.length≤m) (h:K=3):SE m ⟨K,s,false,0,d,0,0,0⟩:=by subst h;exact ⟨2,by decide,⟨rfl,hs,rfl,rfl,hd,rfl,rfl,rfl⟩⟩
theorem Xs4 (h1:0≤n) (h2:n≤18446744073709551615) (h:K=4):SE m ⟨K,[],false,0,[],n,0,0⟩:=by subst h;exact ⟨3,by decide,⟨rfl,rfl,rfl,rfl,rfl,⟨h1,h2⟩,rfl,rfl⟩⟩
theorem Xs1 (h1:0≤n) (h2:n≤18446744073709551615) (h:K=5):SE m ⟨K,[],false,0,[],n,0,0⟩:=by subst h;exact ⟨4,by decide,⟨rfl,rfl,rfl,rfl,rfl,⟨h1,h2⟩,rfl,rfl⟩⟩
theorem Xij (hs:NmE s) (h:K=6∨K=7∨K=8):SE m ⟨K,s,false,0,[],0,0,0⟩:=by
 rcases h with rfl|rfl|rfl
 ·exact ⟨5,by decide,⟨rfl,hs,rfl,rfl,rfl,rfl,rfl,rfl⟩⟩
 ·exact ⟨6,by decide,⟨rfl,hs,rfl,rfl,rfl,rfl,rfl,rfl⟩⟩
 ·exact ⟨7,by decide,⟨rfl,hs,rfl,rfl,rfl,rfl,rfl,rfl⟩⟩
theorem Xs3 (hd:d.length≤m) (h:K=9):SE m ⟨K,[],false,0,d,0,0,0⟩:=by subst h;exact ⟨8,by decide,⟨rfl,rfl,rfl,rfl,hd,rfl,rfl,rfl⟩⟩
theorem Xs0 (h:K=10):SE m ⟨K,[],false,0,[],0,0,0⟩:=by subst h;exact ⟨9,by decide,⟨rfl,rfl,rfl,rfl,rfl,rfl,rfl,rfl⟩⟩
theorem Xo9 (h1:0≤c) (h2:c≤3) (h:K=11):SE m ⟨K,[],false,0,[],0,c,0⟩:=by subst h;exact ⟨10,by decide,⟨rfl,rfl,rfl,rfl,rfl,rfl,⟨h1,h2⟩,rfl⟩⟩
theorem Xe4 (h1:0≤c) (h2:c≤3) (hd:d.length≤m) (h:K=12):SE m ⟨K,[],false,0,d,0,c,0⟩:=by subst h;exact ⟨11,by decide,⟨rfl,rfl,rfl,rfl,hd,rfl,⟨h1,h2⟩,rfl⟩⟩
theorem XqX (h1:0≤c) (h2:c≤3) (hd:d.length≤m) (h:K=13):SE m ⟨K,[],false,0,d,0,c,0⟩:=by subst h;exact ⟨12,by decide,⟨rfl,rfl,rfl,rfl,hd,rfl,⟨h1,h2⟩,rfl⟩⟩
theorem XqY (h1:0≤c) (h2:c≤3) (h3 : -5≤n) (h4:n≤294) (h:K=14):SE m ⟨K,[],false,0,[],0,c,n⟩:=by subst h;exact ⟨13,by decide,⟨rfl,rfl,rfl,rfl,rfl,rfl,⟨h1,h2⟩,⟨h3,h4⟩⟩⟩
end
def m0 (n:Int):Int:=if 0 < n then n else 0
def clE (e:EF):EF:=⟨e.kind,e.job,e.ok,m0 e.code,if e.kind=13 then [] else e.data,if 1125899906842624 < e.time then 7 else e.time,m0 e.client,m0 e.num⟩
theorem Xmu {n:Int} (h:n≤999):Sm (m0 n):=by unfold m0 Sm;split<;>omega
theorem XuN {v:Int} (h0:0≤v) (h1:v≤999):(XbJ v.toNat).length≤3:=Xee 2 v.toNat (Nat.lt_of_lt_of_le (show v.toNat < 1000 by omega) (by decide))
theorem Xho {n:Int} (h:n≤999):(dcI (m0 n)).length≤3:=by
 have h0:0≤m0 n:=by unfold m0;split<;>omega
 have h1:m0 n≤999:=by unfold m0;split<;>omega
 rw [XhR h0]
 exact XuN h0 h1
theorem Xj8 {n:Int} (h0:0≤n):Xg6 (if 1125899906842624 < n then 7 else n):=by unfold Xg6;split<;>omega
theorem XiE (e:EF) (f:UInt8):(XbQ e [f]).length=(Xcr e f).length+1:=by simp [XbQ]
theorem Xm5 (e:EF) (f g:UInt8):(XbQ e [f,g]).length=(Xcr e f).length+(Xcr e g).length+2:=by simp [XbQ];omega
theorem Xuy (e:EF):(Xcr e 75).length≤6:=by
 show (if e.ok then wOk else Xdb).length≤6
 split<;>decide
theorem SK.good {m k:Nat} {e:EF} (hk:k < 14) (h:SK m k e):XfI (clE e)∧(XdO (clE e)).length≤4*(clE e).data.length+39∧(clE e).data.length≤e.data.length:=by
 obtain ⟨q1,q2,q3,q4,q5,q6,q7,q8⟩:=h
 have hdl:(clE e).data.length≤e.data.length:=by simp only [clE];split<;>simp
 have hq:=XcI (clE e).data
 suffices hs:(∀f∈Xa2.getD k [],FOk (clE e) f)∧(Xa2.getD k []).foldl (Xto (clE e)) (ev0 (k+1:Nat))=clE e∧(XbQ (clE e) (Xa2.getD k [])).length≤4*(clE e).data.length+30 by
  obtain ⟨s1,s2,s3⟩:=hs
  have hg:XfI (clE e):=⟨k,hk,q1,s1,s2⟩
  refine ⟨hg,?_,hdl⟩
  obtain ⟨k',p1,p2,p3,p4⟩:=hg.line
  obtain rfl:k'=k:=by have:(clE e).kind=e.kind:=rfl;omega
  have:=XrV hk
  rw [p3,Xhe,XvH]
  omega
 clear hdl
 obtain ⟨kind,job,ok,code,data,time,client,num⟩:=e
 have hm0:m0 0=0:=rfl
 have ht0:(if (1125899906842624:Int) < 0 then 7 else 0)=(0:Int):=rfl
 have htl:0≤time→(XbJ (if 1125899906842624 < time then 7 else time).toNat).length≤18:=fun h0=>Xhh (Xj8 h0)
 match k,hk with
 | 0,_=>
   obtain rfl:kind=((1:Nat):Int):=q1
   obtain rfl:code=0:=q4
   obtain rfl:data=[]:=q5
   obtain rfl:time=0:=q6
   obtain rfl:client=0:=q7
   obtain rfl:num=0:=q8
   refine ⟨fun f hf=>?_,rfl,?_⟩
   ·rcases List.mem_cons.1 (show f∈[78,75] from hf) with rfl|hf
    ·exact (show NmE job from q2).1
    ·obtain rfl:f=75:=List.mem_singleton.1 hf
     exact trivial
   ·have t0:(Xcr (clE ⟨((1:Nat):Int),job,ok,0,[],0,0,0⟩) 78).length≤1:=show job.length≤1 from Nat.le_of_eq (show NmE job from q2).2
    have t1:(Xcr (clE ⟨((1:Nat):Int),job,ok,0,[],0,0,0⟩) 75).length≤6:=Xuy _
    rw [show (XbQ (clE ⟨((1:Nat):Int),job,ok,0,[],0,0,0⟩) (Xa2.getD 0 [])).length=(Xcr (clE ⟨((1:Nat):Int),job,ok,0,[],0,0,0⟩) 78).length+(Xcr (clE ⟨((1:Nat):Int),job,ok,0,[],0,0,0⟩) 75).length+2 from Xm5 _ _ _];omega
 | 1,_=>
   obtain rfl:kind=((2:Nat):Int):=q1
   obtain rfl:ok=false:=q3
   obtain rfl:data=[]:=q5
   obtain rfl:time=0:=q6
   obtain rfl:client=0:=q7
   obtain rfl:num=0:=q8
   refine ⟨fun f hf=>?_,rfl,?_⟩
   ·rcases List.mem_cons.1 (show f∈[78,67] from hf) with rfl|hf
    ·exact (show NmE job from q2).1
    ·obtain rfl:f=67:=List.mem_singleton.1 hf
     exact Xmu (n:=code) (by have:=(show -1≤code∧code≤1 from q4).2;omega)
   ·have t0:(Xcr (clE ⟨((2:Nat):Int),job,false,code,[],0,0,0⟩) 78).length≤1:=show job.length≤1 from Nat.le_of_eq (show NmE job from q2).2
    have t1:(Xcr (clE ⟨((2:Nat):Int),job,false,code,[],0,0,0⟩) 67).length≤3:=Xho (n:=code) (by have:=(show -1≤code∧code≤1 from q4).2;omega)
    rw [show (XbQ (clE ⟨((2:Nat):Int),job,false,code,[],0,0,0⟩) (Xa2.getD 1 [])).length=(Xcr (clE ⟨((2:Nat):Int),job,false,code,[],0,0,0⟩) 78).length+(Xcr (clE ⟨((2:Nat):Int),job,false,code,[],0,0,0⟩) 67).length+2 from Xm5 _ _ _];omega
 | 2,_=>
   obtain rfl:kind=((3:Nat):Int):=q1
   obtain rfl:ok=false:=q3
   obtain rfl:code=0:=q4
   obtain rfl:time=0:=q6
   obtain rfl:client=0:=q7
   obtain rfl:num=0:=q8
   refine ⟨fun f hf=>?_,rfl,?_⟩
   ·rcases List.mem_cons.1 (show f∈[78,68] from hf) with rfl|hf
    ·exact (show NmE job from q2).1
    ·obtain rfl:f=68:=List.mem_singleton.1 hf
     exact trivial
   ·have t0:(Xcr (clE ⟨((3:Nat):Int),job,false,0,data,0,0,0⟩) 78).length≤1:=show job.length≤1 from Nat.le_of_eq (show NmE job from q2).2
    have t1:(Xcr (clE ⟨((3:Nat):Int),job,false,0,data,0,0,0⟩) 68).length≤4*(clE ⟨((3:Nat):Int),job,false,0,data,0,0,0⟩).data.length+2:=hq
    rw [show (XbQ (clE ⟨((3:Nat):Int),job,false,0,data,0,0,0⟩) (Xa2.getD 2 [])).length=(Xcr (clE ⟨((3:Nat):Int),job,false,0,data,0,0,0⟩) 78).length+(Xcr (clE ⟨((3:Nat):Int),job,false,0,data,0,0,0⟩) 68).length+2 from Xm5 _ _ _];omega
 | 3,_=>
   obtain rfl:kind=((4:Nat):Int):=q1
   obtain rfl:job=[]:=q2
   obtain rfl:ok=false:=q3
   obtain rfl:code=0:=q4
   obtain rfl:data=[]:=q5
   obtain rfl:client=0:=q7
   obtain rfl:num=0:=q8
   refine ⟨fun f hf=>?_,rfl,?_⟩
   ·obtain rfl:f=84:=List.mem_singleton.1 hf
    exact Xj8 (show 0≤time∧time≤18446744073709551615 from q6).1
   ·have t0:(Xcr (clE ⟨((4:Nat):Int),[],false,0,[],time,0,0⟩) 84).length≤18:=htl (show 0≤time∧time≤18446744073709551615 from q6).1
    rw [show (XbQ (clE ⟨((4:Nat):Int),[],false,0,[],time,0,0⟩) (Xa2.getD 3 [])).length=(Xcr (clE ⟨((4:Nat):Int),[],false,0,[],time,0,0⟩) 84).length+1 from XiE _ _];omega
 | 4,_=>
   obtain rfl:kind=((5:Nat):Int):=q1
   obtain rfl:job=[]:=q2
   obtain rfl:ok=false:=q3
   obtain rfl:code=0:=q4
   obtain rfl:data=[]:=q5
   obtain rfl:client=0:=q7
   obtain rfl:num=0:=q8
   refine ⟨fun f hf=>?_,rfl,?_⟩
   ·obtain rfl:f=84:=List.mem_singleton.1 hf
    exact Xj8 (show 0≤time∧time≤18446744073709551615 from q6).1
   ·have t0:(Xcr (clE ⟨((5:Nat):Int),[],false,0,[],time,0,0⟩) 84).length≤18:=htl (show 0≤time∧time≤18446744073709551615 from q6).1
    rw [show (XbQ (clE ⟨((5:Nat):Int),[],false,0,[],time,0,0⟩) (Xa2.getD 4 [])).length=(Xcr (clE ⟨((5:Nat):Int),[],false,0,[],time,0,0⟩) 84).length+1 from XiE _ _];omega
 | 5,_=>
   obtain rfl:kind=((6:Nat):Int):=q1
   obtain rfl:ok=false:=q3
   obtain rfl:code=0:=q4
   obtain rfl:data=[]:=q5
   obtain rfl:time=0:=q6
   obtain rfl:client=0:=q7
   obtain rfl:num=0:=q8
   refine ⟨fun f hf=>?_,rfl,?_⟩
   ·obtain rfl:f=78:=List.mem_singleton.1 hf
    exact (show NmE job from q2).1
   ·have t0:(Xcr (clE ⟨((6:Nat):Int),job,false,0,[],0,0,0⟩) 78).length≤1:=show job.length≤1 from Nat.le_of_eq (show NmE job from q2).2
    rw [show (XbQ (clE ⟨((6:Nat):Int),job,false,0,[],0,0,0⟩) (Xa2.getD 5 [])).length=(Xcr (clE ⟨((6:Nat):Int),job,false,0,[],0,0,0⟩) 78).length+1 from XiE _ _];omega
 | 6,_=>
   obtain rfl:kind=((7:Nat):Int):=q1
   obtain rfl:ok=false:=q3
   obtain rfl:code=0:=q4
   obtain rfl:data=[]:=q5
   obtain rfl:time=0:=q6
   obtain rfl:client=0:=q7
   obtain rfl:num=0:=q8
   refine ⟨fun f hf=>?_,rfl,?_⟩
   ·obtain rfl:f=78:=List.mem_singleton.1 hf
    exact (show NmE job from q2).1
   ·have t0:(Xcr (clE ⟨((7:Nat):Int),job,false,0,[],0,0,0⟩) 78).length≤1:=show job.length≤1 from Nat.le_of_eq (show NmE job from q2).2
    rw [show (XbQ (clE ⟨((7:Nat):Int),job,false,0,[],0,0,0⟩) (Xa2.getD 6 [])).length=(Xcr (clE ⟨((7:Nat):Int),job,false,0,[],0,0,0⟩) 78).length+1 from XiE _ _];omega
 | 7,_=>
   obtain rfl:kind=((8:Nat):Int):=q1
   obtain rfl:ok=false:=q3
   obtain rfl:code=0:=q4
   obtain rfl:data=[]:=q5
   obtain rfl:time=0:=q6
   obtain rfl:client=0:=q7
   obtain rfl:num=0:=q8
   refine ⟨fun f hf=>?_,rfl,?_⟩
   ·obtain rfl:f=78:=List.mem_singleton.1 hf
    exact (show NmE job from q2).1
   ·have t0:(Xcr (clE ⟨((8:Nat):Int),job,false,0,[],0,0,0⟩) 78).length≤1:=show job.length≤1 from Nat.le_of_eq (show NmE job from q2).2
    rw [show (XbQ (clE ⟨((8:Nat):Int),job,false,0,[],0,0,0⟩) (Xa2.getD 7 [])).length=(Xcr (clE ⟨((8:Nat):Int),job,false,0,[],0,0,0⟩) 78).length+1 from XiE _ _];omega
 | 8,_=>
   obtain rfl:kind=((9:Nat):Int):=q1
   obtain rfl:job=[]:=q2
   obtain rfl:ok=false:=q3
   obtain rfl:code=0:=q4
   obtain rfl:time=0:=q6
   obtain rfl:client=0:=q7
   obtain rfl:num=0:=q8
   refine ⟨fun f hf=>?_,rfl,?_⟩
   ·obtain rfl:f=68:=List.mem_singleton.1 hf
    exact trivial
   ·have t0:(Xcr (clE ⟨((9:Nat):Int),[],false,0,data,0,0,0⟩) 68).length≤4*(clE ⟨((9:Nat):Int),[],false,0,data,0,0,0⟩).data.length+2:=hq
    rw [show (XbQ (clE ⟨((9:Nat):Int),[],false,0,data,0,0,0⟩) (Xa2.getD 8 [])).length=(Xcr (clE ⟨((9:Nat):Int),[],false,0,data,0,0,0⟩) 68).length+1 from XiE _ _];omega
 | 9,_=>
   obtain rfl:kind=((10:Nat):Int):=q1
   obtain rfl:job=[]:=q2
   obtain rfl:ok=false:=q3
   obtain rfl:code=0:=q4
   obtain rfl:data=[]:=q5
   obtain rfl:time=0:=q6
   obtain rfl:client=0:=q7
   obtain rfl:num=0:=q8
   exact ⟨(fun f hf=>(by cases hf)),rfl,(by simp [XbQ,Xa2])⟩
 | 10,_=>
   obtain rfl:kind=((11:Nat):Int):=q1
   obtain rfl:job=[]:=q2
   obtain rfl:ok=false:=q3
   obtain rfl:code=0:=q4
   obtain rfl:data=[]:=q5
   obtain rfl:time=0:=q6
   obtain rfl:num=0:=q8
   refine ⟨fun f hf=>?_,rfl,?_⟩
   ·obtain rfl:f=76:=List.mem_singleton.1 hf
    exact Xmu (n:=client) (by have:=(show 0≤client∧client≤3 from q7).2;omega)
   ·have t0:(Xcr (clE ⟨((11:Nat):Int),[],false,0,[],0,client,0⟩) 76).length≤3:=Xho (n:=client) (by have:=(show 0≤client∧client≤3 from q7).2;omega)
    rw [show (XbQ (clE ⟨((11:Nat):Int),[],false,0,[],0,client,0⟩) (Xa2.getD 10 [])).length=(Xcr (clE ⟨((11:Nat):Int),[],false,0,[],0,client,0⟩) 76).length+1 from XiE _ _];omega
 | 11,_=>
   obtain rfl:kind=((12:Nat):Int):=q1
   obtain rfl:job=[]:=q2
   obtain rfl:ok=false:=q3
   obtain rfl:code=0:=q4
   obtain rfl:time=0:=q6
   obtain rfl:num=0:=q8
   refine ⟨fun f hf=>?_,rfl,?_⟩
   ·rcases List.mem_cons.1 (show f∈[76,68] from hf) with rfl|hf
    ·exact Xmu (n:=client) (by have:=(show 0≤client∧client≤3 from q7).2;omega)
    ·obtain rfl:f=68:=List.mem_singleton.1 hf
     exact trivial
   ·have t0:(Xcr (clE ⟨((12:Nat):Int),[],false,0,data,0,client,0⟩) 76).length≤3:=Xho (n:=client) (by have:=(show 0≤client∧client≤3 from q7).2;omega)
    have t1:(Xcr (clE ⟨((12:Nat):Int),[],false,0,data,0,client,0⟩) 68).length≤4*(clE ⟨((12:Nat):Int),[],false,0,data,0,client,0⟩).data.length+2:=hq
    rw [show (XbQ (clE ⟨((12:Nat):Int),[],false,0,data,0,client,0⟩) (Xa2.getD 11 [])).length=(Xcr (clE ⟨((12:Nat):Int),[],false,0,data,0,client,0⟩) 76).length+(Xcr (clE ⟨((12:Nat):Int),[],false,0,data,0,client,0⟩) 68).length+2 from Xm5 _ _ _];omega
 | 12,_=>
   obtain rfl:kind=((13:Nat):Int):=q1
   obtain rfl:job=[]:=q2
   obtain rfl:ok=false:=q3
   obtain rfl:code=0:=q4
   obtain rfl:time=0:=q6
   obtain rfl:num=0:=q8
   refine ⟨fun f hf=>?_,rfl,?_⟩
   ·obtain rfl:f=76:=List.mem_singleton.1 hf
    exact Xmu (n:=client) (by have:=(show 0≤client∧client≤3 from q7).2;omega)
   ·have t0:(Xcr (clE ⟨((13:Nat):Int),[],false,0,data,0,client,0⟩) 76).length≤3:=Xho (n:=client) (by have:=(show 0≤client∧client≤3 from q7).2;omega)
    rw [show (XbQ (clE ⟨((13:Nat):Int),[],false,0,data,0,client,0⟩) (Xa2.getD 12 [])).length=(Xcr (clE ⟨((13:Nat):Int),[],false,0,data,0,client,0⟩) 76).length+1 from XiE _ _];omega
 | 13,_=>
   obtain rfl:kind=((14:Nat):Int):=q1
   obtain rfl:job=[]:=q2
   obtain rfl:ok=false:=q3
   obtain rfl:code=0:=q4
   obtain rfl:data=[]:=q5
   obtain rfl:time=0:=q6
   refine ⟨fun f hf=>?_,rfl,?_⟩
   ·rcases List.mem_cons.1 (show f∈[76,77] from hf) with rfl|hf
    ·exact Xmu (n:=client) (by have:=(show 0≤client∧client≤3 from q7).2;omega)
    ·obtain rfl:f=77:=List.mem_singleton.1 hf
     exact Xmu (n:=num) (by have:=(show -5≤num∧num≤294 from q8).2;omega)
   ·have t0:(Xcr (clE ⟨((14:Nat):Int),[],false,0,[],0,client,num⟩) 76).length≤3:=Xho (n:=client) (by have:=(show 0≤client∧client≤3 from q7).2;omega)
    have t1:(Xcr (clE ⟨((14:Nat):Int),[],false,0,[],0,client,num⟩) 77).length≤3:=Xho (n:=num) (by have:=(show -5≤num∧num≤294 from q8).2;omega)
    rw [show (XbQ (clE ⟨((14:Nat):Int),[],false,0,[],0,client,num⟩) (Xa2.getD 13 [])).length=(Xcr (clE ⟨((14:Nat):Int),[],false,0,[],0,client,num⟩) 76).length+(Xcr (clE ⟨((14:Nat):Int),[],false,0,[],0,client,num⟩) 77).length+2 from Xm5 _ _ _];omega
theorem SE.good {m:Nat} {e:EF} (h:SE m e):XfI (clE e)∧(XdO (clE e)).length≤4*e.data.length+39:=by
 obtain ⟨k,hk,h⟩:=h
 obtain ⟨h1,h2,h3⟩:=h.good hk
 exact ⟨h1,by omega⟩
theorem SE.data {m:Nat} {e:EF} (h:SE m e):e.data.length≤m:=by
 obtain ⟨k,hk,h⟩:=h
 have:=h.data
 split at this
 ·exact this
 ·rw [this];simp
def sw (l:List EF):Nat:=(l.map fun e=>4*e.data.length+40).sum
theorem Xpi:∀l:List EF,(∀e∈l,∃m,SE m e)→(Xby (l.map clE)).length≤sw l
 | [],_=>by simp [Xby,sw]
 | e :: l,h=>by
   obtain ⟨m,hm⟩:=h e (by simp)
   have h1:=hm.good.2
   have h2:=Xpi l fun g hg=>h g (by simp [hg])
   simp only [Xby,sw,XvA,List.flatMap_cons,XvH,Xvy,XvB,List.sum_cons] at h2 ⊢
   omega
open Go.RowKit
theorem Xqv (b:Nat) (l:List Int) (k n:Nat) (hd:DK l) (hk:k≤l.length) (hn:1≤n) (hn2:n≤2000000000000):Xa3 Tryz.prog 43 [.box b [.sq l.length (ia l),.x (.int .i64 k)]] [.x (.pointer (some ⟨b,0,none⟩)),.x (.int .i64 n)] (fun r H'=>∃v k':Nat,r=.x (.int .i64 v)∧H'=[.box b [.sq l.length (ia l),.x (.int .i64 k')]]∧v < n∧k'≤l.length):=by
 have hI:=Lib.hid hd.vals
 have hl:=hd.len
 refine XaD Tryz.func43 rfl ?_
 simp only [Tryz.ntmps43,Xvy,XvB,XvC,XvD,XvG,XvF,Nat.reduceAdd,Nat.reduceSub]
 (repeat' (first|with_reducible (first|refine Xag ?_|refine Xac ?_|refine Xar ?_|refine Xau ?_|refine Xae ?_|refine Xch ?_|refine Xaa ?_|refine Xax ?_)|(with_reducible refine Xbe mixed ?_ ?_;(decide +kernel))|(refine Xak _ rfl (fun h=>?_) (fun h=>?_)<;>((try (simp only [whn] at h));skip))|((first|apply Xad rfl|apply XbO rfl);(case h=>(first|(apply Xab 0 rfl;(first|exact Xap _ rfl|exact Xan _ rfl))|(apply Xab 4 rfl;(exact Xbl _ rfl (by first|exact .inl ⟨_,rfl⟩|fail)))|(apply Xab 5 rfl;(exact Xal _ _ _ _ _ _ rfl rfl Xa5.out))|(apply Xab 6 rfl;(first|exact XaF _ _ _ _ _ rfl rfl XaN.out (by first|exact Xvu rfl|fail) (by first|exact Xvu rfl|fail)|exact Xaz _ _ _ _ _ _ _ _ rfl rfl XaS.out XaN.out (by first|exact Xvu rfl|fail) (by first|exact Xvu rfl|fail)))|(apply Xab 7 rfl;(exact XaG _ _ _ _ _ _ _ _ _ _ rfl rfl rfl HEl.out rfl (by first|omega|fail) (by simp;first|omega|fail)))|(apply Xab 11 rfl;(exact Xay 16 Tryz.f16 _ _ rfl rfl Tryz.func16 (by decide) rfl (VwL.refl _ _) (Xlm _ _ (by omega) (by omega) (hI.out _ (List.getElem_mem _)) [])))|(apply XaC;(case hs=>(intro _ _ h;cases h));(case hx=>rfl);(case hrun=>(intro w;simp [wtb,AV.val,go_sem];(try go_bits);rfl)))));(case hT=>((try simp (disch:=assumption) only [wtn,Xk8,Xfn,Xvz,Xvw,Xvx,XvA,XvE,Nat.reduceAdd,Nat.reduceMul,Nat.reduceSub,↓reduceIte,Nat.reduceEqDiff]);rfl)))|(refine Xai rfl ?_;((first|(refine Xas 11 rfl ?_;(refine Xam 77 Tryz.f77 ([Xk8 b l k]) _ _ _ rfl rfl Tryz.func77 (by decide) rfl (Xvv _) (VwL.refl _ _) (Xjc b l k hl) ?_;rintro _ _ ⟨rfl,rfl⟩))|(refine Xas 16 rfl ?_;(refine Xaw _ _ _ _ _ _ _ rfl rfl XaS.out XaR.out (by first|rfl|fail) (by first|exact Xvu rfl|fail) ?_)));apply Xah;(case hT=>((try simp (disch:=omega) only [wtn,Xk8,Xfn,Xvz,Xvw,Xvx,XvA,XvE,Nat.reduceAdd,Nat.reduceMul,Nat.reduceSub,↓reduceIte,Nat.reduceEqDiff]);rfl));(case hH=>((try simp (disch:=omega) only [wtn,Xk8,Xfn,Xvz,Xvw,Xvx,XvA,XvE,Nat.reduceAdd,Nat.reduceMul,Nat.reduceSub,↓reduceIte,Nat.reduceEqDiff]);rfl))))|fail))
 ·refine Xaf _ _ (Xbh rfl (RV.tmp _) (XaH.mk' [] _ (Xvv _) (XaB.refl _ _) (VwL.refl _ _))) ?_
  exact ⟨0,k,rfl,rfl,by omega,hk⟩
 ·refine Xaf _ _ (Xbh rfl (RV.tmp _) (XaH.mk' [] _ (Xvv _) (XaB.refl _ _) (VwL.refl _ _))) ?_
  have h1:=Int.emod_nonneg l[k] (show (n:Int)≠0 by omega)
  have h2:=Int.emod_lt_of_pos l[k] (show (0:Int) < n by omega)
  exact ⟨(l[k] % n).toNat,k+1,by rw [Int.toNat_of_nonneg h1];rfl,rfl,by omega,by omega⟩
theorem Xux (b:Nat) (l:List Int) (k:Nat) (hd:DK l) (hk:k≤l.length):Xa3 Tryz.prog 100 [.box b [.sq l.length (ia l),.x (.int .i64 k)]] [.x (.pointer (some ⟨b,0,none⟩))] (fun r H'=>∃(t:Int) (k':Nat),r=.x (.int .u64 t)∧H'=[.box b [.sq l.length (ia l),.x (.int .i64 k')]]∧0≤t∧t≤18446744073709551615∧k'≤l.length):=by
 refine XaD Tryz.func100 rfl ?_
 simp only [Tryz.ntmps100,Xvy,XvB,XvC,XvD,XvG,XvF,Nat.reduceAdd,Nat.reduceSub]
 (repeat' (first|with_reducible (first|refine Xag ?_|refine Xac ?_|refine Xao ?_|refine Xar ?_|refine Xau ?_|refine Xae ?_|refine Xaa ?_|refine Xax ?_|refine Xaj ?_|refine Xav ?_)|(refine Xak _ rfl (fun h=>?_) (fun h=>?_)<;>((try (simp only [whn] at h));skip))|((apply Xad rfl);(case h=>(first|(apply Xab 0 rfl;(first|exact Xap _ rfl|exact Xan _ rfl))|(apply XaC;(case hs=>(intro _ _ h;cases h));(case hx=>rfl);(case hrun=>(intro w;simp [wtb,AV.val,go_sem];(try go_bits);rfl)))));(case hT=>((try simp only [wtn]);rfl)))|(refine Xai rfl ?_;((refine Xas 11 rfl ?_;(first|(refine Xam 43 Tryz.f43 [_] _ _ _ rfl rfl Tryz.func43 (by decide) rfl (Xvv _) (VwL.refl _ _) (XbF _ l k 12 hd hk (by omega) (by omega)) ?_;rintro _ _ ⟨v,k1,rfl,rfl,hv,hk1⟩)|(refine Xam 43 Tryz.f43 [_] _ _ _ rfl rfl Tryz.func43 (by decide) rfl (Xvv _) (VwL.refl _ _) (XbF _ l k1 4 hd hk1 (by omega) (by omega)) ?_;rintro _ _ ⟨v2,k2,rfl,rfl,hv2,hk2⟩)|(refine Xam 43 Tryz.f43 [_] _ _ _ rfl rfl Tryz.func43 (by decide) rfl (Xvv _) (VwL.refl _ _) (XbF _ l k1 60 hd hk1 (by omega) (by omega)) ?_;rintro _ _ ⟨v2,k2,rfl,rfl,hv2,hk2⟩)|(refine Xam 43 Tryz.f43 [_] _ _ _ rfl rfl Tryz.func43 (by decide) rfl (Xvv _) (VwL.refl _ _) (Xqv _ l k1 1099511627776 hd hk1 (by omega) (by omega)) ?_;rintro _ _ ⟨v2,k2,rfl,rfl,hv2,hk2⟩)));apply Xah;(case hT=>((try simp only [wtn]);rfl));(case hH=>((try simp only [wtn]);rfl))))|fail))
 all_goals
  refine Xaf _ _ (Xbh rfl (RV.tmp _) (XaH.mk' [] _ (Xvv _) (XaB.refl _ _) (VwL.refl _ _))) ?_
  exact ⟨_,k2,rfl,rfl,by omega,by omega,hk2⟩
theorem Xrw (bd:Nat) (l:List Int) (k:Nat) (hd:DK l) (hk:k≤l.length):Xa3 Tryz.prog 44 [.box bd [.sq l.length (ia l),.x (.int .i64 k)]] [.x (.pointer (some ⟨bd,0,none⟩))] (fun r H'=>∃(s:List UInt8) (k':Nat),r=.x (.string (bs s))∧H'=[.box bd [.sq l.length (ia l),.x (.int .i64 k')]]∧NmE s∧k'≤l.length):=by
 refine XaD Tryz.func44 rfl ?_
 simp only [Tryz.ntmps44,Xvy,XvB,XvC,XvD,XvG,XvF,Nat.reduceAdd,Nat.reduceSub]
 (repeat' (first|with_reducible (first|refine Xag ?_|refine Xac ?_|refine Xar ?_|refine Xae ?_|refine Xaa ?_)|((apply Xad rfl);(case h=>(first|(apply Xab 0 rfl;(first|exact Xap _ rfl|exact Xan _ rfl))|(apply Xab 6 rfl;(exact XaF _ _ _ _ _ rfl rfl XaN.out (by first|(simp [wlq];omega)|fail) (by first|(simp [wlq];omega)|fail)))|(apply Xab 7 rfl;(exact XaG _ _ _ _ _ _ _ _ _ _ rfl rfl rfl HEl.out rfl (by first|omega|fail) (by simp;first|done|fail)))|(apply Xab 17 rfl;(exact XbI _ _ _ _ _ _ rfl XaY.out rfl (by first|rfl|fail) rfl rfl (by decide)))));(case hT=>((try simp only [wtn]);rfl)))|(refine Xai rfl ?_;((refine Xas 11 rfl ?_;(refine Xam 43 Tryz.f43 [_] _ _ _ rfl rfl Tryz.func43 (by decide) rfl (Xvv _) (VwL.refl _ _) (XbF _ l k 5 hd hk (by omega) (by omega)) ?_;rintro _ _ ⟨v,k',rfl,rfl,hv,hk'⟩));apply Xah;(case hT=>((try simp only [wtn]);rfl));(case hH=>((try simp only [wtn]);rfl))))|fail))
 exact Xaf _ _ (Xbh rfl (RV.tmp _) (XaH.mk' [] [_] (Xvv _) (XaB.refl _ _) (VwL.refl _ _))) ⟨Xkw.getD v [],k',Xfq Xkw v hv,rfl,XsF hv,hk'⟩
/-! ### Frames -/
def XfE (l:List UInt8):List UInt8:=[0,0,Xl5 ((l.length:Int) / 256),Xl5 ((l.length:Int) % 256)]++l
theorem Xsl (d:List UInt8) (hl:d.length≤4096):Xa3 Tryz.prog 98 [] [.sq d.length (u8a d)] (fun r H'=>r=.tup [.sq (XfE d).length (u8a (XfE d)),.x (.int .i64 0)]∧H'=[]):=by
 refine XaD Tryz.func98 rfl ?_
 simp only [Tryz.ntmps98,Xvy,XvB,XvC,XvD,XvG,XvF,Nat.reduceAdd,Nat.reduceSub]
 (repeat' (first|with_reducible (first|refine Xag ?_|refine Xac ?_|refine Xar ?_|refine Xau ?_|refine Xae ?_|refine Xaa ?_)|(refine Xak _ rfl (fun h=>?_) (fun h=>?_)<;>((try (simp only [whn] at h));first|(exfalso;omega;done)|skip))|((apply Xad rfl);(case h=>(first|(apply Xab 0 rfl;(first|exact Xap _ rfl|exact Xan _ rfl))|(apply Xab 3 rfl;(exact XaX _ _ _ _ _ _ HEl.out rfl rfl))|(apply XaC;(case hs=>(intro _ _ h;cases h));(case hx=>rfl);(case hrun=>(intro w;simp [wtb,AV.val,go_sem];(try go_bits);rfl)))));(case hT=>((try simp only [wtn]);rfl)))|(refine Xai rfl ?_;((first|(refine Xas 13 rfl ?_;(refine XaP _ _ _ _ _ _ _ _ _ _ _ _ _ _ rfl rfl Xb3.out (Src.sq rfl) XaY.out (by rw [XeD];omega) (XdQ _ _ (by omega) (by decide)) (fun ad cap=>?_)))|(refine Xas 17 rfl ?_;(refine XaE _ _ _ _ _ _ _ _ rfl XaY.out (by first|rfl|fail) rfl (by decide) rfl (fun b=>?_))));apply Xah;(case hT=>((try simp only [wtn]);rfl));(case hH=>((try simp only [wtn]);rfl))))|fail))
 refine Xaf _ _ (XcB rfl (RV.tmp _) (RV.tmp _) (XaH.mk' [_] [] (Xvv _) XaB.nil (VwL.cons (Vw.row (List.Mem.head _) (VwL.refl _ _)) (VwL.refl _ _)))) ?_
 refine ⟨?_,rfl⟩
 rw [show (XfE d).length=4+d.length from by simp [XfE];omega]
 simp only [XfE,Xcl,Xcz,Xdn,Xed (n:=(d.length:Int) / 256) (by omega) (by omega),Xed (n:=(d.length:Int) % 256) (by omega) (by omega)]
 rfl
theorem XsQ {c:CF} (h:Xrc c):(XmH c).length≤1107:=by
 have h3:c.name.length≤1:=by
  have:=h.name
  split at this
  ·omega
  ·rw [this];simp
 have h4:c.data.length≤1101:=by
  have:=h.data
  split at this
  ·exact this
  ·rw [this];simp
 have h5:(if c.kind=1 then [0,Xl5 c.rows,0,Xl5 c.cols] else ([]:List UInt8)).length≤4:=by split<;>simp
 unfold XmH
 simp only [Xvy,XvH]
 omega
theorem Xmm (l:List UInt8):(XfE l).length=l.length+4:=by simp [XfE]
theorem Xle (c:CF) (h:Xrc c):Xa3 Tryz.prog 60 [] [.agg c.cells] (fun r H'=>∃f:List UInt8,r=.sq f.length (u8a f)∧H'=[]∧1≤f.length∧f.length≤1111):=by
 have he:=XiV c (Xoz h)
 have hp:=XsQ h
 have hf:=Xsl (XmH c) (by omega)
 have hfl:=Xmm (XmH c)
 unfold CF.cells at he ⊢
 refine XaD Tryz.func60 rfl ?_
 simp only [Tryz.ntmps60,Xvy,XvB,XvC,XvD,XvG,XvF,Nat.reduceAdd,Nat.reduceSub]
 (repeat' (first|with_reducible (first|refine Xag ?_|refine Xac ?_|refine Xar ?_|refine Xae ?_|refine Xaa ?_)|((apply Xad rfl);(case h=>(first|(apply Xab 0 rfl;(first|exact Xap _ rfl|exact Xan _ rfl))|(apply Xab 2 rfl;(exact XaM _ _ _ _ rfl rfl rfl))|(apply Xab 6 rfl;(exact Xaz _ _ _ _ _ _ _ _ rfl rfl XaS.out XaN.out (by first|exact Xvu rfl|fail) (by first|exact Xvu rfl|fail)))|(apply Xab 11 rfl;(first|exact Xay 97 Tryz.f97 _ _ rfl rfl Tryz.func97 (by decide) rfl (VwL.refl _ _) (he)|exact Xay 98 Tryz.f98 _ _ rfl rfl Tryz.func98 (by decide) rfl (VwL.refl _ _) (hf)))));(case hT=>((try simp only [wtn,↓reduceIte]);rfl)))|(refine Xai rfl ?_;((refine Xas 15 rfl ?_;(refine Xbo _ _ rfl (by first|rfl|fail) (fun b=>?_)));apply Xah;(case hT=>((try simp only [wtn]);rfl));(case hH=>((try simp only [wtn]);rfl))))|fail))
 refine Xaf _ _ (Xbh rfl (RV.tmp _) (XaH.mk' [_] [] (Xvv _) (XaB.refl _ _) (by first|exact VwL.refl _ _|fail))) ?_
 exact ⟨XfE (XmH c),rfl,rfl,by omega,by omega⟩
end Go.Proofs.YtdpobjakdplljaaGreatDoor

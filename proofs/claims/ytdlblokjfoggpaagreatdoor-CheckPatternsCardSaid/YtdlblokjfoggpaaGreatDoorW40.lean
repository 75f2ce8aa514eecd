import Derived.Test.YtdlblokjfoggpaaGreatDoorW7
import Derived.Test.YtdlblokjfoggpaaGreatDoorW39
/- The reference: root: the relation of the last node. -/
set_option linter.unusedSimpArgs false
set_option linter.unusedVariables false
set_option maxRecDepth 100000
set_option maxHeartbeats 8000000
namespace Go.Proofs.YtdlblokjfoggpaaGreatDoor
open Go.RowKit
attribute [local simp] XkB
def XdM (Ms:List Mat) (t:List UInt8) (x:Nd):Mat:=
 if x.kind=3 then Xid (Ms.getD x.left []) (Ms.getD x.right []) else
 if x.kind=4 then XeJ (Ms.getD x.left []) (Ms.getD x.right []) else
 if x.kind=5 then XgM (Ms.getD x.left []) else
 if x.kind=6 then Xid (Ms.getD x.left []) (XgM (Ms.getD x.left [])) else
 if x.kind=7 then XeJ (XdO (t.length+1)) (Ms.getD x.left []) else XiX x t
def Xh1 (l:List Nd) (t:List UInt8):Nat→Nat→List Mat→List Mat
 | 0,_,Ms=>Ms
 | n+1,k,Ms=>Xh1 l t n (k+1) (Ms++[XdM Ms t (l.getD k default)])
def Xim (l:List Nd):Prop:=∀k,k < l.length→((l.getD k default).kind=3∨(l.getD k default).kind=4→(l.getD k default).left < k∧(l.getD k default).right < k)∧((l.getD k default).kind=5∨(l.getD k default).kind=6∨(l.getD k default).kind=7→(l.getD k default).left < k)
def mss (Ms:List Mat):List AV:=Ms.map fun M=>.sq M.length (mqs M)
@[simp] theorem Xxx (Ms:List Mat):(mss Ms).length=Ms.length:=by simp [mss]
theorem Xc8 (Ms:List Mat) (k:Nat) (h:k < Ms.length):(mss Ms).drop k=.sq Ms[k].length (mqs Ms[k]) :: mss (Ms.drop (k+1)):=by
 rw [mss,←List.map_drop,List.drop_eq_getElem_cons h];rfl
theorem Xfn (Ms:List Mat) (M:Mat):mss Ms++[.sq M.length (mqs M)]=mss (Ms++[M]):=by simp [mss]
theorem XqW {Ms:List Mat} {t:List UInt8} {x:Nd} (h:∀M∈Ms,MOk (t.length+1) M) (h2:x.kind=3∨x.kind=4∨x.kind=5∨x.kind=6∨x.kind=7→x.left < Ms.length):MOk (t.length+1) (XdM Ms t x):=by
 have hg:x.left < Ms.length→(Ms.getD x.left []).length=t.length+1:=fun hl=>by
  rw [List.getD_eq_getElem?_getD,List.getElem?_eq_getElem hl]
  exact (h _ (List.getElem_mem hl)).len
 unfold XdM
 split
 ·have:=Xie (Ms.getD x.left []) (Ms.getD x.right []);rw [hg (h2 (by omega))] at this;exact this
 split
 ·have:=Xdv (Ms.getD x.left []) (Ms.getD x.right []);rw [hg (h2 (by omega))] at this;exact this
 split
 ·have:=XfW (Ms.getD x.left []);rw [hg (h2 (by omega))] at this;exact this
 split
 ·have:=Xie (Ms.getD x.left []) (XgM (Ms.getD x.left []));rw [hg (h2 (by omega))] at this;exact this
 split
 ·have:=Xdv (XdO (t.length+1)) (Ms.getD x.left []);rw [(Xc9 _).len] at this;exact this
 ·exact XhS x t
theorem XsH (A B:Mat) (hA:MOk A.length A) (hB:MOk A.length B) (hm:A.length≤1000) (h0:0 < A.length):Xay Tryz.prog 61 [] [.sq A.length (mqs A),.sq B.length (mqs B)] (fun r H'=>r=.sq (Xid A B).length (mqs (Xid A B))∧H'=[]):=(XwC A B hA hB hm h0).mono fun r H' ⟨h,h'⟩=>⟨h.trans (by rw [(Xie A B).len]),h'⟩
theorem XrO (A B:Mat) (hA:MOk A.length A) (hB:MOk A.length B) (hm:A.length≤1000) (h0:0 < A.length):Xay Tryz.prog 62 [] [.sq A.length (mqs A),.sq B.length (mqs B)] (fun r H'=>r=.sq (XeJ A B).length (mqs (XeJ A B))∧H'=[]):=(Xve A B hA hB hm h0).mono fun r H' ⟨h,h'⟩=>⟨h.trans (by rw [(Xdv A B).len]),h'⟩
theorem Xsy (A:Mat) (hA:MOk A.length A) (hm:A.length≤1000) (h0:0 < A.length):Xay Tryz.prog 63 [] [.sq A.length (mqs A)] (fun r H'=>r=.sq (XgM A).length (mqs (XgM A))∧H'=[]):=(Xwv A hA hm h0).mono fun r H' ⟨h,h'⟩=>⟨h.trans (by rw [(XfW A).len]),h'⟩
theorem Xww (m:Nat) (hm:m≤1000) (h0:0 < m):Xay Tryz.prog 64 [] [.x (.int .i64 m)] (fun r H'=>r=.sq (XdO m).length (mqs (XdO m))∧H'=[]):=(Xsz m hm h0).mono fun r H' ⟨h,h'⟩=>⟨h.trans (by rw [(Xc9 m).len]),h'⟩
theorem XvU (x:Nd) (t:List UInt8) (hm:t.length≤999):Xay Tryz.prog 65 [] [.x (ndv x),.sq t.length (u8a t)] (fun r H'=>r=.sq (XiX x t).length (mqs (XiX x t))∧H'=[]):=(XvV x t hm).mono fun r H' ⟨h,h'⟩=>⟨h.trans (by rw [(XhS x t).len]),h'⟩
theorem Xr4 {Ms:List Mat} {j:Nat} (h:j < Ms.length):Ms.getD j []=Ms[j]:=by rw [List.getD_eq_getElem?_getD,List.getElem?_eq_getElem h];rfl
theorem Xwf (l:List Nd) (t:List UInt8) (hl:0 < l.length) (hl2:l.length≤256) (ht:t.length≤100) (hK:Xim l):Xay Tryz.prog 32 [] [.sq l.length (nda l),.sq t.length (u8a t)] (fun r H'=>∃M,r=.sq M.length (mqs M)∧H'=[]∧MOk (t.length+1) M∧M=(Xh1 l t l.length 0 []).getD (l.length - 1) []):=by
 generalize hR0:Xh1 l t l.length 0 []=RR
 have hR0:=Lib.hid hR0
 have hK:=Lib.hid hK
 refine XaV Tryz.func32 Tryz.ntmps32 ?_
 (repeat' (first|refine Wkx.go ?_|refine Xad ?_|fail))
 refine Xa3 94 1 ?_
 apply Xah (S:=Nat × Option Addr × Nat × List Mat) (fun s=>frm 94 [(0,.sq l.length (nda l)),(1,.sq t.length (u8a t)),(5,.x (.slice s.2.1 s.2.2.2.length s.2.2.1)),(6,.x (.int .i64 s.1))]) (fun s=>[.row s.2.1 s.2.2.2.length s.2.2.1 94 1 (mss s.2.2.2)]) (fun s=>s.1≤l.length∧s.2.2.2.length=s.1∧(∀M∈s.2.2.2,MOk (t.length+1) M)∧Xh1 l t (l.length - s.1) s.1 s.2.2.2=RR) (fun s=>l.length - s.1) (0,none,0,[])
 case h0=>exact (XaX (D:=[]))
 case hi=>exact ⟨Nat.zero_le _,rfl,by simp,hR0.out⟩
 clear hR0
 rintro ⟨k,ad,cap,Ms⟩ ⟨h1,h2,h3,h4⟩
 simp only at h1 h2 h3 h4
 simp only [wfr]
 by_cases hlt:k < l.length
 ·rw [show l.length - k=(l.length - (k+1))+1 from by omega,Xh1] at h4
  obtain ⟨k1,k2⟩:=hK.out k hlt
  have hd:=Xb1 l k hlt
  have ex:l.getD k default=l[k]:=by rw [List.getD_eq_getElem?_getD,List.getElem?_eq_getElem hlt];rfl
  rw [ex] at h4 k1 k2
  have hok:=XqW (x:=l[k]) h3 (fun hh=>by rcases hh with h|h|h|h|h<;>omega)
  have h3:=Lib.hid h3
  generalize l[k]=x at *
  obtain ⟨kd,lf,rt,st⟩:=x
  simp only at k1 k2
  have hd:=Lib.hid hd
  by_cases hk3:kd=3
  ·subst hk3
   obtain ⟨hlf,hrt⟩:=k1 (by omega)
   have hlf:lf < Ms.length:=by omega
   have hrt:rt < Ms.length:=by omega
   have o1:=h3.out _ (List.getElem_mem hlf)
   have o2:=h3.out _ (List.getElem_mem hrt)
   have e1:=o1.len
   have e2:=o2.len
   have hdl:=Lib.hid (Xc8 Ms lf hlf)
   have hdr:=Lib.hid (Xc8 Ms rt hrt)
   have hT:=Lib.hid (XsH Ms[lf] Ms[rt] (by rw [e1];exact o1) (by rw [e1];exact o2) (by omega) (by omega))
   generalize hM:XdM Ms t ⟨3,lf,rt,st⟩=M at h4 hok
   unfold XdM at hM
   simp only [Nat.reduceEqDiff,if_true,if_false] at hM
   rw [Xr4 hlf,Xr4 hrt] at hM
   refine Xcl 0 rfl fun _ _ hr=>?_
   rcases hr with ⟨_,h0,_⟩|⟨g,rfl⟩
   ·omega
   (have wx:=And.intro @hd.out (And.intro @Nd.cells.eq_1 (And.intro @Xig (And.intro @hdl.out @hdr.out)));(repeat' (first|refine Wkx.go ?_|refine Xc4 ?_|(refine Xaz (fun h=>?_) (fun h=>?_)<;>first|(exact absurd h (by decide))|(exfalso;omega;done)|skip)|refine Xad ?_ (h:=by exact fun _=>Xbb rfl rfl Tryz.func61 (hT.out))|refine Xad ?_|(refine Xab rfl ?_;(first|refine Xbh ?_|refine XfK (fun ad cap=>?_)|refine Xb8 (fun b=>?_)|refine Xfr (fun b=>?_)))|fail)))<;>(try clear wx)
   rw [hM]
   rw [Xfn]
   exact ⟨(k+1,ad,cap,Ms++[M]),by simp only;omega,⟨by simp only;omega,by simp only [XyA,List.length_singleton];omega,fun X hX=>by
    rcases List.mem_append.1 hX with hX|hX
    ·exact h3.out X hX
    ·rw [List.mem_singleton] at hX;subst hX;exact hok,h4⟩,by simp only [XyA,List.length_singleton];exact Xaj.mk' [_,.box _ _] [.row ad _ cap _ _ _] (by (repeat' (first|exact Xyo _|fail))) (Xak.refl _ _) (by (repeat' (first|exact VwL.nil|(refine VwL.cons ?_ ?_)|exact Vw.refl _|exact Vw.top _|fail)))⟩
  by_cases hk4:kd=4
  ·subst hk4
   obtain ⟨hlf,hrt⟩:=k1 (by omega)
   have hlf:lf < Ms.length:=by omega
   have hrt:rt < Ms.length:=by omega
   have o1:=h3.out _ (List.getElem_mem hlf)
   have o2:=h3.out _ (List.getElem_mem hrt)
   have e1:=o1.len
   have e2:=o2.len
   have hdl:=Lib.hid (Xc8 Ms lf hlf)
   have hdr:=Lib.hid (Xc8 Ms rt hrt)
   have hT:=Lib.hid (XrO Ms[lf] Ms[rt] (by rw [e1];exact o1) (by rw [e1];exact o2) (by omega) (by omega))
   generalize hM:XdM Ms t ⟨4,lf,rt,st⟩=M at h4 hok
   unfold XdM at hM
   simp only [Nat.reduceEqDiff,if_true,if_false] at hM
   rw [Xr4 hlf,Xr4 hrt] at hM
   refine Xcl 0 rfl fun _ _ hr=>?_
   rcases hr with ⟨_,h0,_⟩|⟨g,rfl⟩
   ·omega
   (have wx:=And.intro @hd.out (And.intro @Nd.cells.eq_1 (And.intro @Xig (And.intro @hdl.out @hdr.out)));(repeat' (first|refine Wkx.go ?_|refine Xc4 ?_|(refine Xaz (fun h=>?_) (fun h=>?_)<;>first|(exact absurd h (by decide))|(exfalso;omega;done)|skip)|refine Xad ?_ (h:=by exact fun _=>Xbb rfl rfl Tryz.func62 (hT.out))|refine Xad ?_|(refine Xab rfl ?_;(first|refine Xbh ?_|refine XfK (fun ad cap=>?_)|refine Xb8 (fun b=>?_)|refine Xfr (fun b=>?_)))|fail)))<;>(try clear wx)
   rw [hM]
   rw [Xfn]
   exact ⟨(k+1,ad,cap,Ms++[M]),by simp only;omega,⟨by simp only;omega,by simp only [XyA,List.length_singleton];omega,fun X hX=>by
    rcases List.mem_append.1 hX with hX|hX
    ·exact h3.out X hX
    ·rw [List.mem_singleton] at hX;subst hX;exact hok,h4⟩,by simp only [XyA,List.length_singleton];exact Xaj.mk' [_,.box _ _] [.row ad _ cap _ _ _] (by (repeat' (first|exact Xyo _|fail))) (Xak.refl _ _) (by (repeat' (first|exact VwL.nil|(refine VwL.cons ?_ ?_)|exact Vw.refl _|exact Vw.top _|fail)))⟩
  by_cases hk5:kd=5
  ·subst hk5
   have hlf:=k2 (by omega)
   have hlf:lf < Ms.length:=by omega
   have o1:=h3.out _ (List.getElem_mem hlf)
   have e1:=o1.len
   have hdl:=Lib.hid (Xc8 Ms lf hlf)
   have hT:=Lib.hid (Xsy Ms[lf] (by rw [e1];exact o1) (by omega) (by omega))
   generalize hM:XdM Ms t ⟨5,lf,rt,st⟩=M at h4 hok
   unfold XdM at hM
   simp only [Nat.reduceEqDiff,if_true,if_false] at hM
   rw [Xr4 hlf] at hM
   refine Xcl 0 rfl fun _ _ hr=>?_
   rcases hr with ⟨_,h0,_⟩|⟨g,rfl⟩
   ·omega
   (have wx:=And.intro @hd.out (And.intro @Nd.cells.eq_1 (And.intro @Xig @hdl.out));(repeat' (first|refine Wkx.go ?_|(refine Xaz (fun h=>?_) (fun h=>?_)<;>first|(exact absurd h (by decide))|(exfalso;omega;done)|skip)|refine Xad ?_ (h:=by exact fun _=>Xbb rfl rfl Tryz.func63 (hT.out))|refine Xad ?_|(refine Xab rfl ?_;(first|refine Xbh ?_|refine XfK (fun ad cap=>?_)|refine Xb8 (fun b=>?_)|refine Xfr (fun b=>?_)))|fail)))<;>(try clear wx)
   rw [hM]
   rw [Xfn]
   exact ⟨(k+1,ad,cap,Ms++[M]),by simp only;omega,⟨by simp only;omega,by simp only [XyA,List.length_singleton];omega,fun X hX=>by
    rcases List.mem_append.1 hX with hX|hX
    ·exact h3.out X hX
    ·rw [List.mem_singleton] at hX;subst hX;exact hok,h4⟩,by simp only [XyA,List.length_singleton];exact Xaj.mk' [_,.box _ _] [.row ad _ cap _ _ _] (by (repeat' (first|exact Xyo _|fail))) (Xak.refl _ _) (by (repeat' (first|exact VwL.nil|(refine VwL.cons ?_ ?_)|exact Vw.refl _|exact Vw.top _|fail)))⟩
  by_cases hk6:kd=6
  ·subst hk6
   have hlf:=k2 (by omega)
   have hlf:lf < Ms.length:=by omega
   have o1:=h3.out _ (List.getElem_mem hlf)
   have e1:=o1.len
   have hdl:=Lib.hid (Xc8 Ms lf hlf)
   have hS:=Lib.hid (Xsy Ms[lf] (by rw [e1];exact o1) (by omega) (by omega))
   have hT:=Lib.hid (XsH Ms[lf] (XgM Ms[lf]) (by rw [e1];exact o1) (XfW _) (by omega) (by omega))
   generalize hM:XdM Ms t ⟨6,lf,rt,st⟩=M at h4 hok
   unfold XdM at hM
   simp only [Nat.reduceEqDiff,if_true,if_false] at hM
   rw [Xr4 hlf] at hM
   refine Xcl 0 rfl fun _ _ hr=>?_
   rcases hr with ⟨_,h0,_⟩|⟨g,rfl⟩
   ·omega
   (have wx:=And.intro @hd.out (And.intro @Nd.cells.eq_1 (And.intro @Xig @hdl.out));(repeat' (first|refine Wkx.go ?_|refine Xc4 ?_|(refine Xaz (fun h=>?_) (fun h=>?_)<;>first|(exact absurd h (by decide))|(exfalso;omega;done)|skip)|refine Xad ?_ (h:=by exact fun _=>Xbb rfl rfl Tryz.func63 (hS.out))|refine Xad ?_ (h:=by exact fun _=>Xbb rfl rfl Tryz.func61 (hT.out))|refine Xad ?_|(refine Xab rfl ?_;(first|refine Xbh ?_|refine XfK (fun ad cap=>?_)|refine Xb8 (fun b=>?_)|refine Xfr (fun b=>?_)))|fail)))<;>(try clear wx)
   rw [hM]
   rw [Xfn]
   exact ⟨(k+1,ad,cap,Ms++[M]),by simp only;omega,⟨by simp only;omega,by simp only [XyA,List.length_singleton];omega,fun X hX=>by
    rcases List.mem_append.1 hX with hX|hX
    ·exact h3.out X hX
    ·rw [List.mem_singleton] at hX;subst hX;exact hok,h4⟩,by simp only [XyA,List.length_singleton];exact Xaj.mk' [_,.box _ _] [.row ad _ cap _ _ _] (by (repeat' (first|exact Xyo _|fail))) (Xak.refl _ _) (by (repeat' (first|exact VwL.nil|(refine VwL.cons ?_ ?_)|exact Vw.refl _|exact Vw.top _|fail)))⟩
  by_cases hk7:kd=7
  ·subst hk7
   have hlf:=k2 (by omega)
   have hlf:lf < Ms.length:=by omega
   have o1:=h3.out _ (List.getElem_mem hlf)
   have e1:=o1.len
   have hdl:=Lib.hid (Xc8 Ms lf hlf)
   have e0:=(Xc9 (t.length+1)).len
   have hS:=Xww (t.length+1) (by omega) (by omega)
   have hT:=Lib.hid (XrO (XdO (t.length+1)) Ms[lf] (by rw [e0];exact Xc9 _) (by rw [e0];exact o1) (by omega) (by omega))
   have hS:=Lib.hid hS
   generalize hM:XdM Ms t ⟨7,lf,rt,st⟩=M at h4 hok
   unfold XdM at hM
   simp only [Nat.reduceEqDiff,if_true,if_false] at hM
   rw [Xr4 hlf] at hM
   refine Xcl 0 rfl fun _ _ hr=>?_
   rcases hr with ⟨_,h0,_⟩|⟨g,rfl⟩
   ·omega
   (have wx:=And.intro @hd.out (And.intro @Nd.cells.eq_1 (And.intro @Xig @hdl.out));(repeat' (first|refine Wkx.go ?_|refine Xc4 ?_|(refine Xaz (fun h=>?_) (fun h=>?_)<;>first|(exact absurd h (by decide))|(exfalso;omega;done)|skip)|refine Xad ?_ (h:=by exact fun _=>Xbb rfl rfl Tryz.func64 (hS.out))|refine Xad ?_ (h:=by exact fun _=>Xbb rfl rfl Tryz.func62 (hT.out))|refine Xad ?_|(refine Xab rfl ?_;(first|refine Xbh ?_|refine XfK (fun ad cap=>?_)|refine Xb8 (fun b=>?_)|refine Xfr (fun b=>?_)))|fail)))<;>(try clear wx)
   rw [hM]
   rw [Xfn]
   exact ⟨(k+1,ad,cap,Ms++[M]),by simp only;omega,⟨by simp only;omega,by simp only [XyA,List.length_singleton];omega,fun X hX=>by
    rcases List.mem_append.1 hX with hX|hX
    ·exact h3.out X hX
    ·rw [List.mem_singleton] at hX;subst hX;exact hok,h4⟩,by simp only [XyA,List.length_singleton];exact Xaj.mk' [_,.box _ _] [.row ad _ cap _ _ _] (by (repeat' (first|exact Xyo _|fail))) (Xak.refl _ _) (by (repeat' (first|exact VwL.nil|(refine VwL.cons ?_ ?_)|exact Vw.refl _|exact Vw.top _|fail)))⟩
  ·generalize hM:XdM Ms t ⟨kd,lf,rt,st⟩=M at h4 hok
   unfold XdM at hM
   simp only [hk3,hk4,hk5,hk6,hk7,if_false] at hM
   have hT:=XvU ⟨kd,lf,rt,st⟩ t (by omega)
   rw [hM] at hT
   unfold ndv at hT
   have hT:=Lib.hid hT
   (have wx:=And.intro @hd.out (And.intro @Nd.cells.eq_1 @Xig);(repeat' (first|refine Wkx.go ?_|(refine Xaz (fun h=>?_) (fun h=>?_)<;>first|(exfalso;omega;done)|skip)|refine Xad ?_ (h:=by exact fun _=>Xbb rfl rfl Tryz.func65 (hT.out))|refine Xad ?_|(refine Xab rfl ?_;(first|refine Xbh ?_|refine XfK (fun ad cap=>?_)|refine Xb8 (fun b=>?_)|refine Xfr (fun b=>?_)))|fail)))<;>(try clear wx)
   rw [Xfn]
   exact ⟨(k+1,ad,cap,Ms++[M]),by simp only;omega,⟨by simp only;omega,by simp only [XyA,List.length_singleton];omega,fun X hX=>by
    rcases List.mem_append.1 hX with hX|hX
    ·exact h3.out X hX
    ·rw [List.mem_singleton] at hX;subst hX;exact hok,h4⟩,by simp only [XyA,List.length_singleton];exact Xaj.mk' [_,.box _ _] [.row ad _ cap _ _ _] (by (repeat' (first|exact Xyo _|fail))) (Xak.refl _ _) (by (repeat' (first|exact VwL.nil|(refine VwL.cons ?_ ?_)|exact Vw.refl _|exact Vw.top _|fail)))⟩
 ·refine Xcl 0 rfl fun _ _ hr=>?_
  rcases hr with ⟨_,h0,_⟩|⟨g,rfl⟩
  ·omega
  have e:Ms=RR:=by rw [←h4,show l.length - k=0 from by omega];rfl
  subst e
  have hdl:=Lib.hid (Xc8 Ms (l.length - 1) (by omega))
  (have wx:=And.intro @hdl.out (And.intro @Nat.mul_one @Nat.zero_add);(repeat' (first|refine Wkx.go ?_|(refine Xaz (fun h=>?_) (fun h=>?_)<;>first|(exfalso;omega;done)|skip)|refine Xad ?_ (h:=by exact fun _=>XbD _ _ _ _ _ _ _ _ _ _ _ (l.length - 1) rfl rfl rfl HEl.out (by omega) (by omega))|refine Xad ?_|fail)))<;>(try clear wx)
  refine Xaa _ _ (XaF rfl (RV.tmp _) (Xaj.mk' [_] [] (Xyo _) Xak.nil (VwL.refl _ _))) ⟨Ms[l.length - 1]'(by omega),rfl,rfl,h3 _ (List.getElem_mem _),(Xr4 _).symm⟩
theorem XwD (b:List UInt8) (v:Nat):(u8a b).take v=u8a (b.take v):=by simp [u8a,u8s]
def XpK (l:List Nd) (t:List UInt8):Mat:=(Xh1 l t l.length 0 []).getD (l.length - 1) []
theorem Xrd (l:List Nd) (t:List UInt8) (hl:0 < l.length) (hl2:l.length≤256) (ht:t.length≤100) (hK:Xim l):Xay Tryz.prog 10 [] [.sq l.length (nda l),.sq t.length (u8a t)] (fun r H'=>∃v:Int,r=.x (.int .i64 v)∧H'=[]∧(0≤v→∃n i k,(XpK l (t.take n)).at i k=true)):=by
 have hV:=Lib.hid (Xrg l hl2 hl)
 have hR:=Lib.hid (fun n=>Xwf l (t.take n) hl hl2 (by rw [List.length_take];omega) hK)
 refine XaV Tryz.func10 Tryz.ntmps10 ?_
 (repeat' (first|refine Wkx.go ?_|(refine Xaz (fun h=>?_) (fun h=>?_)<;>skip)|refine Xad ?_|(refine Xab rfl ?_;((refine Xa7 Tryz.func30 [] rfl rfl (Xyo _) hV.out ?_;rintro _ _ ⟨vb,rfl,rfl⟩);refine XaJ ?_))|fail))
 ·refine Xaa _ _ (XaF rfl (RV.tmp _) (Xaj.mk' [] [] (Xyo _) (Xak.refl _ _) (VwL.refl _ _))) ⟨-1,rfl,rfl,fun h=>absurd h (by decide)⟩
 refine Xah (S:=Nat) (fun n=>frm 22 [(0,.sq l.length (nda l)),(1,.sq t.length (u8a t)),(5,.x (.int .i64 n))]) (fun _=>[]) (fun n=>n≤t.length+1) (fun n=>t.length+1 - n) 0 (XaX (D:=[])) (Nat.zero_le _) fun n hn=>?_
 simp only [wfr]
 by_cases hlt:n≤t.length
 ·have hR1:=hR.out n
  have e1:(t.take n).length=n:=by rw [List.length_take];omega
  rw [e1] at hR1
  have hR1:=Lib.hid hR1
  (have wx:=And.intro @Nat.sub_zero (And.intro @Nat.mul_one @XwD);(repeat' (first|refine Wkx.go ?_|(refine Xaz (fun h=>?_) (fun h=>?_)<;>first|(exfalso;omega;done)|skip)|refine Xad ?_|(refine Xab rfl ?_;(first|((refine Xa7 Tryz.func32 [] rfl rfl (Xyo _) hR1.out ?_;rintro _ _ ⟨M,rfl,rfl,hM,hMe⟩);refine XaJ ?_)|((refine Xa7 Tryz.func31 [] rfl rfl (Xyo _) (Xwq M (by rw [hM.len];exact hM) (by rw [hM.len];omega)) ?_;rintro _ _ ⟨sb,rfl,rfl,hsb⟩);refine XaJ ?_)))|fail)))<;>(try clear wx)
  ·rename_i h
   obtain ⟨i,k,hik⟩:=hsb h
   refine Xaa _ _ (XaF rfl (RV.tmp _) (Xaj.mk' [] [] (Xyo _) (Xak.refl _ _) (VwL.refl _ _))) ⟨n,rfl,rfl,fun _=>⟨n,i,k,by unfold XpK;rw [←hMe];exact hik⟩⟩
  ·exact ⟨n+1,by omega,by omega,(XaX (D:=[]))⟩
 ·(repeat' (first|refine Wkx.go ?_|(refine Xaz (fun h=>?_) (fun h=>?_)<;>first|(exfalso;omega;done)|skip)|refine Xad ?_|fail))
  refine Xaa _ _ (XaF rfl (RV.tmp _) (Xaj.mk' [] [] (Xyo _) (Xak.refl _ _) (VwL.refl _ _))) ⟨-1,rfl,rfl,fun h=>absurd h (by decide)⟩
end Go.Proofs.YtdlblokjfoggpaaGreatDoor

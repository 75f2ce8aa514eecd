import Derived.Test.YtdlblokjfoggpaaGreatDoorW7
import Derived.Test.YtdlblokjfoggpaaGreatDoorW38
import Derived.Test.YtdlblokjfoggpaaGreatDoorW10
import Derived.Test.YtdlblokjfoggpaaGreatDoorW16
import Derived.Test.YtdlblokjfoggpaaGreatDoorW17
import Derived.Test.YtdlblokjfoggpaaGreatDoorW12
import Derived.Test.YtdlblokjfoggpaaGreatDoorW18
/- The reference's relations: then, star. -/
set_option linter.unusedSimpArgs false
set_option linter.unusedVariables false
set_option maxRecDepth 100000
set_option maxHeartbeats 8000000
namespace Go.Proofs.YtdlblokjfoggpaaGreatDoor
open Go.RowKit
def thK (B:Mat) (i j:Nat):Nat→Nat→Mat→Mat
 | 0,_,M=>M
 | n+1,k,M=>thK B i j n (k+1) (M.put i k (M.at i k || B.at j k))
def thJ (A B:Mat) (i m:Nat):Nat→Nat→Mat→Mat
 | 0,_,M=>M
 | n+1,j,M=>thJ A B i m n (j+1) (if A.at i j=true then thK B i j m 0 M else M)
def thI (A B:Mat) (m:Nat):Nat→Nat→Mat→Mat
 | 0,_,M=>M
 | n+1,i,M=>thI A B m n (i+1) (thJ A B i m m 0 M)
def Xid (A B:Mat):Mat:=thI A B A.length A.length 0 (XdS A.length)
def stK (i j:Nat):Nat→Nat→Mat→Mat
 | 0,_,M=>M
 | n+1,k,M=>if M.at i j=true then stK i j n (k+1) (M.put i k (M.at i k || M.at j k)) else M
def stI (j m:Nat):Nat→Nat→Mat→Mat
 | 0,_,M=>M
 | n+1,i,M=>stI j m n (i+1) (stK i j m 0 M)
def stJ (m:Nat):Nat→Nat→Mat→Mat
 | 0,_,M=>M
 | n+1,j,M=>stJ m n (j+1) (stI j m m 0 M)
def XgM (A:Mat):Mat:=stJ A.length A.length 0 (XeJ (XdO A.length) A)
theorem XwC (A B:Mat) (hA:MOk A.length A) (hB:MOk A.length B) (hm:A.length≤1000) (h0:0 < A.length):Xay Tryz.prog 61 [] [.sq A.length (mqs A),.sq B.length (mqs B)] (fun r H'=>r=.sq A.length (mqs (Xid A B))∧H'=[]):=by
 have hE:=Lib.hid (XhH A.length hm h0)
 have hAB:B.length=A.length:=hB.len
 refine XaV Tryz.func61 Tryz.ntmps61 ?_
 (repeat' (first|refine Wkx.go ?_|refine Xad ?_|(refine Xab rfl ?_;((refine Xa7 Tryz.func94 [] rfl rfl (Xyo _) hE.out ?_;rintro _ _ ⟨g0,cap,gs,hg,rfl,rfl⟩);refine XaJ ?_))|fail))
 apply Xah (S:=Nat × Mat) (fun s=>frm 62 [(0,.sq A.length (mqs A)),(1,.sq B.length (mqs B)),(5,.x (.slice (some ⟨g0,0,none⟩) gs.length cap)),(6,.x (.int .i64 s.1))]) (fun s=>mat A.length (some ⟨g0,0,none⟩) cap gs s.2) (fun s=>s.1≤A.length∧MOk A.length s.2∧thI A B A.length (A.length - s.1) s.1 s.2=Xid A B) (fun s=>A.length - s.1) (0,XdS A.length)
 case h0=>exact Xaj.mk' [] (mat A.length (some ⟨g0,0,none⟩) cap gs (XdS A.length)) (List.Perm.of_eq (by simp)) (Xak.refl _ _) (by (repeat' (first|exact VwL.nil|(refine VwL.cons ?_ ?_)|exact Vw.refl _|exact Vw.top _|fail)))
 case hi=>exact ⟨Nat.zero_le _,Xcc _,rfl⟩
 rintro ⟨i,M⟩ ⟨h1,h2,h3⟩
 simp only at h1 h2 h3
 simp only [wfr]
 by_cases hlt:i < A.length
 ·rw [show A.length - i=(A.length - (i+1))+1 from by omega,thI] at h3
  have hrA:=hA.rowl hlt
  have hdA:=Lib.hid (XeV A i hlt)
  (repeat' (first|refine Wkx.go ?_|(refine Xaz (fun h=>?_) (fun h=>?_)<;>first|(exfalso;omega;done)|skip)|refine Xad ?_|fail))
  generalize hW:thJ A B i A.length A.length 0 M=W at h3
  apply Xah (S:=Nat × Mat) (fun s=>frm 62 [(0,.sq A.length (mqs A)),(1,.sq B.length (mqs B)),(5,.x (.slice (some ⟨g0,0,none⟩) gs.length cap)),(6,.x (.int .i64 i)),(7,.x (.int .i64 s.1))]) (fun s=>mat A.length (some ⟨g0,0,none⟩) cap gs s.2) (fun s=>s.1≤A.length∧MOk A.length s.2∧thJ A B i A.length (A.length - s.1) s.1 s.2=W) (fun s=>A.length - s.1) (0,M)
  case h0=>exact (XaX (D:=[]))
  case hi=>exact ⟨Nat.zero_le _,h2,hW⟩
  clear hW
  rintro ⟨j,M1⟩ ⟨e1,e2,e3⟩
  simp only at e1 e2 e3
  simp only [wfr]
  by_cases hjl:j < A.length
  ·rw [show A.length - j=(A.length - (j+1))+1 from by omega,thJ] at e3
   have hrB:=hB.rowl (i:=j) (by omega)
   have hdB:=Lib.hid (XeV B j (by omega))
   have hbA:=Lib.hid (Xce A[i] j (by omega))
   have eA:=XeT (M:=A) (i:=i) (k:=j) hlt (by omega)
   rw [eA] at e3
   have eA:=Lib.hid eA
   (repeat' (first|refine Wkx.go ?_|(refine Xaz (fun h=>?_) (fun h=>?_)<;>first|(exfalso;omega;done)|skip)|refine Xad ?_|fail))
   generalize hW1:(if A[i][j]=true then thK B i j A.length 0 M1 else M1)=W1 at e3
   apply Xah (S:=Nat × Mat) (fun s=>frm 62 [(0,.sq A.length (mqs A)),(1,.sq B.length (mqs B)),(5,.x (.slice (some ⟨g0,0,none⟩) gs.length cap)),(6,.x (.int .i64 i)),(7,.x (.int .i64 j)),(8,.x (.int .i64 s.1))]) (fun s=>mat A.length (some ⟨g0,0,none⟩) cap gs s.2) (fun s=>s.1≤A.length∧MOk A.length s.2∧(if A[i][j]=true then thK B i j (A.length - s.1) s.1 s.2 else s.2)=W1) (fun s=>A.length - s.1) (0,M1)
   case h0=>exact (XaX (D:=[]))
   case hi=>exact ⟨Nat.zero_le _,e2,hW1⟩
   clear hW1
   rintro ⟨k,M2⟩ ⟨f1,f2,f3⟩
   simp only at f1 f2 f3
   simp only [wfr]
   rw [Xfz A.length (some ⟨g0,0,none⟩) cap gs M2]
   have hML:=f2.len
   by_cases hkl:k < A.length
   ·rw [show A.length - k=(A.length - (k+1))+1 from by omega,thK] at f3
    have hrl:=f2.rowl (i:=i) (by omega)
    have hset:=Lib.hid (fun v=>Xd0 A.length gs M2 i (by omega) (by omega) k v (by omega))
    haveI hrow:=XdZ A.length gs M2 i (by omega) (by omega)
    have hd:=Lib.hid (XdY A.length gs i (by omega))
    have hbB:=Lib.hid (Xce (B[j]'(by omega)) k (by omega))
    have hbM:=Lib.hid (Xce (M2[i]'(by omega)) k (by omega))
    have eB:=Lib.hid (XeT (M:=B) (i:=j) (k:=k) (by omega) (by omega))
    have eM:=Lib.hid (XeT (M:=M2) (i:=i) (k:=k) (by omega) (by omega))
    generalize hR:XgT A.length gs M2=R at *
    (have wx:=And.intro @hdA.out @hbA.out;(repeat' (first|refine Wkx.go ?_|(refine Xaz (fun h=>?_) (fun h=>?_)<;>skip)|refine Xad ?_|fail)))<;>(try clear wx)
    ·refine XbZ 22 mixed ?_
     dsimp only [List.dropLast]
     (have wx:=And.intro @hd.out (And.intro @hdB.out (And.intro @hbB.out @hbM.out));(repeat' (first|refine Wkx.go ?_|refine Xad ?_|fail)))<;>(try clear wx)
     refine Xg3 ?_
     (repeat' (first|refine Wkx.go ?_|refine Xad ?_|fail))
     rename_i h
     rw [if_pos h.2] at f3
     rw [hset.out _,←eM.out,←eB.out]
     exact ⟨(k+1,M2.put i k (M2.at i k || B.at j k)),by simp only;omega,⟨by simp only;omega,f2.put i k _,by simp only;rw [if_pos h.2];exact f3⟩,(XaX (D:=[]))⟩
    ·rename_i h
     rw [if_neg (by rw [h.resolve_left (by omega)];decide)] at f3
     subst f3
     subst hR
     exact ⟨(j+1,M2),by simp only;omega,⟨by simp only;omega,f2,e3⟩,(XaX (D:=[]))⟩
   ·(have wx:=And.intro @hdA.out @hbA.out;(repeat' (first|refine Wkx.go ?_|(refine Xaz (fun h=>?_) (fun h=>?_)<;>first|(exfalso;omega;done)|skip)|refine Xad ?_|fail)))<;>(try clear wx)
    have e:M2=W1:=by rw [←f3,show A.length - k=0 from by omega];split<;>rfl
    subst e
    exact ⟨(j+1,M2),by simp only;omega,⟨by simp only;omega,f2,e3⟩,(XaX (D:=[]))⟩
  ·(repeat' (first|refine Wkx.go ?_|(refine Xaz (fun h=>?_) (fun h=>?_)<;>first|(exfalso;omega;done)|skip)|refine Xad ?_|fail))
   have e:M1=W:=by rw [←e3,show A.length - j=0 from by omega];rfl
   subst e
   exact ⟨(i+1,M1),by simp only;omega,⟨by simp only;omega,e2,h3⟩,(XaX (D:=[]))⟩
 ·(repeat' (first|refine Wkx.go ?_|(refine Xaz (fun h=>?_) (fun h=>?_)<;>first|(exfalso;omega;done)|skip)|refine Xad ?_|fail))
  have e:M=Xid A B:=by rw [←h3,show A.length - i=0 from by omega];rfl
  refine Xaa _ _ (XaF rfl (RV.tmp _) (Xaj.mk' (mat A.length (some ⟨g0,0,none⟩) cap gs M) [] (List.Perm.of_eq (List.append_nil _).symm) Xak.nil (VwL.cons (XlF hg h2) VwL.nil))) ⟨?_,rfl⟩
  rw [←e,h2.len]
theorem Xlz {m:Nat}:∀(n i:Nat) (M:Mat),MOk m M→MOk m (Xpr n i M)
 | 0,_,_,h=>h
 | n+1,i,M,h=>Xlz n (i+1) _ (h.put i i true)
theorem Xc9 (m:Nat):MOk m (XdO m):=Xlz _ _ _ (Xcc m)
theorem XhA {m:Nat} (A B:Mat) (i:Nat):∀(n k:Nat) (M:Mat),MOk m M→MOk m (XjJ A B i n k M)
 | 0,_,_,h=>h
 | n+1,k,M,h=>XhA A B i n (k+1) _ (h.put i k _)
theorem XkS {m:Nat} (A B:Mat) (c:Nat):∀(n i:Nat) (M:Mat),MOk m M→MOk m (Xl9 A B c n i M)
 | 0,_,_,h=>h
 | n+1,i,M,h=>XkS A B c n (i+1) _ (XhA A B i c 0 M h)
theorem Xdv (A B:Mat):MOk A.length (XeJ A B):=XkS _ _ _ _ _ _ (Xcc _)
theorem Xpv {m:Nat} (B:Mat) (i j:Nat):∀(n k:Nat) (M:Mat),MOk m M→MOk m (thK B i j n k M)
 | 0,_,_,h=>h
 | n+1,k,M,h=>Xpv B i j n (k+1) _ (h.put i k _)
theorem Xpu {m:Nat} (A B:Mat) (i c:Nat):∀(n j:Nat) (M:Mat),MOk m M→MOk m (thJ A B i c n j M)
 | 0,_,_,h=>h
 | n+1,j,M,h=>Xpu A B i c n (j+1) _ (by split;exact Xpv B i j c 0 M h;exact h)
theorem XsE {m:Nat} (A B:Mat) (c:Nat):∀(n i:Nat) (M:Mat),MOk m M→MOk m (thI A B c n i M)
 | 0,_,_,h=>h
 | n+1,i,M,h=>XsE A B c n (i+1) _ (Xpu A B i c c 0 M h)
theorem Xie (A B:Mat):MOk A.length (Xid A B):=XsE _ _ _ _ _ _ (Xcc _)
theorem Xpq {m:Nat} (i j:Nat):∀(n k:Nat) (M:Mat),MOk m M→MOk m (stK i j n k M)
 | 0,_,_,h=>h
 | n+1,k,M,h=>by
   rw [stK]
   split
   ·exact Xpq i j n (k+1) _ (h.put i k _)
   ·exact h
theorem Xpp {m:Nat} (j c:Nat):∀(n i:Nat) (M:Mat),MOk m M→MOk m (stI j c n i M)
 | 0,_,_,h=>h
 | n+1,i,M,h=>Xpp j c n (i+1) _ (Xpq i j c 0 M h)
theorem Xsw {m:Nat} (c:Nat):∀(n j:Nat) (M:Mat),MOk m M→MOk m (stJ c n j M)
 | 0,_,_,h=>h
 | n+1,j,M,h=>Xsw c n (j+1) _ (Xpp j c c 0 M h)
theorem XfW (A:Mat):MOk A.length (XgM A):=Xsw _ _ _ _ (by have:=Xdv (XdO A.length) A;rw [(Xc9 A.length).len] at this;exact this)
theorem Xve (A B:Mat) (hA:MOk A.length A) (hB:MOk A.length B) (hm:A.length≤1000) (h0:0 < A.length):Xay Tryz.prog 62 [] [.sq A.length (mqs A),.sq B.length (mqs B)] (fun r H'=>r=.sq A.length (mqs (XeJ A B))∧H'=[]):=XtS (XrN A B hA hB hm h0) (Xdv A B)
theorem Xwv (A:Mat) (hA:MOk A.length A) (hm:A.length≤1000) (h0:0 < A.length):Xay Tryz.prog 63 [] [.sq A.length (mqs A)] (fun r H'=>r=.sq A.length (mqs (XgM A))∧H'=[]):=by
 have hS:=Xsz A.length hm h0
 have e0:=(Xc9 A.length).len
 have hB:=XrN (XdO A.length) A (by rw [e0];exact Xc9 _) (by rw [e0];exact hA) (by rw [e0];exact hm) (by rw [e0];exact h0)
 rw [e0] at hB
 have hM0:MOk A.length (XeJ (XdO A.length) A):=by have:=Xdv (XdO A.length) A;rw [e0] at this;exact this
 have hfin:stJ A.length A.length 0 (XeJ (XdO A.length) A)=XgM A:=rfl
 have hSok:=XfW A
 generalize XgM A=SA at *
 generalize XeJ (XdO A.length) A=BM at *
 have hB:=Lib.hid hB
 have hS:=Lib.hid hS
 refine XaV Tryz.func63 Tryz.ntmps63 ?_
 (repeat' (first|refine Wkx.go ?_|refine Xad ?_ (h:=by exact fun _=>Xbb rfl rfl Tryz.func64 (hS.out))|refine Xad ?_|(refine Xab rfl ?_;((refine Xa7 Tryz.func62 [] rfl rfl (Xyo _) hB.out ?_;rintro _ _ ⟨g0,cap,gs,hg,rfl,rfl⟩);refine XaJ ?_))|fail))
 apply Xah (S:=Nat × Mat) (fun s=>frm 62 [(0,.sq A.length (mqs A)),(3,.x (.slice (some ⟨g0,0,none⟩) gs.length cap)),(4,.x (.int .i64 s.1))]) (fun s=>mat A.length (some ⟨g0,0,none⟩) cap gs s.2) (fun s=>s.1≤A.length∧MOk A.length s.2∧stJ A.length (A.length - s.1) s.1 s.2=SA) (fun s=>A.length - s.1) (0,BM)
 case h0=>exact Xaj.mk' [] (mat A.length (some ⟨g0,0,none⟩) cap gs BM) (List.Perm.of_eq (by simp)) (Xak.refl _ _) (by (repeat' (first|exact VwL.nil|(refine VwL.cons ?_ ?_)|exact Vw.refl _|exact Vw.top _|fail)))
 case hi=>exact ⟨Nat.zero_le _,hM0,hfin⟩
 clear hfin hM0 hB hS
 rintro ⟨j,M⟩ ⟨h1,h2,h3⟩
 simp only at h1 h2 h3
 simp only [wfr]
 by_cases hlt:j < A.length
 ·rw [show A.length - j=(A.length - (j+1))+1 from by omega,stJ] at h3
  (repeat' (first|refine Wkx.go ?_|(refine Xaz (fun h=>?_) (fun h=>?_)<;>first|(exfalso;omega;done)|skip)|refine Xad ?_|fail))
  generalize hW:stI j A.length A.length 0 M=W at h3
  apply Xah (S:=Nat × Mat) (fun s=>frm 62 [(0,.sq A.length (mqs A)),(3,.x (.slice (some ⟨g0,0,none⟩) gs.length cap)),(4,.x (.int .i64 j)),(5,.x (.int .i64 s.1))]) (fun s=>mat A.length (some ⟨g0,0,none⟩) cap gs s.2) (fun s=>s.1≤A.length∧MOk A.length s.2∧stI j A.length (A.length - s.1) s.1 s.2=W) (fun s=>A.length - s.1) (0,M)
  case h0=>exact (XaX (D:=[]))
  case hi=>exact ⟨Nat.zero_le _,h2,hW⟩
  clear hW
  rintro ⟨i,M1⟩ ⟨e1,e2,e3⟩
  simp only at e1 e2 e3
  simp only [wfr]
  by_cases hil:i < A.length
  ·rw [show A.length - i=(A.length - (i+1))+1 from by omega,stI] at e3
   (repeat' (first|refine Wkx.go ?_|(refine Xaz (fun h=>?_) (fun h=>?_)<;>first|(exfalso;omega;done)|skip)|refine Xad ?_|fail))
   generalize hW1:stK i j A.length 0 M1=W1 at e3
   apply Xah (S:=Nat × Mat) (fun s=>frm 62 [(0,.sq A.length (mqs A)),(3,.x (.slice (some ⟨g0,0,none⟩) gs.length cap)),(4,.x (.int .i64 j)),(5,.x (.int .i64 i)),(6,.x (.int .i64 s.1))]) (fun s=>mat A.length (some ⟨g0,0,none⟩) cap gs s.2) (fun s=>s.1≤A.length∧MOk A.length s.2∧stK i j (A.length - s.1) s.1 s.2=W1) (fun s=>A.length - s.1) (0,M1)
   case h0=>exact (XaX (D:=[]))
   case hi=>exact ⟨Nat.zero_le _,e2,hW1⟩
   clear hW1
   rintro ⟨k,M2⟩ ⟨f1,f2,f3⟩
   simp only at f1 f2 f3
   simp only [wfr]
   rw [Xfz A.length (some ⟨g0,0,none⟩) cap gs M2]
   have hML:=f2.len
   have hrl:=f2.rowl (i:=i) (by omega)
   have hrj:=f2.rowl (i:=j) (by omega)
   haveI hrow:=XdZ A.length gs M2 i (by omega) (by omega)
   haveI hrowj:=XdZ A.length gs M2 j (by omega) (by omega)
   have hd:=Lib.hid (XdY A.length gs i (by omega))
   have hdj:=Lib.hid (XdY A.length gs j (by omega))
   have hbj:=Lib.hid (Xce (M2[i]'(by omega)) j (by omega))
   have eJ:=XeT (M:=M2) (i:=i) (k:=j) (by omega) (by omega)
   by_cases hkl:k < A.length
   ·rw [show A.length - k=(A.length - (k+1))+1 from by omega,stK,eJ] at f3
    have hset:=Lib.hid (fun v=>Xd0 A.length gs M2 i (by omega) (by omega) k v (by omega))
    have hbM:=Lib.hid (Xce (M2[i]'(by omega)) k (by omega))
    have hbB:=Lib.hid (Xce (M2[j]'(by omega)) k (by omega))
    have eB:=Lib.hid (XeT (M:=M2) (i:=j) (k:=k) (by omega) (by omega))
    have eM:=Lib.hid (XeT (M:=M2) (i:=i) (k:=k) (by omega) (by omega))
    clear eJ
    generalize hR:XgT A.length gs M2=R at *
    (have wx:=And.intro @hd.out (And.intro @hdj.out @hbj.out);(repeat' (first|refine Wkx.go ?_|(refine Xaz (fun h=>?_) (fun h=>?_)<;>skip)|refine Xad ?_|fail)))<;>(try clear wx)
    ·rename_i h
     refine XbZ 22 mixed ?_
     dsimp only [List.dropLast]
     (have wx:=And.intro @hd.out (And.intro @hdj.out (And.intro @hbB.out @hbM.out));(repeat' (first|refine Wkx.go ?_|refine Xad ?_|fail)))<;>(try clear wx)
     refine Xg3 ?_
     (repeat' (first|refine Wkx.go ?_|refine Xad ?_|fail))
     rw [if_pos h.2] at f3
     rw [hset.out _,←eM.out,←eB.out]
     exact ⟨(k+1,M2.put i k (M2.at i k || M2.at j k)),by simp only;omega,⟨by simp only;omega,f2.put i k _,f3⟩,(XaX (D:=[]))⟩
    ·rename_i h
     rw [if_neg (by rw [h.resolve_left (by omega)];decide)] at f3
     subst f3
     subst hR
     exact ⟨(i+1,M2),by simp only;omega,⟨by simp only;omega,f2,e3⟩,(XaX (D:=[]))⟩
   ·(have wx:=And.intro @hd.out (And.intro @hdj.out @hbj.out);(repeat' (first|refine Wkx.go ?_|(refine Xaz (fun h=>?_) (fun h=>?_)<;>first|(exfalso;omega;done)|skip)|refine Xad ?_|fail)))<;>(try clear wx)
    have e:M2=W1:=by rw [←f3,show A.length - k=0 from by omega];rfl
    subst e
    exact ⟨(i+1,M2),by simp only;omega,⟨by simp only;omega,f2,e3⟩,(XaX (D:=[]))⟩
  ·(repeat' (first|refine Wkx.go ?_|(refine Xaz (fun h=>?_) (fun h=>?_)<;>first|(exfalso;omega;done)|skip)|refine Xad ?_|fail))
   have e:M1=W:=by rw [←e3,show A.length - i=0 from by omega];rfl
   subst e
   exact ⟨(j+1,M1),by simp only;omega,⟨by simp only;omega,e2,h3⟩,(XaX (D:=[]))⟩
 ·(repeat' (first|refine Wkx.go ?_|(refine Xaz (fun h=>?_) (fun h=>?_)<;>first|(exfalso;omega;done)|skip)|refine Xad ?_|fail))
  have e:M=SA:=by rw [←h3,show A.length - j=0 from by omega];rfl
  refine Xaa _ _ (XaF rfl (RV.tmp _) (Xaj.mk' (mat A.length (some ⟨g0,0,none⟩) cap gs M) [] (List.Perm.of_eq (List.append_nil _).symm) Xak.nil (VwL.cons (XlF hg h2) VwL.nil))) ⟨?_,rfl⟩
  rw [←e,h2.len]
theorem XoZ (n c:Nat) (hc:c < 256):Xay Tryz.prog 95 [] [.x (v4 n),.x (.int .u8 c)] (fun r H'=>r=.x (.bool (n.testBit c))∧H'=[]):=by
 refine XaV Tryz.func95 Tryz.ntmps95 ?_
 (have wx:=And.intro @XaD (And.intro @XaT (And.intro @XmU (And.intro @Nat.mul_one @Nat.zero_add)));(repeat' (first|refine Wkx.go ?_|refine Xad ?_ (h:=by exact fun _=>Xdb (Xin _ _ _ _ _ rfl rfl rfl (by first|exact Xcr _ (XcM _ _)|fail)))|refine XgO ?_|(refine Xab rfl ?_;(refine Xd9 (fun b=>?_)))|fail)))<;>(try clear wx)
 refine Xaa _ _ (XaF rfl (RV.tmp _) (XcS (D:=[_]) (R:=[]))) ?_
 refine ⟨?_,rfl⟩
 have hm:=XsN n c hc
 refine congrArg (fun q=>AV.x (.bool q)) ?_
 rw [Nat.and_one_is_mod] at hm
 cases ht:n.testBit c with
 | false=>rw [ht] at hm;simp only [Bool.false_eq_true,if_false] at hm;simp;omega
 | true=>rw [ht] at hm;simp only [if_true] at hm;simp;omega
def Xc6 (x:Nd) (t:List UInt8) (i:Nat) (M:Mat):Mat:=
 if x.kind=1 then M.put i i true else
 if x.kind=8 then M.put i i (decide (i=0) || decide (chr t (i - 1)=10)) else
 if x.kind=9 then M.put i i (decide (i < t.length) && decide (chr t i=10)) else
 if x.kind=2 then (if i < t.length∧x.set.testBit (chr t i)=true then M.put i (i+1) true else M) else M
def lfF (x:Nd) (t:List UInt8):Nat→Nat→Mat→Mat
 | 0,_,M=>M
 | n+1,i,M=>lfF x t n (i+1) (Xc6 x t i M)
def XiX (x:Nd) (t:List UInt8):Mat:=lfF x t (t.length+1) 0 (XdS (t.length+1))
theorem XiZ {m:Nat} (x:Nd) (t:List UInt8) (i:Nat) (M:Mat) (h:MOk m M):MOk m (Xc6 x t i M):=by
 unfold Xc6
 split
 ·exact h.put _ _ _
 split
 ·exact h.put _ _ _
 split
 ·exact h.put _ _ _
 split
 ·split
  ·exact h.put _ _ _
  ·exact h
 ·exact h
theorem Xsd {m:Nat} (x:Nd) (t:List UInt8):∀(n i:Nat) (M:Mat),MOk m M→MOk m (lfF x t n i M)
 | 0,_,_,h=>h
 | n+1,i,M,h=>Xsd x t n (i+1) _ (XiZ x t i M h)
theorem XhS (x:Nd) (t:List UInt8):MOk (t.length+1) (XiX x t):=Xsd _ _ _ _ _ (Xcc _)
attribute [local simp] XkB
theorem XvO (i:Nat):((i:Int)+1 == 0)=false:=by rw [XyF];omega
theorem XnB (t:List UInt8) (i:Nat):(((t[i]?.getD 0).toNat:Int) == 10)=decide (chr t i=10):=by
 have e:(t[i]?.getD 0).toNat=chr t i:=by unfold chr;rw [List.getD_eq_getElem?_getD]
 rw [e,Bool.eq_iff_iff,beq_iff_eq,decide_eq_true_iff]
 omega
def ndv (x:Nd):Value:=.agg #[.int .i64 x.kind,.int .i64 x.left,.int .i64 x.right,.int .u64 (wd x.set 0:Nat),.int .u64 (wd x.set 1:Nat),.int .u64 (wd x.set 2:Nat),.int .u64 (wd x.set 3:Nat)]
theorem XvV (x:Nd) (t:List UInt8) (hm:t.length≤999):Xay Tryz.prog 65 [] [.x (ndv x),.sq t.length (u8a t)] (fun r H'=>r=.sq (t.length+1) (mqs (XiX x t))∧H'=[]):=by
 have hE:=XhH (t.length+1) (by omega) (by omega)
 have hfin:lfF x t (t.length+1) 0 (XdS (t.length+1))=XiX x t:=rfl
 have hLok:=XhS x t
 have hZ:=Xcc (t.length+1)
 generalize XdS (t.length+1)=Z at *
 generalize XiX x t=L at *
 obtain ⟨kd,lf,rt,st⟩:=x
 unfold ndv
 have hE:=Lib.hid hE
 have hst:=Lib.hid (fun c hc=>XoZ st c hc)
 refine XaV Tryz.func65 Tryz.ntmps65 ?_
 (have wx:=@Nd.cells.eq_1;(repeat' (first|refine Wkx.go ?_|refine Xad ?_|(refine Xab rfl ?_;(first|((refine Xa7 Tryz.func94 [] rfl rfl (Xyo _) hE.out ?_;rintro _ _ ⟨g0,cap,gs,hg,rfl,rfl⟩);refine XaJ ?_)|refine Xd9 (fun b=>?_)))|fail)))<;>(try clear wx)
 apply Xah (S:=Nat × Mat) (fun s=>frm 86 [(1,.sq t.length (u8a t)),(2,.x (.pointer (some ⟨b,0,none⟩))),(5,.x (.int .i64 t.length)),(6,.x (.slice (some ⟨g0,0,none⟩) gs.length cap)),(7,.x (.int .i64 s.1))]) (fun s=>.box b [.x (.int .i64 kd),.x (.int .i64 lf),.x (.int .i64 rt),.x (.int .u64 (wd st 0:Nat)),.x (.int .u64 (wd st 1:Nat)),.x (.int .u64 (wd st 2:Nat)),.x (.int .u64 (wd st 3:Nat))] :: mat (t.length+1) (some ⟨g0,0,none⟩) cap gs s.2) (fun s=>s.1≤t.length+1∧MOk (t.length+1) s.2∧lfF ⟨kd,lf,rt,st⟩ t (t.length+1 - s.1) s.1 s.2=L) (fun s=>t.length+1 - s.1) (0,Z)
 case h0=>exact Xaj.mk' [] (.box b _ :: mat _ _ _ _ _) (List.perm_append_singleton _ _) (Xak.refl _ _) (by (repeat' (first|exact VwL.nil|(refine VwL.cons ?_ ?_)|exact Vw.refl _|exact Vw.top _|fail)))
 case hi=>exact ⟨Nat.zero_le _,hZ,hfin⟩
 clear hfin hZ hE
 rintro ⟨i,M⟩ ⟨h1,h2,h3⟩
 simp only at h1 h2 h3
 simp only [wfr]
 by_cases hlt:i < t.length+1
 ·rw [show t.length+1 - i=(t.length+1 - (i+1))+1 from by omega,lfF] at h3
  rw [Xfz (t.length+1) (some ⟨g0,0,none⟩) cap gs M]
  have hML:=h2.len
  have hrl:=h2.rowl (i:=i) (by omega)
  have hset:=Lib.hid (fun v=>Xd0 (t.length+1) gs M i (by omega) (by omega) i v (by omega))
  have hset1:=Lib.hid (fun v (h:i+1 < t.length+1)=>Xd0 (t.length+1) gs M i (by omega) (by omega) (i+1) v (by omega))
  haveI hrow:=XdZ (t.length+1) gs M i (by omega) (by omega)
  have hd:=Lib.hid (XdY (t.length+1) gs i (by omega))
  generalize hR:XgT (t.length+1) gs M=R at *
  have hIX:=Lib.hid (fun (j:Nat) (h:j < t.length)=>XfD t j h)
  (have wx:=@hd.out;(repeat' (first|refine Wkx.go ?_|(refine Xaz (fun h=>?_) (fun h=>?_)<;>first|(exfalso;omega;done)|skip)|refine Xad ?_|(refine Xab rfl ?_;(refine Xg3 ?_))|fail)))<;>(try clear wx)
  ·rename_i h
   have hs:Xc6 ⟨kd,lf,rt,st⟩ t i M=M.put i i true:=by unfold Xc6;simp only;rw [if_pos (by omega)]
   rw [hset.out true]
   exact ⟨(i+1,M.put i i true),by simp only;omega,⟨by simp only;omega,h2.put i i true,by simp only;rw [←h3,hs]⟩,(XaX (D:=[]))⟩
  ·rename_i h
   have hs:Xc6 ⟨kd,lf,rt,st⟩ t i M=M.put i i (decide (i=0) || decide (chr t (i - 1)=10)):=by unfold Xc6;simp only;rw [if_neg (by omega),if_pos (by omega)]
   by_cases hi0:i=0
   ·have hz:((i:Int) == 0)=true:=by rw [beq_iff_eq];omega
    have hz:=Lib.hid hz
    refine XbZ 16 mixed ?_
    dsimp only [List.dropLast]
    (have wx:=And.intro @hd.out @hz.out;(repeat' (first|refine Wkx.go ?_|refine XlL ?_|refine Xad ?_|fail)))<;>(try clear wx)
    refine Xg3 ?_
    (repeat' (first|refine Wkx.go ?_|refine Xad ?_|fail))
    rw [hset.out _]
    exact ⟨(i+1,M.put i i true),by simp only;omega,⟨by simp only;omega,h2.put _ _ _,by simp only;rw [←h3,hs,decide_eq_true hi0];rfl⟩,(XaX (D:=[]))⟩
   ·obtain ⟨i,rfl⟩:∃j,i=j+1:=⟨i - 1,by omega⟩
    have hv:=XnB t i
    refine XbZ 16 mixed ?_
    dsimp only [List.dropLast]
    (have wx:=And.intro @hd.out (And.intro @XfD @XvO);(repeat' (first|refine Wkx.go ?_|refine Xad ?_|fail)))<;>(try clear wx)
    refine Xg3 ?_
    (repeat' (first|refine Wkx.go ?_|refine Xad ?_|fail))
    rw [hset.out _,hv]
    exact ⟨(i+1+1,M.put (i+1) (i+1) (decide (chr t i=10))),by simp only;omega,⟨by simp only;omega,h2.put _ _ _,by simp only;rw [←h3,hs];rfl⟩,(XaX (D:=[]))⟩
  ·rename_i h
   have hs:Xc6 ⟨kd,lf,rt,st⟩ t i M=M.put i i (decide (i < t.length) && decide (chr t i=10)):=by unfold Xc6;simp only;rw [if_neg (by omega),if_neg (by omega),if_pos (by omega)]
   have hv:=XnB t i
   by_cases hit:i < t.length
   ·have hc:=Lib.hid (XfD t i hit)
    refine XbZ 16 mixed ?_
    dsimp only [List.dropLast]
    (have wx:=And.intro @hd.out @hc.out;(repeat' (first|refine Wkx.go ?_|refine Xad ?_|fail)))<;>(try clear wx)
    refine Xg3 ?_
    (repeat' (first|refine Wkx.go ?_|refine Xad ?_|fail))
    rw [hset.out _,hv]
    exact ⟨(i+1,M.put i i (decide (i < t.length) && decide (chr t i=10))),by simp only;omega,⟨by simp only;omega,h2.put _ _ _,by simp only;rw [←h3,hs]⟩,(XaX (D:=[]))⟩
   ·have hf:=Lib.hid (decide_eq_false hit)
    refine XbZ 16 mixed ?_
    dsimp only [List.dropLast]
    (have wx:=And.intro @hd.out @hf.out;(repeat' (first|refine Wkx.go ?_|refine XlL ?_|refine Xad ?_|fail)))<;>(try clear wx)
    refine Xg3 ?_
    (repeat' (first|refine Wkx.go ?_|refine Xad ?_|fail))
    rw [hset.out _]
    exact ⟨(i+1,M.put i i false),by simp only;omega,⟨by simp only;omega,h2.put _ _ _,by simp only;rw [←h3,hs,decide_eq_false hit];rfl⟩,(XaX (D:=[]))⟩
  ·rename_i h
   have hs:Xc6 ⟨kd,lf,rt,st⟩ t i M=if i < t.length∧st.testBit (chr t i)=true then M.put i (i+1) true else M:=by unfold Xc6;simp only;rw [if_neg (by omega),if_neg (by omega),if_neg (by omega),if_pos (by omega)]
   by_cases hit:i < t.length
   ·have hc:=Lib.hid (XfD t i hit)
    have hH:=hst.out _ (t.getD i 0).toNat_lt
    have e0:(t.getD i 0).toNat=chr t i:=rfl
    rw [e0] at hH
    generalize hq:st.testBit (chr t i)=q at hs hH
    have hH:=Lib.hid hH
    (have wx:=And.intro @hd.out (And.intro @hc.out @XaY);(repeat' (first|refine Wkx.go ?_|refine Xc4 ?_|(refine Xaz (fun h=>?_) (fun h=>?_)<;>skip)|refine Xad ?_ (h:=by (intro hp;(try simp only [wgp] at hp);(try simp only [hp,wte]);(try simp only [whn] at hp);exact Xbb rfl rfl Tryz.func95 (hH.out)))|refine Xad ?_ (h:=by exact fun _=>XbD _ _ _ _ _ _ _ _ _ _ _ (i+1) rfl rfl rfl HEl.out rfl (by omega))|refine Xad ?_|(refine Xab rfl ?_;(refine Xg3 ?_))|fail)))<;>(try clear wx)
    ·rename_i h
     rw [if_pos h] at hs
     rw [hset1.out true (by omega)]
     exact ⟨(i+1,M.put i (i+1) true),by simp only;omega,⟨by simp only;omega,h2.put _ _ _,by simp only;rw [←h3,hs]⟩,(XaX (D:=[]))⟩
    ·rename_i h
     rw [if_neg (fun e=>by rw [h.resolve_left (by omega)] at e;exact absurd e.2 (by decide))] at hs
     subst hR
     exact ⟨(i+1,M),by simp only;omega,⟨by simp only;omega,h2,by simp only;rw [←h3,hs]⟩,(XaX (D:=[]))⟩
   ·have hf:=Lib.hid (decide_eq_false hit)
    (have wx:=And.intro @hd.out @hf.out;(repeat' (first|refine Wkx.go ?_|refine Xc4 ?_|(refine Xaz (fun h=>?_) (fun h=>?_)<;>first|(exact absurd h (by decide))|skip)|refine XlL ?_|refine Xad ?_|fail)))<;>(try clear wx)
    rw [if_neg (fun e=>hit e.1)] at hs
    subst hR
    exact ⟨(i+1,M),by simp only;omega,⟨by simp only;omega,h2,by simp only;rw [←h3,hs]⟩,(XaX (D:=[]))⟩
  ·rename_i h
   have hs:Xc6 ⟨kd,lf,rt,st⟩ t i M=M:=by unfold Xc6;simp only;rw [if_neg (by omega),if_neg (by omega),if_neg (by omega),if_neg (by omega)]
   subst hR
   exact ⟨(i+1,M),by simp only;omega,⟨by simp only;omega,h2,by simp only;rw [←h3,hs]⟩,(XaX (D:=[]))⟩
 ·(repeat' (first|refine Wkx.go ?_|(refine Xaz (fun h=>?_) (fun h=>?_)<;>first|(exfalso;omega;done)|skip)|refine Xad ?_|fail))
  have e:M=L:=by rw [←h3,show t.length+1 - i=0 from by omega];rfl
  refine Xaa _ _ (XaF rfl (RV.tmp _) (Xaj.mk' (.box b _ :: mat (t.length+1) (some ⟨g0,0,none⟩) cap gs M) [] (List.Perm.of_eq (List.append_nil _).symm) Xak.nil (VwL.cons (XpI hg h2 (fun _ hh=>List.mem_cons_of_mem _ hh)) VwL.nil))) ⟨?_,rfl⟩
  rw [←e,h2.len]
theorem Xwq (M:Mat) (hM:MOk M.length M) (hm:M.length≤1000):Xay Tryz.prog 31 [] [.sq M.length (mqs M)] (fun r H'=>∃b,r=.x (.bool b)∧H'=[]∧(b=true→∃i k,M.at i k=true)):=by
 refine XaV Tryz.func31 Tryz.ntmps31 ?_
 (repeat' (first|refine Wkx.go ?_|refine Xad ?_|fail))
 refine Xah (S:=Nat) (fun i=>frm 24 [(0,.sq M.length (mqs M)),(3,.x (.int .i64 i))]) (fun _=>[]) (fun i=>i≤M.length) (fun i=>M.length - i) 0 (XaX (D:=[])) (Nat.zero_le _) fun i hi=>?_
 simp only [wfr]
 by_cases hlt:i < M.length
 ·have hr:=hM.rowl hlt
  have hd:=Lib.hid (XeV M i hlt)
  (repeat' (first|refine Wkx.go ?_|(refine Xaz (fun h=>?_) (fun h=>?_)<;>first|(exfalso;omega;done)|skip)|refine Xad ?_|fail))
  refine Xah (S:=Nat) (fun k=>frm 24 [(0,.sq M.length (mqs M)),(3,.x (.int .i64 i)),(4,.x (.int .i64 k))]) (fun _=>[]) (fun k=>k≤M.length) (fun k=>M.length - k) 0 (XaX (D:=[])) (Nat.zero_le _) fun k hk=>?_
  simp only [wfr]
  by_cases hkl:k < M.length
  ·have hb:=Lib.hid (Xce M[i] k (by omega))
   have e:=Lib.hid (XeT (M:=M) (i:=i) (k:=k) hlt (by omega))
   (have wx:=And.intro @hd.out @hb.out;(repeat' (first|refine Wkx.go ?_|(refine Xaz (fun h=>?_) (fun h=>?_)<;>first|(exfalso;omega;done)|skip)|refine Xad ?_|fail)))<;>(try clear wx)
   ·rename_i h
    refine Xaa _ _ (XaF rfl (RV.tmp _) (Xaj.mk' [] [] (by (repeat' (first|exact Xyo _|fail))) (Xak.refl _ _) (VwL.refl _ _))) ⟨true,rfl,rfl,fun _=>⟨i,k,e.out.trans h⟩⟩
   ·exact ⟨k+1,by omega,by omega,(XaX (D:=[]))⟩
  ·(repeat' (first|refine Wkx.go ?_|(refine Xaz (fun h=>?_) (fun h=>?_)<;>first|(exfalso;omega;done)|skip)|refine Xad ?_|fail))
   exact ⟨i+1,by omega,by omega,(XaX (D:=[]))⟩
 ·(repeat' (first|refine Wkx.go ?_|(refine Xaz (fun h=>?_) (fun h=>?_)<;>first|(exfalso;omega;done)|skip)|refine Xad ?_|fail))
  refine Xaa _ _ (XaF rfl (RV.tmp _) (Xaj.mk' [] [] (by (repeat' (first|exact Xyo _|fail))) (Xak.refl _ _) (VwL.refl _ _))) ⟨false,rfl,rfl,fun h=>by cases h⟩
def XgZ (k:Int):Int:=if k=3∨k=4 then 2 else if k=5∨k=6∨k=7 then 1 else 0
theorem Xo3 (k:Int):Xay Tryz.prog 93 [] [.x (.int .i64 k)] (fun r H'=>r=.x (.int .i64 (XgZ k))∧H'=[]):=by
 unfold XgZ
 refine XaV Tryz.func93 Tryz.ntmps93 ?_
 (repeat' (first|refine Wkx.go ?_|(refine Xaz (fun h=>?_) (fun h=>?_)<;>first|(exfalso;omega;done)|skip)|refine Xad ?_|fail))
 all_goals
  refine Xaa _ _ (XaF rfl (RV.tmp _) (Xaj.mk' [] [] (by (repeat' (first|exact Xyo _|fail))) (Xak.refl _ _) (VwL.refl _ _))) ⟨?_,rfl⟩
  first|(rw [if_pos (by omega)];rfl)|(rw [if_neg (by omega),if_pos (by omega)];rfl)|(rw [if_neg (by omega),if_neg (by omega)];rfl)|fail
theorem XsI (l:List Nd) (hl:l.length≤256):∀(N:Nat) (z:Int),0≤z→z < N→z < l.length→Xay Tryz.prog 60 [] [.sq l.length (nda l),.x (.int .i64 z)] (fun r H'=>∃v:Int,r=.x (.int .i64 v)∧H'=[] ∧ -1≤v∧v≤z)
 | 0,z,h0,h1,_=>by omega
 | N+1,z,h0,h1,h2=>by
   have ih:=Lib.hid (fun y h3 h4 h5=>XsI l hl N y h3 h4 h5)
   obtain ⟨n,rfl⟩:∃n:Nat,z=n:=⟨z.toNat,by omega⟩
   have hn:n < l.length:=by omega
   have hd:=Lib.hid (Xb1 l n hn)
   have hk:=Xo3 l[n].kind
   have hkr:XgZ l[n].kind=0∨XgZ l[n].kind=1∨XgZ l[n].kind=2:=by unfold XgZ;split;exact .inr (.inr rfl);split;exact .inr (.inl rfl);exact .inl rfl
   generalize XgZ l[n].kind=kr at *
   generalize l[n]=x at *
   have hk:=Lib.hid hk
   refine XaV Tryz.func60 Tryz.ntmps60 ?_
   (have wx:=And.intro @hd.out (And.intro @Nd.cells.eq_1 @Xig);(repeat' (first|refine Wkx.go ?_|(refine Xaz (fun h=>?_) (fun h=>?_)<;>first|(exfalso;omega;done)|skip)|refine Xad ?_ (h:=by exact fun _=>Xbb rfl rfl Tryz.func93 (hk.out))|refine Xad ?_ (h:=by (intro hp;(try simp only [wgp] at hp);(try simp only [hp,wte]);(try simp only [whn] at hp);exact Xdb (Xf4 _ _ _ _ _ _ rfl rfl rfl XrI.out (by kernel_rfl) (by kernel_rfl))))|refine Xad ?_|(refine Xab rfl ?_;(first|((refine Xa7 Tryz.func60 [] rfl rfl (Xyo _) (ih.out _ (by omega) (by omega) (by omega)) ?_;rintro _ _ ⟨v,rfl,rfl,hv1,hv2⟩);refine XaJ ?_)|refine Xbh ?_|refine Xb8 (fun b=>?_)))|fail)))<;>(try clear wx)
   all_goals refine Xaa _ _ (XaF rfl (RV.tmp _) (Xaj.mk' [.box _ _] [] (Xyo _) Xak.nil (VwL.refl _ _))) ⟨_,rfl,rfl,by omega,by omega⟩
theorem Xrg (l:List Nd) (hl:l.length≤256) (h0:0 < l.length):Xay Tryz.prog 30 [] [.sq l.length (nda l)] (fun r H'=>∃b,r=.x (.bool b)∧H'=[]):=by
 have hT:=Lib.hid (XsI l hl (l.length+1) ((l.length:Int) - 1) (by omega) (by omega) (by omega))
 have f1:=Lib.hid (decide_eq_true (show (1:Int)≤(l.length:Int) by omega))
 have f2:=Lib.hid (decide_eq_true (show (l.length:Int)≤256 by omega))
 refine XaV Tryz.func30 Tryz.ntmps30 ?_
 (have wx:=And.intro @f1.out @f2.out;(repeat' (first|refine Wkx.go ?_|refine Xad ?_|fail)))<;>(try clear wx)
 refine Xhy true rfl rfl rfl (fun _=>?_) (fun hp=>by cases hp)
 simp only [Xyt,Xyx,str]
 refine Xa7 Tryz.func60 [] rfl rfl (Xyo _) hT.out ?_
 rintro _ _ ⟨v,rfl,rfl,hv1,hv2⟩
 refine XaJ ?_
 (repeat' (first|refine Wkx.go ?_|refine Xad ?_|fail))
 exact Xaa _ _ (XaF rfl (RV.tmp _) (Xaj.mk' [] [] (Xyo _) (Xak.refl _ _) (VwL.refl _ _))) ⟨_,rfl,rfl⟩
end Go.Proofs.YtdlblokjfoggpaaGreatDoor

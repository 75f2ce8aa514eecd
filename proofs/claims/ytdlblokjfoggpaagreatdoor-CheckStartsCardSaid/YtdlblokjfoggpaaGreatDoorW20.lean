import Derived.Test.YtdlblokjfoggpaaGreatDoorW7
import Derived.Test.YtdlblokjfoggpaaGreatDoorW14
import Derived.Test.YtdlblokjfoggpaaGreatDoorW19
/- The program's patterns: Valid. -/
set_option linter.unusedSimpArgs false
set_option linter.unusedVariables false
set_option maxRecDepth 100000
set_option maxHeartbeats 8000000
namespace Go.Proofs.YtdlblokjfoggpaaGreatDoor
open Go.RowKit
theorem Xuz (a b:Nat) (h:b≤a):(a:Int) - (b:Int)=((a - b:Nat):Int):=by omega
def rta (l:List Nat):List AV:=l.map fun n=>.x (.int .i64 (n:Nat))
@[simp] theorem XuO (l:List Nat):(rta l).length=l.length:=by simp [rta]
theorem Xnz (l:List Nat) (n:Nat):rta l++[.x (.int .i64 (n:Nat))]=rta (l++[n]):=by simp [rta]
theorem Xpf (l:List Nat) (k:Nat):(rta l).take k=rta (l.take k):=by simp [rta]
def Xui (V:Option (List Nat)):Bool:=match V with
 | none=>false
 | some r=>decide (r.length=1)
instance:Xoa Tryz.prog 128 2 3 1:=⟨by kernel_rfl,by kernel_rfl⟩
theorem XrL (S:List Nat) (h:S.length≤2):spl [.x (.int .i64 0),.x (.int .i64 0)] 0 (rta S)=[.x (.int .i64 ((S.getD 0 0:Nat):Int)),.x (.int .i64 ((S.getD 1 0:Nat):Int))]:=by
 match S,h with
 | [],_=>rfl
 | [a],_=>rfl
 | [a,b],_=>rfl
theorem Xlr (n:Nd) (i:Nat) (R:List Nat) (h:n.kind≠2∧n.set % 115792089237316195423570985008687907853269984665640564039457584007913129639936≠0):Xft n i R=none:=if_pos h
theorem Xls (n:Nd) (i:Nat) (R:List Nat) (h:Xc1 n.kind=none):Xft n i R=none:=by unfold Xft;rw [h];split<;>rfl
theorem XnW (n:Nd) (i c:Nat) (R:List Nat) (h:Xc1 n.kind=some c) (hc:R.length < c):Xft n i R=none:=by unfold Xft;rw [h];simp only [hc,if_true];split<;>rfl
theorem XnV (n:Nd) (i c:Nat) (R:List Nat) (h:Xc1 n.kind=some c) (hb:¬(n.left=(R.drop (R.length - c)).getD 0 0∧n.right=(R.drop (R.length - c)).getD 1 0)):Xft n i R=none:=by
 unfold Xft;rw [h];simp only
 split
 ·rfl
 split
 ·rfl
 first|rfl|rw [if_neg hb]
theorem XpA (n:Nd) (i c:Nat) (R:List Nat) (hk:¬(n.kind≠2∧n.set % 115792089237316195423570985008687907853269984665640564039457584007913129639936≠0)) (h:Xc1 n.kind=some c) (hc:c≤R.length) (hb:n.left=(R.drop (R.length - c)).getD 0 0∧n.right=(R.drop (R.length - c)).getD 1 0):Xft n i R=some (R.take (R.length - c)++[i]):=by
 unfold Xft;rw [if_neg hk,h];simp only
 rw [if_neg (by omega),if_pos hb]
theorem XnY (l:List Nd) (hl:l.length≤256):XaM Tryz.prog 21 [] [.sq l.length (nda l)] (fun r H'=>r=.x (.bool (Xui (vGo l 0 [])))∧H'=[]):=by
 generalize hV0:vGo l 0 []=V
 have hV0:=Lib.hid hV0
 refine Xbs Tryz.func21 Tryz.ntmps21 ?_
 refine Xa7 3 1 ?_
 (repeat' (first|refine Wkx.go ?_|refine XaG ?_|(refine XaE (fun h=>?_) (fun h=>?_)<;>first|(exact absurd h (by decide))|(exfalso;omega;done)|skip)|refine XaF ?_|refine Xai ?_|(refine Xaa rfl ?_;(first|refine Xax ?_|refine Xaw ?_|refine Xav (fun ad cap=>?_)|refine Xat (fun b=>?_)|refine Xas (fun b=>?_)|refine Xau (fun b=>?_)|fail))|fail))
 refine XaA (S:=Nat × List Nat × Option Addr × Nat) (fun q=>frm 70 [(0,.sq l.length (nda l)),(2,.x (.bool false)),(3,.x (.slice q.2.2.1 q.2.1.length q.2.2.2)),(12,.sq l.length (nda l)),(13,.x (.int .i64 l.length)),(14,.x (.int .i64 (q.1:Nat)))]) (fun q=>[.row q.2.2.1 q.2.1.length q.2.2.2 3 1 (rta q.2.1)]) (fun q=>q.1≤l.length∧q.2.1.length≤q.1∧vGo (l.drop q.1) q.1 q.2.1=V) (fun q=>l.length - q.1) (0,[],none,0) (XbQ (D:=[])) ⟨Nat.zero_le _,Nat.le_refl _,hV0.out⟩ fun q hq=>?_
 clear hV0
 obtain ⟨i,R,ad,cap⟩:=q
 obtain ⟨b1,b2,hV⟩:=hq
 simp only at b1 b2 hV
 simp only [wfr]
 refine XdG 0 rfl fun hcap _ hd=>?_
 by_cases hlt:i < l.length
 ·rw [List.drop_eq_getElem_cons hlt,vGo] at hV
  have hV:=Lib.hid hV
  have hks:=Xti l[i].kind
  rcases hk:Xc1 l[i].kind with _|c
  ·unfold XoL at hks
   rw [hk] at hks
   have hk:=Lib.hid hk
   (have wx:=And.intro @XcB (And.intro @Nd.cells.eq_1 @Xn1);(repeat' (first|refine Wkx.go ?_|refine XaG ?_|(refine XaE (fun h=>?_) (fun h=>?_)<;>first|(exact absurd h (by decide))|(exfalso;omega;done)|skip)|refine XaF ?_|refine Xai ?_ (h:=by first|exact fun _=>Xb3 rfl rfl Tryz.func52 (hks)|fail)|refine Xai ?_ (h:=by first|exact fun _=>Xc5 (Xen _ _ _ _ _ _ rfl rfl rfl Xoa.out (by kernel_rfl) (by kernel_rfl))|fail)|refine Xai ?_ (h:=by first|(intro hp;(try simp only [wgp] at hp);(try simp only [hp,wte]);(try simp only [whn] at hp);exact Xc5 (Xen _ _ _ _ _ _ rfl rfl rfl Xoa.out (by kernel_rfl) (by kernel_rfl)))|fail)|refine Xai ?_|(refine Xaa rfl ?_;(first|refine Xax ?_|refine Xaw ?_|refine Xav (fun ad cap=>?_)|refine Xat (fun b=>?_)|refine Xas (fun b=>?_)|refine Xau (fun b=>?_)|fail))|fail)))<;>(try clear wx)
   all_goals
    have hV:=hV.out
    rw [Xls _ _ _ hk.out] at hV
    simp only at hV
    subst hV
    first|refine Xab _ _ (Xa0 rfl (RV.tmp _) (Xaq.mk' [_] [] (Xvt _) Xap.nil (VwL.refl _ _))) ?_|refine Xab _ _ (Xa0 rfl (RV.tmp _) (Xaq.mk' [_,_] [] (Xvt _) Xap.nil (VwL.refl _ _))) ?_|refine Xab _ _ (Xa0 rfl (RV.tmp _) (Xaq.mk' [_,_,_] [] (Xvt _) Xap.nil (VwL.refl _ _))) ?_
    exact ⟨rfl,rfl⟩
  ·unfold XoL at hks
   rw [hk] at hks
   have hc2:=Xj5 hk
   have hk:=Lib.hid hk
   simp only at hks
   (have wx:=And.intro @XcB (And.intro @Nd.cells.eq_1 (And.intro @Xn1 @Xuz));(repeat' (first|refine Wkx.go ?_|refine XaG ?_|(refine XaE (fun h=>?_) (fun h=>?_)<;>first|(exact absurd h (by decide))|(exfalso;omega;done)|skip)|refine XaF ?_|refine Xai ?_ (h:=by first|exact fun _=>Xb3 rfl rfl Tryz.func52 (hks)|fail)|refine Xai ?_ (h:=by first|exact fun _=>Xc5 (Xen _ _ _ _ _ _ rfl rfl rfl Xoa.out (by kernel_rfl) (by kernel_rfl))|fail)|refine Xai ?_ (h:=by first|(intro hp;(try simp only [wgp] at hp);(try simp only [hp,wte]);(try simp only [whn] at hp);exact Xc5 (Xen _ _ _ _ _ _ rfl rfl rfl Xoa.out (by kernel_rfl) (by kernel_rfl)))|fail)|refine Xai ?_|(refine Xaa rfl ?_;(first|refine Xax ?_|refine Xaw ?_|refine Xav (fun ad cap=>?_)|refine Xat (fun b=>?_)|refine Xas (fun b=>?_)|refine Xau (fun b=>?_)|fail))|fail)))<;>(try clear wx)
   ·have hV:=hV.out
    rw [Xlr _ _ _ ⟨by omega,h.2⟩] at hV
    simp only at hV
    subst hV
    first|refine Xab _ _ (Xa0 rfl (RV.tmp _) (Xaq.mk' [_] [] (Xvt _) Xap.nil (VwL.refl _ _))) ?_|refine Xab _ _ (Xa0 rfl (RV.tmp _) (Xaq.mk' [_,_] [] (Xvt _) Xap.nil (VwL.refl _ _))) ?_|refine Xab _ _ (Xa0 rfl (RV.tmp _) (Xaq.mk' [_,_,_] [] (Xvt _) Xap.nil (VwL.refl _ _))) ?_
    exact ⟨rfl,rfl⟩
   ·have hV:=hV.out
    rw [XnW _ _ _ _ hk.out h] at hV
    simp only at hV
    subst hV
    first|refine Xab _ _ (Xa0 rfl (RV.tmp _) (Xaq.mk' [_] [] (Xvt _) Xap.nil (VwL.refl _ _))) ?_|refine Xab _ _ (Xa0 rfl (RV.tmp _) (Xaq.mk' [_,_] [] (Xvt _) Xap.nil (VwL.refl _ _))) ?_|refine Xab _ _ (Xa0 rfl (RV.tmp _) (Xaq.mk' [_,_,_] [] (Xvt _) Xap.nil (VwL.refl _ _))) ?_
    exact ⟨rfl,rfl⟩
   rename_i _ bn hs
   have hcl:c≤R.length:=by omega
   have hbad:=Lib.hid (XnV l[i] i c R hk.out)
   have hk2:¬(l[i].kind≠2∧l[i].set % 115792089237316195423570985008687907853269984665640564039457584007913129639936≠0):=by
    rintro ⟨q1,q2⟩
    rcases hs with hs|hs
    ·exact q1 (by omega)
    ·exact hs q2
   have hgo:=Lib.hid (XpA l[i] i c R hk2 hk.out hcl)
   have hpe:=XrL (R.drop (R.length - c)) (by rw [List.length_drop];omega)
   generalize (R.drop (R.length - c)).getD 0 0=p0 at *
   generalize (R.drop (R.length - c)).getD 1 0=p1 at *
   have hsp:spl [.x (.int .i64 0),.x (.int .i64 0)] 0 (((rta R).drop (R.length - c)).take (R.length - (R.length - c)))=[.x (.int .i64 (p0:Nat)),.x (.int .i64 (p1:Nat))]:=by
    rw [←hpe,List.take_of_length_le (by simp)]
    simp [rta]
   have hl':(R.take (R.length - c)++[i]).length=R.length - c+1:=by simp
   refine XbO mixed ?_
   apply XbV 0 rfl rfl (by kernel_rfl) (by intro c T H hp;simp [Xbx,XaC,XbG,XcQ] at hp)
   case h=>exact Xgs _ _ _ _ _ _ rfl rfl Xoa.out
   apply Xag
   case hT=>((try simp only [wtn,Xvx,Xvu,Xvv,Xvy,XvC,Nat.reduceAdd,Nat.reduceMul,Nat.reduceSub,↓reduceIte,Nat.reduceEqDiff]);rfl)
   case hH=>rfl
   (refine Xhp 1 ?_;refine Xhp 2 ?_)
   have hspl:c=0→spl [.x (.int .i64 0),.x (.int .i64 0)] 0 ([]:List AV)=[.x (.int .i64 (p0:Nat)),.x (.int .i64 (p1:Nat))]:=by
    rintro rfl
    rw [←hsp]
    simp [rta]
   rcases hd with ⟨rfl,hR0,rfl⟩|⟨g,rfl⟩
   ·obtain rfl:R=[]:=List.eq_nil_of_length_eq_zero hR0
    obtain rfl:c=0:=by simpa using hcl
    (refine Xdn 3 ?_;(first|refine Xcb ?_|refine Xax ?_|refine Xaw ?_|refine Xav (fun ad cap=>?_)|refine Xat (fun b=>?_)|refine Xas (fun b=>?_)|refine Xau (fun b=>?_)|fail))
    refine XbR 4 (by decide +kernel) rfl rfl ?_
    refine XgP 0 _ _ _ _ _ _ _ _ 0 _ [] rfl rfl rfl HEl.out (.inl ⟨_,_,rfl,rfl,rfl⟩) (by omega) (by simp) ?_
    apply Xag
    case hT=>((try simp only [wtn,Xvx,Xvu,Xvv,Xvy,XvC,Nat.reduceAdd,Nat.reduceMul,Nat.reduceSub,↓reduceIte,Nat.reduceEqDiff]);rfl)
    case hH=>rw [hspl rfl]
    refine Xar (by decide +kernel) ?_
    refine Xac ?_
    clear hsp hspl hpe
    (try simp only [wtn,Xvx,Xvu,Xvv,Xvy,XvC,Nat.reduceAdd,Nat.reduceMul,Nat.reduceSub,↓reduceIte,Nat.reduceEqDiff])
    (have wx:=And.intro @Nat.sub_zero (@ite_self.{1});(repeat' (first|refine Wkx.go ?_|refine XaG ?_|(refine XaE (fun h=>?_) (fun h=>?_)<;>first|(exact absurd h (by decide))|(exfalso;omega;done)|skip)|refine XaF ?_|refine Xai ?_|(refine Xaa rfl ?_;(first|refine Xax ?_|refine Xaw ?_|refine Xav (fun ad cap=>?_)|refine Xat (fun b=>?_)|refine Xas (fun b=>?_)|refine Xau (fun b=>?_)|fail))|fail)))<;>(try clear wx)
    ·have hV:=hV.out
     rw [hbad.out (by omega)] at hV
     simp only at hV
     subst hV
     first|refine Xab _ _ (Xa0 rfl (RV.tmp _) (Xaq.mk' [_] [] (Xvt _) Xap.nil (VwL.refl _ _))) ?_|refine Xab _ _ (Xa0 rfl (RV.tmp _) (Xaq.mk' [_,_] [] (Xvt _) Xap.nil (VwL.refl _ _))) ?_|refine Xab _ _ (Xa0 rfl (RV.tmp _) (Xaq.mk' [_,_,_] [] (Xvt _) Xap.nil (VwL.refl _ _))) ?_
     exact ⟨rfl,rfl⟩
    ·rename_i ad cap
     have hV:=hV.out
     rw [hgo.out (by omega)] at hV
     refine ⟨(i+1,[i],ad,cap),by simp only;omega,⟨by simp only;omega,by simp,hV⟩,?_⟩
     exact (XbQ (D:=[_,_,_]) (R:=[_]))
   ·by_cases hc0:c=0
    ·subst hc0
     (have wx:=And.intro @Nat.sub_zero @Nat.sub_self;(refine Xdn 3 ?_;(first|refine Xcb ?_|refine Xax ?_|refine Xaw ?_|refine Xav (fun ad cap=>?_)|refine Xat (fun b=>?_)|refine Xas (fun b=>?_)|refine Xau (fun b=>?_)|fail)))<;>(try clear wx)
     refine XbR 4 (by decide +kernel) rfl rfl ?_
     refine XgP 0 _ _ _ _ _ _ _ _ 0 _ [] rfl rfl rfl HEl.out (.inl ⟨_,_,rfl,rfl,rfl⟩) (by omega) (by simp) ?_
     apply Xag
     case hT=>((try simp only [wtn,Xvx,Xvu,Xvv,Xvy,XvC,Nat.reduceAdd,Nat.reduceMul,Nat.reduceSub,↓reduceIte,Nat.reduceEqDiff]);rfl)
     case hH=>rw [hspl rfl]
     refine Xar (by decide +kernel) ?_
     refine Xac ?_
     clear hsp hspl hpe
     (try simp only [wtn,Xvx,Xvu,Xvv,Xvy,XvC,Nat.reduceAdd,Nat.reduceMul,Nat.reduceSub,↓reduceIte,Nat.reduceEqDiff])
     (have wx:=And.intro @Nat.sub_zero (@ite_self.{1});(repeat' (first|refine Wkx.go ?_|refine XaG ?_|(refine XaE (fun h=>?_) (fun h=>?_)<;>first|(exact absurd h (by decide))|(exfalso;omega;done)|skip)|refine XaF ?_|refine Xai ?_|(refine Xaa rfl ?_;(first|refine Xax ?_|refine Xaw ?_|refine Xav (fun ad cap=>?_)|refine Xat (fun b=>?_)|refine Xas (fun b=>?_)|refine Xau (fun b=>?_)|fail))|fail)))<;>(try clear wx)
     ·have hV:=hV.out
      rw [hbad.out (by omega)] at hV
      simp only at hV
      subst hV
      first|refine Xab _ _ (Xa0 rfl (RV.tmp _) (Xaq.mk' [_] [] (Xvt _) Xap.nil (VwL.refl _ _))) ?_|refine Xab _ _ (Xa0 rfl (RV.tmp _) (Xaq.mk' [_,_] [] (Xvt _) Xap.nil (VwL.refl _ _))) ?_|refine Xab _ _ (Xa0 rfl (RV.tmp _) (Xaq.mk' [_,_,_] [] (Xvt _) Xap.nil (VwL.refl _ _))) ?_
      exact ⟨rfl,rfl⟩
     ·rename_i ad cap
      have hV:=hV.out
      rw [hgo.out (by omega)] at hV
      simp only [Nat.sub_zero,List.take_length] at hV
      refine ⟨(i+1,R++[i],ad,cap),by simp only;omega,⟨by simp only;omega,by simp;omega,hV⟩,?_⟩
      simp only [Nat.sub_zero,List.take_length] at hl'
      simp only
      rw [hl',←Xnz]
      exact (XbQ (D:=[_,_,_]) (R:=[_]))
    ·have hcr:¬cap=R.length - c:=by omega
     have hcx:∀x y:Option Addr,(if cap=R.length - c then x else y)=y:=fun _ _=>if_neg hcr
     (have wx:=And.intro @hcx (And.intro @Nat.mul_one @Nat.zero_add);(refine Xdn 3 ?_;(first|refine Xcb ?_|refine Xax ?_|refine Xaw ?_|refine Xav (fun ad cap=>?_)|refine Xat (fun b=>?_)|refine Xas (fun b=>?_)|refine Xau (fun b=>?_)|fail)))<;>(try clear wx)
     clear hcx
     refine XbR 4 (by decide +kernel) rfl rfl ?_
     refine XgP 0 _ _ _ _ _ _ _ _ _ _ _ rfl rfl rfl HEl.out (.inr ⟨2,g,R.length - c,_,_,_,_,_,rfl,rfl,by omega,rfl⟩) (by omega) (by simp;omega) ?_
     apply Xag
     case hT=>((try simp only [wtn,Xvx,Xvu,Xvv,Xvy,XvC,Nat.reduceAdd,Nat.reduceMul,Nat.reduceSub,↓reduceIte,Nat.reduceEqDiff]);rfl)
     case hH=>rw [hsp]
     refine Xar (by decide +kernel) ?_
     refine Xac ?_
     refine XgD 2 (R.length - c) rfl (by omega) (fun _=>.inr trivial) (by simp) ?_
     rw [Nat.mul_one,Xpf]
     clear hsp hspl hpe
     (try simp only [wtn,Xvx,Xvu,Xvv,Xvy,XvC,Nat.reduceAdd,Nat.reduceMul,Nat.reduceSub,↓reduceIte,Nat.reduceEqDiff])
     (have wx:=And.intro @Nat.sub_zero (@ite_self.{1});(repeat' (first|refine Wkx.go ?_|refine XaG ?_|(refine XaE (fun h=>?_) (fun h=>?_)<;>first|(exact absurd h (by decide))|(exfalso;omega;done)|skip)|refine XaF ?_|refine Xai ?_|(refine Xaa rfl ?_;(first|refine Xax ?_|refine Xaw ?_|refine Xav (fun ad cap=>?_)|refine Xat (fun b=>?_)|refine Xas (fun b=>?_)|refine Xau (fun b=>?_)|fail))|fail)))<;>(try clear wx)
     ·have hV:=hV.out
      rw [hbad.out (by omega)] at hV
      simp only at hV
      subst hV
      first|refine Xab _ _ (Xa0 rfl (RV.tmp _) (Xaq.mk' [_] [] (Xvt _) Xap.nil (VwL.refl _ _))) ?_|refine Xab _ _ (Xa0 rfl (RV.tmp _) (Xaq.mk' [_,_] [] (Xvt _) Xap.nil (VwL.refl _ _))) ?_|refine Xab _ _ (Xa0 rfl (RV.tmp _) (Xaq.mk' [_,_,_] [] (Xvt _) Xap.nil (VwL.refl _ _))) ?_
      exact ⟨rfl,rfl⟩
     ·rename_i ad cap
      have hV:=hV.out
      rw [hgo.out (by omega)] at hV
      refine ⟨(i+1,R.take (R.length - c)++[i],ad,cap),by simp only;omega,⟨by simp only;omega,by simp only;rw [hl'];omega,hV⟩,?_⟩
      simp only
      rw [hl',←Xnz]
      exact (XbQ (D:=[_,_,_]) (R:=[_]))
 ·have hV:=Lib.hid hV
  (repeat' (first|refine Wkx.go ?_|refine XaG ?_|(refine XaE (fun h=>?_) (fun h=>?_)<;>first|(exact absurd h (by decide))|(exfalso;omega;done)|skip)|refine XaF ?_|refine Xai ?_|(refine Xaa rfl ?_;(first|refine Xax ?_|refine Xaw ?_|refine Xav (fun ad cap=>?_)|refine Xat (fun b=>?_)|refine Xas (fun b=>?_)|refine Xau (fun b=>?_)|fail))|fail))
  have hV:=hV.out
  rw [List.drop_of_length_le (by omega),vGo] at hV
  subst hV
  first|refine Xab _ _ (Xa0 rfl (RV.tmp _) (Xaq.mk' [_] [] (Xvt _) Xap.nil (VwL.refl _ _))) ?_|refine Xab _ _ (Xa0 rfl (RV.tmp _) (Xaq.mk' [_,_] [] (Xvt _) Xap.nil (VwL.refl _ _))) ?_|refine Xab _ _ (Xa0 rfl (RV.tmp _) (Xaq.mk' [_,_,_] [] (Xvt _) Xap.nil (VwL.refl _ _))) ?_
  exact ⟨congrArg (fun q=>AV.x (.bool q)) (by unfold Xui;rw [Bool.eq_iff_iff];simp;omega),rfl⟩
theorem Xhj (l:List Sx) (k v:Nat) (h:k < l.length):spl (sxa l) (k*7+2) [.x (.int .i64 (v:Nat))]=sxa (l.set k { l[k] with other:=v }):=by
 induction l generalizing k with
 | nil=>simp at h
 | cons a l ih=>
   have e:∀(x:Sx) (y:List Sx),sxa (x :: y)=x.cells++sxa y:=fun x y=>by simp [sxa]
   cases k with
   | zero=>rw [XvH,e,e];simp [spl,Sx.cells]
   | succ k=>
     have h':k < l.length:=by simpa using h
     rw [XvI,e,e]
     have i:=ih k h'
     simp only [List.getElem_cons_succ]
     rw [←i]
     have c7:a.cells.length=7:=by simp [Sx.cells]
     unfold spl
     rw [show (k+1)*7+2=a.cells.length+(k*7+2) by omega,List.take_length_add_append,Nat.add_assoc,List.drop_length_add_append]
     simp only [List.append_assoc]
def s2:Sx:=⟨2,0,0,0⟩
theorem Xh6 (l:List Nd):XeF l=(bld l.length l ([]++[⟨2,0,0,0⟩]++[⟨5,0,0,0⟩]) (l.length - 1) ([]++[(⟨2,0,0,0⟩:Sx)]).length).2.set 0 ⟨2,(bld l.length l ([]++[⟨2,0,0,0⟩]++[⟨5,0,0,0⟩]) (l.length - 1) ([]++[(⟨2,0,0,0⟩:Sx)]).length).1,(bld l.length l ([]++[⟨2,0,0,0⟩]++[⟨5,0,0,0⟩]) (l.length - 1) ([]++[(⟨2,0,0,0⟩:Sx)]).length).1,0⟩:=rfl
def XqP (l:List Nd):AV:=if Xc0 l=true then .tup [.sq (XeF l).length (sxa (XeF l)),.x (.int .i64 0)] else .tup [.x (.slice none 0 0),.x (.int .i64 3)]
theorem rxv (l:List Nd) (hl:l.length≤256):Xc0 l=Xui (vGo l 0 []):=by unfold Xc0 Xui;rw [decide_eq_true hl];rfl
theorem XkT (l:List Nd) (hl:l.length≤256) (hv:Xc0 l=false):XaM Tryz.prog 8 [] [.sq l.length (nda l)] (fun r H'=>r=.tup [.x (.slice none 0 0),.x (.int .i64 3)]∧H'=[]):=by
 have hV:=XnY l hl
 rw [←rxv l hl,hv] at hV
 have hV:=Lib.hid hV
 refine Xbs Tryz.func8 Tryz.ntmps8 ?_
 (repeat' (first|refine Wkx.go ?_|refine XaJ ?_|refine XaG ?_|(refine XaE (fun h=>?_) (fun h=>?_)<;>first|(exact absurd h (by decide))|(exfalso;omega;done)|skip)|refine XaF ?_|refine Xai ?_ (h:=by first|exact fun _=>Xb3 rfl rfl Tryz.func21 (hV.out)|fail)|refine Xai ?_|(refine Xaa rfl ?_;(first|refine Xax ?_|refine Xaw ?_|refine Xav (fun ad cap=>?_)|refine Xat (fun b=>?_)|refine Xas (fun b=>?_)|refine Xau (fun b=>?_)|fail))|fail))
 refine Xab _ _ (Xcn rfl (RV.tmp _) (RV.tmp _) (Xaq.mk' [] [] (Xvt _) Xap.nil (VwL.refl _ _))) ⟨rfl,rfl⟩
theorem XiM (l:List Nd) (hl:l.length≤256) (hv:Xc0 l=true):XaM Tryz.prog 8 [] [.sq l.length (nda l)] (fun r H'=>r=.tup [.sq (XeF l).length (sxa (XeF l)),.x (.int .i64 0)]∧H'=[]):=by
 have hV:=XnY l hl
 obtain ⟨-,h0,ht⟩:=XgN hv
 rw [←rxv l hl,hv] at hV
 clear hv
 have hV:=Lib.hid hV
 have hA:=Lib.hid (fun bb=>(Xof bb l).out)
 have hB:=fun bb g cap=>XqI l hl ht (by omega) bb ([]++[⟨2,0,0,0⟩]++[⟨5,0,0,0⟩]) ([]++[(⟨2,0,0,0⟩:Sx)]).length g cap l.length (by omega) (by decide) (by simp;omega)
 have hb2:=Xd9 ht l.length ([]++[⟨2,0,0,0⟩]++[⟨5,0,0,0⟩]) ([]++[(⟨2,0,0,0⟩:Sx)]).length (by omega) (by decide)
 obtain ⟨t,hpre⟩:=Xl9 ht l.length ([]++[⟨2,0,0,0⟩]++[⟨5,0,0,0⟩]) ([]++[(⟨2,0,0,0⟩:Sx)]).length (by omega)
 rw [Xh6]
 generalize bld l.length l ([]++[⟨2,0,0,0⟩]++[⟨5,0,0,0⟩]) (l.length - 1) ([]++[(⟨2,0,0,0⟩:Sx)]).length=B at *
 obtain ⟨c1,css⟩:=B
 simp only at hB hpre hb2 ⊢
 have hB:=Lib.hid hB
 have hs1:(l.length:Int) - 1=((l.length - 1:Nat):Int):=by omega
 have h02:0 < css.length:=by have:=hb2.1;simp at this;omega
 have hlen:css.length≤600:=by have:=hb2.2.1;simp at this;omega
 have hat:css[0]=⟨2,0,0,0⟩:=by
  have h9:css[0]?=some ⟨2,0,0,0⟩:=by rw [hpre];rfl
  exact (List.getElem?_eq_some_iff.1 h9).2
 have hsp1:spl (sxa css) 1 [.x (.int .i64 (c1:Nat))]=sxa (css.set 0 ⟨2,c1,0,0⟩):=by
  have q:=Xgj css 0 c1 h02
  rw [hat] at q
  exact q
 have hsp2:spl (sxa (css.set 0 ⟨2,c1,0,0⟩)) 2 [.x (.int .i64 (c1:Nat))]=sxa (css.set 0 ⟨2,c1,c1,0⟩):=by
  have q:=Xhj (css.set 0 ⟨2,c1,0,0⟩) 0 c1 (by simpa using h02)
  rw [List.set_set] at q
  simpa using q
 clear hb2 ht hpre hat
 refine Xbs Tryz.func8 Tryz.ntmps8 ?_
 refine Xa7 76 7 ?_
 (have wx:=@hs1;(repeat' (first|refine Wkx.go ?_|refine XaJ ?_|refine XaG ?_|(refine XaE (fun h=>?_) (fun h=>?_)<;>first|(exact absurd h (by decide))|(exfalso;omega;done)|skip)|refine XaF ?_|refine Xai ?_ (h:=by first|exact fun _=>Xb3 rfl rfl Tryz.func21 (hV.out)|fail)|refine Xai ?_|(refine Xaa rfl ?_;(first|((refine Xaj 22 Tryz.f22 [_,_] _ _ _ rfl rfl Tryz.func22 (by decide) rfl (Xvt _) (VwL.refl _ _) (hA.out _ [] none 0 2 0 0 0 _ _ _ _ _ _ _ rfl rfl rfl (by rw [XaI];rfl) (by rw [XaI];rfl) (by rw [XaI];rfl) (by rw [XaI];rfl) (by decide)) ?_;rintro _ _ ⟨g,cap,rfl,rfl⟩);refine XaO ?_)|((refine Xaj 22 Tryz.f22 [_,_] _ _ _ rfl rfl Tryz.func22 (by decide) rfl (Xvt _) (VwL.refl _ _) (hA.out _ ([]++[⟨2,0,0,0⟩]) _ _ 5 0 0 0 _ _ _ _ _ _ _ rfl rfl rfl (by rw [XaI];rfl) (by rw [XaI];rfl) (by rw [XaI];rfl) (by rw [XaI];rfl) (by decide)) ?_;rintro _ _ ⟨g,cap,rfl,rfl⟩);refine XaO ?_)|((refine Xaj 23 Tryz.f23 [_,_] _ _ _ rfl rfl Tryz.func23 (by decide) rfl (Xvt _) (VwL.refl _ _) (hB.out _ _ _) ?_;rintro _ _ ⟨g,cap,rfl,rfl⟩);refine XaO ?_)|refine Xax ?_|refine Xaw ?_|refine Xav (fun ad cap=>?_)|refine Xat (fun b=>?_)|refine Xas (fun b=>?_)|refine Xau (fun b=>?_)|fail))|fail)))<;>(try clear wx)
 rw [hsp1]
 (repeat' (first|refine Wkx.go ?_|refine XaJ ?_|refine XaG ?_|(refine XaE (fun h=>?_) (fun h=>?_)<;>first|(exact absurd h (by decide))|(exfalso;omega;done)|skip)|refine XaF ?_|refine Xai ?_|(refine Xaa rfl ?_;(first|refine Xax ?_|refine Xaw ?_|refine Xav (fun ad cap=>?_)|refine Xat (fun b=>?_)|refine Xas (fun b=>?_)|refine Xau (fun b=>?_)|fail))|fail))
 rw [hsp2]
 refine Xab _ _ (Xcn rfl (RV.tmp _) (RV.tmp _) (Xaq.mk' [_,_] [] (Xvt _) Xap.nil (VwL.cons (Vw.row (List.Mem.tail _ (List.Mem.head _)) (VwL.refl _ _)) (VwL.refl _ _)))) ⟨?_,rfl⟩
 rw [List.length_set]
 rfl
theorem Xmj (l:List Nd) (hl:l.length≤256):XaM Tryz.prog 8 [] [.sq l.length (nda l)] (fun r H'=>r=XqP l∧H'=[]):=by
 unfold XqP
 by_cases hv:Xc0 l=true
 ·rw [if_pos hv];exact XiM l hl hv
 ·rw [if_neg hv];exact XkT l hl (by simpa using hv)
theorem XnX (l:List Sx) (hl:l.length≤140737488355328):RowKit.Hid (∀k:Nat,XaM Tryz.prog 53 [] [.x (.int .i64 k),.at_ [.sq l.length (sxa l)]] (fun r H'=>r=.x (.bool (decide (l.length≤k)))∧H'=[])):=Lib.hid fun k=>by
 refine Xbs Tryz.func53 Tryz.ntmps53 ?_
 (repeat' (first|refine Wkx.go ?_|refine XaJ ?_|refine XaG ?_|(refine XaE (fun h=>?_) (fun h=>?_)<;>first|(exact absurd h (by decide))|(exfalso;omega;done)|skip)|refine XaF ?_|refine Xai ?_|(refine Xaa rfl ?_;(first|refine Xax ?_|refine Xaw ?_|refine Xav (fun ad cap=>?_)|refine Xat (fun b=>?_)|refine Xas (fun b=>?_)|refine Xau (fun b=>?_)|fail))|fail))
 refine Xab _ _ (Xa0 rfl (RV.tmp _) (Xaq.mk' [] [] (Xvt _) Xap.nil (VwL.refl _ _))) ⟨?_,rfl⟩
 refine congrArg (fun q=>AV.x (.bool q)) ?_
 first|rfl|(rw [Bool.eq_iff_iff];simp;done)|rw [Bool.eq_iff_iff]
theorem Xpw (n:Nat) (s:Sx) (h:(s.kind=2∧s.out < n∧s.other < n)∨((s.kind=1∨s.kind=3∨s.kind=4)∧s.out < n)∨s.kind=5):XlE n s=true:=by
 unfold XlE
 by_cases h2:s.kind=2
 ·rw [if_pos h2,decide_eq_true (show s.out < n by omega),decide_eq_true (show s.other < n by omega)];rfl
 rw [if_neg h2]
 by_cases h3:s.kind=1∨s.kind=3∨s.kind=4
 ·rw [if_pos h3];exact decide_eq_true (by omega)
 ·rw [if_neg h3];exact decide_eq_true (by omega)
theorem Xsb (n:Nat) (s:Sx) (h:¬((s.kind=2∧s.out < n∧s.other < n)∨((s.kind=1∨s.kind=3∨s.kind=4)∧s.out < n)∨s.kind=5)):XlE n s=false:=by
 unfold XlE
 by_cases h2:s.kind=2
 ·rw [if_pos h2]
  by_cases h4:s.out < n
  ·rw [decide_eq_false (show ¬s.other < n by omega),Bool.and_false]
  ·rw [decide_eq_false h4,Bool.false_and]
 rw [if_neg h2]
 by_cases h3:s.kind=1∨s.kind=3∨s.kind=4
 ·rw [if_pos h3];exact decide_eq_false (by omega)
 ·rw [if_neg h3];exact decide_eq_false (by omega)
theorem Xj7 (l:List Sx) (hl:l.length≤140737488355328):XaM Tryz.prog 24 [] [.sq l.length (sxa l)] (fun r H'=>r=.x (.bool (Xbw l))∧H'=[]):=by
 have h1:=XnX l hl
 generalize hV0:l.all (XlE l.length)=V
 have hV0:=Lib.hid hV0
 refine Xbs Tryz.func24 Tryz.ntmps24 ?_
 (repeat' (first|refine Wkx.go ?_|refine XaJ ?_|refine XaG ?_|(refine XaE (fun h=>?_) (fun h=>?_)<;>first|(exact absurd h (by decide))|(exfalso;omega;done)|skip)|refine XaF ?_|refine Xai ?_|(refine Xaa rfl ?_;(first|refine Xax ?_|refine Xaw ?_|refine Xav (fun ad cap=>?_)|refine Xat (fun b=>?_)|refine Xas (fun b=>?_)|refine Xau (fun b=>?_)|fail))|fail))
 ·refine Xab _ _ (Xa0 rfl (RV.tmp _) (Xaq.mk' [_] [] (Xvt _) Xap.nil (VwL.refl _ _))) ⟨?_,rfl⟩
  refine congrArg (fun q=>AV.x (.bool q)) ?_
  unfold Xbw
  rcases h with h|h
  ·rw [show l.length=0 by omega];rfl
  ·rw [show decide (l.length≤513)=false from decide_eq_false (by omega)];simp
 rename_i h
 have hs:Xbw l=V:=by
  unfold Xbw
  rw [decide_eq_true (show l.length≠0 by omega),decide_eq_true (show l.length≤513 by omega),hV0.out]
  rfl
 rw [hs]
 clear hs h
 refine XaA (S:=Nat) (fun q=>frm 46 [(1,.x (.pointer (some ⟨b,0,none⟩))),(2,.x (.bool false)),(3,.x (.func (.func 53) #[] #[.pointer (some ⟨b,0,none⟩)])),(15,.sq l.length (sxa l)),(16,.x (.int .i64 l.length)),(17,.x (.int .i64 (q:Nat)))]) (fun q=>[.box b [.sq l.length (sxa l)]]) (fun q=>q≤l.length∧(l.drop q).all (XlE l.length)=V) (fun q=>l.length - q) 0 (XbQ (D:=[])) ⟨Nat.zero_le _,hV0.out⟩ fun q hq=>?_
 clear hV0
 obtain ⟨b1,hV⟩:=hq
 simp only [wfr]
 by_cases hlt:q < l.length
 ·rw [List.drop_eq_getElem_cons hlt,List.all_cons] at hV
  have hV:=Lib.hid hV
  (have wx:=And.intro @Xhl (And.intro @Sx.cells.eq_1 @Xn1);(repeat' (first|refine Wkx.go ?_|refine XaJ ?_|refine XaG ?_|(refine XaE (fun h=>?_) (fun h=>?_)<;>first|(exact absurd h (by decide))|(exfalso;omega;done)|skip)|refine XaF ?_|refine Xai ?_ (h:=by first|exact fun _=>XeY rfl rfl Tryz.func53 (hS:=h1.out _)|fail)|refine Xai ?_ (h:=by first|(intro hp;(try simp only [wgp] at hp);(try simp only [hp,wte]);(try simp only [whn] at hp);exact XeY rfl rfl Tryz.func53 (hS:=h1.out _))|fail)|refine Xai ?_|(refine Xaa rfl ?_;(first|refine Xax ?_|refine Xaw ?_|refine Xav (fun ad cap=>?_)|refine Xat (fun b=>?_)|refine Xas (fun b=>?_)|refine Xau (fun b=>?_)|fail))|fail)))<;>(try clear wx)
  all_goals
   have hV:=hV.out
   first
   | refine ⟨q+1,by omega,⟨by omega,?_⟩,?_⟩
     rotate_left
     ·exact (XbQ (D:=[_]) (R:=[_]))
     ·rw [Xpw _ _ (by omega),Bool.true_and] at hV
      exact hV
   | rw [Xsb _ _ (by omega),Bool.false_and] at hV
     subst hV
     refine Xab _ _ (Xa0 rfl (RV.tmp _) (Xaq.mk' [_,_] [] (Xvt _) Xap.nil (VwL.refl _ _))) ⟨rfl,rfl⟩
 ·have hV:=Lib.hid hV
  (repeat' (first|refine Wkx.go ?_|refine XaJ ?_|refine XaG ?_|(refine XaE (fun h=>?_) (fun h=>?_)<;>first|(exact absurd h (by decide))|(exfalso;omega;done)|skip)|refine XaF ?_|refine Xai ?_|(refine Xaa rfl ?_;(first|refine Xax ?_|refine Xaw ?_|refine Xav (fun ad cap=>?_)|refine Xat (fun b=>?_)|refine Xas (fun b=>?_)|refine Xau (fun b=>?_)|fail))|fail))
  have hV:=hV.out
  rw [List.drop_of_length_le (by omega)] at hV
  subst hV
  refine Xab _ _ (Xa0 rfl (RV.tmp _) (Xaq.mk' [_] [] (Xvt _) Xap.nil (VwL.refl _ _))) ⟨rfl,rfl⟩
end Go.Proofs.YtdlblokjfoggpaaGreatDoor

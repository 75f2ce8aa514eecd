import Derived.Test.YtdlblokjfoggpaaGreatDoorW7
import Derived.Test.YtdlblokjfoggpaaGreatDoorW43
import Derived.Test.YtdlblokjfoggpaaGreatDoorW10
/- The reference's patterns: a part. -/
set_option linter.unusedSimpArgs false
set_option linter.unusedVariables false
set_option maxRecDepth 100000
set_option maxHeartbeats 8000000
namespace Go.Proofs.YtdlblokjfoggpaaGreatDoor
open Go.RowKit
theorem XhZ (kd:Nat) (l:List Nd) (h0:0 < l.length) (hl:l.length≤1000):Xay Tryz.prog 51 [] [.x (.int .i64 kd),.sq l.length (nda l),.sq 0 (nda [])] (fun q H'=>q=.sq (jnN kd l []).length (nda (jnN kd l []))∧H'=[]):=Xkm kd l [] h0 (by simpa using hl) (fun n h=>by cases h)
theorem Xut (s:List UInt8) (n:Nat) (hs:s.length≤128) (ih:XsR s n):XsX s (n+1):=by
 intro pb k d hk hd hf
 have hc:=Lib.hid (ih pb k d hk hd (by omega))
 have hinf:=fun h=>@Xp5 s n k d hs hk hd h
 have hM:=Lib.hid (fun a d e=>XgE s a d e)
 have hR:∀q,Xa6 n s ⟨k,d,[]⟩=q→XaC (n+1) s ⟨k,d,[]⟩=if q.c≠0 then ⟨0,q.c,q.p⟩ else Xcf (s.length+1) s q.p q.v:=fun q hq=>by subst hq;rw [XaC]
 generalize Xa6 n s ⟨k,d,[]⟩=Q at *
 have hR:=hR Q rfl
 generalize XaC (n+1) s ⟨k,d,[]⟩=R at *
 have hR:=Lib.hid hR
 clear ih
 have h5:=Lib.hid (fun l h0 hl=>XhZ 5 l h0 hl)
 have h6:=Lib.hid (fun l h0 hl=>XhZ 6 l h0 hl)
 have h7:=Lib.hid (fun l h0 hl=>XhZ 7 l h0 hl)
 unfold pk at hc hM ⊢
 refine XaV Tryz.func90 Tryz.ntmps90 ?_
 (repeat' (first|refine Wkx.go ?_|refine Xad ?_|(refine Xab rfl ?_;((refine Xa7 Tryz.func113 [_] rfl rfl (by (repeat' (first|exact Xyo _|fail))) hc.out ?_;rintro _ _ ⟨L,a,d',e,rfl,rfl,hd1,hd2,ha1,hx⟩;unfold pk);refine XaJ ?_))|fail))
 rcases hx with ⟨x1,rfl,rfl,rfl,rfl⟩|⟨x1,x2⟩
 ·obtain ⟨⟨i1,i2,i3,i4,i5,i6,i7,i8⟩,i9⟩:=hinf x1
  clear hinf
  obtain ⟨qv,qc,⟨qa,qo,qn⟩⟩:=Q
  simp only at x1 i1 i2 i3 i4 i5 i6 i7 i8 i9 hR ⊢
  have hR2:R=Xcf (s.length+1) s ⟨qa,qo,qn⟩ (qn.length - 1):=by have:=hR.out;rw [if_neg (by omega),i3] at this;exact this
  clear hR i1 i8
  refine Xah (S:=Nat × List Nd × Nat) (fun q=>frm 38 [(0,.x (.pointer (some ⟨pb,0,none⟩))),(2,.x (.slice none 0 0)),(3,.sq q.2.1.length (nda q.2.1))]) (fun q=>[.box pb [.x (.string (bs s)),.x (.int .i64 (q.1:Nat)),.x (.int .i64 d'),.x (.int .i64 0)]]) (fun q=>q.1≤s.length∧q.2.1.length≤3*q.1+1∧0 < q.2.1.length∧s.length < q.2.2+q.1∧R=Xcf q.2.2 s ⟨q.1,d',q.2.1⟩ (q.2.1.length - 1)) (fun q=>s.length - q.1) (qa,qn,s.length+1) (XaX (D:=[])) ⟨by simp only;omega,by simp only;omega,i2,by simp only;omega,by rw [hR2,i6]⟩ fun q hq=>?_
  clear hR2 i2 i3 i4 i5 i7 i9
  obtain ⟨a,L,m⟩:=q
  obtain ⟨b1,b2,b3,b4,b5⟩:=hq
  simp only at b1 b2 b3 b4 b5
  obtain ⟨m,rfl⟩:∃q,m=q+1:=⟨m - 1,by omega⟩
  have b5:=Lib.hid b5
  have j5:=Lib.hid (h5.out L b3 (by omega))
  have j6:=Lib.hid (h6.out L b3 (by omega))
  have j7:=Lib.hid (h7.out L b3 (by omega))
  simp only [wfr]
  have hgc:chr s a < 256:=Xcm s a
  generalize hg:chr s a=c at *
  have hg:=Lib.hid hg
  (have wx:=And.intro @XaY (And.intro @hg.out @Xbr);(repeat' (first|refine Wkx.go ?_|refine Xc4 ?_|(refine Xaz (fun h=>?_) (fun h=>?_)<;>skip)|refine Xad ?_ (h:=by exact fun _=>XdD rfl rfl Tryz.func50 (hS:=hM.out _ _ _))|refine Xad ?_ (h:=by exact fun _=>Xam _ _ _ _ _ _ _ rfl rfl rfl (by kernel_rfl) Xdi.out (by omega))|refine Xad ?_ (h:=by ((refine fun (_:True)=>?_);(exact Xby 51 Tryz.f51 [_,_,.sq 0 (nda [])] _ rfl rfl Tryz.func51 (by decide) rfl (VwL.cons (Vw.refl _) (VwL.cons (Vw.refl _) (VwL.cons Vw.nil VwL.nil))) j5.out)))|refine Xad ?_ (h:=by ((refine fun (_:True)=>?_);(exact Xby 51 Tryz.f51 [_,_,.sq 0 (nda [])] _ rfl rfl Tryz.func51 (by decide) rfl (VwL.cons (Vw.refl _) (VwL.cons (Vw.refl _) (VwL.cons Vw.nil VwL.nil))) j6.out)))|refine Xad ?_ (h:=by ((refine fun (_:True)=>?_);(exact Xby 51 Tryz.f51 [_,_,.sq 0 (nda [])] _ rfl rfl Tryz.func51 (by decide) rfl (VwL.cons (Vw.refl _) (VwL.cons (Vw.refl _) (VwL.cons Vw.nil VwL.nil))) j7.out)))|refine Xad ?_|(refine Xab rfl ?_;(refine Xbh ?_))|fail)))<;>(try clear wx)
  ·refine ⟨(a+1,jnN 5 L [],m),by simp only;omega,⟨by simp only;omega,by simp only [Xdm,Xyu];omega,by simp only [Xdm];omega,by simp only;omega,?_⟩,(XaX (D:=[]))⟩
   rw [b5.out]
   exact Xh5 b3 (by omega) (.inl ⟨by rw [hg.out];omega,rfl⟩)
  ·refine ⟨(a+1,jnN 6 L [],m),by simp only;omega,⟨by simp only;omega,by simp only [Xdm,Xyu];omega,by simp only [Xdm];omega,by simp only;omega,?_⟩,(XaX (D:=[]))⟩
   rw [b5.out]
   exact Xh5 b3 (by omega) (.inr (.inl ⟨by rw [hg.out];omega,rfl⟩))
  ·refine ⟨(a+1,jnN 7 L [],m),by simp only;omega,⟨by simp only;omega,by simp only [Xdm,Xyu];omega,by simp only [Xdm];omega,by simp only;omega,?_⟩,(XaX (D:=[]))⟩
   rw [b5.out]
   exact Xh5 b3 (by omega) (.inr (.inr ⟨by rw [hg.out];omega,rfl⟩))
  ·refine Xaa _ _ (XaF rfl (RV.tmp _) (Xaj.mk' [] [.box pb _] (Xyo _) (Xak.refl _ _) (VwL.refl _ _))) ⟨L,a,d',0,rfl,rfl,by omega,by omega,by omega,.inl ?_⟩
   rw [b5.out,Xpe b1 (by rw [hg.out];omega)]
   exact ⟨rfl,rfl,rfl,rfl,rfl⟩
  ·refine Xaa _ _ (XaF rfl (RV.tmp _) (Xaj.mk' [] [.box pb _] (Xyo _) (Xak.refl _ _) (VwL.refl _ _))) ⟨L,a,d',0,rfl,rfl,by omega,by omega,by omega,.inl ?_⟩
   rw [b5.out,Xpe b1 (fun hq=>by rcases h with h|h;(exact absurd trivial h);omega)]
   exact ⟨rfl,rfl,rfl,rfl,rfl⟩
 ·have hR2:R.c≠0:=by rw [hR.out,if_pos x1];exact x1
  have hz:(e == 0)=false:=XyF.2 x2
  have hz:=Lib.hid hz
  refine Xah (S:=Unit) (fun q=>frm 38 [(0,.x (.pointer (some ⟨pb,0,none⟩))),(2,.x (.slice none 0 0)),(3,.sq L.length (nda L))]) (fun q=>[.box pb [.x (.string (bs s)),.x (.int .i64 a),.x (.int .i64 d'),.x (.int .i64 e)]]) (fun q=>True) (fun q=>0) () (XaX (D:=[])) trivial fun q hq=>?_
  simp only [wfr]
  (have wx:=@hz.out;(repeat' (first|refine Wkx.go ?_|(refine Xaz (fun h=>?_) (fun h=>?_)<;>first|(exact absurd h (by decide))|skip)|refine Xad ?_ (h:=by exact fun _=>XdD rfl rfl Tryz.func50 (hS:=hM.out _ _ _))|refine Xad ?_|fail)))<;>(try clear wx)
  refine Xaa _ _ (XaF rfl (RV.tmp _) (Xaj.mk' [] [.box pb _] (Xyo _) (Xak.refl _ _) (VwL.refl _ _))) ⟨L,a,d',e,rfl,rfl,hd1,hd2,ha1,.inr ⟨hR2,x2⟩⟩
theorem Xwc (s:List UInt8) (n:Nat) (hs:s.length≤128) (ih:∀m,m < n→XsX s m):Xw7 s n:=by
 intro pb k d hk hd hf
 have hM:=Lib.hid (fun a d e=>XgE s a d e)
 have ih:=Lib.hid ih
 have hJ:=Lib.hid (fun l r h0 hl hb=>Xkm 3 l r h0 hl hb)
 have hL1:=Lib.hid (Xh0 1 0)
 generalize hR0:XaO n s ⟨k,d,[]⟩ none=R
 have hR0:=Lib.hid hR0
 unfold pk at hM ⊢
 refine XaV Tryz.func49 Tryz.ntmps49 ?_
 (repeat' (first|refine Wkx.go ?_|refine Xad ?_|fail))
 refine Xah (S:=Nat × List Nd × Nat) (fun q=>frm 51 [(0,.x (.pointer (some ⟨pb,0,none⟩))),(2,.x (.slice none 0 0)),(3,.sq q.2.1.length (nda q.2.1))]) (fun q=>[.box pb [.x (.string (bs s)),.x (.int .i64 (q.1:Nat)),.x (.int .i64 d),.x (.int .i64 0)]]) (fun q=>q.1≤s.length∧q.2.1.length≤3*q.1∧5*(s.length - q.1)+2≤q.2.2∧q.2.2≤n∧((q.2.1=[]∧R=XaO q.2.2 s ⟨q.1,d,[]⟩ none)∨(Rt q.2.1∧R=XaO q.2.2 s ⟨q.1,d,q.2.1⟩ (some (q.2.1.length - 1))))) (fun q=>s.length - q.1) (k,[],n) (Xaj.mk' [] _ (Xyo _) (Xak.refl _ _) (by repeat (first|exact VwL.nil|exact Vw.refl _|exact Vw.nil|refine VwL.cons ?_ ?_|fail))) ⟨hk,by simp only [Xyu];omega,hf,Nat.le_refl _,.inl ⟨rfl,hR0.out.symm⟩⟩ fun q hq=>?_
 clear hR0
 obtain ⟨a,L,m⟩:=q
 obtain ⟨b1,b2,b3,b4,b5⟩:=hq
 simp only at b1 b2 b3 b4 b5
 obtain ⟨m,rfl⟩:∃q,m=q+1:=⟨m - 1,by omega⟩
 have hgc:chr s a < 256:=Xcm s a
 simp only [wfr]
 by_cases hend:a < s.length∧chr s a≠124∧chr s a≠41
 ·obtain ⟨e1,e2,e3⟩:=hend
  have hc:=Lib.hid (ih.out m (by omega) pb a d e1 hd (by omega))
  have hinf:=fun h=>@XhV s m a d hs e1 hd h
  have hadv:=((XcK s m).part ⟨a,d,[]⟩ e1 hd).2
  have hmore:=fun hL=>@Xp0 s m a d L hs hd hL e1 ⟨e2,e3⟩
  have hbad:=fun hL=>@Xs1 s m a d L hL e1 ⟨e2,e3⟩
  have hmore0:=@Xne s m a d hs hd e1 ⟨e2,e3⟩
  have hbad0:=@XpY s m a d e1 ⟨e2,e3⟩
  generalize XaC m s ⟨a,d,[]⟩=Q at *
  obtain ⟨qv,qc,⟨qa,qo,qn⟩⟩:=Q
  simp only [Xyu] at hc hinf hmore hbad hmore0 hbad0 hadv
  have hadv:=Lib.hid hadv
  have hinf:=Lib.hid hinf
  have hmore:=Lib.hid hmore
  have hbad:=Lib.hid hbad
  have hmore0:=Lib.hid hmore0
  have hbad0:=Lib.hid hbad0
  have b5:=Lib.hid b5
  generalize hg:chr s a=c at *
  have hg:=Lib.hid hg
  unfold pk at hc
  (have wx:=And.intro @XaY (And.intro @hg.out @Xbr);(repeat' (first|refine Wkx.go ?_|refine Xc4 ?_|(refine Xaz (fun h=>?_) (fun h=>?_)<;>skip)|refine Xad ?_ (h:=by exact fun _=>XdD rfl rfl Tryz.func50 (hS:=hM.out _ _ _))|refine Xad ?_ (h:=by (intro hp;(try simp only [wgp] at hp);(try simp only [hp,wte]);(try simp only [whn] at hp);exact Xam _ _ _ _ _ _ _ rfl rfl rfl (by kernel_rfl) Xdi.out (by omega)))|refine Xad ?_|(refine Xab rfl ?_;((refine Xa7 Tryz.func90 [_] rfl rfl (by (repeat' (first|exact Xyo _|fail))) hc.out ?_;rintro _ _ ⟨x,a1,d',e,rfl,rfl,hd1,hd2,ha1,hx⟩;unfold pk;simp only at hx);refine XaJ ?_))|fail)))<;>(try clear wx)
  ·-- a fault
   have x2:qc≠0:=by rcases hx with ⟨_,x,_⟩|⟨x,_⟩;(exact absurd x h);exact x
   refine Xaa _ _ (XaF rfl (RV.tmp _) (Xaj.mk' [] [.box pb _] (Xyo _) (Xak.refl _ _) (VwL.cons Vw.nil VwL.nil))) ⟨[],a1,d',e,rfl,rfl,hd1,hd2,ha1,.inr ⟨?_,h⟩⟩
   rcases b5.out with ⟨_,g⟩|⟨g1,g⟩
   ·rw [g];exact hbad0.out x2
   ·rw [g];exact hbad.out g1 x2
  ·-- the first
   rename_i h0
   rcases hx with ⟨x1,rfl,rfl,rfl,rfl⟩|⟨_,x2⟩
   ·obtain ⟨⟨i1,i2,i3,i4,i5,i6,i7,i8⟩,i9⟩:=hinf.out x1
    simp only at i1 i2 i3 i4 i5 i6 i7 i8 i9
    have ha2:=(hadv.out x1).2
    refine ⟨(a1,x,m),by simp only;omega,⟨i5,by simp only;omega,by simp only;omega,by simp only;omega,.inr ⟨⟨i1,i2⟩,?_⟩⟩,(XaX (D:=[]))⟩
    rcases b5.out with ⟨_,g⟩|⟨g1,_⟩
    ·rw [g];exact hmore0.out x1
    ·have:=g1.2;omega
   ·exact absurd h0 x2
  ·-- one more
   rename_i h0
   rcases hx with ⟨x1,rfl,rfl,rfl,rfl⟩|⟨_,x2⟩
   ·obtain ⟨⟨i1,i2,i3,i4,i5,i6,i7,i8⟩,i9⟩:=hinf.out x1
    simp only at i1 i2 i3 i4 i5 i6 i7 i8 i9
    have hL:Rt L∧R=XaO (m+1) s ⟨a,d',L⟩ (some (L.length - 1)):=by
     rcases b5.out with ⟨g,_⟩|g
     ·rw [g] at h;exact absurd rfl h
     ·exact g
    obtain ⟨hL1,hL2⟩:=hL
    have ha2:=(hadv.out x1).2
    have jn:=Lib.hid (hJ.out L x hL1.2 (by omega) i8)
    obtain ⟨q1,q2⟩:=hmore.out hL1 x1
    have q1:=Lib.hid q1
    clear i8 hmore hbad hmore0 hbad0 b5
    (repeat' (first|refine Wkx.go ?_|refine Xad ?_ (h:=by exact fun _=>Xbb rfl rfl Tryz.func51 (jn.out))|refine Xad ?_|fail))
    refine ⟨(a1,jnN 3 L x,m),by simp only;omega,⟨i5,by simp only [Xdm];omega,by simp only;omega,by simp only;omega,.inr ⟨q2,?_⟩⟩,(XaX (D:=[]))⟩
    rw [hL2,q1.out]
   ·exact absurd h0 x2
  all_goals
   exfalso
   rename_i hh
   rcases hh with ((hh|hh)|hh)|hh
   ·exact hh trivial
   all_goals omega
 ·(have wx:=And.intro @XaY (And.intro @Xbr (And.intro @XxL (And.intro @XaD @XaT)));(repeat' (first|refine Wkx.go ?_|refine Xc4 ?_|(refine Xaz (fun h=>?_) (fun h=>?_)<;>first|(exfalso;omega;done)|skip)|refine Xad ?_ (h:=by exact fun _=>XdD rfl rfl Tryz.func50 (hS:=hM.out _ _ _))|refine Xad ?_ (h:=by (intro hp;(try simp only [wgp] at hp);(try simp only [hp,wte]);(try simp only [whn] at hp);exact Xam _ _ _ _ _ _ _ rfl rfl rfl (by kernel_rfl) Xdi.out (by omega)))|refine Xad ?_ (h:=by exact fun _=>Xbb rfl rfl Tryz.func91 (hL1.out))|refine Xad ?_|fail)))<;>(try clear wx)
  ·-- nothing
   rcases b5 with ⟨g1,g⟩|⟨g1,_⟩
   ·refine Xaa _ _ (XaF rfl (RV.tmp _) (Xaj.mk' [] [.box pb _] (Xyo _) (Xak.refl _ _) (VwL.refl _ _))) ⟨[_],a,d,0,rfl,rfl,by omega,by omega,by omega,.inl ?_⟩
    rw [g,XpZ hend b1]
    exact ⟨rfl,rfl,rfl,rfl,rfl⟩
   ·have:=g1.2;omega
  ·rcases b5 with ⟨g1,g⟩|⟨g1,g⟩
   ·rw [g1] at h;exact absurd rfl h
   ·refine Xaa _ _ (XaF rfl (RV.tmp _) (Xaj.mk' [] [.box pb _] (Xyo _) (Xak.refl _ _) (VwL.refl _ _))) ⟨L,a,d,0,rfl,rfl,by omega,by omega,by omega,.inl ?_⟩
    rw [g,Xs2 hend b1]
    exact ⟨rfl,rfl,rfl,rfl,rfl⟩
theorem Xwg (s:List UInt8) (n:Nat) (hs:s.length≤128) (ih:∀m,m < n→Xw7 s m):Xw8 s n:=by
 intro pb k d hk hd hf
 obtain ⟨n,rfl⟩:∃q,n=q+1:=⟨n - 1,by omega⟩
 have hM:=Lib.hid (fun a d e=>XgE s a d e)
 have hJ:=Lib.hid (fun l r h0 hl hb=>Xkm 4 l r h0 hl hb)
 have hc:=Lib.hid (ih n (by omega) pb k d hk hd (by omega))
 have ih:=Lib.hid ih
 have hinf:=fun h=>@Xju s n k d hs hk hd h
 have hadv:=(XcK s n).alt ⟨k,d,[]⟩ none hk hd
 have hR0:rxPat (n+1) s ⟨k,d,[]⟩=Xb7 n s (XaO n s ⟨k,d,[]⟩ none):=by rw [rxPat]
 generalize XaO n s ⟨k,d,[]⟩ none=Q at *
 generalize rxPat (n+1) s ⟨k,d,[]⟩=R at *
 have hR0:=Lib.hid hR0
 unfold pk at hM hc ⊢
 refine XaV Tryz.func19 Tryz.ntmps19 ?_
 (repeat' (first|refine Wkx.go ?_|refine Xad ?_|(refine Xab rfl ?_;((refine Xa7 Tryz.func49 [_] rfl rfl (by (repeat' (first|exact Xyo _|fail))) hc.out ?_;rintro _ _ ⟨L,a,d',e,rfl,rfl,hd1,hd2,ha1,hx⟩;unfold pk);refine XaJ ?_))|fail))
 rcases hx with ⟨x1,rfl,rfl,rfl,rfl⟩|⟨x1,x2⟩
 ·obtain ⟨i1,i2,i3,i4,i5,i6,i7,i8⟩:=hinf x1
  clear hinf hadv
  obtain ⟨qv,qc,⟨qa,qo,qn⟩⟩:=Q
  simp only at x1 i1 i2 i3 i4 i5 i6 i7 hR0 ⊢
  have hR2:R=Xb7 n s ⟨qn.length - 1,0,⟨qa,d',qn⟩⟩:=by rw [hR0.out,x1,i3,i6]
  clear hR0 i8
  refine Xah (S:=Nat × List Nd × Nat) (fun q=>frm 39 [(0,.x (.pointer (some ⟨pb,0,none⟩))),(2,.x (.slice none 0 0)),(3,.sq q.2.1.length (nda q.2.1))]) (fun q=>[.box pb [.x (.string (bs s)),.x (.int .i64 (q.1:Nat)),.x (.int .i64 d'),.x (.int .i64 0)]]) (fun q=>q.1≤s.length∧q.2.1.length≤3*q.1+1∧5*(s.length - q.1)+2≤q.2.2∧q.2.2≤n∧Rt q.2.1∧R=Xb7 q.2.2 s ⟨q.2.1.length - 1,0,⟨q.1,d',q.2.1⟩⟩) (fun q=>s.length - q.1) (qa,qn,n) (XaX (D:=[])) ⟨i5,by simp only;omega,by simp only;omega,Nat.le_refl _,⟨i1,i2⟩,hR2⟩ fun q hq=>?_
  clear hR2 i1 i2 i3 i4 i5 i7
  obtain ⟨a,L,m⟩:=q
  obtain ⟨b1,b2,b3,b4,b5,b6⟩:=hq
  simp only at b1 b2 b3 b4 b5 b6
  obtain ⟨m,rfl⟩:∃q,m=q+1:=⟨m - 1,by omega⟩
  have hgc:chr s a < 256:=Xcm s a
  have hL0:=b5.2
  simp only [wfr]
  by_cases hend:a < s.length∧chr s a=124
  ·obtain ⟨e1,e2⟩:=hend
   have hc:=Lib.hid (ih.out m (by omega) pb (a+1) d' (by omega) hd (by omega))
   have hinf:=fun h=>@Xju s m (a+1) d' hs (by omega) hd h
   have hmore:=@Xqd s m a d' L hs hd b5 e1 e2
   have hbad:=@Xta s m a d' L hd b5 e1 e2
   generalize XaO m s ⟨a+1,d',[]⟩ none=Q at *
   obtain ⟨qv,qc,⟨qa,qo,qn⟩⟩:=Q
   simp only at hc hinf hmore hbad
   have hinf:=Lib.hid hinf
   have hmore:=Lib.hid hmore
   have hbad:=Lib.hid hbad
   have b5:=Lib.hid b5
   have b6:=Lib.hid b6
   generalize hg:chr s a=c at *
   have hg:=Lib.hid hg
   unfold pk at hc
   (have wx:=And.intro @XaY (And.intro @hg.out @Xbr);(repeat' (first|refine Wkx.go ?_|refine Xc4 ?_|(refine Xaz (fun h=>?_) (fun h=>?_)<;>skip)|refine Xad ?_ (h:=by exact fun _=>XdD rfl rfl Tryz.func50 (hS:=hM.out _ _ _))|refine Xad ?_ (h:=by (intro hp;(try simp only [wgp] at hp);(try simp only [hp,wte]);(try simp only [whn] at hp);exact Xam _ _ _ _ _ _ _ rfl rfl rfl (by kernel_rfl) Xdi.out (by omega)))|refine Xad ?_|(refine Xab rfl ?_;(first|((refine Xa7 Tryz.func49 [_] rfl rfl (by (repeat' (first|exact Xyo _|fail))) hc.out ?_;rintro _ _ ⟨x,a1,d2,e,rfl,rfl,hd1,hd2,ha1,hx⟩;unfold pk;simp only at hx);refine XaJ ?_)|refine Xbh ?_))|fail)))<;>(try clear wx)
   ·-- a fault
    have x2:qc≠0:=by rcases hx with ⟨_,x,_⟩|⟨x,_⟩;(exact absurd x h);exact x
    refine Xaa _ _ (XaF rfl (RV.tmp _) (Xaj.mk' [] [.box pb _] (Xyo _) (Xak.refl _ _) (VwL.cons Vw.nil VwL.nil))) ⟨[],a1,d2,e,rfl,rfl,hd1,hd2,ha1,.inr ⟨?_,h⟩⟩
    rw [b6.out];exact hbad.out x2
   ·rcases hx with ⟨x1,rfl,rfl,rfl,rfl⟩|⟨_,x2⟩
    ·obtain ⟨i1,i2,i3,i4,i5,i6,i7,i8⟩:=hinf.out x1
     simp only at i1 i2 i3 i4 i5 i6 i7 i8
     have jn:=Lib.hid (hJ.out L x hL0 (by omega) i8)
     obtain ⟨q1,q2⟩:=hmore.out x1
     have q1:=Lib.hid q1
     clear i8 hmore hbad
     (repeat' (first|refine Wkx.go ?_|refine Xad ?_ (h:=by exact fun _=>Xbb rfl rfl Tryz.func51 (jn.out))|refine Xad ?_|fail))
     refine ⟨(a1,jnN 4 L x,m),by simp only;omega,⟨i5,by simp only [Xdm];omega,by simp only;omega,by simp only;omega,q2,?_⟩,(XaX (D:=[]))⟩
     rw [b6.out,q1.out]
    ·exact absurd h x2
   all_goals
    exfalso
    rcases h with (hh|hh)|hh
    ·exact hh trivial
    all_goals omega
  ·(have wx:=And.intro @XaY @Xbr;(repeat' (first|refine Wkx.go ?_|refine Xc4 ?_|(refine Xaz (fun h=>?_) (fun h=>?_)<;>first|(exfalso;omega;done)|skip)|refine Xad ?_ (h:=by exact fun _=>XdD rfl rfl Tryz.func50 (hS:=hM.out _ _ _))|refine Xad ?_ (h:=by (intro hp;(try simp only [wgp] at hp);(try simp only [hp,wte]);(try simp only [whn] at hp);exact Xam _ _ _ _ _ _ _ rfl rfl rfl (by kernel_rfl) Xdi.out (by omega)))|refine Xad ?_|fail)))<;>(try clear wx)
   refine Xaa _ _ (XaF rfl (RV.tmp _) (Xaj.mk' [] [.box pb _] (Xyo _) (Xak.refl _ _) (VwL.refl _ _))) ⟨L,a,d',0,rfl,rfl,by omega,by omega,by omega,.inl ?_⟩
   rw [b6,Xtb hend b1]
   exact ⟨rfl,rfl,rfl,rfl,rfl⟩
 ·have hR2:R.c≠0:=by rw [hR0.out];exact Xtc hadv.top hadv.opn hadv.c x1
  have hz:(e == 0)=false:=XyF.2 x2
  have hz:=Lib.hid hz
  refine Xah (S:=Unit) (fun q=>frm 39 [(0,.x (.pointer (some ⟨pb,0,none⟩))),(2,.x (.slice none 0 0)),(3,.sq L.length (nda L))]) (fun q=>[.box pb [.x (.string (bs s)),.x (.int .i64 a),.x (.int .i64 d'),.x (.int .i64 e)]]) (fun q=>True) (fun q=>0) () (XaX (D:=[])) trivial fun q hq=>?_
  simp only [wfr]
  (have wx:=@hz.out;(repeat' (first|refine Wkx.go ?_|refine Xc4 ?_|(refine Xaz (fun h=>?_) (fun h=>?_)<;>first|(exact absurd h (by decide))|skip)|refine XlL ?_|refine Xad ?_ (h:=by exact fun _=>XdD rfl rfl Tryz.func50 (hS:=hM.out _ _ _))|refine Xad ?_|fail)))<;>(try clear wx)
  refine Xaa _ _ (XaF rfl (RV.tmp _) (Xaj.mk' [] [.box pb _] (Xyo _) (Xak.refl _ _) (VwL.refl _ _))) ⟨L,a,d',e,rfl,rfl,hd1,hd2,ha1,.inr ⟨hR2,x2⟩⟩
theorem Xwh (s:List UInt8) (hs:s.length≤128):∀N n,n≤N→Xw8 s n∧Xw7 s n∧XsX s n∧XsR s n:=by
 intro N
 induction N with
 | zero=>
   intro n hn
   obtain rfl:n=0:=by omega
   exact ⟨fun pb k d h1 h2 h3=>by omega,fun pb k d h1 h2 h3=>by omega,fun pb k d h1 h2 h3=>by omega,fun pb k d h1 h2 h3=>by omega⟩
 | succ N ih=>
   intro n hn
   by_cases h:n≤N
   ·exact ih n h
   obtain rfl:n=N+1:=by omega
   exact ⟨Xwg s _ hs fun m hm=>(ih m (by omega)).2.1,Xwc s _ hs fun m hm=>(ih m (by omega)).2.2.1,Xut s N hs (ih N (Nat.le_refl _)).2.2.2,Xuq s N hs (ih N (Nat.le_refl _)).1⟩
def XkG (s:List UInt8) (r:AV):Prop:=(∃l,XbG s=.ok l∧r=.tup [.sq l.length (nda l),.x (.int .i64 0)])∨(∃(c:Nat) (e:Int) (v:AV),XbG s=.error c∧e≠0∧r=.tup [v,.x (.int .i64 e)])
theorem Xre (s:List UInt8) (hs:s.length≤128):Xay Tryz.prog 7 [] [.x (.string (bs s))] (fun r H'=>XkG s r∧H'=[]):=by
 have hP:=fun pb=>(Xwh s hs _ (5*s.length+5) (Nat.le_refl _)).1 pb 0 0 (Nat.zero_le _) (by decide) (by omega)
 have hP:=Lib.hid hP
 have hF:∀(pb a d:Nat) (c:Int),Xay Tryz.prog 20 [.box pb (pk s a d 0)] [.x (.pointer (some ⟨pb,0,none⟩)),.x (.int .i64 c)] (fun r H'=>r=.x (.tuple #[])∧H'=[.box pb (pk s a d c)]):=fun pb a d c=>(Xfo pb s a d 0 c).mono fun r H' ⟨h,h'⟩=>⟨h,by rw [h',if_pos rfl]⟩
 have hF:=Lib.hid hF
 have hinf:=fun h=>@XoP s (5*s.length+5) 0 0 hs (Nat.zero_le _) (by decide) h
 have hR:XbG s=(if (rxPat (5*s.length+5) s ⟨0,0,[]⟩).c≠0 then .error (rxPat (5*s.length+5) s ⟨0,0,[]⟩).c else if (rxPat (5*s.length+5) s ⟨0,0,[]⟩).p.at_≠s.length then .error 83 else if 256 < (rxPat (5*s.length+5) s ⟨0,0,[]⟩).p.ns.length then .error 1 else .ok (rxPat (5*s.length+5) s ⟨0,0,[]⟩).p.ns:Except Nat (List Nd)):=by
  unfold XbG;rw [if_neg (by omega)]
 unfold XkG
 generalize XbG s=R at *
 generalize rxPat (5*s.length+5) s ⟨0,0,[]⟩=Q at *
 have hR:=Lib.hid hR
 unfold pk at hP hF
 refine XaV Tryz.func7 Tryz.ntmps7 ?_
 (repeat' (first|refine Wkx.go ?_|(refine Xaz (fun h=>?_) (fun h=>?_)<;>first|(exfalso;omega;done)|skip)|refine Xad ?_|(refine Xab rfl ?_;(first|((refine Xa7 Tryz.func19 [_] rfl rfl (by (repeat' (first|exact Xyo _|fail))) (hP.out _) ?_;rintro _ _ ⟨L,a,d',e,rfl,rfl,hd1,hd2,ha1,hx⟩;unfold pk);refine XaJ ?_)|refine Xd9 (fun b=>?_)))|fail))
 ·obtain ⟨rfl,hlt⟩:=h
  rcases hx with ⟨x1,-,rfl,rfl,rfl⟩|⟨_,x2⟩
  ·(repeat' (first|refine Wkx.go ?_|(refine Xaz (fun h=>?_) (fun h=>?_)<;>first|(exact absurd h (by decide))|skip)|refine XlL ?_|refine Xad ?_|(refine Xab rfl ?_;((refine Xa7 Tryz.func20 [_] rfl rfl (by (repeat' (first|exact Xyo _|fail))) (hF.out _ _ _ _) ?_;rintro _ _ ⟨rfl,rfl⟩);refine XaJ ?_))|fail))
   refine XfO (B:=[_]) (R:=[]) mixed [0,1,2,3,4,5] [] (Xyo _) ?_
   (repeat' (first|refine Xjh ?_|fail))
   (first|refine XjQ ?_|fail);skip;refine Xao (by decide +kernel) ?_
   (repeat' (first|refine Wkx.go ?_|fail))
   refine Xaa _ _ (XbR rfl (RV.tmp _) (RV.tmp _) (Xaj.mk' [.box _ _] [] (Xyo _) Xak.nil (VwL.refl _ _))) ⟨.inr ⟨83,83,_,?_,by decide,rfl⟩,rfl⟩
   rw [hR.out,if_neg (by omega),if_pos (by omega)]
  ·exact absurd rfl x2
 ·rename_i hh
  obtain ⟨rfl,hlt⟩:=h
  rcases hx with ⟨x1,-,rfl,rfl,rfl⟩|⟨_,x2⟩
  ·have hi:=(hinf x1).top
   have hat:Q.p.at_=s.length:=by rcases hh with hh|hh;(exact absurd rfl hh);omega
   (repeat' (first|refine Wkx.go ?_|(refine Xaz (fun h=>?_) (fun h=>?_)<;>first|(exact absurd h (by decide))|skip)|refine Xad ?_|(refine Xab rfl ?_;((refine Xa7 Tryz.func20 [_] rfl rfl (by (repeat' (first|exact Xyo _|fail))) (hF.out _ _ _ _) ?_;rintro _ _ ⟨rfl,rfl⟩);refine XaJ ?_))|fail))
   refine XfO (B:=[_]) (R:=[]) mixed [0,1,2,3,4,5] [] (Xyo _) ?_
   (repeat' (first|refine Xjh ?_|fail))
   (first|refine XjQ ?_|fail);skip;refine Xao (by decide +kernel) ?_
   (repeat' (first|refine Wkx.go ?_|fail))
   refine Xaa _ _ (XbR rfl (RV.tmp _) (RV.tmp _) (Xaj.mk' [.box _ _] [] (Xyo _) Xak.nil (VwL.refl _ _))) ⟨.inr ⟨1,1,_,?_,by decide,rfl⟩,rfl⟩
   rw [hR.out,if_neg (by omega),if_neg (by omega),if_pos (by omega)]
  ·exact absurd rfl x2
 ·rcases hx with ⟨_,x2,-⟩|⟨x1,x2⟩
  ·exact absurd x2 h
  ·skip
   refine XfO (B:=[_]) (R:=[]) mixed [0,1,2,3,4,5] [] (Xyo _) ?_
   (repeat' (first|refine Xjh ?_|fail))
   (first|refine XjQ ?_|fail);skip;refine Xao (by decide +kernel) ?_
   (repeat' (first|refine Wkx.go ?_|fail))
   refine Xaa _ _ (XbR rfl (RV.tmp _) (RV.tmp _) (Xaj.mk' [.box _ _] [] (Xyo _) Xak.nil (VwL.refl _ _))) ⟨.inr ⟨Q.c,e,_,?_,x2,rfl⟩,rfl⟩
   rw [hR.out,if_pos x1]
 ·rename_i h1 h2
  obtain rfl:e=0:=by omega
  rcases hx with ⟨x1,-,rfl,rfl,rfl⟩|⟨_,x2⟩
  ·have hi:=(hinf x1).top
   have hat:Q.p.at_=s.length:=by rcases h1 with hh|hh;(exact absurd rfl hh);omega
   have hle:Q.p.ns.length≤256:=by rcases h2 with hh|hh;(exact absurd rfl hh);omega
   refine Xaa _ _ (XbR rfl (RV.tmp _) (RV.tmp _) (Xaj.mk' [.box _ _] [] (Xyo _) Xak.nil (VwL.refl _ _))) ⟨.inl ⟨_,?_,rfl⟩,rfl⟩
   rw [hR.out,if_neg (by omega),if_neg (by omega),if_neg (by omega)]
  ·exact absurd rfl x2
end Go.Proofs.YtdlblokjfoggpaaGreatDoor

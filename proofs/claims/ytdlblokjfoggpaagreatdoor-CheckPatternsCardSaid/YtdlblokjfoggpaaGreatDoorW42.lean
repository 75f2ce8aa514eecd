import Derived.Test.YtdlblokjfoggpaaGreatDoorW7
import Derived.Test.YtdlblokjfoggpaaGreatDoorW41
import Derived.Test.YtdlblokjfoggpaaGreatDoorW12
import Derived.Test.YtdlblokjfoggpaaGreatDoorW10
import Derived.Test.YtdlblokjfoggpaaGreatDoorW39
/- The reference's patterns: more; an element of a class. -/
set_option linter.unusedSimpArgs false
set_option linter.unusedVariables false
set_option maxRecDepth 100000
set_option maxHeartbeats 8000000
namespace Go.Proofs.YtdlblokjfoggpaaGreatDoor
open Go.RowKit
theorem XgE (s:List UInt8) (a d:Nat) (e:Int):Xay Tryz.prog 50 [] [.at_ (pk s a d e)] (fun r H'=>r=.x (.bool (e == 0 && decide (a < s.length)))∧H'=[]):=by
 unfold pk
 refine XaV Tryz.func50 Tryz.ntmps50 ?_
 (repeat' (first|refine Wkx.go ?_|refine Xc4 ?_|refine Xad ?_|fail))
 refine Xaa _ _ (XaF rfl (RV.tmp _) (XcS (D:=[]))) ?_
 exact ⟨rfl,rfl⟩
def Xyb (pb:Nat) (s:List UInt8) (d:Nat) (x:Nat × Nat × Nat) (r:AV) (H':List Hp):Prop:=∃(n a:Nat) (e:Int),r=.x (v4 n)∧H'=[.box pb (pk s a d e)]∧a≤s.length+1∧((x.2.1=0∧e=0∧n=x.1∧a=x.2.2)∨(e≠0∧(x.2.1≠0∨(x.2.2 < s.length∧chr s x.2.2=45))))
theorem XeX:∀c,c < 256→XgA (XaM c c)=c:=by decide +kernel
theorem Xto (s:List UInt8) (k:Nat) (x:Int × Nat × Nat × Nat) (hx:x=XbL s k) (h:x.2.2.1=0) (h0:0≤x.1):∃c:Nat,c < 256∧x.1=c∧x.2.1=XaM c c:=by
 have hq1:=Xcm s (k+1)
 unfold XbL at hx
 repeat' split at hx
 all_goals subst hx
 all_goals first|(refine absurd h ?_;simp;done)|(refine absurd h0 ?_;simp;done)|exact ⟨10,by decide,rfl,rfl⟩|exact ⟨9,by decide,rfl,rfl⟩|exact ⟨13,by decide,rfl,rfl⟩|exact ⟨_,hq1,rfl,rfl⟩|fail
theorem XoG (s:List UInt8) (k:Nat) (h:(Xbd s k).2.2.1=0) (h0:0≤(Xbd s k).1):∃c:Nat,c < 256∧(Xbd s k).1=c∧(Xbd s k).2.1=XaM c c:=by
 have hq:=Xcm s k
 unfold Xbd at *
 split at h
 ·cases h
 split at h
 ·rename_i h1 h2
  rw [if_neg h1,if_pos h2] at h0
  rw [if_neg h1,if_pos h2]
  exact Xto s k _ rfl h h0
 ·rename_i h1 h2
  rw [if_neg h1,if_neg h2]
  exact ⟨_,hq,rfl,rfl⟩
theorem Xvu {s:List UInt8} {k n1 a1:Nat} {b1:Bool} {e1:Int} (hk:k < s.length) (hx:((Xbd s k).2.2.1=0∧e1=0∧n1=(Xbd s k).2.1∧b1=decide (0≤(Xbd s k).1)∧a1=(Xbd s k).2.2.2)∨((Xbd s k).2.2.1≠0∧e1≠0)) (h:(¬e1=0∨¬a1 < s.length)∨¬((chr s a1:Nat):Int)=45):((XaP s k).2.1=0∧e1=0∧n1=(XaP s k).1∧a1=(XaP s k).2.2)∨(e1≠0∧((XaP s k).2.1≠0∨((XaP s k).2.2 < s.length∧chr s (XaP s k).2.2=45))):=by
 have hv:=XdN s k hk
 unfold XaP
 simp only
 rcases hx with ⟨h1,h2,h3,h4,h5⟩|⟨h1,h2⟩
 ·rw [if_pos (by rw [←h5];omega)]
  exact .inl ⟨h1,h2,h3,h5⟩
 ·rw [if_pos (by omega)]
  exact .inr ⟨h2,.inl h1⟩
theorem Xvt {s:List UInt8} {k n1 a1:Nat} {b1:Bool} {e1:Int} (hx:((Xbd s k).2.2.1=0∧e1=0∧n1=(Xbd s k).2.1∧b1=decide (0≤(Xbd s k).1)∧a1=(Xbd s k).2.2.2)∨((Xbd s k).2.2.1≠0∧e1≠0)) (h:(e1=0∧a1 < s.length)∧((chr s a1:Nat):Int)=45) (hb:b1=false∨(s.length:Int)≤(a1:Int)+1):(XaP s k).2.1≠0∨((XaP s k).2.2 < s.length∧chr s (XaP s k).2.2=45):=by
 rcases hx with ⟨h1,h2,h3,h4,h5⟩|⟨h1,h2⟩
 ·unfold XaP
  simp only
  rw [←h5]
  by_cases h0:(Xbd s k).1 < 0
  ·rw [if_pos (by omega)]
   exact .inr ⟨h.1.2,by show chr s a1=45;omega⟩
  ·rw [decide_eq_true (by omega)] at h4
   subst h4
   have hb:=hb.resolve_left (by decide)
   rw [if_neg (by omega),if_pos (by omega)]
   exact .inl (by simp)
 ·exact absurd h.1.1 h2
theorem XrV {s:List UInt8} {k n1 a1 n2 a2:Nat} {b1 b2:Bool} {e2:Int} (hx:((Xbd s k).2.2.1=0∧(0:Int)=0∧n1=(Xbd s k).2.1∧b1=decide (0≤(Xbd s k).1)∧a1=(Xbd s k).2.2.2)∨((Xbd s k).2.2.1≠0∧(0:Int)≠0)) (hl:a1 < s.length) (hc:((chr s a1:Nat):Int)=45) (hb:b1=true∧¬(s.length:Int)≤(a1:Int)+1) (hx2:((Xbd s (a1+1)).2.2.1=0∧e2=0∧n2=(Xbd s (a1+1)).2.1∧b2=decide (0≤(Xbd s (a1+1)).1)∧a2=(Xbd s (a1+1)).2.2.2)∨((Xbd s (a1+1)).2.2.1≠0∧e2≠0)) (e:Int) (he:e=if e2=0∧(b2=false∨XgA n2 < XgA n1) then 80 else e2):((XaP s k).2.1=0∧e=0∧XaM (XgA n1) (XgA n2)=(XaP s k).1∧a2=(XaP s k).2.2)∨(e≠0∧((XaP s k).2.1≠0∨((XaP s k).2.2 < s.length∧chr s (XaP s k).2.2=45))):=by
 rcases hx with ⟨h1,_,h3,h4,h5⟩|⟨_,h⟩
 ·rw [hb.1] at h4
  have h0:=of_decide_eq_true h4.symm
  obtain ⟨c,c1,c2,c3⟩:=XoG s k h1 h0
  unfold XaP
  simp only
  rw [←h5,if_neg (by omega),if_neg (by omega)]
  rcases hx2 with ⟨g1,g2,g3,g4,g5⟩|⟨g1,g2⟩
  ·rw [if_neg (by omega)]
   by_cases hn:0≤(Xbd s (a1+1)).1
   ·obtain ⟨c',d1,d2,d3⟩:=XoG s (a1+1) g1 hn
    rw [decide_eq_true hn] at g4
    rw [g3,h3,c3,d3,XeX c c1,XeX c' d1] at he
    rw [g3,h3,c3,d3,XeX c c1,XeX c' d1,c2,d2]
    by_cases hlt:c' < c
    ·rw [if_pos (by omega)]
     rw [if_pos ⟨g2,.inr hlt⟩] at he
     exact .inr ⟨by omega,.inl (by simp)⟩
    ·rw [if_neg (by omega)]
     rw [if_neg (by rintro ⟨_,h|h⟩;(rw [g4] at h;cases h);exact hlt h)] at he
     exact .inl ⟨rfl,by omega,rfl,g5⟩
   ·rw [decide_eq_false hn] at g4
    rw [if_pos (by omega)]
    rw [if_pos ⟨g2,.inl g4⟩] at he
    exact .inr ⟨by omega,.inl (by simp)⟩
  ·rw [if_pos g1]
   rw [if_neg (fun h=>g2 h.1)] at he
   exact .inr ⟨by omega,.inl g1⟩
 ·exact absurd rfl h
theorem Xum (pb:Nat) (s:List UInt8) (k d:Nat) (hs:s.length≤128) (hk:k < s.length):Xay Tryz.prog 163 [.box pb (pk s k d 0)] [.x (.pointer (some ⟨pb,0,none⟩))] (Xyb pb s d (XaP s k)):=by
 have hF:=Lib.hid (fun a e=>Xfo pb s a d e 80)
 have hS:=Lib.hid (fun k h=>XoV pb s k d hs h)
 have hM:=Lib.hid (fun a e=>XgE s a d e)
 unfold pk at hF hS hM ⊢
 refine XaV Tryz.func163 Tryz.ntmps163 ?_
 (have wx:=And.intro @XaY (And.intro @w4r (And.intro @XaD (And.intro @XaT @Xdq)));(repeat' (first|refine Wkx.go ?_|refine Xc4 ?_|(refine Xaz (fun h=>?_) (fun h=>?_)<;>skip)|refine Xad ?_ (h:=by exact fun _=>XdD rfl rfl Tryz.func50 (hS:=hM.out _ _))|refine Xad ?_ (h:=by (intro hp;(try simp only [wgp] at hp);(try simp only [hp,wte]);(try simp only [whn] at hp);exact Xam _ _ _ _ _ _ _ rfl rfl rfl (by kernel_rfl) Xdi.out (by omega)))|refine Xad ?_|(refine Xab rfl ?_;(first|((refine Xa7 Tryz.func20 [_] rfl rfl (by (repeat' (first|exact Xyo _|refine (XyB (l₁:=[_])).trans (XyE _ ?_)|fail))) (hF.out _ _) ?_;rintro _ _ ⟨rfl,rfl⟩);refine XaJ ?_)|((refine Xa7 Tryz.func180 [_] rfl rfl (by (repeat' (first|exact Xyo _|refine (XyB (l₁:=[_])).trans (XyE _ ?_)|fail))) (hS.out k hk) ?_;rintro _ _ ⟨n1,b1,a1,e1,rfl,rfl,ha1,hx1⟩;unfold pk);refine XaJ ?_)|refine Xbh ?_|refine Xb8 (fun b=>?_)))|fail)))<;>(try clear wx)
 ·rename_i bR
  refine Xaa _ _ (XaF rfl (RV.cell 2 rfl rfl XaI.out (by simp) (by simp)) (Xaj.mk' [.box b _,.box bR _] [.box pb _] (.cons _ (.swap _ _ _)) (Xak.refl _ _) (VwL.refl _ _))) ⟨n1,a1,e1,rfl,rfl,ha1,Xvu hk hx1 (by assumption)⟩
 ·rename_i bR h1
  have hb:=Xvt hx1 h1 h
  obtain ⟨⟨q1,q2⟩,q3⟩:=h1
  subst q1
  refine Xaa _ _ (XaF rfl (RV.cell 2 rfl rfl XaI.out (by simp) (by simp)) (Xaj.mk' [.box b _,.box bR _] [.box pb _] (List.perm_append_comm (l₁:=[_]) (l₂:=[_,_])) (Xak.refl _ _) (VwL.refl _ _))) ⟨n1,a1+1,80,rfl,rfl,by omega,.inr ⟨by decide,hb⟩⟩
 ·rename_i bR h1
  obtain ⟨⟨q1,q2⟩,q3⟩:=h1
  subst q1
  have hO:=Lib.hid (fun n=>Xus n)
  have hR:=Lib.hid (fun n n'=>Xe3 (XgA n) (XgA n') (Xlb n) (Xlb n'))
  clear hM
  (have wx:=And.intro @w4r (And.intro @XaD (And.intro @XaT @Xdq));(repeat' (first|refine Wkx.go ?_|refine Xad ?_|(refine Xab rfl ?_;(first|((refine Xa7 Tryz.func180 [_] rfl rfl (by (repeat' (first|exact Xyo _|refine (XyB (l₁:=[_])).trans (XyE _ ?_)|fail))) (hS.out (a1+1) (by omega)) ?_;rintro _ _ ⟨n2,b2,a2,e2,rfl,rfl,ha2,hx2⟩;unfold pk);refine XaJ ?_)|refine Xbh ?_|refine Xb8 (fun b=>?_)))|fail)))<;>(try clear wx)
  refine Xc4 ?_
  (have wx:=And.intro @w4r (And.intro @XaD (And.intro @XaT @Xdq));(repeat' (first|refine Wkx.go ?_|(refine Xaz (fun h=>?_) (fun h=>?_)<;>skip)|refine Xad ?_ (h:=by (intro hp;(try simp only [wgp] at hp);(try simp only [hp,wte]);(try simp only [whn] at hp);exact Xbb rfl rfl Tryz.func181 (hO.out _)))|refine Xad ?_|(refine Xab rfl ?_;((refine Xa7 Tryz.func20 [_] rfl rfl (by (repeat' (first|exact Xyo _|refine (XyB (l₁:=[_])).trans (XyE _ ?_)|fail))) (hF.out _ _) ?_;rintro _ _ ⟨rfl,rfl⟩);refine XaJ ?_))|fail)))<;>(try clear wx)
  ·refine XbZ 5 mixed ?_
   dsimp only [List.dropLast]
   (have wx:=And.intro @w4r (And.intro @XaD @XaT);(repeat' (first|refine Wkx.go ?_|refine Xad ?_ (h:=by exact fun _=>Xbb rfl rfl Tryz.func181 (hO.out _))|refine Xad ?_ (h:=by exact fun _=>Xbb rfl rfl Tryz.func178 (hR.out _ _))|refine Xad ?_|fail)))<;>(try clear wx)
   (have wx:=And.intro XaD (And.intro w4r (And.intro XaT Xdq)));refine Xbh ?_
   (have wx:=And.intro @w4r (And.intro @XaD (And.intro @XaT @Xdq));(repeat' (first|refine Wkx.go ?_|fail)))<;>(try clear wx)
   clear wx
   refine Xaa _ _ (XaF rfl (RV.cell 3 rfl rfl XaI.out (Xyn rfl) (Xyn rfl)) (Xaj.mk' [_,_,_] [.box pb _] (List.perm_append_comm (l₁:=[_]) (l₂:=[_,_,_])) (Xak.refl _ _) (VwL.refl _ _))) ⟨_,a2,_,rfl,rfl,ha2,XrV hx1 q2 q3 (by assumption) hx2 _ ?_⟩
   rw [if_pos h.1,if_pos h]
  ·refine XbZ 5 mixed ?_
   dsimp only [List.dropLast]
   (have wx:=And.intro @w4r (And.intro @XaD @XaT);(repeat' (first|refine Wkx.go ?_|refine Xad ?_ (h:=by exact fun _=>Xbb rfl rfl Tryz.func181 (hO.out _))|refine Xad ?_ (h:=by exact fun _=>Xbb rfl rfl Tryz.func178 (hR.out _ _))|refine Xad ?_|fail)))<;>(try clear wx)
   (have wx:=And.intro XaD (And.intro w4r (And.intro XaT Xdq)));refine Xbh ?_
   (have wx:=And.intro @w4r (And.intro @XaD (And.intro @XaT @Xdq));(repeat' (first|refine Wkx.go ?_|fail)))<;>(try clear wx)
   clear wx
   refine Xaa _ _ (XaF rfl (RV.cell 3 rfl rfl XaI.out (Xyn rfl) (Xyn rfl)) (Xaj.mk' [_,_,_] [.box pb _] (.cons _ (List.perm_append_comm (l₁:=[_]) (l₂:=[_,_]))) (Xak.refl _ _) (VwL.refl _ _))) ⟨_,a2,_,rfl,rfl,ha2,XrV hx1 q2 q3 (by assumption) hx2 _ ?_⟩
   rcases h with h|⟨h3,h4⟩
   ·exact (if_neg fun g=>h g.1).symm
   ·exact (if_neg fun g=>g.2.elim (fun g=>by rw [h3] at g;cases g) h4).symm
theorem XnG {ng:Bool} {m a n:Nat} {b:Bool} {s:List UInt8} (h:a=s.length):(XcA ng (m+1) s a n b).2.1≠0:=by
 rw [XcA,if_pos h];simp
theorem XrU {s:List UInt8} {a:Nat} (h:chr s a=93∨chr s a=45):(XaP s a).2.1=80:=by
 have h1:Xbd s a=(0,0,80,a):=by unfold Xbd;rw [if_pos (by omega)]
 unfold XaP
 simp only [h1]
 rw [if_pos (.inl (by simp))]
theorem XkU {ng:Bool} {m a n:Nat} {b:Bool} {s:List UInt8} (h:a < s.length) (h2:chr s a≠93∨b=false):XcA ng (m+1) s a n b=if (XaP s a).2.1≠0 then (0,(XaP s a).2.1,(XaP s a).2.2) else XcA ng m s (XaP s a).2.2 (n ||| (XaP s a).1) true:=by
 rw [XcA,if_neg (by omega),if_neg (by rintro ⟨h3,h4⟩;rcases h2 with h2|h2;exact h2 h3;rw [h2] at h4;cases h4)]
theorem XnE {ng:Bool} {m a n:Nat} {s:List UInt8} (h:a < s.length) (h2:chr s a=93):(XcA ng (m+1) s a n false).2.1≠0:=by
 have:=XrU (s:=s) (a:=a) (.inl h2)
 rw [XkU h (.inr rfl),if_pos (by omega)]
 simp only [this];decide
theorem XnF {ng:Bool} {m a n:Nat} {s:List UInt8} (h:a < s.length) (h2:chr s a=93):XcA ng (m+1) s a n true=(if ng then Xfg n else n,0,a+1):=by
 rw [XcA,if_neg (by omega),if_pos ⟨h2,rfl⟩]
theorem XrQ {ng:Bool} {a n:Nat} {b:Bool} {s:List UInt8}:∀m:Nat,a < s.length→chr s a=45→(XcA ng m s a n b).2.1≠0
 | 0,_,_=>by rw [XcA];simp
 | m+1,h,h2=>by
   have:=XrU (s:=s) (a:=a) (.inr h2)
   rw [XkU h (.inl (by omega)),if_pos (by omega)]
   simp only [this];decide
def Xya (pb:Nat) (s:List UInt8) (d:Nat) (x:Nat × Nat × Nat) (r:AV) (H':List Hp):Prop:=∃(n a:Nat) (e:Int),r=.x (v4 n)∧H'=[.box pb (pk s a d e)]∧a≤s.length+1∧((x.2.1=0∧e=0∧n=x.1∧a=x.2.2)∨(x.2.1≠0∧e≠0))
theorem Xq6 (pb:Nat) (s:List UInt8) (k d:Nat) (hs:s.length≤128) (hk:k≤s.length):Xay Tryz.prog 136 [.box pb (pk s k d 0)] [.x (.pointer (some ⟨pb,0,none⟩))] (Xya pb s d (Xbn s k)):=by
 have hF:=Lib.hid (fun a e=>Xfo pb s a d e 80)
 have hE:=Lib.hid (fun k h=>Xum pb s k d hs h)
 have hM:=Lib.hid (fun a e=>XgE s a d e)
 have hU:=Lib.hid (fun m n=>Xd2 m n)
 have hN:=Lib.hid (fun m=>Xsm m)
 generalize hR:Xbn s k=R
 unfold Xbn at hR
 unfold pk at hF hE hM ⊢
 refine XaV Tryz.func136 Tryz.ntmps136 ?_
 (have wx:=And.intro @XaY (And.intro @w4r (And.intro @XaD (And.intro @XaT @Xdq)));(repeat' (first|refine Wkx.go ?_|refine Xc4 ?_|(refine Xaz (fun h=>?_) (fun h=>?_)<;>skip)|refine Xad ?_ (h:=by exact fun _=>XdD rfl rfl Tryz.func50 (hS:=hM.out _ _))|refine Xad ?_ (h:=by (intro hp;(try simp only [wgp] at hp);(try simp only [hp,wte]);(try simp only [whn] at hp);exact Xam _ _ _ _ _ _ _ rfl rfl rfl (by kernel_rfl) Xdi.out (by omega)))|refine Xad ?_|(refine Xab rfl ?_;(first|refine Xbh ?_|refine Xb8 (fun b=>?_)))|fail)))<;>(try clear wx)
 ·-- LOOP true
  rename_i br
  revert b
  intro bt
  (try simp only [not_true_eq_false,false_or] at h)
  have hh:k≠s.length∧chr s k=94:=by omega
  have hv:((0:Int) == 0 && decide (k < s.length) && (chr s k:Int) == 94)=true:=by simp;omega
  have hv:=Lib.hid hv
  rw [if_pos hh] at hR
  rw [hv.out,←Xfq]
  refine Xah (S:=Nat × Nat × Nat × Nat × Int) (fun q=>frm 64 [(0,.x (.pointer (some ⟨pb,0,none⟩))),(2,.x (.pointer (some ⟨br,0,none⟩))),(3,.x (.pointer (some ⟨bt,0,none⟩))),(4,.x (.bool true)),(5,.x (.int .i64 (q.2.2.1:Nat)))]) (fun q=>[.box bt (w4 q.2.1),.box br (w4 0),.box pb [.x (.string (bs s)),.x (.int .i64 (q.1:Nat)),.x (.int .i64 d),.x (.int .i64 q.2.2.2.2)]]) (fun q=>(q.2.2.2.2=0∧q.1≤s.length∧q.2.2.1≤q.1∧s.length < q.2.2.2.1+q.1∧XcA true q.2.2.2.1 s q.1 q.2.1 (decide (0 < q.2.2.1))=R)∨(q.2.2.2.2≠0∧q.1≤s.length+1∧R.2.1≠0)) (fun q=>if q.2.2.2.2=0 then s.length+1 - q.1 else 0) (k+1,0,0,s.length+1,0) (XaX (D:=[])) (.inl ⟨rfl,by simp only;omega,Nat.zero_le _,by simp only;omega,hR⟩) fun q hq=>?_
  obtain ⟨a,n,c,m,e⟩:=q
  simp only at hq
  rcases hq with ⟨rfl,q2,q3,q4,q5⟩|⟨q1,q2,q3⟩
  ·obtain ⟨m,rfl⟩:∃q,m=q+1:=⟨m - 1,by omega⟩
   have q5:=Lib.hid q5
   simp only [wfr]
   (have wx:=And.intro @XaY (And.intro @w4r (And.intro @XaD (And.intro @XaT @Xdq)));(repeat' (first|refine Wkx.go ?_|(refine Xaz (fun h=>?_) (fun h=>?_)<;>skip)|refine Xad ?_ (h:=by exact fun _=>XdD rfl rfl Tryz.func50 (hS:=hM.out _ _))|refine Xad ?_|(refine Xab rfl ?_;(first|((refine Xa7 Tryz.func20 [_] rfl rfl (by (repeat' (first|exact Xyo _|refine (XyB (l₁:=[_,_])).trans (XyE _ ?_)|fail))) (hF.out _ _) ?_;rintro _ _ ⟨rfl,rfl⟩);refine XaJ ?_)|refine Xbh ?_))|fail)))<;>(try clear wx)
   ·refine Xc4 ?_
    (have wx:=And.intro @XaY (And.intro @w4r (And.intro @XaD (And.intro @XaT @Xdq)));(repeat' (first|refine Wkx.go ?_|(refine Xaz (fun h=>?_) (fun h=>?_)<;>first|(exact absurd h (by decide))|skip)|refine Xad ?_ (h:=by exact fun _=>Xbb rfl rfl Tryz.func133 (hN.out _))|refine Xad ?_ (h:=by exact fun _=>Xam _ _ _ _ _ _ _ rfl rfl rfl (by kernel_rfl) Xdi.out (by omega))|refine Xad ?_|(refine Xab rfl ?_;(first|((refine Xa7 Tryz.func20 [_] rfl rfl (by (repeat' (first|exact Xyo _|refine (XyB (l₁:=[_,_])).trans (XyE _ ?_)|fail))) (hF.out _ _) ?_;rintro _ _ ⟨rfl,rfl⟩);refine XaJ ?_)|refine Xbh ?_))|fail)))<;>(try clear wx)
    ·rename_i hl h93 hc
     refine Xaa _ _ (XaF rfl (RV.cell 2 rfl rfl XaI.out (by simp) (by simp)) (Xaj.mk' [_,_] [.box pb _] (List.perm_append_comm (l₁:=[_]) (l₂:=[_,_])) (Xak.refl _ _) (VwL.refl _ _))) ⟨Xfg n,a+1,80,rfl,rfl,by omega,.inr ⟨?_,by decide⟩⟩
     have q5:=q5.out
     rw [show decide (0 < c)=false from decide_eq_false (by omega)] at q5
     rw [←q5]
     exact XnE hl.2 (by omega)
    ·rename_i hl h93 hc
     refine Xaa _ _ (XaF rfl (RV.cell 1 rfl rfl XaI.out (by simp) (by simp)) (Xaj.mk' [_,_] [.box pb _] (.refl _) (Xak.refl _ _) (VwL.refl _ _))) ⟨Xfg n,a+1,0,rfl,rfl,by omega,.inl ?_⟩
     have q5:=q5.out
     rw [show decide (0 < c)=true from decide_eq_true (by omega),XnF hl.2 (by omega)] at q5
     rw [←q5]
     exact ⟨rfl,rfl,rfl,rfl⟩
    ·rename_i hl
     refine XaE mixed [4] [.box bt _,.box br _] [.box pb _] (Xyo _) ?_
     (have wx:=And.intro @w4r (And.intro @XaD @XaT);((first|refine Xdr 0 ?_|fail);(first|refine XbQ 1 ?_|fail)))<;>(try clear wx)
     (refine XcV 2 ?_;(first|((refine Xa7 Tryz.func163 [_] rfl rfl (by (repeat' (first|exact Xyo _|fail))) (hE.out _ hl.2) ?_;rintro _ _ ⟨n1,a1,e1,rfl,rfl,ha1,hx1⟩;unfold pk);refine XaJ ?_)|fail))
     (refine XcV 3 ?_;(first|refine Xd5 ?_ (h:=by exact Xbb rfl rfl Tryz.func162 (hU.out _ _))|fail))
     refine XaG (by decide +kernel) ?_
     refine Xai rfl (by simp only [Xyz,Xyy];rfl) ?_
     (have wx:=And.intro @w4r (And.intro @XaD (And.intro @XaT (And.intro @Xdq @Xex)));(refine Xd8 4 ?_;(first|refine Xbh ?_|fail)))<;>(try clear wx)
     refine Xao (by decide +kernel) ?_
     (repeat' (first|refine Wkx.go ?_|refine Xad ?_|fail))
     have ha:=Xdp s a hl.2
     have q5:=q5.out
     rw [XkU hl.2 (.inl (by omega))] at q5
     refine ⟨(a1,n ||| n1,c+1,m,e1),?_,?_,(XaX (D:=[]))⟩
     ·simp only
      rcases hx1 with ⟨g1,g2,g3,g4⟩|⟨g1,g2⟩
      ·rw [if_pos g2];simp only [if_true];omega
      ·rw [if_neg g1];simp only [if_true];omega
     ·rcases hx1 with ⟨g1,g2,g3,g4⟩|⟨g1,g2⟩
      ·refine .inl ⟨g2,by simp only;omega,by simp only;omega,by simp only;omega,?_⟩
       rw [if_neg (by omega)] at q5
       simp only
       rw [g3,g4,decide_eq_true (by omega)]
       exact q5
      ·refine .inr ⟨g1,ha1,?_⟩
       rw [←q5]
       rcases g2 with g2|⟨g2,g3⟩
       ·rw [if_pos g2];exact g2
       ·by_cases g4:(XaP s a).2.1≠0
        ·rw [if_pos g4];exact g4
        ·rw [if_neg g4];exact XrQ m g2 g3
   ·refine Xaa _ _ (XaF rfl (RV.cell 2 rfl rfl XaI.out (by simp) (by simp)) (Xaj.mk' [_,_] [.box pb _] (List.perm_append_comm (l₁:=[_]) (l₂:=[_,_])) (Xak.refl _ _) (VwL.refl _ _))) ⟨n,a,80,rfl,rfl,by omega,.inr ⟨?_,by decide⟩⟩
    have q5:=q5.out
    rw [←q5]
    (try simp only [not_true_eq_false,false_or] at h)
    exact XnG (by omega)
  ·have hz:(e == 0)=false:=XyF.2 q1
   have hz:=Lib.hid hz
   simp only [wfr]
   (have wx:=And.intro @XaY (And.intro @w4r (And.intro @XaD (And.intro @XaT (And.intro @Xdq @hz.out))));(repeat' (first|refine Wkx.go ?_|(refine Xaz (fun h=>?_) (fun h=>?_)<;>first|(exact absurd h (by decide))|skip)|refine Xad ?_ (h:=by exact fun _=>XdD rfl rfl Tryz.func50 (hS:=hM.out _ _))|refine Xad ?_|(refine Xab rfl ?_;(first|((refine Xa7 Tryz.func20 [_] rfl rfl (by (repeat' (first|exact Xyo _|refine (XyB (l₁:=[_,_])).trans (XyE _ ?_)|fail))) (hF.out _ _) ?_;rintro _ _ ⟨rfl,rfl⟩);refine XaJ ?_)|refine Xbh ?_))|fail)))<;>(try clear wx)
   refine Xaa _ _ (XaF rfl (RV.cell 2 rfl rfl XaI.out (by simp) (by simp)) (Xaj.mk' [_,_] [.box pb _] (List.perm_append_comm (l₁:=[_]) (l₂:=[_,_])) (Xak.refl _ _) (VwL.refl _ _))) ⟨n,a,_,rfl,rfl,q2,.inr ⟨q3,by rw [if_neg q1];exact q1⟩⟩
 ·-- LOOP false
  rename_i br
  revert b
  intro bt
  (try simp only [not_true_eq_false,false_or] at h)
  have hh:¬(k≠s.length∧chr s k=94):=by omega
  have hv:((0:Int) == 0 && decide (k < s.length) && (chr s k:Int) == 94)=false:=by simp only [beq_self_eq_true,Bool.true_and,Bool.and_eq_false_iff,decide_eq_false_iff_not,XyF];omega
  have hv:=Lib.hid hv
  rw [if_neg hh] at hR
  rw [hv.out,←Xfq]
  refine Xah (S:=Nat × Nat × Nat × Nat × Int) (fun q=>frm 64 [(0,.x (.pointer (some ⟨pb,0,none⟩))),(2,.x (.pointer (some ⟨br,0,none⟩))),(3,.x (.pointer (some ⟨bt,0,none⟩))),(4,.x (.bool false)),(5,.x (.int .i64 (q.2.2.1:Nat)))]) (fun q=>[.box bt (w4 q.2.1),.box br (w4 0),.box pb [.x (.string (bs s)),.x (.int .i64 (q.1:Nat)),.x (.int .i64 d),.x (.int .i64 q.2.2.2.2)]]) (fun q=>(q.2.2.2.2=0∧q.1≤s.length∧q.2.2.1≤q.1∧s.length < q.2.2.2.1+q.1∧XcA false q.2.2.2.1 s q.1 q.2.1 (decide (0 < q.2.2.1))=R)∨(q.2.2.2.2≠0∧q.1≤s.length+1∧R.2.1≠0)) (fun q=>if q.2.2.2.2=0 then s.length+1 - q.1 else 0) (k,0,0,s.length+1,0) (XaX (D:=[])) (.inl ⟨rfl,by simp only;omega,Nat.zero_le _,by simp only;omega,hR⟩) fun q hq=>?_
  obtain ⟨a,n,c,m,e⟩:=q
  simp only at hq
  rcases hq with ⟨rfl,q2,q3,q4,q5⟩|⟨q1,q2,q3⟩
  ·obtain ⟨m,rfl⟩:∃q,m=q+1:=⟨m - 1,by omega⟩
   have q5:=Lib.hid q5
   simp only [wfr]
   (have wx:=And.intro @XaY (And.intro @w4r (And.intro @XaD (And.intro @XaT @Xdq)));(repeat' (first|refine Wkx.go ?_|(refine Xaz (fun h=>?_) (fun h=>?_)<;>skip)|refine Xad ?_ (h:=by exact fun _=>XdD rfl rfl Tryz.func50 (hS:=hM.out _ _))|refine Xad ?_|(refine Xab rfl ?_;(first|((refine Xa7 Tryz.func20 [_] rfl rfl (by (repeat' (first|exact Xyo _|refine (XyB (l₁:=[_,_])).trans (XyE _ ?_)|fail))) (hF.out _ _) ?_;rintro _ _ ⟨rfl,rfl⟩);refine XaJ ?_)|refine Xbh ?_))|fail)))<;>(try clear wx)
   ·refine Xc4 ?_
    (have wx:=And.intro @XaY (And.intro @w4r (And.intro @XaD (And.intro @XaT @Xdq)));(repeat' (first|refine Wkx.go ?_|(refine Xaz (fun h=>?_) (fun h=>?_)<;>first|(exact absurd h (by decide))|skip)|refine Xad ?_ (h:=by exact fun _=>Xam _ _ _ _ _ _ _ rfl rfl rfl (by kernel_rfl) Xdi.out (by omega))|refine Xad ?_|(refine Xab rfl ?_;(first|((refine Xa7 Tryz.func20 [_] rfl rfl (by (repeat' (first|exact Xyo _|refine (XyB (l₁:=[_,_])).trans (XyE _ ?_)|fail))) (hF.out _ _) ?_;rintro _ _ ⟨rfl,rfl⟩);refine XaJ ?_)|refine Xbh ?_))|fail)))<;>(try clear wx)
    ·rename_i hl h93 hc
     refine Xaa _ _ (XaF rfl (RV.cell 2 rfl rfl XaI.out (by simp) (by simp)) (Xaj.mk' [_,_] [.box pb _] (List.perm_append_comm (l₁:=[_]) (l₂:=[_,_])) (Xak.refl _ _) (VwL.refl _ _))) ⟨n,a+1,80,rfl,rfl,by omega,.inr ⟨?_,by decide⟩⟩
     have q5:=q5.out
     rw [show decide (0 < c)=false from decide_eq_false (by omega)] at q5
     rw [←q5]
     exact XnE hl.2 (by omega)
    ·rename_i hl h93 hc
     refine Xaa _ _ (XaF rfl (RV.cell 1 rfl rfl XaI.out (by simp) (by simp)) (Xaj.mk' [_,_] [.box pb _] (.refl _) (Xak.refl _ _) (VwL.refl _ _))) ⟨n,a+1,0,rfl,rfl,by omega,.inl ?_⟩
     have q5:=q5.out
     rw [show decide (0 < c)=true from decide_eq_true (by omega),XnF hl.2 (by omega)] at q5
     rw [←q5]
     exact ⟨rfl,rfl,rfl,rfl⟩
    ·rename_i hl
     refine XaE mixed [4] [.box bt _,.box br _] [.box pb _] (Xyo _) ?_
     (have wx:=And.intro @w4r (And.intro @XaD @XaT);((first|refine Xdr 0 ?_|fail);(first|refine XbQ 1 ?_|fail)))<;>(try clear wx)
     (refine XcV 2 ?_;(first|((refine Xa7 Tryz.func163 [_] rfl rfl (by (repeat' (first|exact Xyo _|fail))) (hE.out _ hl.2) ?_;rintro _ _ ⟨n1,a1,e1,rfl,rfl,ha1,hx1⟩;unfold pk);refine XaJ ?_)|fail))
     (refine XcV 3 ?_;(first|refine Xd5 ?_ (h:=by exact Xbb rfl rfl Tryz.func162 (hU.out _ _))|fail))
     refine XaG (by decide +kernel) ?_
     refine Xai rfl (by simp only [Xyz,Xyy];rfl) ?_
     (have wx:=And.intro @w4r (And.intro @XaD (And.intro @XaT (And.intro @Xdq @Xex)));(refine Xd8 4 ?_;(first|refine Xbh ?_|fail)))<;>(try clear wx)
     refine Xao (by decide +kernel) ?_
     (repeat' (first|refine Wkx.go ?_|refine Xad ?_|fail))
     have ha:=Xdp s a hl.2
     have q5:=q5.out
     rw [XkU hl.2 (.inl (by omega))] at q5
     refine ⟨(a1,n ||| n1,c+1,m,e1),?_,?_,(XaX (D:=[]))⟩
     ·simp only
      rcases hx1 with ⟨g1,g2,g3,g4⟩|⟨g1,g2⟩
      ·rw [if_pos g2];simp only [if_true];omega
      ·rw [if_neg g1];simp only [if_true];omega
     ·rcases hx1 with ⟨g1,g2,g3,g4⟩|⟨g1,g2⟩
      ·refine .inl ⟨g2,by simp only;omega,by simp only;omega,by simp only;omega,?_⟩
       rw [if_neg (by omega)] at q5
       simp only
       rw [g3,g4,decide_eq_true (by omega)]
       exact q5
      ·refine .inr ⟨g1,ha1,?_⟩
       rw [←q5]
       rcases g2 with g2|⟨g2,g3⟩
       ·rw [if_pos g2];exact g2
       ·by_cases g4:(XaP s a).2.1≠0
        ·rw [if_pos g4];exact g4
        ·rw [if_neg g4];exact XrQ m g2 g3
   ·refine Xaa _ _ (XaF rfl (RV.cell 2 rfl rfl XaI.out (by simp) (by simp)) (Xaj.mk' [_,_] [.box pb _] (List.perm_append_comm (l₁:=[_]) (l₂:=[_,_])) (Xak.refl _ _) (VwL.refl _ _))) ⟨n,a,80,rfl,rfl,by omega,.inr ⟨?_,by decide⟩⟩
    have q5:=q5.out
    rw [←q5]
    (try simp only [not_true_eq_false,false_or] at h)
    exact XnG (by omega)
  ·have hz:(e == 0)=false:=XyF.2 q1
   have hz:=Lib.hid hz
   simp only [wfr]
   (have wx:=And.intro @XaY (And.intro @w4r (And.intro @XaD (And.intro @XaT (And.intro @Xdq @hz.out))));(repeat' (first|refine Wkx.go ?_|(refine Xaz (fun h=>?_) (fun h=>?_)<;>first|(exact absurd h (by decide))|skip)|refine Xad ?_ (h:=by exact fun _=>XdD rfl rfl Tryz.func50 (hS:=hM.out _ _))|refine Xad ?_|(refine Xab rfl ?_;(first|((refine Xa7 Tryz.func20 [_] rfl rfl (by (repeat' (first|exact Xyo _|refine (XyB (l₁:=[_,_])).trans (XyE _ ?_)|fail))) (hF.out _ _) ?_;rintro _ _ ⟨rfl,rfl⟩);refine XaJ ?_)|refine Xbh ?_))|fail)))<;>(try clear wx)
   refine Xaa _ _ (XaF rfl (RV.cell 2 rfl rfl XaI.out (by simp) (by simp)) (Xaj.mk' [_,_] [.box pb _] (List.perm_append_comm (l₁:=[_]) (l₂:=[_,_])) (Xak.refl _ _) (VwL.refl _ _))) ⟨n,a,_,rfl,rfl,q2,.inr ⟨q3,by rw [if_neg q1];exact q1⟩⟩
theorem Xlo (kd i kid by_:Int) (h1:0≤kid∧kid≤100000) (h2:0≤by_∧by_≤100000):Xay Tryz.prog 92 [] [.x (.int .i64 kd),.x (.int .i64 i),.x (.int .i64 kid),.x (.int .i64 by_)] (fun r H'=>r=.x (.int .i64 (if i < (XgZ kd:Int) then kid+by_ else 0))∧H'=[]):=by
 have hK:=Lib.hid (Xo3 kd)
 refine XaV Tryz.func92 Tryz.ntmps92 ?_
 (repeat' (first|refine Wkx.go ?_|(refine Xaz (fun h=>?_) (fun h=>?_)<;>skip)|refine Xad ?_ (h:=by exact fun _=>Xbb rfl rfl Tryz.func93 (hK.out))|refine Xad ?_|fail))
 ·skip
  refine Xaa _ _ (XaF rfl (RV.tmp _) (XcS (D:=[]))) ?_
  exact ⟨by rw [if_pos h];rfl,rfl⟩
 ·skip
  refine Xaa _ _ (XaF rfl (RV.tmp _) (XcS (D:=[]))) ?_
  exact ⟨by rw [if_neg h];rfl,rfl⟩
theorem Xh0 (kd n:Nat):Xay Tryz.prog 91 [] [.x (.int .i64 kd),.x (v4 n)] (fun r H'=>r=.sq 1 (nda [{ kind:=kd,set:=n }])∧H'=[]):=by
 unfold v4
 refine XaV Tryz.func91 Tryz.ntmps91 ?_
 (have wx:=And.intro @w4r (And.intro @XaD @XaT);(repeat' (first|refine Wkx.go ?_|refine Xad ?_|(refine Xab rfl ?_;(first|refine Xd9 (fun b=>?_)|refine Xfr (fun b=>?_)))|fail)))<;>(try clear wx)
 refine Xaa _ _ (XaF rfl (RV.tmp _) (Xaj.mk' [_,_] [] (Xyo _) Xak.nil (VwL.cons (Vw.row (List.Mem.head _) (VwL.refl _ _)) VwL.nil))) ⟨?_,rfl⟩
 rfl
end Go.Proofs.YtdlblokjfoggpaaGreatDoor

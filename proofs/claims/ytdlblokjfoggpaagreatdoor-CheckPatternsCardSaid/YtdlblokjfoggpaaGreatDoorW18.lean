import Derived.Test.YtdlblokjfoggpaaGreatDoorW7
import Derived.Test.YtdlblokjfoggpaaGreatDoorW10
import Derived.Test.YtdlblokjfoggpaaGreatDoorW17
import Derived.Test.YtdlblokjfoggpaaGreatDoorW16
import Derived.ChangeKeysEq
/- The program's automata: a node's states: nodes with two kids; all nodes. -/
set_option linter.unusedSimpArgs false
set_option linter.unusedVariables false
set_option maxRecDepth 100000
set_option maxHeartbeats 8000000
namespace Go.Proofs.YtdlblokjfoggpaaGreatDoor
open Go.RowKit
theorem Xt2 (l:List Nd) (hl:l.length≤256) (k m1 m2:Nat) (hk:k < l.length) (h0:XcO (l.getD k default).kind=some 2) (hlt:(l.getD k default).left < k) (hrt:(l.getD k default).right < k) (ht1:Xht l (l.getD k default).left m1) (ht2:Xht l (l.getD k default).right m2)
  (ih1:XsS l (l.getD k default).left m1) (ih2:XsS l (l.getD k default).right m2):XsS l k (m1+m2+1):=by
 intro bb ss next g cap n hn hx hb
 obtain ⟨n,rfl⟩:∃q,n=q+1:=⟨n - 1,by omega⟩
 rw [Xcu]
 have hg:l.getD k default=l[k]:=by rw [List.getD_eq_getElem?_getD,List.getElem?_eq_getElem hk];rfl
 rw [hg] at h0 hlt hrt ht1 ht2 ih1 ih2 ⊢
 have hA:=XpV bb l
 have h0:=Xmy h0
 refine XaV Tryz.func23 Tryz.ntmps23 ?_
 rcases h0 with h3|h4
 ·simp only [h3,reduceCtorEq,Nat.reduceEqDiff,if_true,if_false]
  have hc:=ih2 bb ss next g cap n (by omega) hx (by omega)
  have hb2:=Xbm ht2 n ss next (by omega) hx
  generalize bld n l ss l[k].right next=A at *
  obtain ⟨a1,ass⟩:=A
  simp only at hc hb2 ⊢
  have hc:=Lib.hid hc
  have hd:=fun g cap=>ih1 bb ass a1 g cap n (by omega) hb2.2.2 (by omega)
  generalize bld n l ass l[k].left a1=B at *
  obtain ⟨c1,css⟩:=B
  simp only at hd ⊢
  have hd:=Lib.hid hd
  clear ih1 ih2 ht1 ht2
  (have wx:=And.intro @Xb1 (And.intro @Nd.cells.eq_1 (And.intro @Xig @Xbr));(repeat' (first|refine Wkx.go ?_|(refine Xaz (fun h=>?_) (fun h=>?_)<;>first|(exfalso;omega;done)|skip)|refine Xad ?_|(refine Xab rfl ?_;(first|refine Xbh ?_|refine Xb8 (fun b=>?_)))|fail)))<;>(try clear wx)
  refine XaE mixed [] [_] [_,_] (Xyo _) ?_
  ((first|refine XbQ 0 ?_|fail);(first|refine XbQ 1 ?_|fail);(first|refine Xdr 2 ?_|fail);(first|refine XbQ 3 ?_|fail);(first|refine XbQ 4 ?_|fail);(first|refine Xdr 5 ?_|fail);(first|refine XbQ 6 ?_|fail))
  (refine XcV 7 ?_;(first|((refine Xau 23 Tryz.f23 [_,_] _ _ _ rfl rfl Tryz.func23 (by decide) rfl (Xyo _) (VwL.refl _ _) (hc.out) ?_;rintro _ _ ⟨g,cap,rfl,rfl⟩);refine XaJ ?_)|fail))
  (refine XcV 8 ?_;(first|((refine Xau 23 Tryz.f23 [_,_] _ _ _ rfl rfl Tryz.func23 (by decide) rfl (Xyo _) (VwL.refl _ _) (hd.out _ _) ?_;rintro _ _ ⟨g,cap,rfl,rfl⟩);refine XaJ ?_)|fail))
  (refine XcV 9 ?_;(first|refine Xd5 ?_|fail))
  refine XaG (by decide +kernel) ?_
  refine Xai rfl (by simp only [Xyz,Xyy];rfl) ?_
  refine Xao (by decide +kernel) ?_
  (repeat' (first|refine Wkx.go ?_|fail))
  first|refine Xaa _ _ (XaF rfl (RV.tmp _) (Xaj.mk' [.box _ _] [.box bb _,.row (some ⟨g,_,_⟩) _ cap _ _ _] (Xyo _) (Xak.refl _ _) (VwL.refl _ _))) ⟨g,cap,?_,?_⟩|fail
  ·rfl
  ·rfl
 ·simp only [h4,reduceCtorEq,Nat.reduceEqDiff,if_true,if_false]
  have hc:=ih1 bb ss next g cap n (by omega) hx (by omega)
  have hb2:=Xbm ht1 n ss next (by omega) hx
  generalize bld n l ss l[k].left next=A at *
  obtain ⟨a1,ass⟩:=A
  simp only at hc hb2 ⊢
  have hc:=Lib.hid hc
  have hd:=fun g cap=>ih2 bb ass next g cap n (by omega) (by omega) (by omega)
  have hb3:=Xbm ht2 n ass next (by omega) (by omega)
  generalize bld n l ass l[k].right next=B at *
  obtain ⟨c1,css⟩:=B
  simp only at hd hb3 ⊢
  have hd:=Lib.hid hd
  clear ih1 ih2 ht1 ht2
  (have wx:=And.intro @Xb1 (And.intro @Nd.cells.eq_1 (And.intro @Xig @Xbr));(repeat' (first|refine Wkx.go ?_|(refine Xaz (fun h=>?_) (fun h=>?_)<;>first|(exfalso;omega;done)|skip)|refine Xad ?_|(refine Xab rfl ?_;(first|((refine Xau 23 Tryz.f23 [_,_] _ _ _ rfl rfl Tryz.func23 (by decide) rfl (List.perm_append_comm (l₁:=[_]) (l₂:=[_,_])) (VwL.refl _ _) (hc.out) ?_;rintro _ _ ⟨g,cap,rfl,rfl⟩);refine XaJ ?_)|((refine Xau 23 Tryz.f23 [_,_] _ _ _ rfl rfl Tryz.func23 (by decide) rfl (Xyo _) (VwL.refl _ _) (hd.out _ _) ?_;rintro _ _ ⟨g,cap,rfl,rfl⟩);refine XaJ ?_)|((refine Xau 22 Tryz.f22 [_,_] _ _ _ rfl rfl Tryz.func22 (by decide) rfl (Xyo _) (VwL.refl _ _) (hA.out css _ _ 2 a1 c1 0 _ _ _ _ _ _ _ rfl rfl rfl (by rw [XaU];rfl) (by rw [XaU];rfl) (by rw [XaU];rfl) (by rw [XaU];rfl) (by omega)) ?_;rintro _ _ ⟨g,cap,rfl,rfl⟩);refine XaJ ?_)|refine Xbh ?_|refine Xb8 (fun b=>?_)))|fail)))<;>(try clear wx)
  first|refine Xaa _ _ (XaF rfl (RV.tmp _) (Xaj.mk' [.box _ _] [.box bb _,.row (some ⟨g,_,_⟩) _ cap _ _ _] (List.perm_append_comm (l₁:=[_,_]) (l₂:=[_])) (Xak.refl _ _) (VwL.refl _ _))) ⟨g,cap,?_,?_⟩|fail
  ·rfl
  ·rfl
theorem Xtd (l:List Nd) (hl:l.length≤256) {k m:Nat} (h:Xht l k m):k < l.length→XsS l k m:=by
 induction h with
 | leaf k h0=>exact fun hk=>XvW l hl k hk h0
 | one k m h0 hlt ht ih=>exact fun hk=>Xt1 l hl k m hk h0 hlt ht (ih (by omega))
 | two k m n h0 h1 h2 ht1 ht2 ih1 ih2=>exact fun hk=>Xt2 l hl k m n hk h0 h1 h2 ht1 ht2 (ih1 (by omega)) (ih2 (by omega))
theorem Xrn (n:Nat):(n % 115792089237316195423570985008687907853269984665640564039457584007913129639936=0)↔wd n 0=0∧wd n 1=0∧wd n 2=0∧wd n 3=0:=by
 unfold wd
 simp only [Nat.mul_zero,Nat.pow_zero,Nat.div_one,Nat.mul_one,show (2:Nat) ^ 64=18446744073709551616 from rfl,show (2:Nat) ^ (64*2)=340282366920938463463374607431768211456 from rfl,show (2:Nat) ^ (64*3)=6277101735386680763835789423207666416102355444464034512896 from rfl]
 omega
section
variable {P:Program} {w:World} {H:List Hp} {o:Oper} {ρ:Operand→AV}
theorem Xuu (t e:TypeId) (hu:P.underlying t=some (.array 4 e)) (he:P.underlying e=some (.int .u64)) {inf:TypeInfo} (hi:P.info? e=some inf) (hs:inf.size=1) (a0 a1 a2 a3 b0 b1 b2 b3:Int) :
  (Op.equal t (.agg #[.int .u64 a0,.int .u64 a1,.int .u64 a2,.int .u64 a3]) (.agg #[.int .u64 b0,.int .u64 b1,.int .u64 b2,.int .u64 b3])).run P w=.ok (a0 == b0 && a1 == b1 && a2 == b2 && a3 == b3) w:=by
 have hc:P.cellsOf e=1:=by simp [Program.cellsOf,hi,hs]
 have hq:∀(d:Nat) (x y:Int),(Op.equalIn (d+1) e (.int .u64 x) (.int .u64 y)).run P w=.ok (x == y) w:=fun d x y=>by
  simp [Op.equalIn,run_underlying he]
 have hp:∀(cs:Array Value) (i:Nat) (v:Int),cs[i]?=some (.int .u64 v)→(part e cs i).run P w=.ok (.int .u64 v) w:=fun cs i v h=>by
  simp [part,isAgg,run_underlying he,sizeOf,typeInfo,hi,hs,h,Result.andThen]
 simp only [Op.equal,Op.maxDepth]
 rw [run_equalIn_array w 9999 _ _ hu hi,hc]
 simp only [show List.range 4=[0,1,2,3] from rfl,Op.eqItems,Sem.run_bind,Nat.mul_one]
 rw [hp _ 0 a0 rfl,Result.andThen_ok,hp _ 0 b0 rfl,Result.andThen_ok,hq 9998,Result.andThen_ok]
 cases a0 == b0
 ·rfl
 simp only [Bool.not_true,Bool.false_eq_true,if_false,Bool.true_and,Sem.run_bind]
 rw [hp _ 1 a1 rfl,Result.andThen_ok,hp _ 1 b1 rfl,Result.andThen_ok,hq 9998,Result.andThen_ok]
 cases a1 == b1
 ·rfl
 simp only [Bool.not_true,Bool.false_eq_true,if_false,Bool.true_and,Sem.run_bind]
 rw [hp _ 2 a2 rfl,Result.andThen_ok,hp _ 2 b2 rfl,Result.andThen_ok,hq 9998,Result.andThen_ok]
 cases a2 == b2
 ·rfl
 simp only [Bool.not_true,Bool.false_eq_true,if_false,Bool.true_and,Sem.run_bind]
 rw [hp _ 3 a3 rfl,Result.andThen_ok,hp _ 3 b3 rfl,Result.andThen_ok,hq 9998,Result.andThen_ok]
 cases a3 == b3<;>rfl
theorem Xf4 (t u e:TypeId) (x y:Operand) (n:Nat) (ho:o.op=.binOp .neq t x y u)
  (hx:ρ x=.x (.agg #[.int .u64 (wd n 0:Nat),.int .u64 (wd n 1:Nat),.int .u64 (wd n 2:Nat),.int .u64 (wd n 3:Nat)])) (hy:ρ y=.x (.agg #[.int .u64 0,.int .u64 0,.int .u64 0,.int .u64 0]))
  (hA:P.underlying t=some (.array 4 e)∧(P.info? e).map (·.size)=some 1) (he:P.underlying e=some (.int .u64)) (hg:P.eqGuardType P.depth t=false) :
  XeE P o ρ H (.x (.bool (decide (n % 115792089237316195423570985008687907853269984665640564039457584007913129639936≠0)))):=by
 intro V a w ok
 have e1:=ok.evx (by simp [ho,Op.operands]) hx
 have e2:=ok.evx (by simp [ho,Op.operands]) hy
 obtain ⟨hu,hs⟩:=hA
 obtain ⟨inf,hi1,hi2⟩:=Option.map_eq_some_iff.1 hs
 refine ⟨_,fun w'=>?_,by rw [Den]⟩
 have hr:=Xuu (w:=w') t e hu he hi1 hi2 (wd n 0:Nat) (wd n 1:Nat) (wd n 2:Nat) (wd n 3:Nat) 0 0 0 0
 have hb:(!(((wd n 0:Nat):Int) == 0 && ((wd n 1:Nat):Int) == 0 && ((wd n 2:Nat):Int) == 0 && ((wd n 3:Nat):Int) == 0))=decide (n % 115792089237316195423570985008687907853269984665640564039457584007913129639936≠0):=by
  rw [Bool.eq_iff_iff,decide_eq_true_eq,ne_eq,Xrn]
  simp only [Bool.not_eq_true',Bool.and_eq_false_iff,XyF,ne_eq]
  omega
 have hrun:(binOp .neq t (.agg #[.int .u64 (wd n 0:Nat),.int .u64 (wd n 1:Nat),.int .u64 (wd n 2:Nat),.int .u64 (wd n 3:Nat)]) (.agg #[.int .u64 0,.int .u64 0,.int .u64 0,.int .u64 0])).run P w'=.ok (.bool (decide (n % 115792089237316195423570985008687907853269984665640564039457584007913129639936≠0))) w':=by
  rw [←hb]
  simp only [binOp,Sem.run_bind,hr,Result.andThen_ok,Sem.run_pure]
 have hgd:∀a b:Array Value,(eqGuard .neq t x y (.agg a) (.agg b)).run P w'=.ok () w':=fun a b=>by
  simp [eqGuard,hg,Result.andThen]
 simp only [execOp,ho,e1,e2,Sem.run_bind,hgd,hrun,Result.andThen_ok,Sem.run_pure]
end
open Go.RowKit
theorem Xxm (a b:Nat) (h:b≤a):(a:Int) - (b:Int)=((a - b:Nat):Int):=by omega
def rta (l:List Nat):List AV:=l.map fun n=>.x (.int .i64 (n:Nat))
@[simp] theorem XxE (l:List Nat):(rta l).length=l.length:=by simp [rta]
theorem Xo4 (l:List Nat) (n:Nat):rta l++[.x (.int .i64 (n:Nat))]=rta (l++[n]):=by simp [rta]
theorem Xrf (l:List Nat) (k:Nat):(rta l).take k=rta (l.take k):=by simp [rta]
def Xw5 (V:Option (List Nat)):Bool:=match V with
 | none=>false
 | some r=>decide (r.length=1)
instance:XrI Tryz.prog 128 2 3 1:=⟨by kernel_rfl,by kernel_rfl⟩
theorem Xug (S:List Nat) (h:S.length≤2):spl [.x (.int .i64 0),.x (.int .i64 0)] 0 (rta S)=[.x (.int .i64 ((S.getD 0 0:Nat):Int)),.x (.int .i64 ((S.getD 1 0:Nat):Int))]:=by
 match S,h with
 | [],_=>rfl
 | [a],_=>rfl
 | [a,b],_=>rfl
theorem XmS (n:Nd) (i:Nat) (R:List Nat) (h:n.kind≠2∧n.set % 115792089237316195423570985008687907853269984665640564039457584007913129639936≠0):XcL n i R=none:=if_pos h
theorem XmT (n:Nd) (i:Nat) (R:List Nat) (h:XcO n.kind=none):XcL n i R=none:=by unfold XcL;rw [h];split<;>rfl
theorem XpB (n:Nd) (i c:Nat) (R:List Nat) (h:XcO n.kind=some c) (hc:R.length < c):XcL n i R=none:=by unfold XcL;rw [h];simp only [hc,if_true];split<;>rfl
theorem XpA (n:Nd) (i c:Nat) (R:List Nat) (h:XcO n.kind=some c) (hb:¬(n.left=(R.drop (R.length - c)).getD 0 0∧n.right=(R.drop (R.length - c)).getD 1 0)):XcL n i R=none:=by
 unfold XcL;rw [h];simp only
 split
 ·rfl
 split
 ·rfl
 first|rfl|fail
theorem XrA (n:Nd) (i c:Nat) (R:List Nat) (hk:¬(n.kind≠2∧n.set % 115792089237316195423570985008687907853269984665640564039457584007913129639936≠0)) (h:XcO n.kind=some c) (hc:c≤R.length) (hb:n.left=(R.drop (R.length - c)).getD 0 0∧n.right=(R.drop (R.length - c)).getD 1 0):XcL n i R=some (R.take (R.length - c)++[i]):=by
 unfold XcL;rw [if_neg hk,h];simp only
 rw [if_neg (by omega),if_pos hb]
theorem XpD (l:List Nd) (hl:l.length≤256):Xay Tryz.prog 21 [] [.sq l.length (nda l)] (fun r H'=>r=.x (.bool (Xw5 (vGo l 0 [])))∧H'=[]):=by
 generalize hV0:vGo l 0 []=V
 have hV0:=Lib.hid hV0
 refine XaV Tryz.func21 Tryz.ntmps21 ?_
 refine Xa3 3 1 ?_
 (repeat' (first|refine Wkx.go ?_|(refine Xaz (fun h=>?_) (fun h=>?_)<;>first|(exfalso;omega;done)|skip)|refine Xad ?_|fail))
 refine Xah (S:=Nat × List Nat × Option Addr × Nat) (fun q=>frm 70 [(0,.sq l.length (nda l)),(2,.x (.bool false)),(3,.x (.slice q.2.2.1 q.2.1.length q.2.2.2)),(12,.sq l.length (nda l)),(13,.x (.int .i64 l.length)),(14,.x (.int .i64 (q.1:Nat)))]) (fun q=>[.row q.2.2.1 q.2.1.length q.2.2.2 3 1 (rta q.2.1)]) (fun q=>q.1≤l.length∧q.2.1.length≤q.1∧vGo (l.drop q.1) q.1 q.2.1=V) (fun q=>l.length - q.1) (0,[],none,0) (XaX (D:=[])) ⟨Nat.zero_le _,Nat.le_refl _,hV0.out⟩ fun q hq=>?_
 clear hV0
 obtain ⟨i,R,ad,cap⟩:=q
 obtain ⟨b1,b2,hV⟩:=hq
 simp only at b1 b2 hV
 simp only [wfr]
 refine Xcl 0 rfl fun hcap _ hd=>?_
 by_cases hlt:i < l.length
 ·rw [List.drop_eq_getElem_cons hlt,vGo] at hV
  have hV:=Lib.hid hV
  have hks:=XvT l[i].kind
  rcases hk:XcO l[i].kind with _|c
  ·unfold XqI at hks
   rw [hk] at hks
   have hk:=Lib.hid hk
   (have wx:=And.intro @Xb1 (And.intro @Nd.cells.eq_1 @Xig);(repeat' (first|refine Wkx.go ?_|(refine Xaz (fun h=>?_) (fun h=>?_)<;>first|(exact absurd h (by decide))|(exfalso;omega;done)|skip)|refine XlL ?_|refine Xad ?_ (h:=by exact fun _=>Xbb rfl rfl Tryz.func52 (hks))|refine Xad ?_ (h:=by (intro hp;(try simp only [wgp] at hp);(try simp only [hp,wte]);(try simp only [whn] at hp);exact Xdb (Xf4 _ _ _ _ _ _ rfl rfl rfl XrI.out (by kernel_rfl) (by kernel_rfl))))|refine Xad ?_|(refine Xab rfl ?_;(first|refine Xbh ?_|refine Xb8 (fun b=>?_)))|fail)))<;>(try clear wx)
   all_goals
    have hV:=hV.out
    rw [XmT _ _ _ hk.out] at hV
    simp only at hV
    subst hV
    first|refine Xaa _ _ (XaF rfl (RV.tmp _) (Xaj.mk' [_,_] [] (Xyo _) Xak.nil (VwL.refl _ _))) ?_|fail
    exact ⟨rfl,rfl⟩
  ·unfold XqI at hks
   rw [hk] at hks
   have hc2:=Xk7 hk
   have hk:=Lib.hid hk
   simp only at hks
   (have wx:=And.intro @Xb1 (And.intro @Nd.cells.eq_1 (And.intro @Xig @Xxm));(repeat' (first|refine Wkx.go ?_|(refine Xaz (fun h=>?_) (fun h=>?_)<;>first|(exfalso;omega;done)|skip)|refine Xad ?_ (h:=by exact fun _=>Xbb rfl rfl Tryz.func52 (hks))|refine Xad ?_ (h:=by (intro hp;(try simp only [wgp] at hp);(try simp only [hp,wte]);(try simp only [whn] at hp);exact Xdb (Xf4 _ _ _ _ _ _ rfl rfl rfl XrI.out (by kernel_rfl) (by kernel_rfl))))|refine Xad ?_|(refine Xab rfl ?_;(first|refine Xbh ?_|refine Xb8 (fun b=>?_)))|fail)))<;>(try clear wx)
   ·have hV:=hV.out
    rw [XmS _ _ _ ⟨by omega,h.2⟩] at hV
    simp only at hV
    subst hV
    first|refine Xaa _ _ (XaF rfl (RV.tmp _) (Xaj.mk' [_,_] [] (Xyo _) Xak.nil (VwL.refl _ _))) ?_|fail
    exact ⟨rfl,rfl⟩
   ·have hV:=hV.out
    rw [XpB _ _ _ _ hk.out h] at hV
    simp only at hV
    subst hV
    first|refine Xaa _ _ (XaF rfl (RV.tmp _) (Xaj.mk' [_,_] [] (Xyo _) Xak.nil (VwL.refl _ _))) ?_|fail
    exact ⟨rfl,rfl⟩
   rename_i _ bn hs
   have hcl:c≤R.length:=by omega
   have hbad:=Lib.hid (XpA l[i] i c R hk.out)
   have hk2:¬(l[i].kind≠2∧l[i].set % 115792089237316195423570985008687907853269984665640564039457584007913129639936≠0):=by
    rintro ⟨q1,q2⟩
    rcases hs with hs|hs
    ·exact q1 (by omega)
    ·exact hs q2
   have hgo:=Lib.hid (XrA l[i] i c R hk2 hk.out hcl)
   have hpe:=Xug (R.drop (R.length - c)) (by rw [List.length_drop];omega)
   generalize (R.drop (R.length - c)).getD 0 0=p0 at *
   generalize (R.drop (R.length - c)).getD 1 0=p1 at *
   have hsp:spl [.x (.int .i64 0),.x (.int .i64 0)] 0 (((rta R).drop (R.length - c)).take (R.length - (R.length - c)))=[.x (.int .i64 (p0:Nat)),.x (.int .i64 (p1:Nat))]:=by
    rw [←hpe,List.take_of_length_le (by simp)]
    simp [rta]
   have hl':(R.take (R.length - c)++[i]).length=R.length - c+1:=by simp
   refine Xbu mixed ?_
   apply XbJ 0 rfl rfl (by kernel_rfl) (by intro c T H hp;simp [XbH,XaA,XbP,Xdx] at hp)
   case h=>exact XgW _ _ _ _ _ _ rfl rfl XrI.out
   apply Xai
   case hT=>((try simp only [wtn,Xys,Xyp,Xyq,Xyt,Xyx,Nat.reduceAdd,Nat.reduceMul,Nat.reduceSub,↓reduceIte,Nat.reduceEqDiff]);rfl)
   case hH=>rfl
   (refine XfY 1 ?_;refine XfY 2 ?_)
   have hspl:c=0→spl [.x (.int .i64 0),.x (.int .i64 0)] 0 ([]:List AV)=[.x (.int .i64 (p0:Nat)),.x (.int .i64 (p1:Nat))]:=by
    rintro rfl
    rw [←hsp]
    simp [rta]
   rcases hd with ⟨rfl,hR0,rfl⟩|⟨g,rfl⟩
   ·obtain rfl:R=[]:=List.eq_nil_of_length_eq_zero hR0
    obtain rfl:c=0:=by simpa using hcl
    (refine Xd8 3 ?_;(first|refine Xd5 ?_|fail))
    refine XbN 4 (by decide +kernel) rfl rfl ?_
    refine Xhq 0 _ _ _ _ _ _ _ _ 0 _ [] rfl rfl rfl HEl.out (.inl ⟨_,_,rfl,rfl,rfl⟩) (by omega) (by simp) ?_
    apply Xai
    case hT=>((try simp only [wtn,Xys,Xyp,Xyq,Xyt,Xyx,Nat.reduceAdd,Nat.reduceMul,Nat.reduceSub,↓reduceIte,Nat.reduceEqDiff]);rfl)
    case hH=>rw [hspl rfl]
    refine Xao (by decide +kernel) ?_
    refine Xac ?_
    clear hsp hspl hpe
    (try simp only [wtn,Xys,Xyp,Xyq,Xyt,Xyx,Nat.reduceAdd,Nat.reduceMul,Nat.reduceSub,↓reduceIte,Nat.reduceEqDiff])
    (have wx:=And.intro @Nat.sub_zero (@ite_self.{1});(repeat' (first|refine Wkx.go ?_|(refine Xaz (fun h=>?_) (fun h=>?_)<;>skip)|refine Xad ?_|(refine Xab rfl ?_;(first|refine XfK (fun ad cap=>?_)|refine Xfr (fun b=>?_)))|fail)))<;>(try clear wx)
    ·have hV:=hV.out
     rw [hbad.out (by omega)] at hV
     simp only at hV
     subst hV
     first|refine Xaa _ _ (XaF rfl (RV.tmp _) (Xaj.mk' [_,_,_] [] (Xyo _) Xak.nil (VwL.refl _ _))) ?_|fail
     exact ⟨rfl,rfl⟩
    ·rename_i ad cap
     have hV:=hV.out
     rw [hgo.out (by omega)] at hV
     refine ⟨(i+1,[i],ad,cap),by simp only;omega,⟨by simp only;omega,by simp,hV⟩,?_⟩
     exact (XaX (D:=[_,_,_]) (R:=[_]))
   ·by_cases hc0:c=0
    ·subst hc0
     (have wx:=And.intro @Nat.sub_zero @Nat.sub_self;(refine Xd8 3 ?_;(first|refine Xd5 ?_|fail)))<;>(try clear wx)
     refine XbN 4 (by decide +kernel) rfl rfl ?_
     refine Xhq 0 _ _ _ _ _ _ _ _ 0 _ [] rfl rfl rfl HEl.out (.inl ⟨_,_,rfl,rfl,rfl⟩) (by omega) (by simp) ?_
     apply Xai
     case hT=>((try simp only [wtn,Xys,Xyp,Xyq,Xyt,Xyx,Nat.reduceAdd,Nat.reduceMul,Nat.reduceSub,↓reduceIte,Nat.reduceEqDiff]);rfl)
     case hH=>rw [hspl rfl]
     refine Xao (by decide +kernel) ?_
     refine Xac ?_
     clear hsp hspl hpe
     (try simp only [wtn,Xys,Xyp,Xyq,Xyt,Xyx,Nat.reduceAdd,Nat.reduceMul,Nat.reduceSub,↓reduceIte,Nat.reduceEqDiff])
     (have wx:=And.intro @Nat.sub_zero (@ite_self.{1});(repeat' (first|refine Wkx.go ?_|(refine Xaz (fun h=>?_) (fun h=>?_)<;>skip)|refine Xad ?_|(refine Xab rfl ?_;(first|refine XfK (fun ad cap=>?_)|refine Xfr (fun b=>?_)))|fail)))<;>(try clear wx)
     ·have hV:=hV.out
      rw [hbad.out (by omega)] at hV
      simp only at hV
      subst hV
      first|refine Xaa _ _ (XaF rfl (RV.tmp _) (Xaj.mk' [_,_,_] [] (Xyo _) Xak.nil (VwL.refl _ _))) ?_|fail
      exact ⟨rfl,rfl⟩
     ·rename_i ad cap
      have hV:=hV.out
      rw [hgo.out (by omega)] at hV
      simp only [Nat.sub_zero,List.take_length] at hV
      refine ⟨(i+1,R++[i],ad,cap),by simp only;omega,⟨by simp only;omega,by simp;omega,hV⟩,?_⟩
      simp only [Nat.sub_zero,List.take_length] at hl'
      simp only
      rw [hl',←Xo4]
      exact (XaX (D:=[_,_,_]) (R:=[_]))
    ·have hcr:¬cap=R.length - c:=by omega
     have hcx:∀x y:Option Addr,(if cap=R.length - c then x else y)=y:=fun _ _=>if_neg hcr
     (have wx:=And.intro @hcx (And.intro @Nat.mul_one @Nat.zero_add);(refine Xd8 3 ?_;(first|refine Xd5 ?_|fail)))<;>(try clear wx)
     clear hcx
     refine XbN 4 (by decide +kernel) rfl rfl ?_
     refine Xhq 0 _ _ _ _ _ _ _ _ _ _ _ rfl rfl rfl HEl.out (.inr ⟨2,g,R.length - c,_,_,_,_,_,rfl,rfl,by omega,rfl⟩) (by omega) (by simp;omega) ?_
     apply Xai
     case hT=>((try simp only [wtn,Xys,Xyp,Xyq,Xyt,Xyx,Nat.reduceAdd,Nat.reduceMul,Nat.reduceSub,↓reduceIte,Nat.reduceEqDiff]);rfl)
     case hH=>rw [hsp]
     refine Xao (by decide +kernel) ?_
     refine Xac ?_
     refine Xg8 2 (R.length - c) rfl (by omega) (fun _=>.inr trivial) (by simp) ?_
     rw [Nat.mul_one,Xrf]
     clear hsp hspl hpe
     (try simp only [wtn,Xys,Xyp,Xyq,Xyt,Xyx,Nat.reduceAdd,Nat.reduceMul,Nat.reduceSub,↓reduceIte,Nat.reduceEqDiff])
     (have wx:=And.intro @Nat.sub_zero (@ite_self.{1});(repeat' (first|refine Wkx.go ?_|(refine Xaz (fun h=>?_) (fun h=>?_)<;>skip)|refine Xad ?_|(refine Xab rfl ?_;(first|refine XfK (fun ad cap=>?_)|refine Xfr (fun b=>?_)))|fail)))<;>(try clear wx)
     ·have hV:=hV.out
      rw [hbad.out (by omega)] at hV
      simp only at hV
      subst hV
      first|refine Xaa _ _ (XaF rfl (RV.tmp _) (Xaj.mk' [_,_,_] [] (Xyo _) Xak.nil (VwL.refl _ _))) ?_|fail
      exact ⟨rfl,rfl⟩
     ·rename_i ad cap
      have hV:=hV.out
      rw [hgo.out (by omega)] at hV
      refine ⟨(i+1,R.take (R.length - c)++[i],ad,cap),by simp only;omega,⟨by simp only;omega,by simp only;rw [hl'];omega,hV⟩,?_⟩
      simp only
      rw [hl',←Xo4]
      exact (XaX (D:=[_,_,_]) (R:=[_]))
 ·have hV:=Lib.hid hV
  (repeat' (first|refine Wkx.go ?_|(refine Xaz (fun h=>?_) (fun h=>?_)<;>first|(exfalso;omega;done)|skip)|refine Xad ?_|fail))
  have hV:=hV.out
  rw [List.drop_of_length_le (by omega),vGo] at hV
  subst hV
  first|refine Xaa _ _ (XaF rfl (RV.tmp _) (Xaj.mk' [_] [] (Xyo _) Xak.nil (VwL.refl _ _))) ?_|fail
  exact ⟨congrArg (fun q=>AV.x (.bool q)) (by unfold Xw5;rw [Bool.eq_iff_iff];simp;omega),rfl⟩
theorem Xh8 (l:List Sx) (k v:Nat) (h:k < l.length):spl (sxa l) (k*7+2) [.x (.int .i64 (v:Nat))]=sxa (l.set k { l[k] with other:=v }):=by
 induction l generalizing k with
 | nil=>simp at h
 | cons a l ih=>
   have e:∀(x:Sx) (y:List Sx),sxa (x :: y)=x.cells++sxa y:=fun x y=>by simp [sxa]
   cases k with
   | zero=>rw [XyC,e,e];simp [spl,Sx.cells]
   | succ k=>
     have h':k < l.length:=by simpa using h
     rw [XyD,e,e]
     have i:=ih k h'
     simp only [List.getElem_cons_succ]
     rw [←i]
     have c7:a.cells.length=7:=by simp [Sx.cells]
     unfold spl
     rw [show (k+1)*7+2=a.cells.length+(k*7+2) by omega,List.take_length_add_append,Nat.add_assoc,List.drop_length_add_append]
     simp only [List.append_assoc]
def s2:Sx:=⟨2,0,0,0⟩
theorem Xi2 (l:List Nd):XbU l=(bld l.length l ([]++[⟨2,0,0,0⟩]++[⟨5,0,0,0⟩]) (l.length - 1) ([]++[(⟨2,0,0,0⟩:Sx)]).length).2.set 0 ⟨2,(bld l.length l ([]++[⟨2,0,0,0⟩]++[⟨5,0,0,0⟩]) (l.length - 1) ([]++[(⟨2,0,0,0⟩:Sx)]).length).1,(bld l.length l ([]++[⟨2,0,0,0⟩]++[⟨5,0,0,0⟩]) (l.length - 1) ([]++[(⟨2,0,0,0⟩:Sx)]).length).1,0⟩:=rfl
def Xqm (l:List Nd):AV:=if XbW l=true then .tup [.sq (XbU l).length (sxa (XbU l)),.x (.int .i64 0)] else .tup [.x (.slice none 0 0),.x (.int .i64 3)]
theorem rxv (l:List Nd) (hl:l.length≤256):XbW l=Xw5 (vGo l 0 []):=by unfold XbW Xw5;rw [decide_eq_true hl];rfl
theorem Xmh (l:List Nd) (hl:l.length≤256) (hv:XbW l=false):Xay Tryz.prog 8 [] [.sq l.length (nda l)] (fun r H'=>r=.tup [.x (.slice none 0 0),.x (.int .i64 3)]∧H'=[]):=by
 have hV:=XpD l hl
 rw [←rxv l hl,hv] at hV
 have hV:=Lib.hid hV
 refine XaV Tryz.func8 Tryz.ntmps8 ?_
 (repeat' (first|refine Wkx.go ?_|(refine Xaz (fun h=>?_) (fun h=>?_)<;>first|(exact absurd h (by decide))|skip)|refine Xad ?_ (h:=by exact fun _=>Xbb rfl rfl Tryz.func21 (hV.out))|refine Xad ?_|fail))
 refine Xaa _ _ (XbR rfl (RV.tmp _) (RV.tmp _) (Xaj.mk' [] [] (Xyo _) Xak.nil (VwL.refl _ _))) ⟨rfl,rfl⟩
theorem XjO (l:List Nd) (hl:l.length≤256) (hv:XbW l=true):Xay Tryz.prog 8 [] [.sq l.length (nda l)] (fun r H'=>r=.tup [.sq (XbU l).length (sxa (XbU l)),.x (.int .i64 0)]∧H'=[]):=by
 have hV:=XpD l hl
 obtain ⟨-,h0,ht⟩:=Xd7 hv
 rw [←rxv l hl,hv] at hV
 clear hv
 have hV:=Lib.hid hV
 have hA:=Lib.hid (fun bb=>(XpV bb l).out)
 have hB:=fun bb g cap=>Xtd l hl ht (by omega) bb ([]++[⟨2,0,0,0⟩]++[⟨5,0,0,0⟩]) ([]++[(⟨2,0,0,0⟩:Sx)]).length g cap l.length (by omega) (by decide) (by simp;omega)
 have hb2:=Xbm ht l.length ([]++[⟨2,0,0,0⟩]++[⟨5,0,0,0⟩]) ([]++[(⟨2,0,0,0⟩:Sx)]).length (by omega) (by decide)
 obtain ⟨t,hpre⟩:=Xnw ht l.length ([]++[⟨2,0,0,0⟩]++[⟨5,0,0,0⟩]) ([]++[(⟨2,0,0,0⟩:Sx)]).length (by omega)
 rw [Xi2]
 generalize bld l.length l ([]++[⟨2,0,0,0⟩]++[⟨5,0,0,0⟩]) (l.length - 1) ([]++[(⟨2,0,0,0⟩:Sx)]).length=B at *
 obtain ⟨c1,css⟩:=B
 simp only at hB hpre hb2 ⊢
 have hB:=Lib.hid hB
 have hs1:(l.length:Int) - 1=((l.length - 1:Nat):Int):=by omega
 have h02:0 < css.length:=by have:=hb2.1;simp at this;omega
 have hlen:css.length≤600:=by have:=hb2.2.1;simp at this;omega
 have hat:css[0]=⟨2,0,0,0⟩:=by
  have h9:css[0]?=some ⟨2,0,0,0⟩:=by rw [hpre];rfl
  exact (List.getElem?_eq_some_iff.1 h9).2
 have hsp1:spl (sxa css) 1 [.x (.int .i64 (c1:Nat))]=sxa (css.set 0 ⟨2,c1,0,0⟩):=by
  have q:=XgK css 0 c1 h02
  rw [hat] at q
  exact q
 have hsp2:spl (sxa (css.set 0 ⟨2,c1,0,0⟩)) 2 [.x (.int .i64 (c1:Nat))]=sxa (css.set 0 ⟨2,c1,c1,0⟩):=by
  have q:=Xh8 (css.set 0 ⟨2,c1,0,0⟩) 0 c1 (by simpa using h02)
  rw [List.set_set] at q
  simpa using q
 clear hb2 ht hpre hat
 refine XaV Tryz.func8 Tryz.ntmps8 ?_
 refine Xa3 76 7 ?_
 (have wx:=@hs1;(repeat' (first|refine Wkx.go ?_|(refine Xaz (fun h=>?_) (fun h=>?_)<;>first|(exact absurd h (by decide))|skip)|refine Xad ?_ (h:=by exact fun _=>Xbb rfl rfl Tryz.func21 (hV.out))|refine Xad ?_|(refine Xab rfl ?_;(first|((refine Xau 22 Tryz.f22 [_,_] _ _ _ rfl rfl Tryz.func22 (by decide) rfl (Xyo _) (VwL.refl _ _) (hA.out _ [] none 0 2 0 0 0 _ _ _ _ _ _ _ rfl rfl rfl (by rw [XaU];rfl) (by rw [XaU];rfl) (by rw [XaU];rfl) (by rw [XaU];rfl) (by decide)) ?_;rintro _ _ ⟨g,cap,rfl,rfl⟩);refine XaJ ?_)|((refine Xau 22 Tryz.f22 [_,_] _ _ _ rfl rfl Tryz.func22 (by decide) rfl (Xyo _) (VwL.refl _ _) (hA.out _ ([]++[⟨2,0,0,0⟩]) _ _ 5 0 0 0 _ _ _ _ _ _ _ rfl rfl rfl (by rw [XaU];rfl) (by rw [XaU];rfl) (by rw [XaU];rfl) (by rw [XaU];rfl) (by decide)) ?_;rintro _ _ ⟨g,cap,rfl,rfl⟩);refine XaJ ?_)|((refine Xau 23 Tryz.f23 [_,_] _ _ _ rfl rfl Tryz.func23 (by decide) rfl (Xyo _) (VwL.refl _ _) (hB.out _ _ _) ?_;rintro _ _ ⟨g,cap,rfl,rfl⟩);refine XaJ ?_)|refine Xg3 ?_|refine Xd9 (fun b=>?_)))|fail)))<;>(try clear wx)
 rw [hsp1]
 (repeat' (first|refine Wkx.go ?_|refine Xad ?_|(refine Xab rfl ?_;(refine Xg3 ?_))|fail))
 rw [hsp2]
 refine Xaa _ _ (XbR rfl (RV.tmp _) (RV.tmp _) (Xaj.mk' [_,_] [] (Xyo _) Xak.nil (VwL.cons (Vw.row (List.Mem.tail _ (List.Mem.head _)) (VwL.refl _ _)) (VwL.refl _ _)))) ⟨?_,rfl⟩
 rw [List.length_set]
 rfl
theorem XiG (l:List Nd) (hl:l.length≤256):Xay Tryz.prog 8 [] [.sq l.length (nda l)] (fun r H'=>r=Xqm l∧H'=[]):=by
 unfold Xqm
 by_cases hv:XbW l=true
 ·rw [if_pos hv];exact XjO l hl hv
 ·rw [if_neg hv];exact Xmh l hl (by simpa using hv)
theorem XpC (l:List Sx) (hl:l.length≤140737488355328):RowKit.Hid (∀k:Nat,Xay Tryz.prog 53 [] [.x (.int .i64 k),.at_ [.sq l.length (sxa l)]] (fun r H'=>r=.x (.bool (decide (l.length≤k)))∧H'=[])):=Lib.hid fun k=>by
 refine XaV Tryz.func53 Tryz.ntmps53 ?_
 (repeat' (first|refine Wkx.go ?_|refine Xad ?_|fail))
 refine Xaa _ _ (XaF rfl (RV.tmp _) (Xaj.mk' [] [] (Xyo _) Xak.nil (VwL.refl _ _))) ⟨?_,rfl⟩
 refine congrArg (fun q=>AV.x (.bool q)) ?_
 first|rfl|fail
theorem Xry (n:Nat) (s:Sx) (h:(s.kind=2∧s.out < n∧s.other < n)∨((s.kind=1∨s.kind=3∨s.kind=4)∧s.out < n)∨s.kind=5):XgU n s=true:=by
 unfold XgU
 by_cases h2:s.kind=2
 ·rw [if_pos h2,decide_eq_true (show s.out < n by omega),decide_eq_true (show s.other < n by omega)];rfl
 rw [if_neg h2]
 by_cases h3:s.kind=1∨s.kind=3∨s.kind=4
 ·rw [if_pos h3];exact decide_eq_true (by omega)
 ·rw [if_neg h3];exact decide_eq_true (by omega)
theorem XuO (n:Nat) (s:Sx) (h:¬((s.kind=2∧s.out < n∧s.other < n)∨((s.kind=1∨s.kind=3∨s.kind=4)∧s.out < n)∨s.kind=5)):XgU n s=false:=by
 unfold XgU
 by_cases h2:s.kind=2
 ·rw [if_pos h2]
  by_cases h4:s.out < n
  ·rw [decide_eq_false (show ¬s.other < n by omega),Bool.and_false]
  ·rw [decide_eq_false h4,Bool.false_and]
 rw [if_neg h2]
 by_cases h3:s.kind=1∨s.kind=3∨s.kind=4
 ·rw [if_pos h3];exact decide_eq_false (by omega)
 ·rw [if_neg h3];exact decide_eq_false (by omega)
theorem Xla (l:List Sx) (hl:l.length≤140737488355328):Xay Tryz.prog 24 [] [.sq l.length (sxa l)] (fun r H'=>r=.x (.bool (Xa5 l))∧H'=[]):=by
 have h1:=XpC l hl
 generalize hV0:l.all (XgU l.length)=V
 have hV0:=Lib.hid hV0
 refine XaV Tryz.func24 Tryz.ntmps24 ?_
 (repeat' (first|refine Wkx.go ?_|(refine Xaz (fun h=>?_) (fun h=>?_)<;>skip)|refine Xad ?_|(refine Xab rfl ?_;(refine Xd9 (fun b=>?_)))|fail))
 ·refine Xaa _ _ (XaF rfl (RV.tmp _) (Xaj.mk' [_] [] (Xyo _) Xak.nil (VwL.refl _ _))) ⟨?_,rfl⟩
  refine congrArg (fun q=>AV.x (.bool q)) ?_
  unfold Xa5
  rcases h with h|h
  ·rw [show l.length=0 by omega];rfl
  ·rw [show decide (l.length≤513)=false from decide_eq_false (by omega)];simp
 rename_i h
 have hs:Xa5 l=V:=by
  unfold Xa5
  rw [decide_eq_true (show l.length≠0 by omega),decide_eq_true (show l.length≤513 by omega),hV0.out]
  rfl
 rw [hs]
 clear hs h
 refine Xah (S:=Nat) (fun q=>frm 46 [(1,.x (.pointer (some ⟨b,0,none⟩))),(2,.x (.bool false)),(3,.x (.func (.func 53) #[] #[.pointer (some ⟨b,0,none⟩)])),(15,.sq l.length (sxa l)),(16,.x (.int .i64 l.length)),(17,.x (.int .i64 (q:Nat)))]) (fun q=>[.box b [.sq l.length (sxa l)]]) (fun q=>q≤l.length∧(l.drop q).all (XgU l.length)=V) (fun q=>l.length - q) 0 (XaX (D:=[])) ⟨Nat.zero_le _,hV0.out⟩ fun q hq=>?_
 clear hV0
 obtain ⟨b1,hV⟩:=hq
 simp only [wfr]
 by_cases hlt:q < l.length
 ·rw [List.drop_eq_getElem_cons hlt,List.all_cons] at hV
  have hV:=Lib.hid hV
  (have wx:=And.intro @Xia (And.intro @Sx.cells.eq_1 @Xig);(repeat' (first|refine Wkx.go ?_|(refine Xaz (fun h=>?_) (fun h=>?_)<;>first|(exfalso;omega;done)|skip)|refine Xad ?_ (h:=by exact fun _=>XdD rfl rfl Tryz.func53 (hS:=h1.out _))|refine Xad ?_ (h:=by (intro hp;(try simp only [wgp] at hp);(try simp only [hp,wte]);(try simp only [whn] at hp);exact XdD rfl rfl Tryz.func53 (hS:=h1.out _)))|refine Xad ?_|(refine Xab rfl ?_;(first|refine Xbh ?_|refine Xb8 (fun b=>?_)))|fail)))<;>(try clear wx)
  all_goals
   have hV:=hV.out
   first
   | refine ⟨q+1,by omega,⟨by omega,?_⟩,?_⟩
     rotate_left
     ·exact (XaX (D:=[_]) (R:=[_]))
     ·rw [Xry _ _ (by omega),Bool.true_and] at hV
      exact hV
   | rw [XuO _ _ (by omega),Bool.false_and] at hV
     subst hV
     refine Xaa _ _ (XaF rfl (RV.tmp _) (Xaj.mk' [_,_] [] (Xyo _) Xak.nil (VwL.refl _ _))) ⟨rfl,rfl⟩
 ·have hV:=Lib.hid hV
  (repeat' (first|refine Wkx.go ?_|(refine Xaz (fun h=>?_) (fun h=>?_)<;>first|(exfalso;omega;done)|skip)|refine Xad ?_|fail))
  have hV:=hV.out
  rw [List.drop_of_length_le (by omega)] at hV
  subst hV
  refine Xaa _ _ (XaF rfl (RV.tmp _) (Xaj.mk' [_] [] (Xyo _) Xak.nil (VwL.refl _ _))) ⟨rfl,rfl⟩
end Go.Proofs.YtdlblokjfoggpaaGreatDoor

import Derived.Test.YtdlblokjfoggpaaGreatDoorW7
import Derived.Test.YtdlblokjfoggpaaGreatDoorW10
import Derived.Test.YtdlblokjfoggpaaGreatDoorW39
import Derived.Test.YtdlblokjfoggpaaGreatDoorW38
import Derived.Test.YtdlblokjfoggpaaGreatDoorW9
import Derived.Test.YtdlblokjfoggpaaGreatDoorW12
import Derived.Test.YtdlblokjfoggpaaGreatDoorW25
/- The reference's patterns: sets of bytes. -/
set_option linter.unusedSimpArgs false
set_option linter.unusedVariables false
set_option maxRecDepth 100000
set_option maxHeartbeats 8000000
namespace Go.Proofs.YtdlblokjfoggpaaGreatDoor
open Go.RowKit
theorem XwH (n c:Nat) (h:c < 256):spl (w4 n) (c / 64) [.x (.int .u64 ((wd n (c / 64) ||| Xqf (c % 64):Nat):Int))]=w4 (n ||| 1 <<< c):=by rw [XsM _ _ h]
theorem XgH (n c:Nat) (hc:c < 256):Xay Tryz.prog 134 [] [.x (v4 n),.x (.int .u8 c)] (fun r H'=>r=.x (v4 (n ||| 1 <<< c))∧H'=[]):=by
 have hp:=Lib.hid (XwH n c hc)
 refine XaV Tryz.func134 Tryz.ntmps134 ?_
 (have wx:=And.intro @XaD (And.intro @XaT (And.intro @XmU (And.intro @Nat.mul_one (And.intro @Nat.zero_add (And.intro @w4r @hp.out)))));(repeat' (first|refine Wkx.go ?_|refine XgO ?_|(refine Xab rfl ?_;(first|refine Xbh ?_|refine Xd9 (fun b=>?_)|refine Xb8 (fun b=>?_)))|fail)))<;>(try clear wx)
 refine Xaa _ _ (XaF rfl (RV.cell 0 rfl rfl XaI.out (by simp) (by simp)) (Xaj.mk' [_,_] [] (Xyo _) Xak.nil (VwL.refl _ _))) ?_
 exact ⟨rfl,rfl⟩
theorem Xsm (m:Nat):Xay Tryz.prog 133 [] [.x (v4 m)] (fun r H'=>r=.x (v4 (Xfg m))∧H'=[]):=by
 unfold v4
 refine XaV Tryz.func133 Tryz.ntmps133 ?_
 (repeat' (first|refine Wkx.go ?_|refine Xad ?_|(refine Xab rfl ?_;(first|refine Xd9 (fun b=>?_)|refine Xb8 (fun b=>?_)))|fail))
 rename_i ba
 refine Xah (S:=Nat) (fun c=>frm 15 [(1,.x (.pointer (some ⟨ba,0,none⟩))),(2,.x (.pointer (some ⟨b,0,none⟩))),(3,.x (.int .i64 c))]) (fun c=>[.box b (w4 0),.box ba (w4m m (Xfg m) c)]) (fun c=>c≤4) (fun c=>4 - c) 0 (Xaj.mk' [] _ (Xyo _) (Xak.refl _ _) (by (repeat' (first|exact VwL.nil|(refine VwL.cons ?_ ?_)|exact Vw.refl _|exact Vw.top _|fail)))) (Nat.zero_le _) fun c hc=>?_
 simp only [wfr]
 by_cases h4:c < 4
 ·have hw:=XlK m c h4
  (have wx:=And.intro @Nat.mul_one (And.intro @Nat.zero_add (And.intro @XlG (And.intro (hw).symm @Xih)));(repeat' (first|refine Wkx.go ?_|(refine Xaz (fun h=>?_) (fun h=>?_)<;>first|(exfalso;omega;done)|skip)|refine XgO ?_|(refine Xab rfl ?_;(refine Xbh ?_))|fail)))<;>(try clear wx)
  exact ⟨c+1,by omega,by omega,(XaX (D:=[]))⟩
 ·obtain rfl:c=4:=by omega
  rw [XfX]
  (have wx:=@w4r;(repeat' (first|refine Wkx.go ?_|(refine Xaz (fun h=>?_) (fun h=>?_)<;>first|(exact absurd h (by decide))|skip)|refine Xad ?_|(refine Xab rfl ?_;(refine Xbh ?_))|fail)))<;>(try clear wx)
  refine Xaa _ _ (XaF rfl (RV.cell 0 rfl rfl XaI.out (by simp) (by simp)) (Xaj.mk' [_,_] [] (Xyo _) Xak.nil (VwL.refl _ _))) ?_
  exact ⟨rfl,rfl⟩
theorem Xd2 (m n:Nat):Xay Tryz.prog 162 [] [.x (v4 m),.x (v4 n)] (fun r H'=>r=.x (v4 (m ||| n))∧H'=[]):=by
 unfold v4
 refine XaV Tryz.func162 Tryz.ntmps162 ?_
 (repeat' (first|refine Wkx.go ?_|refine Xad ?_|(refine Xab rfl ?_;(first|refine Xd9 (fun b=>?_)|refine Xb8 (fun b=>?_)))|fail))
 rename_i ba bb
 refine Xah (S:=Nat) (fun c=>frm 20 [(2,.x (.pointer (some ⟨ba,0,none⟩))),(3,.x (.pointer (some ⟨bb,0,none⟩))),(4,.x (.pointer (some ⟨b,0,none⟩))),(5,.x (.int .i64 c))]) (fun c=>[.box b (w4 0),.box bb (w4 n),.box ba (w4m m (m ||| n) c)]) (fun c=>c≤4) (fun c=>4 - c) 0 (Xaj.mk' [] _ (Xyo _) (Xak.refl _ _) (by (repeat' (first|exact VwL.nil|(refine VwL.cons ?_ ?_)|exact Vw.refl _|exact Vw.top _|fail)))) (Nat.zero_le _) fun c hc=>?_
 simp only [wfr]
 by_cases h4:c < 4
 ·(repeat' (first|refine Wkx.go ?_|(refine Xaz (fun h=>?_) (fun h=>?_)<;>first|(exfalso;omega;done)|skip)|refine Xad ?_|fail))
  refine Xhz mixed [9] ?_
  (have wx:=And.intro @XmU @XlG;((first|refine Xdh 0 ?_|fail);(first|refine Xdh 1 ?_|fail);(first|refine Xdh 2 ?_|fail);(first|refine Xdr 3 ?_|fail);(first|refine Xdh 4 ?_|fail);(first|refine Xdh 5 ?_|fail);(first|refine Xdr 6 ?_|fail);(first|refine Xdh 7 ?_|fail);(first|refine Xdh 8 ?_|fail)))<;>(try clear wx)
  refine XaG (by decide +kernel) ?_
  refine Xai rfl (by simp only [Xyz,Xyy];rfl) ?_
  (have wx:=And.intro @Nat.mul_one (And.intro @Nat.zero_add (And.intro (fun x y k=>(XuW x y k).symm) @Xih));(refine Xd8 9 ?_;(first|refine Xbh ?_|fail)))<;>(try clear wx)
  refine Xao (by decide +kernel) ?_
  (repeat' (first|refine Wkx.go ?_|refine Xad ?_|fail))
  exact ⟨c+1,by omega,by omega,(XaX (D:=[]))⟩
 ·obtain rfl:c=4:=by omega
  rw [XfX]
  (have wx:=@w4r;(repeat' (first|refine Wkx.go ?_|(refine Xaz (fun h=>?_) (fun h=>?_)<;>first|(exact absurd h (by decide))|skip)|refine Xad ?_|(refine Xab rfl ?_;(refine Xbh ?_))|fail)))<;>(try clear wx)
  refine Xaa _ _ (XaF rfl (RV.cell 0 rfl rfl XaI.out (by simp) (by simp)) (Xaj.mk' [_,_,_] [] (Xyo _) Xak.nil (VwL.refl _ _))) ?_
  exact ⟨rfl,rfl⟩
theorem Xrt (a c:Nat) (h:a≤c):Xc2 a c ||| 1 <<< c=Xc2 a (c+1):=by
 unfold Xc2;rw [Xhl a c h]
theorem Xe3 (x y:Nat) (hx:x < 256) (hy:y < 256):Xay Tryz.prog 178 [] [.x (.int .i64 x),.x (.int .i64 y)] (fun r H'=>r=.x (v4 (XaM x y))∧H'=[]):=by
 refine XaV Tryz.func178 Tryz.ntmps178 ?_
 (repeat' (first|refine Wkx.go ?_|refine Xad ?_|(refine Xab rfl ?_;(refine Xb8 (fun b=>?_)))|fail))
 rename_i br
 rw [←Xfq,←(by rw [Xhk]:w4 (Xc2 x x)=w4 0)]
 refine Xah (S:=Nat) (fun c=>frm 18 [(0,.x (.int .i64 x)),(1,.x (.int .i64 y)),(4,.x (.pointer (some ⟨br,0,none⟩))),(5,.x (.pointer (some ⟨b,0,none⟩))),(6,.x (.int .i64 c))]) (fun c=>[.box b (w4 (Xc2 x c)),.box br (w4 (Xc2 x x))]) (fun c=>x≤c∧(c≤y+1∨c=x)) (fun c=>257 - c) x (XaX (D:=[])) ⟨Nat.le_refl _,.inr rfl⟩ fun c hc=>?_
 obtain ⟨hc1,hc2⟩:=hc
 simp only [wfr]
 by_cases hcy:c≤y
 ·have hW:=XgH (Xc2 x c) c (by omega)
  rw [Xrt x c hc1] at hW
  have hW:=Lib.hid hW
  (have wx:=And.intro @w4r (And.intro @XaD @XaT);(repeat' (first|refine Wkx.go ?_|(refine Xaz (fun h=>?_) (fun h=>?_)<;>first|(exfalso;omega;done)|skip)|refine Xad ?_ (h:=by exact fun _=>Xbb rfl rfl Tryz.func134 (hW.out))|refine Xad ?_|(refine Xab rfl ?_;(refine Xbh ?_))|fail)))<;>(try clear wx)
  exact ⟨c+1,by omega,⟨by omega,by omega⟩,(XaX (D:=[]))⟩
 ·(have wx:=@w4r;(repeat' (first|refine Wkx.go ?_|(refine Xaz (fun h=>?_) (fun h=>?_)<;>first|(exfalso;omega;done)|skip)|refine Xad ?_|(refine Xab rfl ?_;(refine Xbh ?_))|fail)))<;>(try clear wx)
  refine Xaa _ _ (XaF rfl (RV.cell 1 rfl rfl XaI.out (by simp) (by simp)) (Xaj.mk' [_,_] [] (Xyo _) Xak.nil (VwL.refl _ _))) ?_
  refine ⟨?_,rfl⟩
  have e:Xc2 x c=XaM x y:=by
   unfold Xc2 XaM
   congr 2
   omega
  rw [←e]
  rfl
theorem Xur (c:Nat) (hc:c < 256):Xay Tryz.prog 179 [] [.x (.int .u8 c)] (fun r H'=>r=.x (.bool (Xsf c))∧H'=[]):=by
 refine XaV Tryz.func179 Tryz.ntmps179 ?_
 (repeat' (first|refine Wkx.go ?_|refine Xad ?_|fail))
 refine Xaa _ _ (XaF rfl (RV.tmp _) (XcS (D:=[]))) ?_
 exact ⟨congrArg (fun q=>AV.x (.bool q)) (Xsg c),rfl⟩
def XgA (n:Nat):Nat:=((List.range' 0 256).find? fun c=>n.testBit c).getD 0
theorem Xlb (n:Nat):XgA n < 256:=by
 unfold XgA
 cases h:(List.range' 0 256).find? fun c=>n.testBit c with
 | none=>decide
 | some c=>
   have:=List.mem_of_find?_eq_some h
   rw [List.mem_range'_1] at this
   simp only [Option.getD_some];omega
theorem Xus (n:Nat):Xay Tryz.prog 181 [] [.x (v4 n)] (fun r H'=>r=.x (.int .i64 (XgA n))∧H'=[]):=by
 unfold XgA
 generalize hR0:((List.range' 0 256).find? fun c=>n.testBit c)=R
 have hR0:=Lib.hid hR0
 refine XaV Tryz.func181 Tryz.ntmps181 ?_
 (have wx:=And.intro @XaD @XaT;(repeat' (first|refine Wkx.go ?_|refine Xad ?_|(refine Xab rfl ?_;(refine Xd9 (fun b=>?_)))|fail)))<;>(try clear wx)
 refine Xah (S:=Nat) (fun k=>frm 13 [(1,.x (.pointer (some ⟨b,0,none⟩))),(2,.x (.int .i64 0)),(3,.x (.int .i64 (k:Nat)))]) (fun k=>[.box b (w4 n)]) (fun k=>k≤256∧((List.range' k (256 - k)).find? fun c=>n.testBit c)=R) (fun k=>256 - k) 0 (XaX (D:=[])) ⟨by omega,hR0.out⟩ fun k hk=>?_
 obtain ⟨hk1,hk2⟩:=hk
 simp only [wfr]
 by_cases hlt:k < 256
 ·rw [show 256 - k=(256 - (k+1))+1 from by omega,List.range'_succ,List.find?_cons] at hk2
  have hH:=XoZ n k hlt
  generalize n.testBit k=q at *
  have hH:=Lib.hid hH
  (have wx:=@w4r;(repeat' (first|refine Wkx.go ?_|(refine Xaz (fun h=>?_) (fun h=>?_)<;>first|(exfalso;omega;done)|skip)|refine Xad ?_ (h:=by exact fun _=>Xbb rfl rfl Tryz.func95 (hH.out))|refine Xad ?_|fail)))<;>(try clear wx)
  ·rename_i h
   subst h
   simp only at hk2
   refine Xaa _ _ (XaF rfl (RV.tmp _) (Xaj.mk' [_] [] (Xyo _) Xak.nil (VwL.refl _ _))) ⟨by rw [←hk2];rfl,rfl⟩
  ·rename_i h
   subst h
   simp only at hk2
   exact ⟨k+1,by omega,⟨by omega,hk2⟩,(XaX (D:=[]))⟩
 ·obtain rfl:k=256:=by omega
  simp only [Nat.sub_self,List.range'_zero,List.find?_nil] at hk2
  (repeat' (first|refine Wkx.go ?_|(refine Xaz (fun h=>?_) (fun h=>?_)<;>first|(exact absurd h (by decide))|skip)|refine Xad ?_|fail))
  refine Xaa _ _ (XaF rfl (RV.tmp _) (Xaj.mk' [_] [] (Xyo _) Xak.nil (VwL.refl _ _))) ⟨by rw [←hk2];rfl,rfl⟩
theorem or0 (c:Nat):0 ||| 1 <<< c=XaM c c:=by
 unfold XaM
 rw [show c+1 - c=1 from by omega]
 rfl
def XpO (c:Nat):Nat × Bool × Bool:=
 if c=110 then (XaM 10 10,true,true) else if c=116 then (XaM 9 9,true,true) else if c=114 then (XaM 13 13,true,true) else
 if c=100 then (XaM 48 57,false,true) else
 if c=119 then ((XaM 97 122 ||| XaM 65 90) ||| (XaM 48 57 ||| XaM 95 95),false,true) else
 if c=115 then ((XaM 32 32 ||| XaM 9 10) ||| XaM 13 13,false,true) else
 if Xsf c then (XaM c c,true,true) else (0,false,false)
theorem XxL:Value.agg #[.int .u64 0,.int .u64 0,.int .u64 0,.int .u64 0]=v4 0:=by rw [Xcs]
theorem XtZ (c:Nat) (hc:c < 256):Xay Tryz.prog 161 [] [.x (.int .u8 c)] (fun r H'=>r=.tup [.x (v4 (XpO c).1),.x (.bool (XpO c).2.1),.x (.bool (XpO c).2.2)]∧H'=[]):=by
 have hW:=Lib.hid (fun k (hk:k < 256)=>(or0 k▸XgH 0 k hk))
 have hM:=Xur c hc
 have h10:=Lib.hid (hW.out 10 (by decide))
 have h9:=Lib.hid (hW.out 9 (by decide))
 have h13:=Lib.hid (hW.out 13 (by decide))
 have h95:=Lib.hid (hW.out 95 (by decide))
 have h32:=Lib.hid (hW.out 32 (by decide))
 have hcc:=Lib.hid (hW.out c hc)
 have r1:=Lib.hid (Xe3 48 57 (by decide) (by decide))
 have r2:=Lib.hid (Xe3 97 122 (by decide) (by decide))
 have r3:=Lib.hid (Xe3 65 90 (by decide) (by decide))
 have r4:=Lib.hid (Xe3 9 10 (by decide) (by decide))
 have u1:=Lib.hid (Xd2 (XaM 97 122) (XaM 65 90))
 have u2:=Lib.hid (Xd2 (XaM 48 57) (XaM 95 95))
 have u3:=Lib.hid (Xd2 (XaM 97 122 ||| XaM 65 90) (XaM 48 57 ||| XaM 95 95))
 have u4:=Lib.hid (Xd2 (XaM 32 32) (XaM 9 10))
 have u5:=Lib.hid (Xd2 (XaM 32 32 ||| XaM 9 10) (XaM 13 13))
 unfold XpO
 generalize Xsf c=mk at *
 have hM:=Lib.hid hM
 refine XaV Tryz.func161 Tryz.ntmps161 ?_
 (have wx:=And.intro @XxL (And.intro @XaD @XaT);(repeat' (first|refine Wkx.go ?_|(refine Xaz (fun h=>?_) (fun h=>?_)<;>skip)|refine Xad ?_ (h:=by exact fun _=>Xbb rfl rfl Tryz.func134 (h10.out))|refine Xad ?_ (h:=by exact fun _=>Xbb rfl rfl Tryz.func134 (h9.out))|refine Xad ?_ (h:=by exact fun _=>Xbb rfl rfl Tryz.func134 (h13.out))|refine Xad ?_ (h:=by exact fun _=>Xbb rfl rfl Tryz.func134 (h95.out))|refine Xad ?_ (h:=by exact fun _=>Xbb rfl rfl Tryz.func134 (h32.out))|refine Xad ?_ (h:=by exact fun _=>Xbb rfl rfl Tryz.func134 (hcc.out))|refine Xad ?_ (h:=by exact fun _=>Xbb rfl rfl Tryz.func178 (r1.out))|refine Xad ?_ (h:=by exact fun _=>Xbb rfl rfl Tryz.func178 (r2.out))|refine Xad ?_ (h:=by exact fun _=>Xbb rfl rfl Tryz.func178 (r3.out))|refine Xad ?_ (h:=by exact fun _=>Xbb rfl rfl Tryz.func178 (r4.out))|refine Xad ?_ (h:=by exact fun _=>Xbb rfl rfl Tryz.func162 (u1.out))|refine Xad ?_ (h:=by exact fun _=>Xbb rfl rfl Tryz.func162 (u2.out))|refine Xad ?_ (h:=by exact fun _=>Xbb rfl rfl Tryz.func162 (u3.out))|refine Xad ?_ (h:=by exact fun _=>Xbb rfl rfl Tryz.func162 (u4.out))|refine Xad ?_ (h:=by exact fun _=>Xbb rfl rfl Tryz.func162 (u5.out))|refine Xad ?_ (h:=by exact fun _=>Xbb rfl rfl Tryz.func179 (hM.out))|refine Xad ?_|(refine Xab rfl ?_;(first|refine Xbh ?_|refine Xb8 (fun b=>?_)))|fail)))<;>(try clear wx)
 all_goals
  refine Xaa _ _ (XwP rfl (RV.cell 0 rfl rfl XaI.out (by simp) (by simp;omega)) (RV.tmp _) (RV.tmp _) (Xaj.mk' [_] [] (Xyo _) Xak.nil (VwL.refl _ _))) ⟨?_,rfl⟩
  repeat (first|rw [if_pos (by omega)]|rw [if_neg (by omega)]|rw [if_neg (by simp only [‹mk=false›];decide)]|fail)
  rfl
def pk (s:List UInt8) (a d:Nat) (e:Int):List AV:=[.x (.string (bs s)),.x (.int .i64 a),.x (.int .i64 d),.x (.int .i64 e)]
theorem Xfo (pb:Nat) (s:List UInt8) (a d:Nat) (e c:Int):Xay Tryz.prog 20 [.box pb (pk s a d e)] [.x (.pointer (some ⟨pb,0,none⟩)),.x (.int .i64 c)] (fun r H'=>r=.x (.tuple #[])∧H'=[.box pb (pk s a d (if e=0 then c else e))]):=by
 unfold pk
 refine XaV Tryz.func20 Tryz.ntmps20 ?_
 (repeat' (first|refine Wkx.go ?_|(refine Xaz (fun h=>?_) (fun h=>?_)<;>skip)|refine Xad ?_|(refine Xab rfl ?_;(refine Xbh ?_))|fail))
 all_goals
  refine XbF _ _ (Xfa rfl (Xaj.mk' [] _ (Xyo _) (Xak.refl _ _) VwL.nil)) ⟨rfl,?_⟩
  first|rw [if_pos (by assumption)]|rw [if_neg (by assumption)]|fail
def Xg2 (o:Oper):Oper:={ o with after:=o.after.filter (Region.binds .any) }
section
variable {P:Program} {Q:Xb9} {T:List AV} {H R:List Hp} {B:List Hp}
theorem XjW (l:List Oper) (i:Nat):(l.map Xg2).toArray[i]?=(l.toArray[i]?).map Xg2:=by simp
theorem Xe2 (l:List Oper) (listed:Array Bool):Region.ready .any (l.map Xg2).toArray listed=Region.ready .any l.toArray listed:=by
 unfold Region.ready
 simp only [List.size_toArray,List.length_map]
 apply List.filter_congr
 intro i hi
 rw [XjW]
 cases h:l.toArray[i]? with
 | none=>rfl
 | some o=>
   simp only [Option.map_some,Xg2]
   congr 1
   simp only [Option.getD_some]
   rw [Bool.eq_iff_iff,Array.all_eq_true_iff_forall_mem,Array.all_eq_true_iff_forall_mem]
   constructor
   ·intro hh e he
    cases hb:Region.binds .any e with
    | false=>simp
    | true=>
      have:=hh e (Array.mem_filter.2 ⟨he,hb⟩)
      simpa [hb] using this
   ·intro hh e he
    obtain ⟨h1,h2⟩:=Array.mem_filter.1 he
    exact hh e h1
theorem XkF (l:List Oper) (tmps:Array Value):yielded (l.map Xg2).toArray tmps=yielded l.toArray tmps:=by
 funext j
 unfold yielded
 rw [XjW]
 cases l.toArray[j]?<;>rfl
theorem XlM {q:Exit→Act→World→Prop} (l:List Oper) (i:Nat) (K:Act→World→Prop) (a:Act) (w:World):wpOp P (l.map Xg2).toArray q i K a w=wpOp P l.toArray q i K a w:=by
 unfold wpOp
 rw [XjW,XkF]
 cases l.toArray[i]?<;>rfl
theorem Xje {q:Exit→Act→World→Prop} (l:List Oper):∀(fuel:Nat) (listed:Array Bool) (a:Act) (w:World),wpAny P .any (l.map Xg2).toArray q fuel listed a w→wpAny P .any l.toArray q fuel listed a w
 | 0,listed,a,w,h=>by
   unfold wpAny at h ⊢
   rw [Xe2] at h
   exact h
 | fuel+1,listed,a,w,h=>by
   unfold wpAny at h ⊢
   rw [Xe2] at h
   refine ⟨h.1,fun i hi=>?_⟩
   have:=h.2 i hi
   rw [XlM] at this
   exact wpOp_mono (fun a' w' h'=>Xje l fuel _ a' w' h') this
theorem Xp8 {l:List Oper} {fuel:Nat} {listed:Array Bool} (h:Xfd P (l.map Xg2).toArray Q fuel listed T H):Xfd P l.toArray Q fuel listed T H:=fun Δ V O w0 a w r=>Xje l fuel listed a w (h Δ V O w0 a w r)
theorem Xp6 {l:List Oper} (pi L D:List Nat) (n0:Option Nat) (z:List AV) (k:Nat) (hp:H.Perm (B++R)) (hok:Xou l pi L D n0=true) (hd:(l.all fun o=>match o.dst with|some d=>decide (d < T.length)|none=>true)=true)
  (hal:∀(i:Nat) (o:Oper),n0=some i→Xc3 l i=some o→∀(T:List AV) (H:List Hp),Stp P o T H (fun T' H'=>∃b,T'=Xa9 T o.dst (.x (.pointer (some ⟨b,0,none⟩)))∧H'=.box b z :: H))
  (hk:cnt (fun j=>(XcQ l.length D).getD j false) l.length=k) (h:dm P B l L pi T R (Xml P B l D n0 z Q k)):Xfd P l.toArray Q l.length (Array.replicate l.length false) T H:=by
 have ok:=Xk8 hok
 intro Δ V O w0 a w r
 obtain ⟨q,rest',es',T',g1,g2,g3,g4,g5,g6⟩:=XkM ok pi [] (fun _=>.top) T R ⟨rfl,by
  rw [Xgv l _ T _ (fun _=>false) _ fun j _=>by simp]
  have:∀k,XcB l (fun _=>.top) T (fun _=>false) k=T:=fun k=>by
   induction k with
   | zero=>rfl
   | succ k ih=>simp [XcB,ih]
  rw [this],fun k i o hk=>by simp at hk⟩ h
 have hgd:∀j,(Array.replicate l.length false).getD j false=false:=fun j=>by
  by_cases hj:j < l.length<;>simp [hj]
 refine Xov ok (fun i o d ho hod=>?_) (fun i o hi ho=>hal i o hi (by rw [Xbz];exact ho)) hk Δ V O w0 l.length _ a w q rest' es' T' R [] (by simp) (fun j q hj hs=>by rw [hgd] at hs;cases hs) ?_ (by simpa using g2) g3 g4 (fun j _=>hgd j) (fun j _=>hgd j) (fun j hj hL=>absurd hL (g6 j hj)) (fun i _=>⟨fun h=>(by rw [hgd] at h;cases h),fun _=>rfl⟩) (fun _=>rfl) ?_
 ·rw [List.all_eq_true] at hd
  have:=hd o (List.mem_of_getElem? ho)
  rw [hod] at this
  simpa using this
 ·rw [Xql _ (fun _=>false) _ fun j _=>hgd j]
  have:∀k,cnt (fun _=>false) k=k:=fun k=>by
   induction k with
   | zero=>rfl
   | succ k ih=>simp [cnt,ih]
  exact this _
 ·rw [Xgv l es' T _ (fun _=>false) _ fun j _=>hgd j]
  have:∀k,XcB l es' T (fun _=>false) k=T:=fun k=>by
   induction k with
   | zero=>rfl
   | succ k ih=>simp [XcB,ih]
  rw [this]
  simpa using r.perm hp
theorem Xtu {o:Oper} {ρ:Operand→AV} {e:AV} (h:Evl P o ρ H e):Evl P (Xg2 o) ρ H e:=fun V a w Kc q r hK=>h V a w Kc q ⟨r.hok,r.ops,r.vlt,r.gw⟩ hK
theorem XuJ {o:Oper} {K:List AV→List Hp→Prop} (h:Stp P o T H K):Stp P (Xg2 o) T H K:=fun Δ V O w0 a w Kc q r hK=>h Δ V O w0 a w Kc q r hK
theorem Xqe (l:List Oper) (j:Nat):((l.map Xg2)[j]?).bind (·.dst)=(l[j]?).bind (·.dst):=by
 rw [List.getElem?_map]
 cases l[j]?<;>rfl
theorem Xot (l:List Oper) (o:Oper):looks (l.map Xg2) (Xg2 o)=looks l o:=by
 unfold looks
 congr 1
 show (match o.guard with|some (j,_)=>(((l.map Xg2)[j]?).bind (·.dst)).toList|none=>[])=_
 cases o.guard with
 | none=>rfl
 | some x=>obtain ⟨j,w⟩:=x;simp only [Xqe]
theorem XnO {l:List Oper} {L:List Nat} {fin:List AV→List Hp→Prop}:∀(pi:List Nat) (T:List AV) (H:List Hp),dm P B l L pi T H fin→dm P B (l.map Xg2) L pi T H fin
 | [],_,_,h=>h
 | i :: pi,T,H,h=>by
   obtain ⟨o,ho,h⟩:=h
   refine ⟨Xg2 o,by rw [Xbz,List.getElem?_map,←Xbz,ho];rfl,?_⟩
   rw [Xot]
   rcases h with ⟨h1,e,h2,h3⟩|⟨h1,h2⟩
   ·exact .inl ⟨h1,e,fun H1=>Xtu (h2 H1),XnO pi _ _ h3⟩
   ·refine .inr ⟨h1,XuJ ?_⟩
    intro Δ V O w0 a w Kc q r hK
    exact h2 Δ V O w0 a w Kc q r fun T' H' a' w' ⟨e,g1,g2⟩ hr=>hK T' H' a' w' ⟨e,g1,XnO pi _ _ g2⟩ hr
theorem Xho {q:Exit→Act→World→Prop} (l:List Oper):∀(fuel:Nat) (listed:Array Bool) (a:Act) (w:World),wpAny P .any l.toArray q fuel listed a w→wpAny P .any (l.map Xg2).toArray q fuel listed a w
 | 0,listed,a,w,h=>by
   unfold wpAny at h ⊢
   rw [Xe2]
   exact h
 | fuel+1,listed,a,w,h=>by
   unfold wpAny at h ⊢
   rw [Xe2]
   refine ⟨h.1,fun i hi=>?_⟩
   have:=h.2 i hi
   rw [XlM]
   exact wpOp_mono (fun a' w' h'=>Xho l fuel _ a' w' h') this
theorem XnN {l:List Oper} {L:List Nat} {fin fin':List AV→List Hp→Prop} (hf:∀T H,fin T H→fin' T H):∀(pi:List Nat) (T:List AV) (H:List Hp),dm P B l L pi T H fin→dm P B l L pi T H fin'
 | [],T,H,h=>hf T H h
 | i :: pi,T,H,h=>by
   obtain ⟨o,ho,h⟩:=h
   refine ⟨o,ho,?_⟩
   rcases h with ⟨h1,e,h2,h3⟩|⟨h1,h2⟩
   ·exact .inl ⟨h1,e,h2,XnN hf pi _ _ h3⟩
   ·refine .inr ⟨h1,?_⟩
    intro Δ V O w0 a w Kc q r hK
    exact h2 Δ V O w0 a w Kc q r fun T' H' a' w' ⟨e,g1,g2⟩ hr=>hK T' H' a' w' ⟨e,g1,XnN hf pi _ _ g2⟩ hr
theorem XfO {id:Nat} {l:List Oper} (hm:P.follows .mixedOrders=true) (pi L:List Nat) (hp:H.Perm (B++R)) (h:dm P B l L pi T R (Xml P B l [] none [] Q 0)) (hok:Xou (l.map Xg2) pi L [] none=true:=by first|decide +kernel|fail) (hd:(l.all fun o=>match o.dst with|some d=>decide (d < T.length)|none=>true)=true:=by first|rfl|fail)
  (hk:cnt (fun j=>(XcQ l.length []).getD j false) l.length=0:=by first|decide|fail):awp P (.region id l.toArray true) Q T H:=by
 refine Xbu hm (Xp8 ?_)
 have hd':((l.map Xg2).all fun o=>match o.dst with|some d=>decide (d < T.length)|none=>true)=true:=by
  rw [List.all_map];exact hd
 have hk':cnt (fun j=>(XcQ (l.map Xg2).length []).getD j false) (l.map Xg2).length=0:=by rw [List.length_map];exact hk
 have:=Xp6 (P:=P) (Q:=Q) (T:=T) (H:=H) (R:=R) (B:=B) pi L [] none [] 0 hp hok hd' (fun i o h=>by cases h) hk' (XnN (fun T H hf=>?_) _ _ _ (XnO _ _ _ h))
 ·simpa using this
 ·unfold Xml at hf ⊢
  simp only [List.length_map] at hf ⊢
  exact fun Δ V O w0 a w r=>Xho l _ _ a w (hf Δ V O w0 a w r)
end
open Go.RowKit
theorem Xdq (n:Nat) (a b c d:AV):w4 n++List.drop (w4 n).length [a,b,c,d]=w4 n:=rfl
theorem XlS {P:Program} {T:List AV} {H:List Hp} {o:Oper} {K:List AV→List Hp→Prop} (i:Nat) (t:TypeId) (x y:Operand) (b off:Nat) (cells:List AV) (v:Value) (ho:o.op=.store t x y) (hx:ev T x=.x (.pointer (some ⟨b,off,none⟩))) (hy:ev T y=.x v) (hi:H[i]?=some (.box b cells))
  (ht:(P.info? t).map (·.size)=some (AV.x v).cells.length) (h1:(AV.x v).cells.all AV.one=true) (hn:off+(AV.x v).cells.length≤cells.length)
  (hK:K (Xa9 T o.dst (.x undef)) (H.set i (.box b (spl cells off (AV.x v).cells)))):Stp P o T H K:=by
 rw [←hy] at ht h1 hn hK
 exact Xaw i t x y b off cells ho hx hi ht h1 hn hK
theorem XtY {s:List UInt8} {k:Nat} (hk:k+1 < s.length):((XpO (chr s (k+1))).2.2=true→(XbL s k).2.2.1=0∧(XbL s k).2.1=(XpO (chr s (k+1))).1∧decide (0≤(XbL s k).1)=(XpO (chr s (k+1))).2.1∧(XbL s k).2.2.2=k+2)∧((XpO (chr s (k+1))).2.2=false→(XbL s k).2.2.1≠0):=by
 unfold XbL
 rw [if_neg (by omega)]
 generalize chr s (k+1)=c
 unfold XpO
 by_cases h1:c=110
 ·subst h1;exact ⟨fun _=>⟨rfl,rfl,rfl,rfl⟩,fun h=>by cases h⟩
 by_cases h2:c=116
 ·subst h2;exact ⟨fun _=>⟨rfl,rfl,rfl,rfl⟩,fun h=>by cases h⟩
 by_cases h3:c=114
 ·subst h3;exact ⟨fun _=>⟨rfl,rfl,rfl,rfl⟩,fun h=>by cases h⟩
 by_cases h4:c=100
 ·subst h4;exact ⟨fun _=>⟨rfl,rfl,rfl,rfl⟩,fun h=>by cases h⟩
 by_cases h5:c=119
 ·subst h5;exact ⟨fun _=>⟨rfl,(by show (XaM 65 90 ||| XaM 97 122) ||| (XaM 48 57 ||| XaM 95 95)=(XaM 97 122 ||| XaM 65 90) ||| (XaM 48 57 ||| XaM 95 95);decide +kernel),rfl,rfl⟩,fun h=>by cases h⟩
 by_cases h6:c=115
 ·subst h6;exact ⟨fun _=>⟨rfl,(by show (XaM 32 32 ||| XaM 9 9) ||| (XaM 13 13 ||| XaM 10 10)=(XaM 32 32 ||| XaM 9 10) ||| XaM 13 13;decide +kernel),rfl,rfl⟩,fun h=>by cases h⟩
 simp only [if_neg h1,if_neg h2,if_neg h3,if_neg h4,if_neg h5,if_neg h6]
 cases hm:Xsf c with
 | true=>exact ⟨fun _=>⟨rfl,rfl,decide_eq_true (Int.natCast_nonneg c),rfl⟩,fun h=>by cases h⟩
 | false=>exact ⟨fun h=>(by cases h),fun _=>(by simp)⟩
def XxS (pb:Nat) (s:List UInt8) (d:Nat) (x:Int × Nat × Nat × Nat) (r:AV) (H':List Hp):Prop:=∃(n:Nat) (b:Bool) (a:Nat) (e:Int),r=.tup [.x (v4 n),.x (.bool b)]∧H'=[.box pb (pk s a d e)]∧a≤s.length+1∧((x.2.2.1=0∧e=0∧n=x.2.1∧b=decide (0≤x.1)∧a=x.2.2.2)∨(x.2.2.1≠0∧e≠0))
theorem Xsk (pb:Nat) (s:List UInt8) (k d:Nat) (hs:s.length≤128) (hk:k < s.length):Xay Tryz.prog 135 [.box pb (pk s (k+1) d 0)] [.x (.pointer (some ⟨pb,0,none⟩))] (XxS pb s d (XbL s k)):=by
 have hF:=Lib.hid (Xfo pb s (k+1) d 0 82)
 by_cases hl:k+1 < s.length
 ·have hN:=XtZ (chr s (k+1)) (s.getD (k+1) 0).toNat_lt
  obtain ⟨g1,g2⟩:=XtY hl
  generalize XpO (chr s (k+1))=nm at *
  obtain ⟨n1,n2,n3⟩:=nm
  simp only at g1 g2 hN
  have hN:=Lib.hid hN
  unfold pk at hF ⊢
  refine XaV Tryz.func135 Tryz.ntmps135 ?_
  (repeat' (first|refine Wkx.go ?_|refine Xc4 ?_|(refine Xaz (fun h=>?_) (fun h=>?_)<;>first|(exfalso;omega;done)|skip)|refine Xad ?_|(refine Xab rfl ?_;(refine Xb8 (fun b=>?_)))|fail))
  refine XfO (B:=[_,_]) (R:=[]) mixed [0,1,2,3,4,5,6,7,8,9,10,11,12,13,14,15,16,17] [14,15] (Xyo _) ?_
  (have wx:=And.intro @XaY (And.intro @XaD (And.intro @XaT @Xdq));(repeat' (first|refine Xjh ?_ (h:=by exact fun _=>Xbb rfl rfl Tryz.func161 (hN.out))|refine Xjh ?_|(refine XxY ?_;(first|(refine Xbf _ _ rfl XbT.out rfl (fun b4=>?_);refine ⟨_,rfl,?_⟩;refine Xxg ?_)|(refine XlS _ _ _ _ _ _ _ _ rfl rfl rfl Xbt.out Xa1.out rfl (Xyn rfl) ?_;refine ⟨_,rfl,?_⟩;refine Xxg ?_)))|fail)))<;>(try clear wx)
  (first|refine XjQ ?_|fail);skip;refine Xao (by decide +kernel) ?_
  (have wx:=And.intro @w4r (And.intro @XaD (And.intro @XaT @Xdq));(repeat' (first|refine Wkx.go ?_|(refine Xaz (fun h=>?_) (fun h=>?_)<;>skip)|refine Xad ?_|(refine Xab rfl ?_;(first|((refine Xa7 Tryz.func20 [_] rfl rfl (by (repeat' (first|exact Xyo _|refine (XyB (l₁:=[_])).trans (XyE _ ?_)|fail))) hF.out ?_;rintro _ _ ⟨rfl,rfl⟩);refine XaJ ?_)|refine Xbh ?_))|fail)))<;>(try clear wx)
  ·refine Xaa _ _ (XbR rfl (RV.cell 1 rfl rfl XaI.out (by simp) (by simp)) (RV.tmp _) (Xaj.mk' [.box b _,.box b4 _] [.box pb _] (List.perm_append_comm (l₁:=[_]) (l₂:=[_,_])) (Xak.refl _ _) (VwL.refl _ _))) ⟨n1,n2,k+2,82,rfl,rfl,by omega,.inr ⟨g2 (by assumption),by decide⟩⟩
  ·obtain ⟨q1,q2,q3,q4⟩:=g1 (by assumption)
   refine Xaa _ _ (XbR rfl (RV.cell 0 rfl rfl XaI.out (by simp) (by simp)) (RV.tmp _) (Xaj.mk' [.box b _,.box b4 _] [.box pb _] (.cons _ (.swap _ _ _)) (Xak.refl _ _) (VwL.refl _ _))) ⟨n1,n2,k+2,0,rfl,rfl,by omega,.inl ⟨q1,rfl,q2.symm,q3.symm,q4.symm⟩⟩
 ·unfold pk at hF ⊢
  refine XaV Tryz.func135 Tryz.ntmps135 ?_
  (repeat' (first|refine Wkx.go ?_|refine Xc4 ?_|(refine Xaz (fun h=>?_) (fun h=>?_)<;>first|(exfalso;omega;done)|skip)|refine Xad ?_|(refine Xab rfl ?_;(first|((refine Xa7 Tryz.func20 [_] rfl rfl (by (repeat' (first|exact Xyo _|refine (XyB (l₁:=[_])).trans (XyE _ ?_)|fail))) hF.out ?_;rintro _ _ ⟨rfl,rfl⟩);refine XaJ ?_)|refine Xbh ?_|refine Xb8 (fun b=>?_)))|fail))
  refine Xaa _ _ (XbR rfl (RV.cell 1 rfl rfl XaI.out (by simp) (by simp)) (RV.tmp _) (Xaj.mk' [.box b _] [.box pb _] (List.Perm.swap _ _ _) (Xak.refl _ _) (VwL.refl _ _))) ⟨0,false,k+1,82,by rw [Xcs];rfl,rfl,by omega,.inr ⟨?_,by decide⟩⟩
  unfold XbL
  rw [if_pos (by omega)]
  simp
theorem XoV (pb:Nat) (s:List UInt8) (k d:Nat) (hs:s.length≤128) (hk:k < s.length):Xay Tryz.prog 180 [.box pb (pk s k d 0)] [.x (.pointer (some ⟨pb,0,none⟩))] (XxS pb s d (Xbd s k)):=by
 have hF:=Lib.hid (Xfo pb s (k+1) d 0 80)
 have hE:=Lib.hid (Xsk pb s k d hs hk)
 have hc:chr s k < 256:=Xcm s k
 have hW:=Lib.hid (or0 (chr s k)▸XgH 0 (chr s k) hc)
 unfold Xbd
 generalize hg:chr s k=c at *
 unfold pk at hF hE ⊢
 refine XaV Tryz.func180 Tryz.ntmps180 ?_
 (have wx:=And.intro @XaY (And.intro @hg (And.intro @w4r (And.intro @XaD (And.intro @XaT @Xdq))));(repeat' (first|refine Wkx.go ?_|refine Xc4 ?_|(refine Xaz (fun h=>?_) (fun h=>?_)<;>first|(exfalso;omega;done)|skip)|refine Xad ?_ (h:=by exact fun _=>Xbb rfl rfl Tryz.func134 (hW.out))|refine Xad ?_|(refine Xab rfl ?_;(first|((refine Xa7 Tryz.func20 [_] rfl rfl (by (repeat' (first|exact Xyo _|refine (XyB (l₁:=[_])).trans (XyE _ ?_)|fail))) hF.out ?_;rintro _ _ ⟨rfl,rfl⟩);refine XaJ ?_)|((refine Xa7 Tryz.func135 [_] rfl rfl (by (repeat' (first|exact Xyo _|refine (XyB (l₁:=[_])).trans (XyE _ ?_)|fail))) hE.out ?_;rintro _ _ ⟨n,b',a,e,rfl,rfl,ha,hx⟩);refine XaJ ?_)|refine Xbh ?_|refine Xb8 (fun b=>?_)))|fail)))<;>(try clear wx)
 ·refine Xaa _ _ (XbR rfl (RV.cell 1 rfl rfl XaI.out (Xyn rfl) (Xyn rfl)) (RV.tmp _) (Xaj.mk' [.box b _] [.box pb _] (.swap _ _ _) (Xak.refl _ _) (VwL.refl _ _))) ⟨n,b',a,e,rfl,rfl,ha,?_⟩
  rw [if_neg (by omega),if_pos (by omega)]
  exact hx
 ·refine Xaa _ _ (XbR rfl (RV.cell 1 rfl rfl XaI.out (by simp) (by simp)) (RV.tmp _) (Xaj.mk' [.box b _] [.box pb _] (.swap _ _ _) (Xak.refl _ _) (VwL.refl _ _))) ⟨0,false,k+1,80,by rw [Xcs];rfl,rfl,by omega,?_⟩
  rw [if_pos (by omega)]
  exact .inr ⟨by simp,by simp⟩
 ·refine Xaa _ _ (XbR rfl (RV.cell 1 rfl rfl XaI.out (by simp) (by simp)) (RV.tmp _) (Xaj.mk' [.box b _] [.box pb _] (.swap _ _ _) (Xak.refl _ _) (VwL.refl _ _))) ⟨0,false,k+1,80,by rw [Xcs];rfl,rfl,by omega,?_⟩
  rw [if_pos (by omega)]
  exact .inr ⟨by simp,by simp⟩
 ·refine Xaa _ _ (XbR rfl (RV.cell 1 rfl rfl XaI.out (by simp) (by simp)) (RV.tmp _) (Xaj.mk' [.box b _] [.box pb _] (.swap _ _ _) (Xak.refl _ _) (VwL.refl _ _))) ⟨0,false,k+1,80,by rw [Xcs];rfl,rfl,by omega,?_⟩
  rw [if_pos (by omega)]
  exact .inr ⟨by simp,by simp⟩
 ·refine Xaa _ _ (XbR rfl (RV.cell 0 rfl rfl XaI.out (Xyn rfl) (Xyn rfl)) (RV.tmp _) (Xaj.mk' [.box b _] [.box pb _] (.refl _) (Xak.refl _ _) (VwL.refl _ _))) ⟨XaM c c,true,k+1,0,rfl,rfl,by omega,?_⟩
  rw [if_neg (by omega),if_neg (by omega)]
  exact .inl ⟨rfl,rfl,rfl,(by simp),rfl⟩
end Go.Proofs.YtdlblokjfoggpaaGreatDoor

import Derived.Test.YtdlblokjfoggpaaGreatDoorW33
import Derived.Test.YtdlblokjfoggpaaGreatDoorW27
import Derived.Test.YtdlblokjfoggpaaGreatDoorW7
import Derived.Test.YtdlblokjfoggpaaGreatDoorW9
import Derived.Test.YtdlblokjfoggpaaGreatDoorW12
import Derived.Test.YtdlblokjfoggpaaGreatDoorW25
import Derived.Test.YtdlblokjfoggpaaGreatDoorW28
import Derived.Test.YtdlblokjfoggpaaGreatDoorW26
import Derived.WalkKit
import Derived.Lib.Builder
import Derived.Laws.Externs
/- The program's parser: what its deferred function does. -/
set_option linter.unusedSimpArgs false
set_option linter.unusedVariables false
--%old
set_option maxRecDepth 100000
set_option maxHeartbeats 8000000
namespace Go.Proofs.YtdlblokjfoggpaaGreatDoor
open Go.RowKit
theorem Xte (b2 b3:Nat) (c:AV) (d0 d1 d2:AV) (f:Flt):Xm5 Tryz.prog 74 [.box b2 [c],.box b3 [d0,d1,d2]] ([.pointer (some ⟨b2,0,none⟩),.pointer (some ⟨b3,0,none⟩)].map AV.x) (.panicking (XpQ (fv f))) (.panicking [{ v:=fv f,recovered:=true }])
  (fun r H'=>H'=[.box b2 [.x (.slice none 0 0)],.box b3 [.x (.int .i64 f.code),.x (.int .i64 (f.line:Nat)),.x (.int .i64 (f.col:Nat))]]):=by
 refine XkI Tryz.func74 rfl fun V O w0 a w r c₀ cs hu=>?_
 refine XpM rfl rfl rfl rfl rfl rfl r (v:=fv f) (.inl (by simp [recoverD,hu,XpQ])) rfl ?_
 unfold fv
 simp only [Tryz.ntmps74,Xyr,Xyu,Xyv,Xyw,Xyz,Xyy,Nat.reduceAdd,Nat.reduceSub,Xyt,Xyx,Xa9,XyC,XyD]
 (repeat' (first|with_reducible (first|refine XaH ?_|refine Xal ?_|refine Xat ?_|refine Xac ?_)|(refine XaR _ rfl (fun h=>?_) (fun h=>?_)<;>first|(exact absurd h (by decide))|((try (simp only [whn] at h));skip))|((apply Xar rfl);(case h=>((try (intro (hp:(_:Bool)=true);((try simp only [Bool.and_eq_true,Bool.not_eq_true',Bool.not_eq_true] at hp);(try simp only [hp,wte]);(try simp only [whn] at hp))));(first|(apply Xag 0 rfl;(exact XaW _ rfl))|(apply XbI;(case hs=>(intro _ _ h;cases h));(case hx=>rfl);(case hrun=>(intro w;simp [wtb,AV.val,go_sem];(try go_bits);rfl))))));(case hT=>((try simp only [wtn,Xys,Xyp,Xyq,Xyt,Xyx,Nat.reduceAdd,Nat.reduceMul,Nat.reduceSub,↓reduceIte,Nat.reduceEqDiff]);rfl)))|(refine Xab rfl ?_;((refine XaQ 16 rfl ?_;(refine Xaw _ _ _ _ _ _ _ rfl rfl Xbt.out Xa1.out (by first|rfl|fail) (by first|exact Xyn rfl|fail) ?_));apply Xap;(case hT=>((try simp only [wtn,Xys,Xyp,Xyq,Xyt,Xyx,Nat.reduceAdd,Nat.reduceMul,Nat.reduceSub,↓reduceIte,Nat.reduceEqDiff]);rfl));(case hH=>((try simp only [wtn,Xys,Xyp,Xyq,Xyt,Xyx,Nat.reduceAdd,Nat.reduceMul,Nat.reduceSub,↓reduceIte,Nat.reduceEqDiff]);rfl))))|fail))
 exact XbF _ _ (Xfa rfl (Xaj.mk' [] _ (Xyo _) (Xak.refl _ _) VwL.nil)) rfl
theorem XvL (b2 b3:Nat) (H:List Hp):Xm5 Tryz.prog 74 H ([.pointer (some ⟨b2,0,none⟩),.pointer (some ⟨b3,0,none⟩)].map AV.x) .returning .returning (fun r H'=>H'=H):=by
 refine XkI Tryz.func74 rfl fun V O w0 a w r c₀ cs hu=>?_
 refine XpM rfl rfl rfl rfl rfl rfl r (v:=.nilIface) (.inr ⟨by simp [recoverD,hu],rfl,hu.symm⟩) rfl ?_
 simp only [Tryz.ntmps74,Xyr,Xyu,Xyv,Xyw,Xyz,Xyy,Nat.reduceAdd,Nat.reduceSub,Xyt,Xyx,Xa9,XyC,XyD]
 (repeat' (first|with_reducible (first|refine XaH ?_|refine Xal ?_|refine Xa4 ?_|refine Xat ?_|refine Xac ?_)|(refine XaR _ rfl (fun h=>?_) (fun h=>?_)<;>first|(exact absurd h (by decide))|((try (simp only [whn] at h));skip))|((apply Xar rfl);(case h=>((try (intro (hp:(_:Bool)=true);((try simp only [Bool.and_eq_true,Bool.not_eq_true',Bool.not_eq_true] at hp);(try simp only [hp,wte]);(try simp only [whn] at hp))));(first|(apply Xag 0 rfl;(exact XaW _ rfl))|(apply XbI;(case hs=>(intro _ _ h;cases h));(case hx=>rfl);(case hrun=>(intro w;simp [wtb,AV.val,go_sem];(try go_bits);rfl))))));(case hT=>((try simp only [wtn,Xys,Xyp,Xyq,Xyt,Xyx,Nat.reduceAdd,Nat.reduceMul,Nat.reduceSub,↓reduceIte,Nat.reduceEqDiff]);rfl)))|fail))
 exact XbF _ _ (Xfa rfl (Xaj.mk' [] _ (Xyo _) (Xak.refl _ _) VwL.nil)) rfl
def XfL (f:Nat) (p:UInt8→Bool):Prop:=∀b:UInt8,Xay Tryz.prog f [] [.x (.int .u8 (b.toNat:Nat))] (fun r H'=>r=.x (.bool (p b))∧H'=[])
def XuZ (b:UInt8):Int:=match Xjj b with|some n=>(n:Int)|none => -1
theorem XiU {b:UInt8} {n:Nat} (h:Xjj b=some n):XuZ b=n:=by unfold XuZ;rw [h]
theorem XiT {b:UInt8} (h:Xjj b=none):XuZ b = -1:=by unfold XuZ;rw [h]
theorem Xhe:XfL 149 XeQ:=by
 intro b
 refine XaV Tryz.func149 Tryz.ntmps149 ?_
 (repeat' (first|refine Wkx.go ?_|refine Xad ?_|fail))
 refine Xaa _ _ (XaF rfl (RV.tmp _) (XcS (D:=[]))) ?_
 refine ⟨?_,rfl⟩
 simp only [ev,List.getD_cons_succ,List.getD_cons_zero]
 congr 2
 rw [Bool.eq_iff_iff]
 unfold XeQ
 simp only [Bool.and_eq_true,Bool.or_eq_true,decide_eq_true_eq,beq_iff_eq]
 omega
theorem Xgr:XfL 152 XbK:=by
 intro b
 refine XaV Tryz.func152 Tryz.ntmps152 ?_
 (repeat' (first|refine Wkx.go ?_|refine Xad ?_|fail))
 refine Xaa _ _ (XaF rfl (RV.tmp _) (XcS (D:=[]))) ?_
 refine ⟨?_,rfl⟩
 simp only [ev,List.getD_cons_succ,List.getD_cons_zero]
 congr 2
 rw [Bool.eq_iff_iff]
 unfold XbK
 simp only [Bool.and_eq_true,Bool.or_eq_true,decide_eq_true_eq,beq_iff_eq]
 omega
theorem XqE:XfL 151 XeR:=by
 intro b
 refine XaV Tryz.func151 Tryz.ntmps151 ?_
 (repeat' (first|refine Wkx.go ?_|refine Xad ?_ (h:=by exact fun _=>Xbb rfl rfl Tryz.func149 (Xhe b))|refine Xad ?_ (h:=by (intro hp;(try simp only [wgp] at hp);(try simp only [hp,wte]);(try simp only [whn] at hp);exact Xbb rfl rfl Tryz.func152 (Xgr b)))|refine Xad ?_|fail))
 refine Xaa _ _ (XaF rfl (RV.tmp _) (XcS (D:=[]))) ?_
 refine ⟨?_,rfl⟩
 simp only [ev,List.getD_cons_succ,List.getD_cons_zero]
 congr 2
 rw [Bool.eq_iff_iff]
 unfold XeR
 simp only [Bool.and_eq_true,Bool.or_eq_true,decide_eq_true_eq,beq_iff_eq]
 rcases Bool.eq_false_or_eq_true (XeQ b) with h1|h1<;>rcases Bool.eq_false_or_eq_true (XbK b) with h2|h2<;>simp [h1,h2]<;>omega
theorem XvJ (b:UInt8):Xay Tryz.prog 184 [] [.x (.int .u8 (b.toNat:Nat))] (fun r H'=>r=.x (.int .i64 (XuZ b))∧H'=[]):=by
 have hb:=b.toNat_lt
 refine XaV Tryz.func184 Tryz.ntmps184 ?_
 (repeat' (first|refine Wkx.go ?_|(refine Xaz (fun h=>?_) (fun h=>?_)<;>skip)|refine Xad ?_|fail))
 all_goals
  refine Xaa _ _ (XaF rfl (RV.tmp _) (XcS (D:=[]))) ?_
  refine ⟨?_,rfl⟩
  simp only [ev,List.getD_cons_succ,List.getD_cons_zero]
  congr 2
  unfold XuZ Xjj
  first
   | (rw [if_pos (by omega)];simp only;omega)
   | (rw [if_neg (by omega),if_pos (by omega)];simp only;omega)
   | (rw [if_neg (by omega),if_neg (by omega),if_pos (by omega)];simp only;omega)
   | (rw [if_neg (by omega),if_neg (by omega),if_neg (by omega)])
end Go.Proofs.YtdlblokjfoggpaaGreatDoor
--%old
namespace Go.Proofs.YtdlblokjfoggpaaGreatDoor
open Go.RowKit
def Xji (l:List UInt8):UInt8 × Nat:=match Xfx l with|some x=>x|none=>(0,0)
theorem XdH {l:List UInt8} {x:UInt8 × Nat} (h:Xfx l=some x):Xji l=x:=by unfold Xji;rw [h]
theorem Xdl {l:List UInt8} (h:Xfx l=none):Xji l=(0,0):=by unfold Xji;rw [h]
theorem or4 {p q:Nat} (hp:p < 16) (hq:q < 16):bits BinOp.or IntKind.i64 ((p:Int)*16) (q:Int) % 256=((UInt8.ofNat (16*p+q)).toNat:Int):=by
 have e:((p:Int)*16)=((p*16:Nat):Int):=by simp
 rw [e]
 have e2:bits BinOp.or IntKind.i64 ((p*16:Nat):Int) (q:Int)=((16*p+q:Nat):Int):=by
  show IntKind.i64.wrap (((BitVec.ofInt 64 ((p*16:Nat):Int) ||| BitVec.ofInt 64 (q:Int)).toNat:Nat):Int)=_
  rw [BitVec.ofInt_natCast,BitVec.ofInt_natCast,BitVec.toNat_or,BitVec.toNat_ofNat,BitVec.toNat_ofNat,Nat.mod_eq_of_lt (by omega),Nat.mod_eq_of_lt (by omega),Nat.mul_comm,←Nat.two_pow_add_eq_or_of_lt (i:=4) (by omega)]
  simp [IntKind.wrap,IntKind.signed,IntKind.bits]
  omega
 rw [e2,UInt8.toNat_ofNat']
 omega
theorem XjV:Xay Tryz.prog 172 [] [.x (.string (bs []))] (fun r H'=>r=.tup [.x (.int .u8 0),.x (.int .i64 0)]∧H'=[]):=by
 refine Xcx Tryz.func172 rfl ?_
 simp only [Tryz.ntmps172,Xyr,Xyu,Xyv,Xyw,Xyz,Xyy,Nat.reduceAdd,Nat.reduceSub]
 (repeat' (first|with_reducible (first|refine XaH ?_|refine Xal ?_|refine Xbj ?_|refine Xat ?_|refine Xac ?_|refine XbB ?_)|(refine XaR _ rfl (fun h=>?_) (fun h=>?_)<;>first|(exact absurd h (by decide))|((try (simp only [whn] at h));skip))|((apply Xar rfl);(case h=>((try (intro (hp:(_:Bool)=true);((try simp only [Bool.and_eq_true,Bool.not_eq_true',Bool.not_eq_true] at hp);(try simp only [hp,wte]);(try simp only [whn] at hp))));(first|(apply Xag 0 rfl;(first|exact XaW _ rfl|exact Xbo _ rfl))|(apply XbI;(case hs=>(intro _ _ h;cases h));(case hx=>rfl);(case hrun=>(intro w;simp [wtb,AV.val,go_sem];(try go_bits);rfl))))));(case hT=>((try simp only [wtn,Xys,Xyp,Xyq,Xyt,Xyx,Nat.reduceAdd,Nat.reduceMul,Nat.reduceSub,↓reduceIte,Nat.reduceEqDiff]);rfl)))|fail))
 exact Xaa _ _ (XbR rfl (RV.tmp _) (RV.tmp _) (Xaj.mk' [] [] (Xyo _) Xak.nil (VwL.refl _ _))) ⟨rfl,rfl⟩
theorem XiM (c:UInt8) (r:List UInt8) (hl:r.length≤1000000):Xay Tryz.prog 172 [] [.x (.string (bs (c :: r)))] (fun q H'=>q=.tup [.x (.int .u8 ((Xji (c :: r)).1.toNat:Nat)),.x (.int .i64 ((Xji (c :: r)).2:Nat))]∧H'=[]):=by
 refine Xcx Tryz.func172 rfl ?_
 simp only [Tryz.ntmps172,Xyr,Xyu,Xyv,Xyw,Xyz,Xyy,Nat.reduceAdd,Nat.reduceSub]
 (repeat' (first|with_reducible (first|refine XaH ?_|refine Xal ?_|refine Xbp ?_|refine Xbj ?_|refine Xa4 ?_|refine Xat ?_|refine Xac ?_|refine XbB ?_|refine Xax ?_|refine Xbs ?_)|(refine XaR _ rfl (fun h=>?_) (fun h=>?_)<;>first|(exact absurd h (by decide))|((try (simp only [whn] at h));first|(exfalso;omega;done)|skip))|((apply Xar rfl);(case h=>((try (intro (hp:(_:Bool)=true);((try simp only [Bool.and_eq_true,Bool.not_eq_true',Bool.not_eq_true] at hp);(try simp only [hp,wte]);(try simp only [whn] at hp))));(first|(apply Xag 0 rfl;(first|exact XaW _ rfl|exact Xbo _ rfl))|(apply Xag 8 rfl;(exact Xam _ _ _ _ _ 0 _ rfl rfl rfl (by kernel_rfl) rfl (by simp;first|done|fail)))|(apply XbI;(case hs=>(intro _ _ h;cases h));(case hx=>rfl);(case hrun=>(intro w;simp [wtb,AV.val,go_sem];(try go_bits);rfl))))));(case hT=>((try simp only [wtn,Xys,Xyp,Xyq,Xyt,Xyx,Nat.reduceAdd,Nat.reduceMul,Nat.reduceSub,↓reduceIte,Nat.reduceEqDiff]);rfl)))|fail))
 case hK.hK.hK.hK.refine_2.hK.hK.hK.hK.refine_2.hK.hK.refine_2.hK.hK.refine_2.hK.hK.refine_2.hK.hK.refine_1.hK.hK.hK.refine_2=>
  obtain ⟨a,b,r',rfl⟩:∃a b r',r=a :: b :: r':=by
   match r,h with
   | [],h=>simp at h
   | [a],h=>simp at h
   | a :: b :: r',_=>exact ⟨a,b,r',rfl⟩
  refine Xbu mixed ?_
  (apply XbJ 0 rfl rfl (by kernel_rfl) (by intro c T H hp;simp [XbH,XaA,XbP,Xdx] at hp);(case h=>(first|exact Xbq _ rfl|fail));(apply Xai;(case hT=>((try simp only [wtn,Xys,Xyp,Xyq,Xyt,Xyx,Nat.reduceAdd,Nat.reduceMul,Nat.reduceSub,↓reduceIte,Nat.reduceEqDiff]);rfl));(case hH=>rfl)))
  (apply XbJ 1 rfl rfl (by kernel_rfl) (by intro c T H hp;simp [XbH,XaA,XbP,Xdx] at hp);(case h=>exact WInd_index_str _ _ _ _ _ 1 _ rfl rfl rfl (by kernel_rfl) rfl (by simp;first|done|fail));(apply Xai;(case hT=>((try simp only [wtn,Xys,Xyp,Xyq,Xyt,Xyx,Nat.reduceAdd,Nat.reduceMul,Nat.reduceSub,↓reduceIte,Nat.reduceEqDiff]);rfl));(case hH=>rfl)))
  (apply XbJ 3 rfl rfl (by kernel_rfl) (by intro c T H hp;simp [XbH,XaA,XbP,Xdx] at hp);(case h=>(first|exact Xbq _ rfl|fail));(apply Xai;(case hT=>((try simp only [wtn,Xys,Xyp,Xyq,Xyt,Xyx,Nat.reduceAdd,Nat.reduceMul,Nat.reduceSub,↓reduceIte,Nat.reduceEqDiff]);rfl));(case hH=>rfl)))
  (apply XbJ 4 rfl rfl (by kernel_rfl) (by intro c T H hp;simp [XbH,XaA,XbP,Xdx] at hp);(case h=>exact WInd_index_str _ _ _ _ _ 2 _ rfl rfl rfl (by kernel_rfl) rfl (by simp;first|done|fail));(apply Xai;(case hT=>((try simp only [wtn,Xys,Xyp,Xyq,Xyt,Xyx,Nat.reduceAdd,Nat.reduceMul,Nat.reduceSub,↓reduceIte,Nat.reduceEqDiff]);rfl));(case hH=>rfl)))
  (refine XbN 2 (by decide +kernel) rfl rfl ?_;(first|(apply Xbi;(case h=>(apply Xag 11 rfl;(exact Xby 184 Tryz.f184 _ _ rfl rfl Tryz.func184 (by decide) rfl (VwL.refl _ _) (XvJ a))));(apply Xai;(case hT=>((try simp only [wtn,Xys,Xyp,Xyq,Xyt,Xyx,Nat.reduceAdd,Nat.reduceMul,Nat.reduceSub,↓reduceIte,Nat.reduceEqDiff]);rfl));(case hH=>rfl)))|fail))
  (refine XbN 5 (by decide +kernel) rfl rfl ?_;(first|(apply Xbi;(case h=>(apply Xag 11 rfl;(exact Xby 184 Tryz.f184 _ _ rfl rfl Tryz.func184 (by decide) rfl (VwL.refl _ _) (XvJ b))));(apply Xai;(case hT=>((try simp only [wtn,Xys,Xyp,Xyq,Xyt,Xyx,Nat.reduceAdd,Nat.reduceMul,Nat.reduceSub,↓reduceIte,Nat.reduceEqDiff]);rfl));(case hH=>rfl)))|fail))
  (refine XbN 6 (by decide +kernel) rfl rfl ?_;(first|(apply Xbi;(case h=>(apply Xag 0 rfl;(exact Xbo _ rfl)));(apply Xai;(case hT=>((try simp only [wtn,Xys,Xyp,Xyq,Xyt,Xyx,Nat.reduceAdd,Nat.reduceMul,Nat.reduceSub,↓reduceIte,Nat.reduceEqDiff]);rfl));(case hH=>rfl)))|fail))
  (refine XbN 7 (by decide +kernel) rfl rfl ?_;(first|(apply Xbi;(case h=>(apply Xag 0 rfl;(exact Xbo _ rfl)));(apply Xai;(case hT=>((try simp only [wtn,Xys,Xyp,Xyq,Xyt,Xyx,Nat.reduceAdd,Nat.reduceMul,Nat.reduceSub,↓reduceIte,Nat.reduceEqDiff]);rfl));(case hH=>rfl)))|fail))
  refine Xao (by decide +kernel) ?_
  cases ha:Xjj a with
  | none=>
    have e1:=XiT ha
    simp only [e1]
    (repeat' (first|with_reducible (first|refine XaH ?_|refine Xal ?_|refine Xbj ?_|refine Xat ?_|refine Xac ?_|refine XbB ?_|refine Xbs ?_)|(refine XaR _ rfl (fun h=>?_) (fun h=>?_)<;>first|(exact absurd h (by decide))|((try (simp only [whn] at h));skip))|((apply Xnr rfl rfl rfl);(case hT=>((try simp only [wtn,Xys,Xyp,Xyq,Xyt,Xyx,Nat.reduceAdd,Nat.reduceMul,Nat.reduceSub,↓reduceIte,Nat.reduceEqDiff]);rfl)))|((apply Xar rfl);(case h=>((try (intro (hp:(_:Bool)=true);((try simp only [Bool.and_eq_true,Bool.not_eq_true',Bool.not_eq_true] at hp);(try simp only [hp,wte]);(try simp only [whn] at hp))));(first|(apply Xag 0 rfl;(first|exact XaW _ rfl|exact Xbo _ rfl))|(apply Xag 1 rfl;(exact Xdj _ _ _ rfl rfl))|(apply XbI;(case hs=>(intro _ _ h;cases h));(case hx=>rfl);(case hrun=>(intro w;simp [wtb,AV.val,go_sem];(try go_bits);rfl))))));(case hT=>((try simp only [wtn,Xys,Xyp,Xyq,Xyt,Xyx,Nat.reduceAdd,Nat.reduceMul,Nat.reduceSub,↓reduceIte,Nat.reduceEqDiff]);rfl)))|fail))
    have e:Xji (c :: a :: b :: r')=(0,0):=Xdl (by rw [XnW c a b r' (by omega),ha];rfl)
    rw [e]
    exact Xaa _ _ (XbR rfl (RV.tmp _) (RV.tmp _) (Xaj.mk' [] [] (Xyo _) Xak.nil (VwL.refl _ _))) ⟨rfl,rfl⟩
  | some p=>
    have e1:=XiU ha
    have hp:=Xn8 ha
    cases hb:Xjj b with
    | none=>
      have e2:=XiT hb
      simp only [e1,e2]
      (repeat' (first|with_reducible (first|refine XaH ?_|refine Xal ?_|refine Xbj ?_|refine Xat ?_|refine Xac ?_|refine XbB ?_|refine Xbs ?_)|(refine XaR _ rfl (fun h=>?_) (fun h=>?_)<;>first|(exact absurd h (by decide))|((try (simp only [whn] at h));skip))|((first|apply Xar rfl|apply Xeo _ _ rfl rfl rfl);(case h=>((try (intro (hp:(_:Bool)=true);((try simp only [Bool.and_eq_true,Bool.not_eq_true',Bool.not_eq_true] at hp);(try simp only [hp,wte]);(try simp only [whn] at hp))));(first|(apply Xag 0 rfl;(first|exact XaW _ rfl|exact Xbo _ rfl))|(apply Xag 1 rfl;(exact XcW _ _ _ rfl rfl))|(apply XbI;(case hs=>(intro _ _ h;cases h));(case hx=>rfl);(case hrun=>(intro w;simp [wtb,AV.val,go_sem];(try go_bits);rfl))))));(case hT=>((try simp only [wtn,Xys,Xyp,Xyq,Xyt,Xyx,Nat.reduceAdd,Nat.reduceMul,Nat.reduceSub,↓reduceIte,Nat.reduceEqDiff]);rfl)))|fail))
      have e:Xji (c :: a :: b :: r')=(0,0):=Xdl (by rw [XnW c a b r' (by omega),ha,hb];rfl)
      rw [e]
      exact Xaa _ _ (XbR rfl (RV.tmp _) (RV.tmp _) (Xaj.mk' [] [] (Xyo _) Xak.nil (VwL.refl _ _))) ⟨rfl,rfl⟩
    | some q=>
      have e2:=XiU hb
      have hq:=Xn8 hb
      simp only [e1,e2]
      (repeat' (first|with_reducible (first|refine XaH ?_|refine Xal ?_|refine Xbj ?_|refine Xa4 ?_|refine Xat ?_|refine Xac ?_|refine XbB ?_|refine Xbs ?_)|(refine XaR _ rfl (fun h=>?_) (fun h=>?_)<;>((try (simp only [whn] at h));first|(exfalso;omega;done)|skip))|((first|apply Xar rfl|apply Xeo _ _ rfl rfl rfl);(case h=>((try (intro (hp:(_:Bool)=true);((try simp only [Bool.and_eq_true,Bool.not_eq_true',Bool.not_eq_true] at hp);(try simp only [hp,wte]);(try simp only [whn] at hp))));(first|(apply Xag 0 rfl;(first|exact XaW _ rfl|exact Xbo _ rfl))|(apply Xag 1 rfl;(exact XcW _ _ _ rfl rfl))|(apply XbI;(case hs=>(intro _ _ h;cases h));(case hx=>rfl);(case hrun=>(intro w;simp [wtb,AV.val,go_sem];(try go_bits);rfl))))));(case hT=>((try simp only [wtn,Xys,Xyp,Xyq,Xyt,Xyx,Nat.reduceAdd,Nat.reduceMul,Nat.reduceSub,↓reduceIte,Nat.reduceEqDiff]);rfl)))|fail))
      have e:Xji (c :: a :: b :: r')=(UInt8.ofNat (16*p+q),3):=XdH (by rw [XnW c a b r' (by omega),ha,hb];rfl)
      have e4:=or4 hp hq
      rw [e,←e4]
      exact Xaa _ _ (XbR rfl (RV.tmp _) (RV.tmp _) (Xaj.mk' [] [] (Xyo _) Xak.nil (VwL.refl _ _))) ⟨rfl,rfl⟩
 all_goals first
  | (rw [XdH (XnV c r (by omega))];exact Xaa _ _ (XbR rfl (RV.tmp _) (RV.tmp _) (Xaj.mk' [] [] (Xyo _) Xak.nil (VwL.refl _ _))) ⟨rfl,rfl⟩)
  | (rw [XdH (Xvx c r (by omega))];exact Xaa _ _ (XbR rfl (RV.tmp _) (RV.tmp _) (Xaj.mk' [] [] (Xyo _) Xak.nil (VwL.refl _ _))) ⟨rfl,rfl⟩)
  | (rw [XdH (Xvy c r (by omega))];exact Xaa _ _ (XbR rfl (RV.tmp _) (RV.tmp _) (Xaj.mk' [] [] (Xyo _) Xak.nil (VwL.refl _ _))) ⟨rfl,rfl⟩)
  | (have e:Xji (c :: r)=(0,0):=by
      match r,h with
      | [],_=>exact Xdl (Xtq c (by omega))
      | [a],_=>exact Xdl (Xtr c a (by omega))
      | a :: b :: r',h=>simp at h;omega
     rw [e];exact Xaa _ _ (XbR rfl (RV.tmp _) (RV.tmp _) (Xaj.mk' [] [] (Xyo _) Xak.nil (VwL.refl _ _))) ⟨rfl,rfl⟩)
  | (rw [Xdl (Xtp c r (by omega))];exact Xaa _ _ (XbR rfl (RV.tmp _) (RV.tmp _) (Xaj.mk' [] [] (Xyo _) Xak.nil (VwL.refl _ _))) ⟨rfl,rfl⟩)
  | trace_state
theorem XnS (l:List UInt8) (hl:l.length≤1000000):Xay Tryz.prog 172 [] [.x (.string (bs l))] (fun q H'=>q=.tup [.x (.int .u8 ((Xji l).1.toNat:Nat)),.x (.int .i64 ((Xji l).2:Nat))]∧H'=[]):=by
 cases l with
 | nil=>exact XjV
 | cons c r=>exact XiM c r (by simp at hl;omega)
theorem XhF (l:List UInt8) (k:Nat) (h:k < l.length):l.drop k=l.getD k 0 :: l.drop (k+1):=by
 rw [List.drop_eq_getElem_cons h,XtC l k 0 h]
theorem Xss (f:Nat) (fn:Func) (p:UInt8→Bool) (hf:Tryz.prog.funcs[f]?=some fn) (hnn:fn.name≠ "runtime.NumGoroutine") (hb:fn.body.isSome=true) (ht:XfL f p) (l:List UInt8) (hl:l.length≤1000000):Xay Tryz.prog 150 [] [.x (.string (bs l)),.x (.func (.func f) #[] #[])] (fun r H'=>r=.x (.int .i64 (spn p l:Nat))∧H'=[]):=by
 refine XaV Tryz.func150 Tryz.ntmps150 ?_
 (repeat' (first|refine Wkx.go ?_|refine Xad ?_|fail))
 refine Xah (S:=Nat) (fun k=>frm 20 [(0,.x (.string (bs l))),(1,.x (.func (.func f) #[] #[])),(5,.x (.int .i64 k))]) (fun _=>[]) (fun k=>k≤l.length∧spn p l=k+spn p (l.drop k)) (fun k=>l.length - k) 0 (XaX (D:=[])) ⟨Nat.zero_le _,by simp⟩ fun k hk=>?_
 obtain ⟨h1,h2⟩:=hk
 have h2':=Lib.hid h2
 clear h2
 simp only [wfr]
 by_cases hk:k < l.length
 ·have hd:=Lib.hid (XhF l k hk)
  have htb:=ht (l.getD k 0)
  cases hc:p (l.getD k 0) with
  | true=>
    rw [hc] at htb
    (repeat' (first|refine Wkx.go ?_|(refine Xaz (fun h=>?_) (fun h=>?_)<;>first|(exfalso;omega;done)|skip)|refine Xad ?_ (h:=by (intro hp;(try simp only [wgp] at hp);(try simp only [hp,wte]);(try simp only [whn] at hp);exact Xby f fn _ _ rfl rfl hf hnn hb (VwL.refl _ _) htb))|refine Xad ?_|fail))
    refine ⟨k+1,by omega,⟨by omega,?_⟩,(XaX (D:=[]))⟩
    rw [h2'.out,hd.out,XgL _ _ _ hc];omega
  | false=>
    rw [hc] at htb
    (repeat' (first|refine Wkx.go ?_|(refine Xaz (fun h=>?_) (fun h=>?_)<;>first|(exact absurd h (by decide))|skip)|refine Xad ?_ (h:=by (intro hp;(try simp only [wgp] at hp);(try simp only [hp,wte]);(try simp only [whn] at hp);exact Xby f fn _ _ rfl rfl hf hnn hb (VwL.refl _ _) htb))|refine Xad ?_|fail))
    refine Xaa _ _ (XaF rfl (RV.tmp _) (XcS (D:=[]))) ?_
    refine ⟨?_,rfl⟩
    rw [h2'.out,hd.out,Xst _ _ _ hc];rfl
 ·have htb:=ht 0
  (repeat' (first|refine Wkx.go ?_|(refine Xaz (fun h=>?_) (fun h=>?_)<;>first|(exact absurd h (by decide))|skip)|refine Xad ?_ (h:=by (intro hp;(try simp only [wgp] at hp);(try simp only [hp,wte]);(try simp only [whn] at hp);exact Xby f fn _ (.x (.bool false)) rfl rfl hf hnn hb (VwL.refl _ _) (by exfalso;omega)))|refine Xad ?_|fail))
  refine Xaa _ _ (XaF rfl (RV.tmp _) (XcS (D:=[]))) ?_
  refine ⟨?_,rfl⟩
  have e:l.drop k=[]:=List.drop_eq_nil_of_le (by omega)
  rw [h2'.out,e];rfl
def scc (t:List UInt8) (at_ line col:Int):List AV:=[.x (.string (bs t)),.x (.int .i64 at_),.x (.int .i64 line),.x (.int .i64 col)]
theorem XdE (b:Nat) (t:List UInt8) (i line col:Int) (n:Nat) (hi:0≤i∧i≤1000000) (hc:0≤col∧col≤1000000) (hn:n≤1000000):Xay Tryz.prog 118 [.box b (scc t i line col)] [.x (.pointer (some ⟨b,0,none⟩)),.x (.int .i64 n)] (fun r H'=>H'=[.box b (scc t (i+n) line (col+n))]):=by
 unfold scc
 refine XaV Tryz.func118 Tryz.ntmps118 ?_
 (repeat' (first|refine Wkx.go ?_|refine Xad ?_|(refine Xab rfl ?_;(refine Xbh ?_))|fail))
 exact XbF _ _ (Xfa rfl (XaX (D:=[]))) rfl
theorem XhM (l:List UInt8):(Lib.indexByte l 10 = -1∧cmt l=l.length)∨Lib.indexByte l 10=cmt l:=by
 induction l with
 | nil=>exact .inl ⟨rfl,rfl⟩
 | cons c r ih=>
   by_cases h:c.toNat=10
   ·have e:c=10:=UInt8.toNat_inj.1 h
    subst e
    right
    rw [XrS _ _ h]
    rfl
   ·have e:(c == 10)=false:=by
     rw [XyF]
     intro e;subst e;exact h rfl
    rw [Xgf _ _ h]
    unfold Lib.indexByte
    rw [e]
    simp only [Bool.false_eq_true,if_false,Xyr]
    rcases ih with ⟨h1,h2⟩|h1
    ·left;simp [h1,h2]
    ·right
     rw [h1]
     have:((cmt r:Int) == -1)=false:=by rw [XyF];omega
     rw [this]
     simp
theorem Xj0 (l:List UInt8):Xay Tryz.prog 148 [] [.x (.string (bs l)),.x (.int .u8 10)] (fun r H'=>r=.x (.int .i64 (Lib.indexByte l 10))∧H'=[]):=
 Xfb (args:=[.string (bs l),.int .u8 10]) (fun w=>(strings_IndexByte (bs l) 10 w).mono fun e w' ⟨h1,h2⟩=>⟨by rw [h1];simp [bs],h2▸Below.refl _ _⟩) []
theorem XoU:∀(l:List UInt8) (p:Nat × Nat),plc p (l.take (cmt l))=(p.1,p.2+cmt l)
 | [],p=>by simp [cmt,plc]
 | c :: r,p=>by
   by_cases h:c.toNat=10
   ·rw [XrS _ _ h];simp [plc]
   ·rw [Xgf _ _ h,List.take_succ_cons,plc,if_neg h,XoU r]
    simp;omega
theorem Xq8 (t:List UInt8) (j:Nat) (h:j < t.length):plc (1,1) (t.take (j+1))=if (t.getD j 0).toNat=10 then ((plc (1,1) (t.take j)).1+1,1) else ((plc (1,1) (t.take j)).1,(plc (1,1) (t.take j)).2+1):=by
 rw [←XfA t j 1,XhF t j h,List.take_succ_cons,List.take_zero]
 rfl
def sc (t:List UInt8) (k:Nat):List AV:=scc t k (plc (1,1) (t.take k)).1 (plc (1,1) (t.take k)).2
theorem Xlj:∀(l:List UInt8) (p:Nat × Nat),(plc p l).1≤p.1+l.length∧(plc p l).2≤p.2+l.length+1∧p.1≤(plc p l).1
 | [],p=>by simp [plc]
 | c :: r,p=>by
   rw [plc]
   split
   ·have:=Xlj r (p.1+1,1);simp only [Xyr] at *;omega
   ·have:=Xlj r (p.1,p.2+1);simp only [Xyr] at *;omega
theorem Xwm {l r:List UInt8} {c:UInt8} (hl:l=c :: r) (h:c.toNat=32∨c.toNat=9∨c.toNat=10∨c.toNat=13):skp l=skp r+1:=by subst hl;exact Xjb c r h
theorem Xwn {l r:List UInt8} {c:UInt8} (hl:l=c :: r) (h:c.toNat=35):skp l=cmt l+skp (l.drop (cmt l))∧1≤cmt l:=by
 subst hl
 exact ⟨Xpf c r h,by rw [Xgf _ _ (by omega)];omega⟩
theorem Xwo {l r:List UInt8} {c:UInt8} (hl:l=c :: r) (h:¬(c.toNat=32∨c.toNat=9∨c.toNat=10∨c.toNat=13)) (h2:c.toNat≠35):skp l=0:=by subst hl;exact Xsr c r h h2
theorem XhU (b:Nat) (t:List UInt8) (k:Nat) (hk:k≤t.length) (ht:t.length≤100000):Xay Tryz.prog 116 [.box b (sc t k)] [.x (.pointer (some ⟨b,0,none⟩))] (fun r H'=>H'=[.box b (sc t (nxk t k))]):=by
 unfold sc scc
 refine XaV Tryz.func116 Tryz.ntmps116 ?_
 (repeat' (first|refine Wkx.go ?_|fail))
 refine Xah (S:=Nat) (fun j=>frm 70 [(0,.x (.pointer (some ⟨b,0,none⟩)))]) (fun j=>[.box b [.x (.string (bs t)),.x (.int .i64 j),.x (.int .i64 ((plc (1,1) (t.take j)).1:Nat)),.x (.int .i64 ((plc (1,1) (t.take j)).2:Nat))]]) (fun j=>j≤t.length∧j+skp (t.drop j)=k+skp (t.drop k)) (fun j=>t.length - j) k (XaX (D:=[])) ⟨hk,rfl⟩ fun j hj=>?_
 obtain ⟨h1,h2⟩:=hj
 have h2':=Lib.hid h2
 clear h2
 simp only [wfr]
 have hpl:=Xlj (t.take j) (1,1)
 rw [List.length_take,Nat.min_eq_left h1] at hpl
 by_cases hlt:j < t.length
 ·have hd:=XhF t j hlt
  have hpn:=Xq8 t j hlt
  have hcm:=XfA t j (cmt (t.drop j))
  rw [XoU] at hcm
  have hcl:=XrR (t.drop j)
  rw [List.length_drop] at hcl
  rw [List.getD_eq_getElem?_getD] at hd hpn
  generalize hL:(plc (1,1) (t.take j)).1=L at hpl hpn hcm ⊢
  generalize hC:(plc (1,1) (t.take j)).2=C at hpl hpn hcm ⊢
  have hLC:(plc (1,1) (t.take j)).1=L∧(plc (1,1) (t.take j)).2=C:=⟨hL,hC⟩
  have hLC:=Lib.hid hLC
  clear hL hC
  have hd':=Lib.hid hd
  have hpn':=Lib.hid hpn
  have hcm':=Lib.hid hcm
  clear hd hpn hcm
  have hib:=Xj0 (t.drop j)
  have hdl:(t.drop j).length=t.length - j:=List.length_drop
  rcases XhM (t.drop j) with ⟨hi1,hi2⟩|hi1
  ·rw [hi1] at hib
   have hcc:cmt (t.drop j)=t.length - j:=by rw [hi2,hdl]
   have hcc':=Lib.hid hcc
   clear hi1 hi2 hcc
   (have wx:=And.intro @scc.eq_1 (And.intro (@List.take_length.{0}) (And.intro (@List.drop_zero.{0}) @hdl));(repeat' (first|refine Wkx.go ?_|refine Xc4 ?_|(refine Xaz (fun h=>?_) (fun h=>?_)<;>first|(exact absurd h (by decide))|(exfalso;omega;done)|skip)|refine Xad ?_ (h:=by exact fun _=>Xbb rfl rfl Tryz.func148 (hib))|refine Xad ?_|(refine Xab rfl ?_;(first|((refine Xa7 Tryz.func118 ([_]) rfl rfl (.refl _) (XdE b t j L C 1 (by omega) (by omega) (by omega)) ?_;rintro _ _ rfl);refine XaJ ?_)|((refine Xa7 Tryz.func118 ([_]) rfl rfl (.refl _) (XdE b t j L C (t.length - j) (by omega) (by omega) (by omega)) ?_;rintro _ _ rfl);refine XaJ ?_)|refine Xbh ?_))|fail)))<;>(try clear wx)
   all_goals first
    | (have es:=Xwm hd'.out (by omega)
       have e2:=h2'.out
       refine ⟨j+1,by omega,⟨by omega,by omega⟩,?_⟩
       rw [hpn'.out]
       first
        | (rw [if_pos (by omega)];exact (XaX (D:=[])))
        | (rw [if_neg (by omega)];exact (XaX (D:=[]))))
    | (have es:=Xwn hd'.out (by omega)
       have e2:=h2'.out
       have e3:=hcc'.out
       rw [List.drop_drop] at es
       rw [e3] at es
       refine ⟨j+(t.length - j),by omega,⟨by omega,by omega⟩,?_⟩
       have e4:=hcm'.out
       rw [e3] at e4
       rw [←e4]
       exact (XaX (D:=[])))
    | (have es:=Xwo hd'.out (by omega) (by omega)
       have e2:=h2'.out
       have ek:nxk t k=j:=by unfold nxk;omega
       have e5:=hLC.out
       rw [ek,e5.1,e5.2]
       exact Xaa _ _ (Xfa rfl (XaX (D:=[]))) rfl)
    | trace_state
  ·rw [hi1] at hib
   have htl:((t.drop j).take (cmt (t.drop j))).length=cmt (t.drop j):=by rw [List.length_take,hdl];omega
   generalize hrs:(t.drop j).take (cmt (t.drop j))=rs at htl
   (have wx:=And.intro @scc.eq_1 (And.intro (@List.take_length.{0}) (And.intro (@List.drop_zero.{0}) (And.intro @hdl (And.intro @hrs @htl))));(repeat' (first|refine Wkx.go ?_|refine Xc4 ?_|(refine Xaz (fun h=>?_) (fun h=>?_)<;>first|(exact absurd h (by decide))|(exfalso;omega;done)|skip)|refine Xad ?_ (h:=by exact fun _=>Xbb rfl rfl Tryz.func148 (hib))|refine Xad ?_|(refine Xab rfl ?_;(first|((refine Xa7 Tryz.func118 ([_]) rfl rfl (.refl _) (XdE b t j L C 1 (by omega) (by omega) (by omega)) ?_;rintro _ _ rfl);refine XaJ ?_)|((refine Xa7 Tryz.func118 ([_]) rfl rfl (.refl _) (XdE b t j L C (cmt (t.drop j)) (by omega) (by omega) (by omega)) ?_;rintro _ _ rfl);refine XaJ ?_)|refine Xbh ?_))|fail)))<;>(try clear wx)
   all_goals first
    | (have es:=Xwm hd'.out (by omega)
       have e2:=h2'.out
       refine ⟨j+1,by omega,⟨by omega,by omega⟩,?_⟩
       rw [hpn'.out]
       first
        | (rw [if_pos (by omega)];exact (XaX (D:=[])))
        | (rw [if_neg (by omega)];exact (XaX (D:=[]))))
    | (have es:=Xwn hd'.out (by omega)
       have e2:=h2'.out
       have e3:=(rfl:cmt (t.drop j)=cmt (t.drop j))
       rw [List.drop_drop] at es
       rw [e3] at es
       refine ⟨j+cmt (t.drop j),by omega,⟨by omega,by omega⟩,?_⟩
       have e4:=hcm'.out
       rw [e3] at e4
       rw [←e4]
       exact (XaX (D:=[])))
    | (have es:=Xwo hd'.out (by omega) (by omega)
       have e2:=h2'.out
       have ek:nxk t k=j:=by unfold nxk;omega
       have e5:=hLC.out
       rw [ek,e5.1,e5.2]
       exact Xaa _ _ (Xfa rfl (XaX (D:=[]))) rfl)
    | trace_state
 ·have e:t.drop j=[]:=List.drop_eq_nil_of_le (by omega)
  have e2:=h2'.out
  rw [e,Xpg] at e2
  have ek:nxk t k=j:=by unfold nxk;omega
  rw [ek]
  (repeat' (first|refine Wkx.go ?_|refine Xc4 ?_|(refine Xaz (fun h=>?_) (fun h=>?_)<;>first|(exfalso;omega;done)|skip)|refine Xad ?_|fail))
  exact XbF _ _ (Xfa rfl (XaX (D:=[]))) rfl
open Go.Shelf Go.RowKit
theorem Xtf (b:Nat) (w:World) (h0:w.cell? ⟨b,0,none⟩=some (.pointer (some ⟨b,0,none⟩))) :
  Calls Tryz.prog 185 #[.pointer (some ⟨b,0,none⟩)] w fun e w'=>e=.returned (.tuple #[])∧w'=w:=by
 obtain ⟨j,hj,_⟩:=Option.map_eq_some_iff.1 Xa0.sizeBuilder
 go_enter Tryz.func185,Tryz.ntmps185
 go_wp2
 rw [Lib.run_neq_ptr_same w _ Tryz.underlying263 hj]
 go_wp2
 go_end0
 exact ⟨rfl,rfl⟩
theorem Xqi (b:Nat) (w:World) (h0:w.cell? ⟨b,0,none⟩=some (.pointer none)) (hsh:w.shape? b=some (265,2)) (hfz:w.frozen? ⟨b,0,none⟩=false) :
  Calls Tryz.prog 185 #[.pointer (some ⟨b,0,none⟩)] w fun e w'=>e=.returned (.tuple #[])∧w'=w.setCell ⟨b,0,none⟩ (.pointer (some ⟨b,0,none⟩)):=by
 obtain ⟨j,hj,hjs⟩:=Option.map_eq_some_iff.1 Xa0.sizeBuilder
 go_enter Tryz.func185,Tryz.ntmps185
 go_wp2
 rw [Lib.run_to_unsafe w ⟨b,0,none⟩ Tryz.underlying263 Tryz.underlying113 hj (by rw [hjs];decide) hsh (Nat.zero_lt_succ 1)]
 simp only [Result.andThen]
 rw [Oper.upon_value]
 go_wp2
 rw [run_callFunc_extern Tryz.func193 (by kernel_rfl) (by kernel_rfl) (by kernel_rfl) (e:=Extern.AbiNoEscape.same) (by kernel_rfl)]
 rw [Lib.run_noEscape]
 simp only [Result.andThen]
 rw [Oper.upon_value]
 go_wp2
 rw [Lib.run_from_unsafe w ⟨b,0,none⟩ Tryz.underlying113 Tryz.underlying263 hj hsh Xa0.liesBuilder]
 simp only [Result.andThen]
 rw [Oper.upon_value]
 go_wp2
 go_end0
 exact ⟨rfl,rfl⟩
theorem Xvh (B b:Nat) (bs:List Value) (w:World) (h:Lib.IsBuilder 265 5 B b bs w) :
  Calls Tryz.prog 185 #[.pointer (some ⟨b,0,none⟩)] w fun e w'=>e=.returned (.tuple #[])∧(Lib.BuilderAt 265 5 B b (.pointer (some ⟨b,0,none⟩)) bs w'∧Below B w w'):=by
 rcases h with h|h
 ·refine (Xqi b w h.cell0 h.shape h.frozen0).mono ?_
  rintro e w' ⟨rfl,rfl⟩
  exact ⟨rfl,h.used _,(Below.refl B w).setCell (p:=⟨b,0,none⟩) h.1 _⟩
 ·refine (Xtf b w h.cell0).mono ?_
  rintro e w' ⟨rfl,rfl⟩
  exact ⟨rfl,h,Below.refl B _⟩
theorem XmW (B b:Nat) (bs:List Value) (c:Int) (w:World) (h:Lib.IsBuilder 265 5 B b bs w) (hlen:bs.length+1≤140737488355328) (hBw:B≤w.heap.size) :
  Calls Tryz.prog 173 #[.pointer (some ⟨b,0,none⟩),.int .u8 c] w fun e w'=>e=.returned .nilIface∧(Lib.BuilderAt 265 5 B b (.pointer (some ⟨b,0,none⟩)) (bs++[.int .u8 c]) w'∧Below B w w'):=by
 obtain ⟨i0,hi,hz0,hz1,hz2⟩:=info_parts Xa0.infoByte
 go_enter Tryz.func173,Tryz.ntmps173
 go_wp2_with (go_at_call 185;refine (Xvh B b bs _ h).mono ?_)
 rintro e w1 ⟨rfl,h1,hb1⟩
 obtain ⟨hB,v,hbk,hown,hne⟩:=h1
 have c0:w1.cell? ⟨b,0,none⟩=some (.pointer (some ⟨b,0,none⟩)):=by rw [Lib.cell_of_heap hbk];rfl
 have c1:w1.cell? ⟨b,1,none⟩=some v:=by rw [Lib.cell_of_heap hbk];rfl
 go_wp2_with (at_builtin;refine wpList_append_own _ rfl _ _ 22 rfl B 5 i0 (.int .u8 0) 1 1 Tryz.underlying22 hi hz0 hz1 hz2 rfl (by decide) _ _ _ rfl (hown.alloc _) ⟨w1.heap.size,0,none⟩ 1 1 [.int .u8 c] rfl rfl ?c1 ?c2 ?c3 ?c4 ?c5 ?_)
 case c1=>
  intro j u hj
  match j,hj with
  | 0,hj=>simp at hj;subst hj;simp [Addr.add]
 case c2=>intro u hu;simp at hu;subst hu;rfl
 case c3=>unfold maxLen;omega
 case c4=>omega
 case c5=>have:=hb1.size;simp;omega
 intro v' w2 hown' hgrow _
 have hlt:b < w1.heap.size:=by
  rcases Nat.lt_or_ge b w1.heap.size with h'|h'
  ·exact h'
  ·simp [Array.getElem?_eq_none h'] at hbk
 have hb2:w2.heap[b]?=some (.cells #[.pointer (some ⟨b,0,none⟩),v] 265 (0,0)):=by
  rw [hgrow.block b (by simp;omega) (fun e=>hne e.symm),Lib.alloc_old w1 _ b hlt]
  exact hbk
 have d0:w2.cell? ⟨b,0,none⟩=some (.pointer (some ⟨b,0,none⟩)):=by rw [Lib.cell_of_heap hb2];rfl
 have d1:w2.cell? ⟨b,1,none⟩=some v:=by rw [Lib.cell_of_heap hb2];rfl
 have f1:w2.frozen? ⟨b,1,none⟩=false:=Lib.frozen_of_heap hb2 1
 obtain ⟨g,cap,rfl⟩:∃g cap,v'=.slice (some ⟨g,0,none⟩) (bs.length+1) cap:=by
  rcases hown'.2 with ⟨_,h0⟩|⟨g,cap,cur,hv,_⟩
  ·omega
  ·exact ⟨g,cap,hv⟩
 go_wp2
 go_ret
 refine ⟨rfl,?_,?_⟩
 ·exact Lib.BuilderAt.put (T:=265) (e:=5) hB hb2 (bs':=bs++[.int .u8 c]) (by simpa using hown') Xa0.neB5
 ·exact ((hb1.alloc (by have:=hb1.size;omega) _).grown hgrow (by have:=hb1.size;simp;omega) (fun k hk=>(hown.lt k hk).1)).setCell (p:=⟨b,1,none⟩) hB _
end Go.Proofs.YtdlblokjfoggpaaGreatDoor

import Derived.Test.YtdlblokjfoggpaaGreatDoorW35
import Derived.Test.YtdlblokjfoggpaaGreatDoorW29
import Derived.Test.YtdlblokjfoggpaaGreatDoorW7
import Derived.Test.YtdlblokjfoggpaaGreatDoorW9
import Derived.Test.YtdlblokjfoggpaaGreatDoorW13
import Derived.Test.YtdlblokjfoggpaaGreatDoorW26
import Derived.Test.YtdlblokjfoggpaaGreatDoorW27
import Derived.Test.YtdlblokjfoggpaaGreatDoorW30
/- The program's parser: what its deferred function does. -/
set_option linter.unusedSimpArgs false
set_option linter.unusedVariables false
--%old
set_option maxRecDepth 100000
set_option maxHeartbeats 8000000
namespace Go.Proofs.YtdlblokjfoggpaaGreatDoor
open Go.RowKit
theorem XqJ (b2 b3:Nat) (c:AV) (d0 d1 d2:AV) (f:Flt):XlI Tryz.prog 74 [.box b2 [c],.box b3 [d0,d1,d2]] ([.pointer (some ⟨b2,0,none⟩),.pointer (some ⟨b3,0,none⟩)].map AV.x) (.panicking (Xn8 (fv f))) (.panicking [{ v:=fv f,recovered:=true }])
  (fun r H'=>H'=[.box b2 [.x (.slice none 0 0)],.box b3 [.x (.int .i64 f.code),.x (.int .i64 (f.line:Nat)),.x (.int .i64 (f.col:Nat))]]):=by
 refine XjJ Tryz.func74 rfl fun V O w0 a w r c₀ cs hu=>?_
 refine Xn4 rfl rfl rfl rfl rfl rfl r (v:=fv f) (.inl (by simp [recoverD,hu,Xn8])) rfl ?_
 unfold fv
 simp only [Tryz.ntmps74,Xvw,Xvz,XvA,XvB,XvE,XvD,Nat.reduceAdd,Nat.reduceSub,Xvy,XvC,Xbd,XvH,XvI]
 (repeat' (first|with_reducible (first|refine XaK ?_|refine Xah ?_|refine Xay ?_|refine Xac ?_)|(refine XaX _ rfl (fun h=>?_) (fun h=>?_)<;>first|(exact absurd h (by decide))|((try (simp only [whn] at h));skip))|((apply Xao rfl);(case h=>((try (intro (hp:(_:Bool)=true);((try simp only [Bool.and_eq_true,Bool.not_eq_true',Bool.not_eq_true] at hp);(try simp only [hp,wte]);(try simp only [whn] at hp))));(first|(apply Xad 0 rfl;(exact XaS _ rfl))|(apply XbB;(case hs=>(intro _ _ h;cases h));(case hx=>rfl);(case hrun=>(intro w;simp [wtb,AV.val,go_sem];(try go_bits);rfl))))));(case hT=>((try simp only [wtn,Xvx,Xvu,Xvv,Xvy,XvC,Nat.reduceAdd,Nat.reduceMul,Nat.reduceSub,↓reduceIte,Nat.reduceEqDiff]);rfl)))|(refine Xaa rfl ?_;((refine XaQ 16 rfl ?_;(refine XaH _ _ _ _ _ _ _ rfl rfl Xby.out Xa6.out (by first|rfl|fail) (by first|exact Xvs rfl|fail) ?_));apply Xam;(case hT=>((try simp only [wtn,Xvx,Xvu,Xvv,Xvy,XvC,Nat.reduceAdd,Nat.reduceMul,Nat.reduceSub,↓reduceIte,Nat.reduceEqDiff]);rfl));(case hH=>((try simp only [wtn,Xvx,Xvu,Xvv,Xvy,XvC,Nat.reduceAdd,Nat.reduceMul,Nat.reduceSub,↓reduceIte,Nat.reduceEqDiff]);rfl))))|fail))
 exact Xb2 _ _ (Xff rfl (Xaq.mk' [] _ (Xvt _) (Xap.refl _ _) VwL.nil)) rfl
theorem Xta (b2 b3:Nat) (H:List Hp):XlI Tryz.prog 74 H ([.pointer (some ⟨b2,0,none⟩),.pointer (some ⟨b3,0,none⟩)].map AV.x) .returning .returning (fun r H'=>H'=H):=by
 refine XjJ Tryz.func74 rfl fun V O w0 a w r c₀ cs hu=>?_
 refine Xn4 rfl rfl rfl rfl rfl rfl r (v:=.nilIface) (.inr ⟨by simp [recoverD,hu],rfl,hu.symm⟩) rfl ?_
 simp only [Tryz.ntmps74,Xvw,Xvz,XvA,XvB,XvE,XvD,Nat.reduceAdd,Nat.reduceSub,Xvy,XvC,Xbd,XvH,XvI]
 (repeat' (first|with_reducible (first|refine XaK ?_|refine Xah ?_|refine Xa9 ?_|refine Xay ?_|refine Xac ?_)|(refine XaX _ rfl (fun h=>?_) (fun h=>?_)<;>first|(exact absurd h (by decide))|((try (simp only [whn] at h));skip))|((apply Xao rfl);(case h=>((try (intro (hp:(_:Bool)=true);((try simp only [Bool.and_eq_true,Bool.not_eq_true',Bool.not_eq_true] at hp);(try simp only [hp,wte]);(try simp only [whn] at hp))));(first|(apply Xad 0 rfl;(exact XaS _ rfl))|(apply XbB;(case hs=>(intro _ _ h;cases h));(case hx=>rfl);(case hrun=>(intro w;simp [wtb,AV.val,go_sem];(try go_bits);rfl))))));(case hT=>((try simp only [wtn,Xvx,Xvu,Xvv,Xvy,XvC,Nat.reduceAdd,Nat.reduceMul,Nat.reduceSub,↓reduceIte,Nat.reduceEqDiff]);rfl)))|fail))
 exact Xb2 _ _ (Xff rfl (Xaq.mk' [] _ (Xvt _) (Xap.refl _ _) VwL.nil)) rfl
def Xfu (f:Nat) (p:UInt8→Bool):Prop:=∀b:UInt8,XaM Tryz.prog f [] [.x (.int .u8 (b.toNat:Nat))] (fun r H'=>r=.x (.bool (p b))∧H'=[])
def Xsm (b:UInt8):Int:=match Xim b with|some n=>(n:Int)|none => -1
theorem XhY {b:UInt8} {n:Nat} (h:Xim b=some n):Xsm b=n:=by unfold Xsm;rw [h]
theorem XhX {b:UInt8} (h:Xim b=none):Xsm b = -1:=by unfold Xsm;rw [h]
theorem Xe4:Xfu 149 Xez:=by
 intro b
 refine Xbs Tryz.func149 Tryz.ntmps149 ?_
 (repeat' (first|refine Wkx.go ?_|refine XaJ ?_|refine XaG ?_|(refine XaE (fun h=>?_) (fun h=>?_)<;>first|(exact absurd h (by decide))|(exfalso;omega;done)|skip)|refine XaF ?_|refine Xai ?_|(refine Xaa rfl ?_;(first|refine Xax ?_|refine Xaw ?_|refine Xav (fun ad cap=>?_)|refine Xat (fun b=>?_)|refine Xas (fun b=>?_)|refine Xau (fun b=>?_)|fail))|fail))
 refine Xab _ _ (Xa0 rfl (RV.tmp _) (XcJ (D:=[]))) ?_
 refine ⟨?_,rfl⟩
 simp only [ev,List.getD_cons_succ,List.getD_cons_zero]
 congr 2
 rw [Bool.eq_iff_iff]
 unfold Xez
 simp only [Bool.and_eq_true,Bool.or_eq_true,decide_eq_true_eq,beq_iff_eq]
 omega
theorem Xey:Xfu 152 XbX:=by
 intro b
 refine Xbs Tryz.func152 Tryz.ntmps152 ?_
 (repeat' (first|refine Wkx.go ?_|refine XaJ ?_|refine XaG ?_|(refine XaE (fun h=>?_) (fun h=>?_)<;>first|(exact absurd h (by decide))|(exfalso;omega;done)|skip)|refine XaF ?_|refine Xai ?_|(refine Xaa rfl ?_;(first|refine Xax ?_|refine Xaw ?_|refine Xav (fun ad cap=>?_)|refine Xat (fun b=>?_)|refine Xas (fun b=>?_)|refine Xau (fun b=>?_)|fail))|fail))
 refine Xab _ _ (Xa0 rfl (RV.tmp _) (XcJ (D:=[]))) ?_
 refine ⟨?_,rfl⟩
 simp only [ev,List.getD_cons_succ,List.getD_cons_zero]
 congr 2
 rw [Bool.eq_iff_iff]
 unfold XbX
 simp only [Bool.and_eq_true,Bool.or_eq_true,decide_eq_true_eq,beq_iff_eq]
 omega
theorem XoI:Xfu 151 XeA:=by
 intro b
 refine Xbs Tryz.func151 Tryz.ntmps151 ?_
 (repeat' (first|refine Wkx.go ?_|refine XaJ ?_|refine XaG ?_|(refine XaE (fun h=>?_) (fun h=>?_)<;>first|(exact absurd h (by decide))|(exfalso;omega;done)|skip)|refine XaF ?_|refine Xai ?_ (h:=by first|exact fun _=>Xb3 rfl rfl Tryz.func149 (Xe4 b)|fail)|refine Xai ?_ (h:=by first|(intro hp;(try simp only [wgp] at hp);(try simp only [hp,wte]);(try simp only [whn] at hp);exact Xb3 rfl rfl Tryz.func149 (Xe4 b))|fail)|refine Xai ?_ (h:=by first|exact fun _=>Xb3 rfl rfl Tryz.func152 (Xey b)|fail)|refine Xai ?_ (h:=by first|(intro hp;(try simp only [wgp] at hp);(try simp only [hp,wte]);(try simp only [whn] at hp);exact Xb3 rfl rfl Tryz.func152 (Xey b))|fail)|refine Xai ?_|(refine Xaa rfl ?_;(first|refine Xax ?_|refine Xaw ?_|refine Xav (fun ad cap=>?_)|refine Xat (fun b=>?_)|refine Xas (fun b=>?_)|refine Xau (fun b=>?_)|fail))|fail))
 refine Xab _ _ (Xa0 rfl (RV.tmp _) (XcJ (D:=[]))) ?_
 refine ⟨?_,rfl⟩
 simp only [ev,List.getD_cons_succ,List.getD_cons_zero]
 congr 2
 rw [Bool.eq_iff_iff]
 unfold XeA
 simp only [Bool.and_eq_true,Bool.or_eq_true,decide_eq_true_eq,beq_iff_eq]
 rcases Bool.eq_false_or_eq_true (Xez b) with h1|h1<;>rcases Bool.eq_false_or_eq_true (XbX b) with h2|h2<;>simp [h1,h2]<;>omega
theorem Xs8 (b:UInt8):XaM Tryz.prog 184 [] [.x (.int .u8 (b.toNat:Nat))] (fun r H'=>r=.x (.int .i64 (Xsm b))∧H'=[]):=by
 have hb:=b.toNat_lt
 refine Xbs Tryz.func184 Tryz.ntmps184 ?_
 (repeat' (first|refine Wkx.go ?_|refine XaJ ?_|refine XaG ?_|(refine XaE (fun h=>?_) (fun h=>?_)<;>first|(exact absurd h (by decide))|(exfalso;omega;done)|skip)|refine XaF ?_|refine Xai ?_|(refine Xaa rfl ?_;(first|refine Xax ?_|refine Xaw ?_|refine Xav (fun ad cap=>?_)|refine Xat (fun b=>?_)|refine Xas (fun b=>?_)|refine Xau (fun b=>?_)|fail))|fail))
 all_goals
  refine Xab _ _ (Xa0 rfl (RV.tmp _) (XcJ (D:=[]))) ?_
  refine ⟨?_,rfl⟩
  simp only [ev,List.getD_cons_succ,List.getD_cons_zero]
  congr 2
  unfold Xsm Xim
  first
   | (rw [if_pos (by omega)];simp only;omega)
   | (rw [if_neg (by omega),if_pos (by omega)];simp only;omega)
   | (rw [if_neg (by omega),if_neg (by omega),if_pos (by omega)];simp only;omega)
   | (rw [if_neg (by omega),if_neg (by omega),if_neg (by omega)])
end Go.Proofs.YtdlblokjfoggpaaGreatDoor
--%old
namespace Go.Proofs.YtdlblokjfoggpaaGreatDoor
open Go.RowKit
def Xil (l:List UInt8):UInt8 × Nat:=match Xfk l with|some x=>x|none=>(0,0)
theorem XdI {l:List UInt8} {x:UInt8 × Nat} (h:Xfk l=some x):Xil l=x:=by unfold Xil;rw [h]
theorem Xdg {l:List UInt8} (h:Xfk l=none):Xil l=(0,0):=by unfold Xil;rw [h]
theorem or4 {p q:Nat} (hp:p < 16) (hq:q < 16):bits BinOp.or IntKind.i64 ((p:Int)*16) (q:Int) % 256=((UInt8.ofNat (16*p+q)).toNat:Int):=by
 have e:((p:Int)*16)=((p*16:Nat):Int):=by simp
 rw [e]
 have e2:bits BinOp.or IntKind.i64 ((p*16:Nat):Int) (q:Int)=((16*p+q:Nat):Int):=by
  show IntKind.i64.wrap (((BitVec.ofInt 64 ((p*16:Nat):Int) ||| BitVec.ofInt 64 (q:Int)).toNat:Nat):Int)=_
  rw [BitVec.ofInt_natCast,BitVec.ofInt_natCast,BitVec.toNat_or,BitVec.toNat_ofNat,BitVec.toNat_ofNat,Nat.mod_eq_of_lt (by omega),Nat.mod_eq_of_lt (by omega),Nat.mul_comm,←Nat.two_pow_add_eq_or_of_lt (i:=4) (by omega)]
  simp [IntKind.wrap,IntKind.signed,IntKind.bits]
  omega
 rw [e2,UInt8.toNat_ofNat']
 omega
theorem XiT:XaM Tryz.prog 172 [] [.x (.string (bs []))] (fun r H'=>r=.tup [.x (.int .u8 0),.x (.int .i64 0)]∧H'=[]):=by
 refine Xco Tryz.func172 rfl ?_
 simp only [Tryz.ntmps172,Xvw,Xvz,XvA,XvB,XvE,XvD,Nat.reduceAdd,Nat.reduceSub]
 (repeat' (first|with_reducible (first|refine XaK ?_|refine Xah ?_|refine Xbn ?_|refine Xay ?_|refine Xac ?_|refine XbP ?_)|(refine XaX _ rfl (fun h=>?_) (fun h=>?_)<;>first|(exact absurd h (by decide))|((try (simp only [whn] at h));skip))|((apply Xao rfl);(case h=>((try (intro (hp:(_:Bool)=true);((try simp only [Bool.and_eq_true,Bool.not_eq_true',Bool.not_eq_true] at hp);(try simp only [hp,wte]);(try simp only [whn] at hp))));(first|(apply Xad 0 rfl;(first|exact XaS _ rfl|exact Xa8 _ rfl))|(apply XbB;(case hs=>(intro _ _ h;cases h));(case hx=>rfl);(case hrun=>(intro w;simp [wtb,AV.val,go_sem];(try go_bits);rfl))))));(case hT=>((try simp only [wtn,Xvx,Xvu,Xvv,Xvy,XvC,Nat.reduceAdd,Nat.reduceMul,Nat.reduceSub,↓reduceIte,Nat.reduceEqDiff]);rfl)))|fail))
 exact Xab _ _ (Xcn rfl (RV.tmp _) (RV.tmp _) (Xaq.mk' [] [] (Xvt _) Xap.nil (VwL.refl _ _))) ⟨rfl,rfl⟩
theorem XhR (c:UInt8) (r:List UInt8) (hl:r.length≤1000000):XaM Tryz.prog 172 [] [.x (.string (bs (c :: r)))] (fun q H'=>q=.tup [.x (.int .u8 ((Xil (c :: r)).1.toNat:Nat)),.x (.int .i64 ((Xil (c :: r)).2:Nat))]∧H'=[]):=by
 refine Xco Tryz.func172 rfl ?_
 simp only [Tryz.ntmps172,Xvw,Xvz,XvA,XvB,XvE,XvD,Nat.reduceAdd,Nat.reduceSub]
 (repeat' (first|with_reducible (first|refine XaK ?_|refine Xah ?_|refine Xbg ?_|refine Xbn ?_|refine Xa9 ?_|refine Xay ?_|refine Xac ?_|refine XbP ?_|refine Xaz ?_|refine XbA ?_)|(refine XaX _ rfl (fun h=>?_) (fun h=>?_)<;>first|(exact absurd h (by decide))|((try (simp only [whn] at h));first|(exfalso;omega;done)|skip))|((apply Xao rfl);(case h=>((try (intro (hp:(_:Bool)=true);((try simp only [Bool.and_eq_true,Bool.not_eq_true',Bool.not_eq_true] at hp);(try simp only [hp,wte]);(try simp only [whn] at hp))));(first|(apply Xad 0 rfl;(first|exact XaS _ rfl|exact Xa8 _ rfl))|(apply Xad 8 rfl;(exact Xak _ _ _ _ _ 0 _ rfl rfl rfl (by kernel_rfl) rfl (by simp;first|done|fail)))|(apply XbB;(case hs=>(intro _ _ h;cases h));(case hx=>rfl);(case hrun=>(intro w;simp [wtb,AV.val,go_sem];(try go_bits);rfl))))));(case hT=>((try simp only [wtn,Xvx,Xvu,Xvv,Xvy,XvC,Nat.reduceAdd,Nat.reduceMul,Nat.reduceSub,↓reduceIte,Nat.reduceEqDiff]);rfl)))|fail))
 case hK.hK.hK.hK.refine_2.hK.hK.hK.hK.refine_2.hK.hK.refine_2.hK.hK.refine_2.hK.hK.refine_2.hK.hK.refine_1.hK.hK.hK.refine_2=>
  obtain ⟨a,b,r',rfl⟩:∃a b r',r=a :: b :: r':=by
   match r,h with
   | [],h=>simp at h
   | [a],h=>simp at h
   | a :: b :: r',_=>exact ⟨a,b,r',rfl⟩
  refine XbO mixed ?_
  (apply XbV 0 rfl rfl (by kernel_rfl) (by intro c T H hp;simp [Xbx,XaC,XbG,XcQ] at hp);(case h=>(first|exact Xbm _ rfl|fail));(apply Xag;(case hT=>((try simp only [wtn,Xvx,Xvu,Xvv,Xvy,XvC,Nat.reduceAdd,Nat.reduceMul,Nat.reduceSub,↓reduceIte,Nat.reduceEqDiff]);rfl));(case hH=>rfl)))
  (apply XbV 1 rfl rfl (by kernel_rfl) (by intro c T H hp;simp [Xbx,XaC,XbG,XcQ] at hp);(case h=>exact WInd_index_str _ _ _ _ _ 1 _ rfl rfl rfl (by kernel_rfl) rfl (by simp;first|done|fail));(apply Xag;(case hT=>((try simp only [wtn,Xvx,Xvu,Xvv,Xvy,XvC,Nat.reduceAdd,Nat.reduceMul,Nat.reduceSub,↓reduceIte,Nat.reduceEqDiff]);rfl));(case hH=>rfl)))
  (apply XbV 3 rfl rfl (by kernel_rfl) (by intro c T H hp;simp [Xbx,XaC,XbG,XcQ] at hp);(case h=>(first|exact Xbm _ rfl|fail));(apply Xag;(case hT=>((try simp only [wtn,Xvx,Xvu,Xvv,Xvy,XvC,Nat.reduceAdd,Nat.reduceMul,Nat.reduceSub,↓reduceIte,Nat.reduceEqDiff]);rfl));(case hH=>rfl)))
  (apply XbV 4 rfl rfl (by kernel_rfl) (by intro c T H hp;simp [Xbx,XaC,XbG,XcQ] at hp);(case h=>exact WInd_index_str _ _ _ _ _ 2 _ rfl rfl rfl (by kernel_rfl) rfl (by simp;first|done|fail));(apply Xag;(case hT=>((try simp only [wtn,Xvx,Xvu,Xvv,Xvy,XvC,Nat.reduceAdd,Nat.reduceMul,Nat.reduceSub,↓reduceIte,Nat.reduceEqDiff]);rfl));(case hH=>rfl)))
  (refine XbR 2 (by decide +kernel) rfl rfl ?_;(first|(apply Xbr;(case h=>(apply Xad 11 rfl;(exact XbL 184 Tryz.f184 _ _ rfl rfl Tryz.func184 (by decide) rfl (VwL.refl _ _) (Xs8 a))));(apply Xag;(case hT=>((try simp only [wtn,Xvx,Xvu,Xvv,Xvy,XvC,Nat.reduceAdd,Nat.reduceMul,Nat.reduceSub,↓reduceIte,Nat.reduceEqDiff]);rfl));(case hH=>rfl)))|fail))
  (refine XbR 5 (by decide +kernel) rfl rfl ?_;(first|(apply Xbr;(case h=>(apply Xad 11 rfl;(exact XbL 184 Tryz.f184 _ _ rfl rfl Tryz.func184 (by decide) rfl (VwL.refl _ _) (Xs8 b))));(apply Xag;(case hT=>((try simp only [wtn,Xvx,Xvu,Xvv,Xvy,XvC,Nat.reduceAdd,Nat.reduceMul,Nat.reduceSub,↓reduceIte,Nat.reduceEqDiff]);rfl));(case hH=>rfl)))|fail))
  (refine XbR 6 (by decide +kernel) rfl rfl ?_;(first|(apply Xbr;(case h=>(apply Xad 0 rfl;(exact Xa8 _ rfl)));(apply Xag;(case hT=>((try simp only [wtn,Xvx,Xvu,Xvv,Xvy,XvC,Nat.reduceAdd,Nat.reduceMul,Nat.reduceSub,↓reduceIte,Nat.reduceEqDiff]);rfl));(case hH=>rfl)))|fail))
  (refine XbR 7 (by decide +kernel) rfl rfl ?_;(first|(apply Xbr;(case h=>(apply Xad 0 rfl;(exact Xa8 _ rfl)));(apply Xag;(case hT=>((try simp only [wtn,Xvx,Xvu,Xvv,Xvy,XvC,Nat.reduceAdd,Nat.reduceMul,Nat.reduceSub,↓reduceIte,Nat.reduceEqDiff]);rfl));(case hH=>rfl)))|fail))
  refine Xar (by decide +kernel) ?_
  cases ha:Xim a with
  | none=>
    have e1:=XhX ha
    simp only [e1]
    (repeat' (first|with_reducible (first|refine XaK ?_|refine Xah ?_|refine Xbn ?_|refine Xay ?_|refine Xac ?_|refine XbP ?_|refine XbA ?_)|(refine XaX _ rfl (fun h=>?_) (fun h=>?_)<;>first|(exact absurd h (by decide))|((try (simp only [whn] at h));skip))|((apply Xl4 rfl rfl rfl);(case hT=>((try simp only [wtn,Xvx,Xvu,Xvv,Xvy,XvC,Nat.reduceAdd,Nat.reduceMul,Nat.reduceSub,↓reduceIte,Nat.reduceEqDiff]);rfl)))|((apply Xao rfl);(case h=>((try (intro (hp:(_:Bool)=true);((try simp only [Bool.and_eq_true,Bool.not_eq_true',Bool.not_eq_true] at hp);(try simp only [hp,wte]);(try simp only [whn] at hp))));(first|(apply Xad 0 rfl;(first|exact XaS _ rfl|exact Xa8 _ rfl))|(apply Xad 1 rfl;(exact Xcd _ _ _ rfl rfl))|(apply XbB;(case hs=>(intro _ _ h;cases h));(case hx=>rfl);(case hrun=>(intro w;simp [wtb,AV.val,go_sem];(try go_bits);rfl))))));(case hT=>((try simp only [wtn,Xvx,Xvu,Xvv,Xvy,XvC,Nat.reduceAdd,Nat.reduceMul,Nat.reduceSub,↓reduceIte,Nat.reduceEqDiff]);rfl)))|fail))
    have e:Xil (c :: a :: b :: r')=(0,0):=Xdg (by rw [Xmt c a b r' (by omega),ha];rfl)
    rw [e]
    exact Xab _ _ (Xcn rfl (RV.tmp _) (RV.tmp _) (Xaq.mk' [] [] (Xvt _) Xap.nil (VwL.refl _ _))) ⟨rfl,rfl⟩
  | some p=>
    have e1:=XhY ha
    have hp:=XmF ha
    cases hb:Xim b with
    | none=>
      have e2:=XhX hb
      simp only [e1,e2]
      (repeat' (first|with_reducible (first|refine XaK ?_|refine Xah ?_|refine Xbn ?_|refine Xay ?_|refine Xac ?_|refine XbP ?_|refine XbA ?_)|(refine XaX _ rfl (fun h=>?_) (fun h=>?_)<;>first|(exact absurd h (by decide))|((try (simp only [whn] at h));skip))|((first|apply Xao rfl|apply Xd7 _ _ rfl rfl rfl);(case h=>((try (intro (hp:(_:Bool)=true);((try simp only [Bool.and_eq_true,Bool.not_eq_true',Bool.not_eq_true] at hp);(try simp only [hp,wte]);(try simp only [whn] at hp))));(first|(apply Xad 0 rfl;(first|exact XaS _ rfl|exact Xa8 _ rfl))|(apply Xad 1 rfl;(exact Xb1 _ _ _ rfl rfl))|(apply XbB;(case hs=>(intro _ _ h;cases h));(case hx=>rfl);(case hrun=>(intro w;simp [wtb,AV.val,go_sem];(try go_bits);rfl))))));(case hT=>((try simp only [wtn,Xvx,Xvu,Xvv,Xvy,XvC,Nat.reduceAdd,Nat.reduceMul,Nat.reduceSub,↓reduceIte,Nat.reduceEqDiff]);rfl)))|fail))
      have e:Xil (c :: a :: b :: r')=(0,0):=Xdg (by rw [Xmt c a b r' (by omega),ha,hb];rfl)
      rw [e]
      exact Xab _ _ (Xcn rfl (RV.tmp _) (RV.tmp _) (Xaq.mk' [] [] (Xvt _) Xap.nil (VwL.refl _ _))) ⟨rfl,rfl⟩
    | some q=>
      have e2:=XhY hb
      have hq:=XmF hb
      simp only [e1,e2]
      (repeat' (first|with_reducible (first|refine XaK ?_|refine Xah ?_|refine Xbn ?_|refine Xa9 ?_|refine Xay ?_|refine Xac ?_|refine XbP ?_|refine XbA ?_)|(refine XaX _ rfl (fun h=>?_) (fun h=>?_)<;>((try (simp only [whn] at h));first|(exfalso;omega;done)|skip))|((first|apply Xao rfl|apply Xd7 _ _ rfl rfl rfl);(case h=>((try (intro (hp:(_:Bool)=true);((try simp only [Bool.and_eq_true,Bool.not_eq_true',Bool.not_eq_true] at hp);(try simp only [hp,wte]);(try simp only [whn] at hp))));(first|(apply Xad 0 rfl;(first|exact XaS _ rfl|exact Xa8 _ rfl))|(apply Xad 1 rfl;(exact Xb1 _ _ _ rfl rfl))|(apply XbB;(case hs=>(intro _ _ h;cases h));(case hx=>rfl);(case hrun=>(intro w;simp [wtb,AV.val,go_sem];(try go_bits);rfl))))));(case hT=>((try simp only [wtn,Xvx,Xvu,Xvv,Xvy,XvC,Nat.reduceAdd,Nat.reduceMul,Nat.reduceSub,↓reduceIte,Nat.reduceEqDiff]);rfl)))|fail))
      have e:Xil (c :: a :: b :: r')=(UInt8.ofNat (16*p+q),3):=XdI (by rw [Xmt c a b r' (by omega),ha,hb];rfl)
      have e4:=or4 hp hq
      rw [e,←e4]
      exact Xab _ _ (Xcn rfl (RV.tmp _) (RV.tmp _) (Xaq.mk' [] [] (Xvt _) Xap.nil (VwL.refl _ _))) ⟨rfl,rfl⟩
 all_goals first
  | (rw [XdI (Xms c r (by omega))];exact Xab _ _ (Xcn rfl (RV.tmp _) (RV.tmp _) (Xaq.mk' [] [] (Xvt _) Xap.nil (VwL.refl _ _))) ⟨rfl,rfl⟩)
  | (rw [XdI (XsV c r (by omega))];exact Xab _ _ (Xcn rfl (RV.tmp _) (RV.tmp _) (Xaq.mk' [] [] (Xvt _) Xap.nil (VwL.refl _ _))) ⟨rfl,rfl⟩)
  | (rw [XdI (XsW c r (by omega))];exact Xab _ _ (Xcn rfl (RV.tmp _) (RV.tmp _) (Xaq.mk' [] [] (Xvt _) Xap.nil (VwL.refl _ _))) ⟨rfl,rfl⟩)
  | (have e:Xil (c :: r)=(0,0):=by
      match r,h with
      | [],_=>exact Xdg (XqT c (by omega))
      | [a],_=>exact Xdg (XqU c a (by omega))
      | a :: b :: r',h=>simp at h;omega
     rw [e];exact Xab _ _ (Xcn rfl (RV.tmp _) (RV.tmp _) (Xaq.mk' [] [] (Xvt _) Xap.nil (VwL.refl _ _))) ⟨rfl,rfl⟩)
  | (rw [Xdg (XqS c r (by omega))];exact Xab _ _ (Xcn rfl (RV.tmp _) (RV.tmp _) (Xaq.mk' [] [] (Xvt _) Xap.nil (VwL.refl _ _))) ⟨rfl,rfl⟩)
  | trace_state
theorem Xmp (l:List UInt8) (hl:l.length≤1000000):XaM Tryz.prog 172 [] [.x (.string (bs l))] (fun q H'=>q=.tup [.x (.int .u8 ((Xil l).1.toNat:Nat)),.x (.int .i64 ((Xil l).2:Nat))]∧H'=[]):=by
 cases l with
 | nil=>exact XiT
 | cons c r=>exact XhR c r (by simp at hl;omega)
theorem Xg0 (l:List UInt8) (k:Nat) (h:k < l.length):l.drop k=l.getD k 0 :: l.drop (k+1):=by
 rw [List.drop_eq_getElem_cons h,Xq4 l k 0 h]
theorem Xqj (f:Nat) (fn:Func) (p:UInt8→Bool) (hf:Tryz.prog.funcs[f]?=some fn) (hnn:fn.name≠ "runtime.NumGoroutine") (hb:fn.body.isSome=true) (ht:Xfu f p) (l:List UInt8) (hl:l.length≤1000000):XaM Tryz.prog 150 [] [.x (.string (bs l)),.x (.func (.func f) #[] #[])] (fun r H'=>r=.x (.int .i64 (spn p l:Nat))∧H'=[]):=by
 refine Xbs Tryz.func150 Tryz.ntmps150 ?_
 (repeat' (first|refine Wkx.go ?_|refine XaJ ?_|refine XaG ?_|(refine XaE (fun h=>?_) (fun h=>?_)<;>first|(exact absurd h (by decide))|(exfalso;omega;done)|skip)|refine XaF ?_|refine Xai ?_|(refine Xaa rfl ?_;(first|refine Xax ?_|refine Xaw ?_|refine Xav (fun ad cap=>?_)|refine Xat (fun b=>?_)|refine Xas (fun b=>?_)|refine Xau (fun b=>?_)|fail))|fail))
 refine XaA (S:=Nat) (fun k=>frm 20 [(0,.x (.string (bs l))),(1,.x (.func (.func f) #[] #[])),(5,.x (.int .i64 k))]) (fun _=>[]) (fun k=>k≤l.length∧spn p l=k+spn p (l.drop k)) (fun k=>l.length - k) 0 (XbQ (D:=[])) ⟨Nat.zero_le _,by simp⟩ fun k hk=>?_
 obtain ⟨h1,h2⟩:=hk
 have h2':=Lib.hid h2
 clear h2
 simp only [wfr]
 by_cases hk:k < l.length
 ·have hd:=Lib.hid (Xg0 l k hk)
  have htb:=ht (l.getD k 0)
  cases hc:p (l.getD k 0) with
  | true=>
    rw [hc] at htb
    (repeat' (first|refine Wkx.go ?_|refine XaJ ?_|refine XaG ?_|(refine XaE (fun h=>?_) (fun h=>?_)<;>first|(exact absurd h (by decide))|(exfalso;omega;done)|skip)|refine XaF ?_|refine Xai ?_ (h:=by first|exact fun _=>XbL f fn _ _ rfl rfl hf hnn hb (VwL.refl _ _) htb|fail)|refine Xai ?_ (h:=by first|(intro hp;(try simp only [wgp] at hp);(try simp only [hp,wte]);(try simp only [whn] at hp);exact XbL f fn _ _ rfl rfl hf hnn hb (VwL.refl _ _) htb)|fail)|refine Xai ?_|(refine Xaa rfl ?_;(first|refine Xax ?_|refine Xaw ?_|refine Xav (fun ad cap=>?_)|refine Xat (fun b=>?_)|refine Xas (fun b=>?_)|refine Xau (fun b=>?_)|fail))|fail))
    refine ⟨k+1,by omega,⟨by omega,?_⟩,(XbQ (D:=[]))⟩
    rw [h2'.out,hd.out,Xgk _ _ _ hc];omega
  | false=>
    rw [hc] at htb
    (repeat' (first|refine Wkx.go ?_|refine XaJ ?_|refine XaG ?_|(refine XaE (fun h=>?_) (fun h=>?_)<;>first|(exact absurd h (by decide))|(exfalso;omega;done)|skip)|refine XaF ?_|refine Xai ?_ (h:=by first|exact fun _=>XbL f fn _ _ rfl rfl hf hnn hb (VwL.refl _ _) htb|fail)|refine Xai ?_ (h:=by first|(intro hp;(try simp only [wgp] at hp);(try simp only [hp,wte]);(try simp only [whn] at hp);exact XbL f fn _ _ rfl rfl hf hnn hb (VwL.refl _ _) htb)|fail)|refine Xai ?_|(refine Xaa rfl ?_;(first|refine Xax ?_|refine Xaw ?_|refine Xav (fun ad cap=>?_)|refine Xat (fun b=>?_)|refine Xas (fun b=>?_)|refine Xau (fun b=>?_)|fail))|fail))
    refine Xab _ _ (Xa0 rfl (RV.tmp _) (XcJ (D:=[]))) ?_
    refine ⟨?_,rfl⟩
    rw [h2'.out,hd.out,Xql _ _ _ hc];rfl
 ·have htb:=ht 0
  (repeat' (first|refine Wkx.go ?_|refine XaJ ?_|refine XaG ?_|(refine XaE (fun h=>?_) (fun h=>?_)<;>first|(exact absurd h (by decide))|(exfalso;omega;done)|skip)|refine XaF ?_|refine Xai ?_ (h:=by first|((first|(refine fun (_:True)=>?_)|(intro hp;(try simp only [wgp] at hp);(try simp only [hp,wte]);(try simp only [whn] at hp)));(exfalso;clear htb;omega))|fail)|refine Xai ?_ (h:=by first|exact fun _=>XbL f fn _ (.x (.bool false)) rfl rfl hf hnn hb (VwL.refl _ _) (by exfalso;omega)|fail)|refine Xai ?_ (h:=by first|(intro hp;(try simp only [wgp] at hp);(try simp only [hp,wte]);(try simp only [whn] at hp);exact XbL f fn _ (.x (.bool false)) rfl rfl hf hnn hb (VwL.refl _ _) (by exfalso;omega))|fail)|refine Xai ?_|(refine Xaa rfl ?_;(first|refine Xax ?_|refine Xaw ?_|refine Xav (fun ad cap=>?_)|refine Xat (fun b=>?_)|refine Xas (fun b=>?_)|refine Xau (fun b=>?_)|fail))|fail))
  refine Xab _ _ (Xa0 rfl (RV.tmp _) (XcJ (D:=[]))) ?_
  refine ⟨?_,rfl⟩
  have e:l.drop k=[]:=List.drop_eq_nil_of_le (by omega)
  rw [h2'.out,e];rfl
def scc (t:List UInt8) (at_ line col:Int):List AV:=[.x (.string (bs t)),.x (.int .i64 at_),.x (.int .i64 line),.x (.int .i64 col)]
theorem XdD (b:Nat) (t:List UInt8) (i line col:Int) (n:Nat) (hi:0≤i∧i≤1000000) (hc:0≤col∧col≤1000000) (hn:n≤1000000):XaM Tryz.prog 118 [.box b (scc t i line col)] [.x (.pointer (some ⟨b,0,none⟩)),.x (.int .i64 n)] (fun r H'=>H'=[.box b (scc t (i+n) line (col+n))]):=by
 unfold scc
 refine Xbs Tryz.func118 Tryz.ntmps118 ?_
 (repeat' (first|refine Wkx.go ?_|refine XaJ ?_|refine XaG ?_|(refine XaE (fun h=>?_) (fun h=>?_)<;>first|(exact absurd h (by decide))|(exfalso;omega;done)|skip)|refine XaF ?_|refine Xai ?_|(refine Xaa rfl ?_;(first|refine Xax ?_|refine Xaw ?_|refine Xav (fun ad cap=>?_)|refine Xat (fun b=>?_)|refine Xas (fun b=>?_)|refine Xau (fun b=>?_)|fail))|fail))
 exact Xb2 _ _ (Xff rfl (XbQ (D:=[]))) rfl
theorem Xg7 (l:List UInt8):(Lib.indexByte l 10 = -1∧cmt l=l.length)∨Lib.indexByte l 10=cmt l:=by
 induction l with
 | nil=>exact .inl ⟨rfl,rfl⟩
 | cons c r ih=>
   by_cases h:c.toNat=10
   ·have e:c=10:=UInt8.toNat_inj.1 h
    subst e
    right
    rw [XpQ _ _ h]
    rfl
   ·have e:(c == 10)=false:=by
     rw [XvK]
     intro e;subst e;exact h rfl
    rw [XfR _ _ h]
    unfold Lib.indexByte
    rw [e]
    simp only [Bool.false_eq_true,if_false,Xvw]
    rcases ih with ⟨h1,h2⟩|h1
    ·left;simp [h1,h2]
    ·right
     rw [h1]
     have:((cmt r:Int) == -1)=false:=by rw [XvK];omega
     rw [this]
     simp
theorem XiZ (l:List UInt8):XaM Tryz.prog 148 [] [.x (.string (bs l)),.x (.int .u8 10)] (fun r H'=>r=.x (.int .i64 (Lib.indexByte l 10))∧H'=[]):=
 XdS (args:=[.string (bs l),.int .u8 10]) (fun w=>(strings_IndexByte (bs l) 10 w).mono fun e w' ⟨h1,h2⟩=>⟨by rw [h1];simp [bs],h2▸Below.refl _ _⟩) []
theorem Xnq:∀(l:List UInt8) (p:Nat × Nat),plc p (l.take (cmt l))=(p.1,p.2+cmt l)
 | [],p=>by simp [cmt,plc]
 | c :: r,p=>by
   by_cases h:c.toNat=10
   ·rw [XpQ _ _ h];simp [plc]
   ·rw [XfR _ _ h,List.take_succ_cons,plc,if_neg h,Xnq r]
    simp;omega
theorem Xpa (t:List UInt8) (j:Nat) (h:j < t.length):plc (1,1) (t.take (j+1))=if (t.getD j 0).toNat=10 then ((plc (1,1) (t.take j)).1+1,1) else ((plc (1,1) (t.take j)).1,(plc (1,1) (t.take j)).2+1):=by
 rw [←Xfm t j 1,Xg0 t j h,List.take_succ_cons,List.take_zero]
 rfl
def sc (t:List UInt8) (k:Nat):List AV:=scc t k (plc (1,1) (t.take k)).1 (plc (1,1) (t.take k)).2
theorem Xkd:∀(l:List UInt8) (p:Nat × Nat),(plc p l).1≤p.1+l.length∧(plc p l).2≤p.2+l.length+1∧p.1≤(plc p l).1
 | [],p=>by simp [plc]
 | c :: r,p=>by
   rw [plc]
   split
   ·have:=Xkd r (p.1+1,1);simp only [Xvw] at *;omega
   ·have:=Xkd r (p.1,p.2+1);simp only [Xvw] at *;omega
theorem XtF {l r:List UInt8} {c:UInt8} (hl:l=c :: r) (h:c.toNat=32∨c.toNat=9∨c.toNat=10∨c.toNat=13):skp l=skp r+1:=by subst hl;exact Xif c r h
theorem XtG {l r:List UInt8} {c:UInt8} (hl:l=c :: r) (h:c.toNat=35):skp l=cmt l+skp (l.drop (cmt l))∧1≤cmt l:=by
 subst hl
 exact ⟨XnK c r h,by rw [XfR _ _ (by omega)];omega⟩
theorem XtH {l r:List UInt8} {c:UInt8} (hl:l=c :: r) (h:¬(c.toNat=32∨c.toNat=9∨c.toNat=10∨c.toNat=13)) (h2:c.toNat≠35):skp l=0:=by subst hl;exact Xqh c r h h2
theorem Xhd (b:Nat) (t:List UInt8) (k:Nat) (hk:k≤t.length) (ht:t.length≤100000):XaM Tryz.prog 116 [.box b (sc t k)] [.x (.pointer (some ⟨b,0,none⟩))] (fun r H'=>H'=[.box b (sc t (nxk t k))]):=by
 unfold sc scc
 refine Xbs Tryz.func116 Tryz.ntmps116 ?_
 (repeat' (first|refine Wkx.go ?_|refine XaJ ?_|refine XaG ?_|(refine XaE (fun h=>?_) (fun h=>?_)<;>first|(exact absurd h (by decide))|(exfalso;omega;done)|skip)|refine XaF ?_|refine Xai ?_|(refine Xaa rfl ?_;(first|refine Xax ?_|refine Xaw ?_|refine Xav (fun ad cap=>?_)|refine Xat (fun b=>?_)|refine Xas (fun b=>?_)|refine Xau (fun b=>?_)|fail))|fail))
 refine XaA (S:=Nat) (fun j=>frm 70 [(0,.x (.pointer (some ⟨b,0,none⟩)))]) (fun j=>[.box b [.x (.string (bs t)),.x (.int .i64 j),.x (.int .i64 ((plc (1,1) (t.take j)).1:Nat)),.x (.int .i64 ((plc (1,1) (t.take j)).2:Nat))]]) (fun j=>j≤t.length∧j+skp (t.drop j)=k+skp (t.drop k)) (fun j=>t.length - j) k (XbQ (D:=[])) ⟨hk,rfl⟩ fun j hj=>?_
 obtain ⟨h1,h2⟩:=hj
 have h2':=Lib.hid h2
 clear h2
 simp only [wfr]
 have hpl:=Xkd (t.take j) (1,1)
 rw [List.length_take,Nat.min_eq_left h1] at hpl
 by_cases hlt:j < t.length
 ·have hd:=Xg0 t j hlt
  have hpn:=Xpa t j hlt
  have hcm:=Xfm t j (cmt (t.drop j))
  rw [Xnq] at hcm
  have hcl:=XpP (t.drop j)
  rw [List.length_drop] at hcl
  rw [List.getD_eq_getElem?_getD] at hd hpn
  generalize hL:(plc (1,1) (t.take j)).1=L at hpl hpn hcm ⊢
  generalize hC:(plc (1,1) (t.take j)).2=C at hpl hpn hcm ⊢
  have hLC:(plc (1,1) (t.take j)).1=L∧(plc (1,1) (t.take j)).2=C:=⟨hL,hC⟩
  have hLC:=Lib.hid hLC
  clear hL hC
  have hd':=Lib.hid hd
  have hpn':=Lib.hid hpn
  have hcm':=Lib.hid hcm
  clear hd hpn hcm
  have hib:=XiZ (t.drop j)
  have hdl:(t.drop j).length=t.length - j:=List.length_drop
  rcases Xg7 (t.drop j) with ⟨hi1,hi2⟩|hi1
  ·rw [hi1] at hib
   have hcc:cmt (t.drop j)=t.length - j:=by rw [hi2,hdl]
   have hcc':=Lib.hid hcc
   clear hi1 hi2 hcc
   (have wx:=And.intro @scc.eq_1 (And.intro (@List.take_length.{0}) (And.intro (@List.drop_zero.{0}) @hdl));(repeat' (first|refine Wkx.go ?_|refine XaJ ?_|refine XaG ?_|(refine XaE (fun h=>?_) (fun h=>?_)<;>first|(exact absurd h (by decide))|(exfalso;omega;done)|skip)|refine XaF ?_|refine Xai ?_ (h:=by first|exact fun _=>Xb3 rfl rfl Tryz.func148 (hib)|fail)|refine Xai ?_|(refine Xaa rfl ?_;(first|((refine Xa5 Tryz.func118 ([_]) rfl rfl (.refl _) (XdD b t j L C 1 (by omega) (by omega) (by omega)) ?_;rintro _ _ rfl);refine XaO ?_)|((refine Xa5 Tryz.func118 ([_]) rfl rfl (.refl _) (XdD b t j L C (t.length - j) (by omega) (by omega) (by omega)) ?_;rintro _ _ rfl);refine XaO ?_)|refine Xax ?_|refine Xaw ?_|refine Xav (fun ad cap=>?_)|refine Xat (fun b=>?_)|refine Xas (fun b=>?_)|refine Xau (fun b=>?_)|fail))|fail)))<;>(try clear wx)
   all_goals first
    | (have es:=XtF hd'.out (by omega)
       have e2:=h2'.out
       refine ⟨j+1,by omega,⟨by omega,by omega⟩,?_⟩
       rw [hpn'.out]
       first
        | (rw [if_pos (by omega)];exact (XbQ (D:=[])))
        | (rw [if_neg (by omega)];exact (XbQ (D:=[]))))
    | (have es:=XtG hd'.out (by omega)
       have e2:=h2'.out
       have e3:=hcc'.out
       rw [List.drop_drop] at es
       rw [e3] at es
       refine ⟨j+(t.length - j),by omega,⟨by omega,by omega⟩,?_⟩
       have e4:=hcm'.out
       rw [e3] at e4
       rw [←e4]
       exact (XbQ (D:=[])))
    | (have es:=XtH hd'.out (by omega) (by omega)
       have e2:=h2'.out
       have ek:nxk t k=j:=by unfold nxk;omega
       have e5:=hLC.out
       rw [ek,e5.1,e5.2]
       exact Xab _ _ (Xff rfl (XbQ (D:=[]))) rfl)
    | trace_state
  ·rw [hi1] at hib
   have htl:((t.drop j).take (cmt (t.drop j))).length=cmt (t.drop j):=by rw [List.length_take,hdl];omega
   generalize hrs:(t.drop j).take (cmt (t.drop j))=rs at htl
   (have wx:=And.intro @scc.eq_1 (And.intro (@List.take_length.{0}) (And.intro (@List.drop_zero.{0}) (And.intro @hdl (And.intro @hrs @htl))));(repeat' (first|refine Wkx.go ?_|refine XaJ ?_|refine XaG ?_|(refine XaE (fun h=>?_) (fun h=>?_)<;>first|(exact absurd h (by decide))|(exfalso;omega;done)|skip)|refine XaF ?_|refine Xai ?_ (h:=by first|exact fun _=>Xb3 rfl rfl Tryz.func148 (hib)|fail)|refine Xai ?_|(refine Xaa rfl ?_;(first|((refine Xa5 Tryz.func118 ([_]) rfl rfl (.refl _) (XdD b t j L C 1 (by omega) (by omega) (by omega)) ?_;rintro _ _ rfl);refine XaO ?_)|((refine Xa5 Tryz.func118 ([_]) rfl rfl (.refl _) (XdD b t j L C (cmt (t.drop j)) (by omega) (by omega) (by omega)) ?_;rintro _ _ rfl);refine XaO ?_)|refine Xax ?_|refine Xaw ?_|refine Xav (fun ad cap=>?_)|refine Xat (fun b=>?_)|refine Xas (fun b=>?_)|refine Xau (fun b=>?_)|fail))|fail)))<;>(try clear wx)
   all_goals first
    | (have es:=XtF hd'.out (by omega)
       have e2:=h2'.out
       refine ⟨j+1,by omega,⟨by omega,by omega⟩,?_⟩
       rw [hpn'.out]
       first
        | (rw [if_pos (by omega)];exact (XbQ (D:=[])))
        | (rw [if_neg (by omega)];exact (XbQ (D:=[]))))
    | (have es:=XtG hd'.out (by omega)
       have e2:=h2'.out
       have e3:=(rfl:cmt (t.drop j)=cmt (t.drop j))
       rw [List.drop_drop] at es
       rw [e3] at es
       refine ⟨j+cmt (t.drop j),by omega,⟨by omega,by omega⟩,?_⟩
       have e4:=hcm'.out
       rw [e3] at e4
       rw [←e4]
       exact (XbQ (D:=[])))
    | (have es:=XtH hd'.out (by omega) (by omega)
       have e2:=h2'.out
       have ek:nxk t k=j:=by unfold nxk;omega
       have e5:=hLC.out
       rw [ek,e5.1,e5.2]
       exact Xab _ _ (Xff rfl (XbQ (D:=[]))) rfl)
    | trace_state
 ·have e:t.drop j=[]:=List.drop_eq_nil_of_le (by omega)
  have e2:=h2'.out
  rw [e,XnL] at e2
  have ek:nxk t k=j:=by unfold nxk;omega
  rw [ek]
  (repeat' (first|refine Wkx.go ?_|refine XaJ ?_|refine XaG ?_|(refine XaE (fun h=>?_) (fun h=>?_)<;>first|(exact absurd h (by decide))|(exfalso;omega;done)|skip)|refine XaF ?_|refine Xai ?_|(refine Xaa rfl ?_;(first|refine Xax ?_|refine Xaw ?_|refine Xav (fun ad cap=>?_)|refine Xat (fun b=>?_)|refine Xas (fun b=>?_)|refine Xau (fun b=>?_)|fail))|fail))
  exact Xb2 _ _ (Xff rfl (XbQ (D:=[]))) rfl
end Go.Proofs.YtdlblokjfoggpaaGreatDoor

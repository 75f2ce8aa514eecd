import Derived.Test.YtdpobjakdplljaaGreatDoorV34
import Derived.Test.YtdpobjakdplljaaGreatDoorV30
import Derived.Test.YtdpobjakdplljaaGreatDoorV11
import Derived.WalkKit
import Derived.Lib.Builder
import Derived.Laws.Externs
/- The program's lexer: what stands behind a mark. -/
set_option linter.unusedSimpArgs false
set_option linter.unusedVariables false
set_option maxRecDepth 100000
set_option maxHeartbeats 8000000
namespace Go.Proofs.YtdpobjakdplljaaGreatDoor
open Go.RowKit
def XjI (l:List UInt8):UInt8 × Nat:=match Xeo l with|some x=>x|none=>(0,0)
theorem XdU {l:List UInt8} {x:UInt8 × Nat} (h:Xeo l=some x):XjI l=x:=by unfold XjI;rw [h]
theorem Xdt {l:List UInt8} (h:Xeo l=none):XjI l=(0,0):=by unfold XjI;rw [h]
theorem or4 {p q:Nat} (hp:p < 16) (hq:q < 16):bits BinOp.or IntKind.i64 ((p:Int)*16) (q:Int) % 256=((UInt8.ofNat (16*p+q)).toNat:Int):=by
 have e:((p:Int)*16)=((p*16:Nat):Int):=by simp
 rw [e]
 have e2:bits BinOp.or IntKind.i64 ((p*16:Nat):Int) (q:Int)=((16*p+q:Nat):Int):=by
  show IntKind.i64.wrap (((BitVec.ofInt 64 ((p*16:Nat):Int) ||| BitVec.ofInt 64 (q:Int)).toNat:Nat):Int)=_
  rw [BitVec.ofInt_natCast,BitVec.ofInt_natCast,BitVec.toNat_or,BitVec.toNat_ofNat,BitVec.toNat_ofNat,Nat.mod_eq_of_lt (by omega),Nat.mod_eq_of_lt (by omega),Nat.mul_comm,←Nat.two_pow_add_eq_or_of_lt (i:=4) (by omega)]
  simp [IntKind.wrap,IntKind.signed,IntKind.bits]
  omega
 rw [e2,UInt8.toNat_ofNat']
 omega
theorem Xke:Xa8 Tryz.prog 157 [] [.x (.string (bs []))] (fun r H'=>r=.tup [.x (.int .u8 0),.x (.int .i64 0)]∧H'=[]):=by
 refine XaE Tryz.func157 rfl ?_
 simp only [Tryz.ntmps157,Xu8,Xvb,Xvc,Xvd,Xvg,Xvf,Nat.reduceAdd,Nat.reduceSub]
 (repeat' (first|with_reducible (first|refine Xai ?_|refine Xac ?_|refine Xas ?_|refine Xae ?_|refine Xaa ?_|refine Xay ?_)|(refine Xal _ rfl (fun h=>?_) (fun h=>?_)<;>first|(exact absurd h (by decide))|((try (simp only [] at h));skip))|((apply Xad rfl);(case h=>(first|(apply Xab 0 rfl;(first|exact Xar _ rfl|exact Xap _ rfl))|(apply XaD;(case hs=>(intro _ _ h;cases h));(case hx=>rfl);(case hrun=>(intro w;simp [wtb,AV.val,go_sem];skip;rfl)))));(case hT=>((try simp only [wtn]);rfl)))|fail))
 exact Xaf _ _ (Xc7 rfl (RV.tmp _) (RV.tmp _) (XaH.mk' [] [] (Xu5 _) XaB.nil (VwL.refl _ _))) ⟨rfl,rfl⟩
theorem XiT (c:UInt8) (r:List UInt8) (hl:r.length≤1000000):Xa8 Tryz.prog 157 [] [.x (.string (bs (c :: r)))] (fun q H'=>q=.tup [.x (.int .u8 ((XjI (c :: r)).1.toNat:Nat)),.x (.int .i64 ((XjI (c :: r)).2:Nat))]∧H'=[]):=by
 refine XaE Tryz.func157 rfl ?_
 simp only [Tryz.ntmps157,Xu8,Xvb,Xvc,Xvd,Xvg,Xvf,Nat.reduceAdd,Nat.reduceSub]
 (repeat' (first|with_reducible (first|refine Xai ?_|refine Xac ?_|refine Xat ?_|refine Xas ?_|refine Xaw ?_|refine Xae ?_|refine Xaa ?_|refine Xay ?_|refine Xaj ?_|refine Xax ?_)|(refine Xal _ rfl (fun h=>?_) (fun h=>?_)<;>first|(exact absurd h (by decide))|((try (simp only [whn] at h));first|(exfalso;omega;done)|skip))|((apply Xad rfl);(case h=>(first|(apply Xab 0 rfl;(first|exact Xar _ rfl|exact Xap _ rfl))|(apply Xab 8 rfl;(exact Xbu _ _ _ _ _ 0 _ rfl rfl rfl (by kernel_rfl) rfl (by simp;first|done|fail)))|(apply XaD;(case hs=>(intro _ _ h;cases h));(case hx=>rfl);(case hrun=>(intro w;simp [wtb,AV.val,go_sem];skip;rfl)))));(case hT=>((try simp only [wtn]);rfl)))|fail))
 case hK.hK.hK.hK.refine_2.hK.hK.hK.hK.refine_2.hK.hK.refine_2.hK.hK.refine_2.hK.hK.refine_2.hK.hK.refine_1.hK.hK.hK.refine_2=>
  obtain ⟨a,b,r',rfl⟩:∃a b r',r=a :: b :: r':=by
   match r,h with
   | [],h=>simp at h
   | [a],h=>simp at h
   | a :: b :: r',_=>exact ⟨a,b,r',rfl⟩
  refine XcF mixed ?_
  (apply Xbh 0 rfl rfl (by kernel_rfl) (by intro c T H hp;simp [XaL,Xao,XaQ,Xbo] at hp);(case h=>(first|exact Xbb _ rfl|fail));(apply Xav;(case hT=>((try simp only [wtn]);rfl));(case hH=>rfl)))
  (apply Xbh 1 rfl rfl (by kernel_rfl) (by intro c T H hp;simp [XaL,Xao,XaQ,Xbo] at hp);(case h=>exact XcJ _ _ _ _ _ 1 _ rfl rfl rfl (by kernel_rfl) rfl (by simp;first|done|fail));(apply Xav;(case hT=>((try simp only [wtn]);rfl));(case hH=>rfl)))
  (apply Xbh 3 rfl rfl (by kernel_rfl) (by intro c T H hp;simp [XaL,Xao,XaQ,Xbo] at hp);(case h=>(first|exact Xbb _ rfl|fail));(apply Xav;(case hT=>((try simp only [wtn]);rfl));(case hH=>rfl)))
  (apply Xbh 4 rfl rfl (by kernel_rfl) (by intro c T H hp;simp [XaL,Xao,XaQ,Xbo] at hp);(case h=>exact XcJ _ _ _ _ _ 2 _ rfl rfl rfl (by kernel_rfl) rfl (by simp;first|done|fail));(apply Xav;(case hT=>((try simp only [wtn]);rfl));(case hH=>rfl)))
  (refine Xbm 2 (by decide +kernel) rfl rfl ?_;(first|(apply Xa9;(case h=>(apply Xab 11 rfl;(exact XaA 183 Tryz.f183 _ _ rfl rfl Tryz.func183 (by decide) rfl (VwL.refl _ _) (Xtw a))));(apply Xav;(case hT=>((try simp only [wtn]);rfl));(case hH=>rfl)))|fail))
  (refine Xbm 5 (by decide +kernel) rfl rfl ?_;(first|(apply Xa9;(case h=>(apply Xab 11 rfl;(exact XaA 183 Tryz.f183 _ _ rfl rfl Tryz.func183 (by decide) rfl (VwL.refl _ _) (Xtw b))));(apply Xav;(case hT=>((try simp only [wtn]);rfl));(case hH=>rfl)))|fail))
  (refine Xbm 6 (by decide +kernel) rfl rfl ?_;(first|(apply Xa9;(case h=>(apply Xab 0 rfl;(exact Xap _ rfl)));(apply Xav;(case hT=>((try simp only [wtn]);rfl));(case hH=>rfl)))|fail))
  (refine Xbm 7 (by decide +kernel) rfl rfl ?_;(first|(apply Xa9;(case h=>(apply Xab 0 rfl;(exact Xap _ rfl)));(apply Xav;(case hT=>((try simp only [wtn]);rfl));(case hH=>rfl)))|fail))
  refine Xa0 (by decide +kernel) ?_
  cases ha:XgV a with
  | none=>
    have e1:=Xi0 ha
    simp only [e1]
    (repeat' (first|with_reducible (first|refine Xai ?_|refine Xac ?_|refine Xas ?_|refine Xae ?_|refine Xaa ?_|refine Xay ?_|refine Xax ?_)|(refine Xal _ rfl (fun h=>?_) (fun h=>?_)<;>first|(exact absurd h (by decide))|((try (simp only [] at h));skip))|((apply XhI rfl rfl rfl);(case hT=>((try simp only [wtn]);rfl)))|((apply Xad rfl);(case h=>(first|(apply Xab 0 rfl;(first|exact Xar _ rfl|exact Xap _ rfl))|(apply Xab 1 rfl;(exact Xct _ _ _ rfl rfl))|(apply XaD;(case hs=>(intro _ _ h;cases h));(case hx=>rfl);(case hrun=>(intro w;simp [wtb,AV.val,go_sem];skip;rfl)))));(case hT=>((try simp only [wtn]);rfl)))|fail))
    have e:XjI (c :: a :: b :: r')=(0,0):=Xdt (by rw [Xgp c a b r' (by omega),ha];rfl)
    rw [e]
    exact Xaf _ _ (Xc7 rfl (RV.tmp _) (RV.tmp _) (XaH.mk' [] [] (Xu5 _) XaB.nil (VwL.refl _ _))) ⟨rfl,rfl⟩
  | some p=>
    have e1:=Xi1 ha
    have hp:=Xfo ha
    cases hb:XgV b with
    | none=>
      have e2:=Xi0 hb
      simp only [e1,e2]
      (repeat' (first|with_reducible (first|refine Xai ?_|refine Xac ?_|refine Xas ?_|refine Xae ?_|refine Xaa ?_|refine Xay ?_|refine Xax ?_)|(refine Xal _ rfl (fun h=>?_) (fun h=>?_)<;>first|(exact absurd h (by decide))|((try (simp only [] at h));skip))|((first|apply Xad rfl|apply Xbe _ _ rfl rfl rfl);(case h=>((try (intro (hp:(_:Bool)=true);((try simp only [Bool.not_eq_true'] at hp);(try simp only [hp,wte]);(try simp only [whn] at hp))));(first|(apply Xab 0 rfl;(first|exact Xar _ rfl|exact Xap _ rfl))|(apply Xab 1 rfl;(exact XcO _ _ _ rfl rfl))|(apply XaD;(case hs=>(intro _ _ h;cases h));(case hx=>rfl);(case hrun=>(intro w;simp [wtb,AV.val,go_sem];skip;rfl))))));(case hT=>((try simp only [wtn]);rfl)))|fail))
      have e:XjI (c :: a :: b :: r')=(0,0):=Xdt (by rw [Xgp c a b r' (by omega),ha,hb];rfl)
      rw [e]
      exact Xaf _ _ (Xc7 rfl (RV.tmp _) (RV.tmp _) (XaH.mk' [] [] (Xu5 _) XaB.nil (VwL.refl _ _))) ⟨rfl,rfl⟩
    | some q=>
      have e2:=Xi1 hb
      have hq:=Xfo hb
      simp only [e1,e2]
      (repeat' (first|with_reducible (first|refine Xai ?_|refine Xac ?_|refine Xas ?_|refine Xaw ?_|refine Xae ?_|refine Xaa ?_|refine Xay ?_|refine Xax ?_)|(refine Xal _ rfl (fun h=>?_) (fun h=>?_)<;>((try (simp only [whn] at h));first|(exfalso;omega;done)|skip))|((first|apply Xad rfl|apply Xbe _ _ rfl rfl rfl);(case h=>((try (intro (hp:(_:Bool)=true);((try simp only [Bool.not_eq_true'] at hp);(try simp only [hp,wte]);(try simp only [whn] at hp))));(first|(apply Xab 0 rfl;(first|exact Xar _ rfl|exact Xap _ rfl))|(apply Xab 1 rfl;(exact XcO _ _ _ rfl rfl))|(apply XaD;(case hs=>(intro _ _ h;cases h));(case hx=>rfl);(case hrun=>(intro w;simp [wtb,AV.val,go_sem];(try go_bits);rfl))))));(case hT=>((try simp only [wtn]);rfl)))|fail))
      have e:XjI (c :: a :: b :: r')=(UInt8.ofNat (16*p+q),3):=XdU (by rw [Xgp c a b r' (by omega),ha,hb];rfl)
      have e4:=or4 hp hq
      rw [e,←e4]
      exact Xaf _ _ (Xc7 rfl (RV.tmp _) (RV.tmp _) (XaH.mk' [] [] (Xu5 _) XaB.nil (VwL.refl _ _))) ⟨rfl,rfl⟩
 all_goals first
  | (rw [XdU (Xgo c r (by omega))];exact Xaf _ _ (Xc7 rfl (RV.tmp _) (RV.tmp _) (XaH.mk' [] [] (Xu5 _) XaB.nil (VwL.refl _ _))) ⟨rfl,rfl⟩)
  | (rw [XdU (XnS c r (by omega))];exact Xaf _ _ (Xc7 rfl (RV.tmp _) (RV.tmp _) (XaH.mk' [] [] (Xu5 _) XaB.nil (VwL.refl _ _))) ⟨rfl,rfl⟩)
  | (rw [XdU (XnU c r (by omega))];exact Xaf _ _ (Xc7 rfl (RV.tmp _) (RV.tmp _) (XaH.mk' [] [] (Xu5 _) XaB.nil (VwL.refl _ _))) ⟨rfl,rfl⟩)
  | (have e:XjI (c :: r)=(0,0):=by
      match r,h with
      | [],_=>exact Xdt (XnV c (by omega))
      | [a],_=>exact Xdt (XnW c a (by omega))
      | a :: b :: r',h=>simp at h;omega
     rw [e];exact Xaf _ _ (Xc7 rfl (RV.tmp _) (RV.tmp _) (XaH.mk' [] [] (Xu5 _) XaB.nil (VwL.refl _ _))) ⟨rfl,rfl⟩)
  | (rw [Xdt (XnT c r (by omega))];exact Xaf _ _ (Xc7 rfl (RV.tmp _) (RV.tmp _) (XaH.mk' [] [] (Xu5 _) XaB.nil (VwL.refl _ _))) ⟨rfl,rfl⟩)
  | trace_state
theorem XnP (l:List UInt8) (hl:l.length≤1000000):Xa8 Tryz.prog 157 [] [.x (.string (bs l))] (fun q H'=>q=.tup [.x (.int .u8 ((XjI l).1.toNat:Nat)),.x (.int .i64 ((XjI l).2:Nat))]∧H'=[]):=by
 cases l with
 | nil=>exact Xke
 | cons c r=>exact XiT c r (by simp at hl;omega)
theorem XhQ (l:List UInt8) (k:Nat) (h:k < l.length):l.drop k=l.getD k 0 :: l.drop (k+1):=by
 rw [List.drop_eq_getElem_cons h,Xev l k 0 h]
theorem Xrn (f:Nat) (fn:Func) (p:UInt8→Bool) (hf:Tryz.prog.funcs[f]?=some fn) (hnn:fn.name≠ "runtime.NumGoroutine") (hb:fn.body.isSome=true) (ht:XfS f p) (l:List UInt8) (hl:l.length≤1000000):Xa8 Tryz.prog 122 [] [.x (.string (bs l)),.x (.func (.func f) #[] #[])] (fun r H'=>r=.x (.int .i64 (spn p l:Nat))∧H'=[]):=by
 refine XaE Tryz.func122 rfl ?_
 simp only [Tryz.ntmps122,Xu8,Xvb,Xvc,Xvd,Xvg,Xvf,Nat.reduceAdd,Nat.reduceSub]
 (repeat' (first|with_reducible (first|refine Xai ?_|refine Xac ?_|refine Xat ?_|refine Xae ?_|refine Xaa ?_)|((apply Xad rfl);(case h=>(apply Xab 0 rfl;(exact Xap _ rfl)));(case hT=>((try simp only [wtn]);rfl)))|fail))
 refine XaW (S:=Nat) (fun k=>frm 20 [(0,.x (.string (bs l))),(1,.x (.func (.func f) #[] #[])),(5,.x (.int .i64 k))]) (fun _=>[]) (fun k=>k≤l.length∧spn p l=k+spn p (l.drop k)) (fun k=>l.length - k) 0 (XaH.mk' [] _ (Xu5 _) (XaB.refl _ _) (by (repeat' (first|exact VwL.nil|(refine VwL.cons ?_ ?_)|exact Vw.refl _|exact Vw.top _|fail)))) ⟨Nat.zero_le _,by simp⟩ fun k hk=>?_
 obtain ⟨h1,h2⟩:=hk
 have h2':=Lib.hid h2
 clear h2
 simp only [frm,Xvc,Xvd,Xu6,Xu7,Xvj,Xvk]
 by_cases hk:k < l.length
 ·have hd:=Lib.hid (XhQ l k hk)
  have htb:=ht (l.getD k 0)
  cases hc:p (l.getD k 0) with
  | true=>
    rw [hc] at htb
    (repeat' (first|with_reducible (first|refine Xai ?_|refine Xac ?_|refine Xat ?_|refine Xaw ?_|refine Xae ?_|refine Xaa ?_|refine Xaj ?_)|(refine Xal _ rfl (fun h=>?_) (fun h=>?_)<;>((try (simp only [whn] at h));first|(exfalso;omega;done)|skip))|((first|apply Xad rfl|apply Xbe _ _ rfl rfl rfl);(case h=>((try (intro (hp:(_:Bool)=true);((try simp only [hp]);(try simp only [whn] at hp))));(first|(apply Xab 0 rfl;(first|exact Xar _ rfl|exact Xap _ rfl))|(apply Xab 1 rfl;(exact XbH _ _ _ _ _ rfl rfl rfl rfl))|(apply Xab 8 rfl;(exact Xbu _ _ _ _ _ _ _ rfl rfl rfl (by kernel_rfl) rfl (by omega)))|(apply Xab 11 rfl;(exact XaA f fn _ _ rfl rfl hf hnn hb (VwL.refl _ _) htb))|(apply XaD;(case hs=>(intro _ _ h;cases h));(case hx=>rfl);(case hrun=>(intro w;simp [wtb,AV.val,go_sem];(try go_bits);rfl))))));(case hT=>((try simp only [wtn]);rfl)))|fail))
    refine ⟨k+1,by omega,⟨by omega,?_⟩,(XaH.mk' [] _ (Xu5 _) (XaB.refl _ _) (by (repeat' (first|exact VwL.nil|(refine VwL.cons ?_ ?_)|exact Vw.refl _|exact Vw.top _|fail))))⟩
    rw [h2'.out,hd.out,XdG _ _ _ hc];omega
  | false=>
    rw [hc] at htb
    (repeat' (first|with_reducible (first|refine Xai ?_|refine Xac ?_|refine Xas ?_|refine Xa4 ?_|refine Xae ?_|refine Xaa ?_|refine XaN ?_|refine XaK ?_)|(refine Xal _ rfl (fun h=>?_) (fun h=>?_)<;>first|(exact absurd h (by decide))|((try (simp only [] at h));skip))|((first|apply Xad rfl|apply Xbe _ _ rfl rfl rfl);(case h=>((try (intro (hp:(_:Bool)=true);((try simp only [hp]);(try simp only [whn] at hp))));(first|(apply Xab 0 rfl;(first|exact Xar _ rfl|exact Xap _ rfl))|(apply Xab 1 rfl;(exact XbH _ _ _ _ _ rfl rfl rfl rfl))|(apply Xab 8 rfl;(exact Xbu _ _ _ _ _ _ _ rfl rfl rfl (by kernel_rfl) rfl (by omega)))|(apply Xab 11 rfl;(exact XaA f fn _ _ rfl rfl hf hnn hb (VwL.refl _ _) htb))|(apply XaD;(case hs=>(intro _ _ h;cases h));(case hx=>rfl);(case hrun=>(intro w;simp [wtb,AV.val,go_sem];skip;rfl))))));(case hT=>((try simp only [wtn]);rfl)))|fail))
    refine Xaf _ _ (Xbi rfl (RV.tmp _) (XaH.mk' [] _ (Xu5 _) (XaB.refl _ _) (VwL.refl _ _))) ?_
    refine ⟨?_,rfl⟩
    rw [h2'.out,hd.out,XjA _ _ _ hc];rfl
 ·have htb:=ht 0
  (repeat' (first|with_reducible (first|refine Xai ?_|refine Xac ?_|refine Xas ?_|refine Xa4 ?_|refine Xae ?_|refine Xaa ?_|refine XaN ?_|refine XaK ?_)|(refine Xal _ rfl (fun h=>?_) (fun h=>?_)<;>first|(exact absurd h (by decide))|((try (simp only [] at h));skip))|((first|apply Xad rfl|apply Xbe _ _ rfl rfl rfl);(case h=>((try (intro (hp:(_:Bool)=true);((try simp only [hp]);(try simp only [whn] at hp))));(first|(apply Xab 0 rfl;(first|exact Xar _ rfl|exact Xap _ rfl))|(apply Xab 1 rfl;(exact XbH _ _ _ _ _ rfl rfl rfl rfl))|(apply Xab 8 rfl;(exact Xbu _ _ _ _ _ _ _ rfl rfl rfl (by kernel_rfl) rfl (by omega)))|(apply Xab 11 rfl;(exact XaA f fn _ (.x (.bool false)) rfl rfl hf hnn hb (VwL.refl _ _) (by exfalso;omega)))|(apply XaD;(case hs=>(intro _ _ h;cases h));(case hx=>rfl);(case hrun=>(intro w;simp [wtb,AV.val,go_sem];skip;rfl))))));(case hT=>((try simp only [wtn]);rfl)))|fail))
  refine Xaf _ _ (Xbi rfl (RV.tmp _) (XaH.mk' [] _ (Xu5 _) (XaB.refl _ _) (VwL.refl _ _))) ?_
  refine ⟨?_,rfl⟩
  have e:l.drop k=[]:=List.drop_eq_nil_of_le (by omega)
  rw [h2'.out,e];rfl
def scc (t:List UInt8) (at_ line col:Int):List AV:=[.x (.string (bs t)),.x (.int .i64 at_),.x (.int .i64 line),.x (.int .i64 col)]
theorem XdP (b:Nat) (t:List UInt8) (i line col:Int) (n:Nat) (hi:0≤i∧i≤1000000) (hc:0≤col∧col≤1000000) (hn:n≤1000000):Xa8 Tryz.prog 85 [.box b (scc t i line col)] [.x (.pointer (some ⟨b,0,none⟩)),.x (.int .i64 n)] (fun r H'=>H'=[.box b (scc t (i+n) line (col+n))]):=by
 unfold scc
 refine XaE Tryz.func85 rfl ?_
 simp only [Tryz.ntmps85,Xu8,Xvb,Xvc,Xvd,Xvg,Xvf,Nat.reduceAdd,Nat.reduceSub]
 (repeat' (first|with_reducible (first|refine Xai ?_|refine Xac ?_|refine Xae ?_|refine Xaa ?_)|((apply Xad rfl);(case h=>(first|(apply Xab 0 rfl;(exact Xar _ rfl))|(apply Xab 4 rfl;(exact Xbk _ rfl (by first|exact .inl ⟨_,rfl⟩|fail)))|(apply Xab 5 rfl;(exact Xam _ _ _ _ _ _ rfl rfl Xa3.out))|(apply Xab 6 rfl;(exact Xaz _ _ _ _ _ _ _ _ rfl rfl XaU.out XaM.out (by first|exact Xu4 rfl|fail) (by first|exact Xu4 rfl|fail)))|(apply XaD;(case hs=>(intro _ _ h;cases h));(case hx=>rfl);(case hrun=>(intro w;simp [wtb,AV.val,go_sem];(try go_bits);rfl)))));(case hT=>((try simp only [wtn]);rfl)))|(refine Xah rfl ?_;((refine Xaq 16 rfl ?_;(refine Xau _ _ _ _ _ _ _ rfl rfl XaU.out XaS.out (by first|rfl|fail) (by first|exact Xu4 rfl|fail) ?_));apply Xag;(case hT=>((try simp only [wtn]);rfl));(case hH=>((try simp only [wtn]);rfl))))|fail))
 exact Xc4 _ _ (Xrv rfl (XaH.mk' [] _ (Xu5 _) (XaB.refl _ _) (by (repeat' (first|exact VwL.nil|fail))))) rfl
theorem XhW (l:List UInt8):(Lib.indexByte l 10 = -1∧cmt l=l.length)∨Lib.indexByte l 10=cmt l:=by
 induction l with
 | nil=>exact .inl ⟨rfl,rfl⟩
 | cons c r ih=>
   by_cases h:c.toNat=10
   ·have e:c=10:=UInt8.toNat_inj.1 h
    subst e
    right
    rw [XnA _ _ h]
    rfl
   ·have e:(c == 10)=false:=by
     rw [Xvm]
     intro e;subst e;exact h rfl
    rw [Xfj _ _ h]
    unfold Lib.indexByte
    rw [e]
    simp only [Bool.false_eq_true,if_false,Xu8]
    rcases ih with ⟨h1,h2⟩|h1
    ·left;simp [h1,h2]
    ·right
     rw [h1]
     have:((cmt r:Int) == -1)=false:=by rw [Xvm];omega
     rw [this]
     simp
theorem Xkm (l:List UInt8):Xa8 Tryz.prog 120 [] [.x (.string (bs l)),.x (.int .u8 10)] (fun r H'=>r=.x (.int .i64 (Lib.indexByte l 10))∧H'=[]):=
 Xcm (args:=[.string (bs l),.int .u8 10]) (fun w=>(strings_IndexByte (bs l) 10 w).mono fun e w' ⟨h1,h2⟩=>⟨by rw [h1];simp [bs],h2▸Below.refl _ _⟩) []
theorem XoN:∀(l:List UInt8) (p:Nat × Nat),plc p (l.take (cmt l))=(p.1,p.2+cmt l)
 | [],p=>by simp [cmt,plc]
 | c :: r,p=>by
   by_cases h:c.toNat=10
   ·rw [XnA _ _ h];simp [plc]
   ·rw [Xfj _ _ h,List.take_succ_cons,plc,if_neg h,XoN r]
    simp;omega
theorem Xqt (t:List UInt8) (j:Nat) (h:j < t.length):plc (1,1) (t.take (j+1))=if (t.getD j 0).toNat=10 then ((plc (1,1) (t.take j)).1+1,1) else ((plc (1,1) (t.take j)).1,(plc (1,1) (t.take j)).2+1):=by
 rw [←XfL t j 1,XhQ t j h,List.take_succ_cons,List.take_zero]
 rfl
def sc (t:List UInt8) (k:Nat):List AV:=scc t k (plc (1,1) (t.take k)).1 (plc (1,1) (t.take k)).2
theorem Xlt:∀(l:List UInt8) (p:Nat × Nat),(plc p l).1≤p.1+l.length∧(plc p l).2≤p.2+l.length+1∧p.1≤(plc p l).1
 | [],p=>by simp [plc]
 | c :: r,p=>by
   rw [plc]
   split
   ·have:=Xlt r (p.1+1,1);simp only [Xu8] at *;omega
   ·have:=Xlt r (p.1,p.2+1);simp only [Xu8] at *;omega
theorem XtW {l r:List UInt8} {c:UInt8} (hl:l=c :: r) (h:c.toNat=32∨c.toNat=9∨c.toNat=10∨c.toNat=13):skp l=skp r+1:=by subst hl;exact Xe8 c r h
theorem XtX {l r:List UInt8} {c:UInt8} (hl:l=c :: r) (h:c.toNat=35):skp l=cmt l+skp (l.drop (cmt l))∧1≤cmt l:=by
 subst hl
 exact ⟨XkM c r h,by rw [Xfj _ _ (by omega)];omega⟩
theorem XtY {l r:List UInt8} {c:UInt8} (hl:l=c :: r) (h:¬(c.toNat=32∨c.toNat=9∨c.toNat=10∨c.toNat=13)) (h2:c.toNat≠35):skp l=0:=by subst hl;exact XlF c r h h2
theorem Xh1 (b:Nat) (t:List UInt8) (k:Nat) (hk:k≤t.length) (ht:t.length≤100000):Xa8 Tryz.prog 83 [.box b (sc t k)] [.x (.pointer (some ⟨b,0,none⟩))] (fun r H'=>H'=[.box b (sc t (nxk t k))]):=by
 unfold sc scc
 refine XaE Tryz.func83 rfl ?_
 simp only [Tryz.ntmps83,Xu8,Xvb,Xvc,Xvd,Xvg,Xvf,Nat.reduceAdd,Nat.reduceSub]
 (repeat' (first|with_reducible (refine Xat ?_)|fail))
 refine XaW (S:=Nat) (fun j=>frm 70 [(0,.x (.pointer (some ⟨b,0,none⟩)))]) (fun j=>[.box b [.x (.string (bs t)),.x (.int .i64 j),.x (.int .i64 ((plc (1,1) (t.take j)).1:Nat)),.x (.int .i64 ((plc (1,1) (t.take j)).2:Nat))]]) (fun j=>j≤t.length∧j+skp (t.drop j)=k+skp (t.drop k)) (fun j=>t.length - j) k (XaH.mk' [] _ (Xu5 _) (XaB.refl _ _) (by (repeat' (first|exact VwL.nil|(refine VwL.cons ?_ ?_)|exact Vw.refl _|fail)))) ⟨hk,rfl⟩ fun j hj=>?_
 obtain ⟨h1,h2⟩:=hj
 have h2':=Lib.hid h2
 clear h2
 simp only [frm,Xvc,Xvd,Xu6,Xu7,Xvj]
 have hpl:=Xlt (t.take j) (1,1)
 rw [List.length_take,Nat.min_eq_left h1] at hpl
 by_cases hlt:j < t.length
 ·have hd:=XhQ t j hlt
  have hpn:=Xqt t j hlt
  have hcm:=XfL t j (cmt (t.drop j))
  rw [XoN] at hcm
  have hcl:=Xq9 (t.drop j)
  rw [List.length_drop] at hcl
  rw [List.getD_eq_getElem?_getD] at hd hpn
  generalize hL:(plc (1,1) (t.take j)).1=L at hpl hpn hcm ⊢
  generalize hC:(plc (1,1) (t.take j)).2=C at hpl hpn hcm ⊢
  have hLC:(plc (1,1) (t.take j)).1=L∧(plc (1,1) (t.take j)).2=C:=⟨hL,hC⟩
  have hLC:=Lib.hid hLC
  clear hL hC
  have hd':=Lib.hid hd
  have hpn':=Lib.hid hpn
  have hcm':=Lib.hid hcm
  clear hd hpn hcm
  have hib:=Xkm (t.drop j)
  have hdl:(t.drop j).length=t.length - j:=List.length_drop
  rcases XhW (t.drop j) with ⟨hi1,hi2⟩|hi1
  ·rw [hi1] at hib
   have hcc:cmt (t.drop j)=t.length - j:=by rw [hi2,hdl]
   have hcc':=Lib.hid hcc
   clear hi1 hi2 hcc
   (repeat' (first|with_reducible (first|refine Xai ?_|refine Xac ?_|refine Xat ?_|refine Xas ?_|refine Xaw ?_|refine Xae ?_|refine Xcd ?_|refine Xaa ?_|refine Xay ?_|refine Xaj ?_|refine Xax ?_)|(with_reducible refine Xbc mixed ?_ ?_;(decide +kernel))|(refine Xal _ rfl (fun h=>?_) (fun h=>?_)<;>first|(exact absurd h (by decide))|((try (simp only [whn] at h));first|(exfalso;omega;done)|skip))|((first|apply Xad rfl|apply XbG rfl);(case h=>(first|(apply Xab 0 rfl;(first|exact Xar _ rfl|exact Xap _ rfl))|(apply Xab 4 rfl;(exact Xbk _ rfl (by first|exact .inl ⟨_,rfl⟩|fail)))|(apply Xab 5 rfl;(exact Xam _ _ _ _ _ _ rfl rfl Xa3.out))|(apply Xab 6 rfl;(exact Xaz _ _ _ _ _ _ _ _ rfl rfl XaU.out XaM.out (by first|exact Xu4 rfl|fail) (by first|exact Xu4 rfl|fail)))|(apply Xab 8 rfl;(exact Xbu _ _ _ _ _ _ _ rfl rfl rfl (by kernel_rfl) rfl (by omega)))|(apply Xab 9 rfl;(exact Xbv _ _ _ _ _ _ _ rfl rfl (by kernel_rfl) (by first|exact .inr ⟨_,_,rfl,rfl⟩|fail) (by first|exact .inl ⟨rfl,rfl⟩|fail) (by omega) (by omega)))|(apply Xab 11 rfl;(exact XaA 120 Tryz.f120 _ _ rfl rfl Tryz.func120 (by decide) rfl (VwL.refl _ _) (hib)))|(apply XaD;(case hs=>(intro _ _ h;cases h));(case hx=>rfl);(case hrun=>(intro w;simp [wtb,AV.val,go_sem];(try go_bits);rfl)))));(case hT=>((try simp (disch:=omega) only [wtn,scc,List.take_length,List.drop_zero,hdl,Xu9,Xu6,Xu7,Xva,Xve,Nat.reduceAdd,Nat.reduceMul,Nat.reduceSub,↓reduceIte,Nat.reduceEqDiff]);rfl)))|(refine Xah rfl ?_;((first|(refine Xaq 11 rfl ?_;(first|(refine Xak 85 Tryz.f85 ([_]) _ _ _ rfl rfl Tryz.func85 (by decide) rfl (Xu5 _) (VwL.refl _ _) (XdP b t j L C 1 (by omega) (by omega) (by omega)) ?_;rintro _ _ rfl)|(refine Xak 85 Tryz.f85 ([_]) _ _ _ rfl rfl Tryz.func85 (by decide) rfl (Xu5 _) (VwL.refl _ _) (XdP b t j L C (t.length - j) (by omega) (by omega) (by omega)) ?_;rintro _ _ rfl)))|(refine Xaq 16 rfl ?_;(refine Xau _ _ _ _ _ _ _ rfl rfl XaU.out XaS.out (by first|rfl|fail) (by first|exact Xu4 rfl|fail) ?_)));apply Xag;(case hT=>((try simp (disch:=omega) only [wtn,scc,List.take_length,List.drop_zero,hdl,Xu9,Xu6,Xu7,Xva,Xve,Nat.reduceAdd,Nat.reduceMul,Nat.reduceSub,↓reduceIte,Nat.reduceEqDiff]);rfl));(case hH=>((try simp (disch:=omega) only [wtn,scc,List.take_length,List.drop_zero,hdl,Xu9,Xu6,Xu7,Xva,Xve,Nat.reduceAdd,Nat.reduceMul,Nat.reduceSub,↓reduceIte,Nat.reduceEqDiff]);rfl))))|fail))
   all_goals first
    | (have es:=XtW hd'.out (by omega)
       have e2:=h2'.out
       refine ⟨j+1,by omega,⟨by omega,by omega⟩,?_⟩
       rw [hpn'.out]
       first
        | (rw [if_pos (by omega)];exact (XaH.mk' [] _ (Xu5 _) (XaB.refl _ _) (by (repeat' (first|exact VwL.nil|(refine VwL.cons ?_ ?_)|exact Vw.refl _|exact Vw.top _|fail)))))
        | (rw [if_neg (by omega)];exact (XaH.mk' [] _ (Xu5 _) (XaB.refl _ _) (by (repeat' (first|exact VwL.nil|(refine VwL.cons ?_ ?_)|exact Vw.refl _|exact Vw.top _|fail))))))
    | (have es:=XtX hd'.out (by omega)
       have e2:=h2'.out
       have e3:=hcc'.out
       rw [List.drop_drop] at es
       rw [e3] at es
       refine ⟨j+(t.length - j),by omega,⟨by omega,by omega⟩,?_⟩
       have e4:=hcm'.out
       rw [e3] at e4
       rw [←e4]
       exact (XaH.mk' [] _ (Xu5 _) (XaB.refl _ _) (by (repeat' (first|exact VwL.nil|(refine VwL.cons ?_ ?_)|exact Vw.refl _|exact Vw.top _|fail)))))
    | (have es:=XtY hd'.out (by omega) (by omega)
       have e2:=h2'.out
       have ek:nxk t k=j:=by unfold nxk;omega
       have e5:=hLC.out
       rw [ek,e5.1,e5.2]
       exact Xaf _ _ (Xrv rfl (XaH.mk' [] _ (Xu5 _) (XaB.refl _ _) (by (repeat' (first|exact VwL.nil|fail))))) rfl)
    | trace_state
  ·rw [hi1] at hib
   have htl:((t.drop j).take (cmt (t.drop j))).length=cmt (t.drop j):=by rw [List.length_take,hdl];omega
   generalize hrs:(t.drop j).take (cmt (t.drop j))=rs at htl
   (repeat' (first|with_reducible (first|refine Xai ?_|refine Xac ?_|refine Xat ?_|refine Xas ?_|refine Xaw ?_|refine Xae ?_|refine Xcd ?_|refine Xaa ?_|refine Xay ?_|refine Xaj ?_|refine Xax ?_)|(with_reducible refine Xbc mixed ?_ ?_;(decide +kernel))|(refine Xal _ rfl (fun h=>?_) (fun h=>?_)<;>first|(exact absurd h (by decide))|((try (simp only [whn] at h));first|(exfalso;omega;done)|skip))|((first|apply Xad rfl|apply XbG rfl);(case h=>(first|(apply Xab 0 rfl;(first|exact Xar _ rfl|exact Xap _ rfl))|(apply Xab 4 rfl;(exact Xbk _ rfl (by first|exact .inl ⟨_,rfl⟩|fail)))|(apply Xab 5 rfl;(exact Xam _ _ _ _ _ _ rfl rfl Xa3.out))|(apply Xab 6 rfl;(exact Xaz _ _ _ _ _ _ _ _ rfl rfl XaU.out XaM.out (by first|exact Xu4 rfl|fail) (by first|exact Xu4 rfl|fail)))|(apply Xab 8 rfl;(exact Xbu _ _ _ _ _ _ _ rfl rfl rfl (by kernel_rfl) rfl (by omega)))|(apply Xab 9 rfl;(exact Xbv _ _ _ _ _ _ _ rfl rfl (by kernel_rfl) (by first|exact .inl ⟨rfl,rfl⟩|exact .inr ⟨_,_,rfl,rfl⟩|fail) (by first|exact .inl ⟨rfl,rfl⟩|exact .inr ⟨_,_,rfl,rfl⟩|fail) (by omega) (by omega)))|(apply Xab 11 rfl;(exact XaA 120 Tryz.f120 _ _ rfl rfl Tryz.func120 (by decide) rfl (VwL.refl _ _) (hib)))|(apply XaD;(case hs=>(intro _ _ h;cases h));(case hx=>rfl);(case hrun=>(intro w;simp [wtb,AV.val,go_sem];(try go_bits);rfl)))));(case hT=>((try simp (disch:=omega) only [wtn,scc,List.take_length,List.drop_zero,hdl,hrs,htl,Xu9,Xu6,Xu7,Xva,Xve,Nat.reduceAdd,Nat.reduceMul,Nat.reduceSub,↓reduceIte,Nat.reduceEqDiff]);rfl)))|(refine Xah rfl ?_;((first|(refine Xaq 11 rfl ?_;(first|(refine Xak 85 Tryz.f85 ([_]) _ _ _ rfl rfl Tryz.func85 (by decide) rfl (Xu5 _) (VwL.refl _ _) (XdP b t j L C 1 (by omega) (by omega) (by omega)) ?_;rintro _ _ rfl)|(refine Xak 85 Tryz.f85 ([_]) _ _ _ rfl rfl Tryz.func85 (by decide) rfl (Xu5 _) (VwL.refl _ _) (XdP b t j L C (cmt (t.drop j)) (by omega) (by omega) (by omega)) ?_;rintro _ _ rfl)))|(refine Xaq 16 rfl ?_;(refine Xau _ _ _ _ _ _ _ rfl rfl XaU.out XaS.out (by first|rfl|fail) (by first|exact Xu4 rfl|fail) ?_)));apply Xag;(case hT=>((try simp (disch:=omega) only [wtn,scc,List.take_length,List.drop_zero,hdl,hrs,htl,Xu9,Xu6,Xu7,Xva,Xve,Nat.reduceAdd,Nat.reduceMul,Nat.reduceSub,↓reduceIte,Nat.reduceEqDiff]);rfl));(case hH=>((try simp (disch:=omega) only [wtn,scc,List.take_length,List.drop_zero,hdl,hrs,htl,Xu9,Xu6,Xu7,Xva,Xve,Nat.reduceAdd,Nat.reduceMul,Nat.reduceSub,↓reduceIte,Nat.reduceEqDiff]);rfl))))|fail))
   all_goals first
    | (have es:=XtW hd'.out (by omega)
       have e2:=h2'.out
       refine ⟨j+1,by omega,⟨by omega,by omega⟩,?_⟩
       rw [hpn'.out]
       first
        | (rw [if_pos (by omega)];exact (XaH.mk' [] _ (Xu5 _) (XaB.refl _ _) (by (repeat' (first|exact VwL.nil|(refine VwL.cons ?_ ?_)|exact Vw.refl _|exact Vw.top _|fail)))))
        | (rw [if_neg (by omega)];exact (XaH.mk' [] _ (Xu5 _) (XaB.refl _ _) (by (repeat' (first|exact VwL.nil|(refine VwL.cons ?_ ?_)|exact Vw.refl _|exact Vw.top _|fail))))))
    | (have es:=XtX hd'.out (by omega)
       have e2:=h2'.out
       have e3:=(rfl:cmt (t.drop j)=cmt (t.drop j))
       rw [List.drop_drop] at es
       rw [e3] at es
       refine ⟨j+cmt (t.drop j),by omega,⟨by omega,by omega⟩,?_⟩
       have e4:=hcm'.out
       rw [e3] at e4
       rw [←e4]
       exact (XaH.mk' [] _ (Xu5 _) (XaB.refl _ _) (by (repeat' (first|exact VwL.nil|(refine VwL.cons ?_ ?_)|exact Vw.refl _|exact Vw.top _|fail)))))
    | (have es:=XtY hd'.out (by omega) (by omega)
       have e2:=h2'.out
       have ek:nxk t k=j:=by unfold nxk;omega
       have e5:=hLC.out
       rw [ek,e5.1,e5.2]
       exact Xaf _ _ (Xrv rfl (XaH.mk' [] _ (Xu5 _) (XaB.refl _ _) (by (repeat' (first|exact VwL.nil|fail))))) rfl)
    | trace_state
 ·have e:t.drop j=[]:=List.drop_eq_nil_of_le (by omega)
  have e2:=h2'.out
  rw [e,XgJ] at e2
  have ek:nxk t k=j:=by unfold nxk;omega
  rw [ek]
  (repeat' (first|with_reducible (first|refine Xai ?_|refine Xa4 ?_|refine Xcd ?_|refine Xaa ?_|refine XaN ?_|refine XaK ?_)|(with_reducible refine Xbc mixed ?_ ?_;(decide +kernel))|(refine Xal _ rfl (fun h=>?_) (fun h=>?_)<;>((try (simp only [whn] at h));first|(exfalso;omega;done)|skip))|((apply XbG rfl);(case h=>(first|(apply Xab 0 rfl;(exact Xar _ rfl))|(apply Xab 4 rfl;(exact Xbk _ rfl (by first|exact .inl ⟨_,rfl⟩|fail)))|(apply Xab 5 rfl;(exact Xam _ _ _ _ _ _ rfl rfl Xa3.out))|(apply Xab 6 rfl;(exact Xaz _ _ _ _ _ _ _ _ rfl rfl XaU.out XaM.out (by first|exact Xu4 rfl|fail) (by first|exact Xu4 rfl|fail)))|(apply XaD;(case hs=>(intro _ _ h;cases h));(case hx=>rfl);(case hrun=>(intro w;simp [wtb,AV.val,go_sem];skip;rfl)))));(case hT=>((try simp only [wtn]);rfl)))|fail))
  exact Xc4 _ _ (Xrv rfl (XaH.mk' [] _ (Xu5 _) (XaB.refl _ _) (by (repeat' (first|exact VwL.nil|fail))))) rfl
open Go.Shelf Go.RowKit
theorem Xnu (b:Nat) (w:World) (h0:w.cell? ⟨b,0,none⟩=some (.pointer (some ⟨b,0,none⟩))) :
  Calls Tryz.prog 64 #[.pointer (some ⟨b,0,none⟩)] w fun e w'=>e=.returned (.tuple #[])∧w'=w:=by
 obtain ⟨j,hj,_⟩:=Option.map_eq_some_iff.1 Xa5.sizeBuilder
 go_enter Tryz.func64,Tryz.ntmps64
 go_wp2
 rw [Lib.run_neq_ptr_same w _ Tryz.underlying72 hj]
 go_wp2
 go_end0
 exact ⟨rfl,rfl⟩
theorem Xk2 (b:Nat) (w:World) (h0:w.cell? ⟨b,0,none⟩=some (.pointer none)) (hsh:w.shape? b=some (74,2)) (hfz:w.frozen? ⟨b,0,none⟩=false) :
  Calls Tryz.prog 64 #[.pointer (some ⟨b,0,none⟩)] w fun e w'=>e=.returned (.tuple #[])∧w'=w.setCell ⟨b,0,none⟩ (.pointer (some ⟨b,0,none⟩)):=by
 obtain ⟨j,hj,hjs⟩:=Option.map_eq_some_iff.1 Xa5.sizeBuilder
 go_enter Tryz.func64,Tryz.ntmps64
 go_wp2
 rw [Lib.run_to_unsafe w ⟨b,0,none⟩ Tryz.underlying72 Tryz.underlying153 hj (by rw [hjs];decide) hsh (Nat.zero_lt_succ 1)]
 simp only [Result.andThen]
 rw [Oper.upon_value]
 go_wp2
 rw [run_callFunc_extern Tryz.func101 (by kernel_rfl) (by kernel_rfl) (by kernel_rfl) (e:=Extern.AbiNoEscape.same) (by kernel_rfl)]
 rw [Lib.run_noEscape]
 simp only [Result.andThen]
 rw [Oper.upon_value]
 go_wp2
 rw [Lib.run_from_unsafe w ⟨b,0,none⟩ Tryz.underlying153 Tryz.underlying72 hj hsh Xa5.liesBuilder]
 simp only [Result.andThen]
 rw [Oper.upon_value]
 go_wp2
 go_end0
 exact ⟨rfl,rfl⟩
theorem Xq7 (B b:Nat) (bs:List Value) (w:World) (h:Lib.IsBuilder 74 5 B b bs w) :
  Calls Tryz.prog 64 #[.pointer (some ⟨b,0,none⟩)] w fun e w'=>e=.returned (.tuple #[])∧(Lib.BuilderAt 74 5 B b (.pointer (some ⟨b,0,none⟩)) bs w'∧Below B w w'):=by
 rcases h with h|h
 ·refine (Xk2 b w h.cell0 h.shape h.frozen0).mono ?_
  rintro e w' ⟨rfl,rfl⟩
  exact ⟨rfl,h.used _,(Below.refl B w).setCell (p:=⟨b,0,none⟩) h.1 _⟩
 ·refine (Xnu b w h.cell0).mono ?_
  rintro e w' ⟨rfl,rfl⟩
  exact ⟨rfl,h,Below.refl B _⟩
theorem Xd2 (B b:Nat) (bs:List Value) (c:Int) (w:World) (h:Lib.IsBuilder 74 5 B b bs w) (hlen:bs.length+1≤140737488355328) (hBw:B≤w.heap.size) :
  Calls Tryz.prog 34 #[.pointer (some ⟨b,0,none⟩),.int .u8 c] w fun e w'=>e=.returned .nilIface∧(Lib.BuilderAt 74 5 B b (.pointer (some ⟨b,0,none⟩)) (bs++[.int .u8 c]) w'∧Below B w w'):=by
 obtain ⟨i0,hi,hz0,hz1,hz2⟩:=info_parts Xa5.infoByte
 go_enter Tryz.func34,Tryz.ntmps34
 go_wp2_with (go_at_call 64;refine (Xq7 B b bs _ h).mono ?_)
 rintro e w1 ⟨rfl,h1,hb1⟩
 obtain ⟨hB,v,hbk,hown,hne⟩:=h1
 have c0:w1.cell? ⟨b,0,none⟩=some (.pointer (some ⟨b,0,none⟩)):=by rw [Lib.cell_of_heap hbk];rfl
 have c1:w1.cell? ⟨b,1,none⟩=some v:=by rw [Lib.cell_of_heap hbk];rfl
 go_wp2_with (at_builtin;refine wpList_append_own _ rfl _ _ 39 rfl B 5 i0 (.int .u8 0) 1 1 Tryz.underlying39 hi hz0 hz1 hz2 rfl (by decide) _ _ _ rfl (hown.alloc _) ⟨w1.heap.size,0,none⟩ 1 1 [.int .u8 c] rfl rfl ?c1 ?c2 ?c3 ?c4 ?c5 ?_)
 case c1=>
  intro j u hj
  match j,hj with
  | 0,hj=>simp at hj;subst hj;simp [Addr.add]
 case c2=>intro u hu;simp at hu;subst hu;rfl
 case c3=>unfold maxLen;omega
 case c4=>omega
 case c5=>have:=hb1.size;simp;omega
 intro v' w2 hown' hgrow _
 have hlt:b < w1.heap.size:=by
  rcases Nat.lt_or_ge b w1.heap.size with h'|h'
  ·exact h'
  ·simp [Array.getElem?_eq_none h'] at hbk
 have hb2:w2.heap[b]?=some (.cells #[.pointer (some ⟨b,0,none⟩),v] 74 (0,0)):=by
  rw [hgrow.block b (by simp;omega) (fun e=>hne e.symm),Lib.alloc_old w1 _ b hlt]
  exact hbk
 have d0:w2.cell? ⟨b,0,none⟩=some (.pointer (some ⟨b,0,none⟩)):=by rw [Lib.cell_of_heap hb2];rfl
 have d1:w2.cell? ⟨b,1,none⟩=some v:=by rw [Lib.cell_of_heap hb2];rfl
 have f1:w2.frozen? ⟨b,1,none⟩=false:=Lib.frozen_of_heap hb2 1
 obtain ⟨g,cap,rfl⟩:∃g cap,v'=.slice (some ⟨g,0,none⟩) (bs.length+1) cap:=by
  rcases hown'.2 with ⟨_,h0⟩|⟨g,cap,cur,hv,_⟩
  ·omega
  ·exact ⟨g,cap,hv⟩
 go_wp2
 go_ret
 refine ⟨rfl,?_,?_⟩
 ·exact Lib.BuilderAt.put (T:=74) (e:=5) hB hb2 (bs':=bs++[.int .u8 c]) (by simpa using hown') Xa5.neB5
 ·exact ((hb1.alloc (by have:=hb1.size;omega) _).grown hgrow (by have:=hb1.size;simp;omega) (fun k hk=>(hown.lt k hk).1)).setCell (p:=⟨b,1,none⟩) hB _
end Go.Proofs.YtdpobjakdplljaaGreatDoor

import Derived.Test.YtdpobjakdplljaaGreatDoorY17
import Derived.Test.YtdpobjakdplljaaGreatDoorY7
import Derived.Test.YtdpobjakdplljaaGreatDoorY15
import Derived.Test.YtdpobjakdplljaaGreatDoorY14
import Derived.Test.YtdpobjakdplljaaGreatDoorY9
/- The reference of scripts: an event of tokens. -/
set_option linter.unusedSimpArgs false
set_option linter.unusedVariables false
set_option maxRecDepth 100000
set_option maxHeartbeats 8000000
namespace Go.Proofs.YtdpobjakdplljaaGreatDoor
open Go.RowKit
theorem XrW {w:List UInt8} (h:∀i,i < 14→XbA.getD i []≠w):Xnr w=none:=by
 unfold Xnr
 rw [if_neg]
 intro hm
 obtain ⟨i,hi,e⟩:=List.mem_iff_getElem.1 hm
 exact h i hi (by rw [List.getD_eq_getElem?_getD,List.getElem?_eq_getElem hi];exact e)
theorem XrU {w:List UInt8} {k:Nat} (hk:k < 14) (h:XbA.getD k []=w):Xnr w=some k:=by
 unfold Xnr
 subst h
 match k,hk with
 | 0,_=>decide
 | 1,_=>decide
 | 2,_=>decide
 | 3,_=>decide
 | 4,_=>decide
 | 5,_=>decide
 | 6,_=>decide
 | 7,_=>decide
 | 8,_=>decide
 | 9,_=>decide
 | 10,_=>decide
 | 11,_=>decide
 | 12,_=>decide
 | 13,_=>decide
def Xmh:Option EF→AV
 | some e=>.tup [.agg e.cells,.x (.bool true)]
 | none=>.tup [.x (.agg #[.int .i64 0,.string (bs []),.bool false,.int .i64 0,.slice none 0 0,.int .u64 0,.int .i64 0,.int .i64 0]),.x (.bool false)]
theorem XjE (l:List Tok) (k:Nat) (h:k < l.length):(ta l).drop (k*4)=.x (.int .i64 l[k].kind) :: .x (.string (bs l[k].text)) :: .x (.int .i64 (l[k].line:Nat)) :: .x (.int .i64 (l[k].col:Nat)) :: ta (l.drop (k+1)):=XeB l k h
theorem XbP (v:Nat):(v:Int)+1=((v+1:Nat):Int):=by omega
theorem XfB (e:EF) (fs:List UInt8) (ts:List Tok) (i:Nat) (h1:i < fs.length) (h2:i < ts.length):XdA e (fs.drop i) (ts.drop i)=(XeS e fs[i] ts[i]).bind fun e=>XdA e (fs.drop (i+1)) (ts.drop (i+1)):=by
 rw [List.drop_eq_getElem_cons h1,List.drop_eq_getElem_cons h2];rfl
theorem Xgj {l:List Tok} (h1:1≤l.length) (h:l[0].kind=1→∀i,i < 14→XbA.getD i []≠l[0].text):Xcf l=none:=by
 cases l with
 | nil=>simp at h1
 | cons t r=>
   unfold Xcf
   simp only [List.getElem_cons_zero] at h ⊢
   by_cases hk:t.kind=1
   ·rw [if_neg (fun q=>q hk),XrW (h hk)]
   ·rw [if_pos hk]
theorem XdX {l:List Tok} (h1:1≤l.length) (hk:l[0].kind=1) {k:Nat} (h14:k < 14) (hw:XbA.getD k []=l[0].text):Xcf l=if l.length≠(Xa2.getD k []).length+1 then none else XdA (ev0 (k+1:Nat)) (Xa2.getD k []) (l.drop 1):=by
 cases l with
 | nil=>simp at h1
 | cons t r=>
   unfold Xcf
   simp only [List.getElem_cons_zero] at hk hw ⊢
   rw [if_neg (fun q=>q hk),XrU h14 hw]
   simp only [Xvy,List.drop_succ_cons,List.drop_zero]
   by_cases he:r.length=(Xa2.getD k []).length
   ·rw [if_neg (fun q=>q he),if_neg (by omega)]
   ·rw [if_pos he,if_pos (by omega)]
theorem Xk6 {k:Nat} (h:k < 14):(Xa2.getD k []).length≤2:=by
 match k,h with
 | 0,_=>decide
 | 1,_=>decide
 | 2,_=>decide
 | 3,_=>decide
 | 4,_=>decide
 | 5,_=>decide
 | 6,_=>decide
 | 7,_=>decide
 | 8,_=>decide
 | 9,_=>decide
 | 10,_=>decide
 | 11,_=>decide
 | 12,_=>decide
 | 13,_=>decide
theorem Xr6 (l:List Tok) (h1:1≤l.length) (hl:l.length≤3000) (hN:∀t∈l,Xpr t) (hlen:∀t∈l,t.text.length≤70000):Xa3 Tryz.prog 28 [] [.sq l.length (ta l)] (fun r H'=>r=Xmh (Xcf l)∧H'=[]):=by
 have hN':=Lib.hid hN
 have hlen':=Lib.hid hlen
 clear hN hlen
 have h0:=XjE l 0 (by omega)
 refine XaD Tryz.func28 rfl ?_
 simp only [Tryz.ntmps28,Xvy,XvB,XvC,XvD,XvG,XvF,Nat.reduceAdd,Nat.reduceSub]
 (repeat' (first|with_reducible (first|refine Xag ?_|refine Xac ?_|refine Xao ?_|refine Xae ?_|refine Xaa ?_)|((apply Xad rfl);(case h=>(apply Xab 0 rfl;(exact Xan _ rfl)));(case hT=>((try simp only [wtn]);rfl)))|(refine Xai rfl ?_;((refine Xas 14 rfl ?_;(refine XaK _ _ rfl Xbk.out rfl (fun b=>?_)));apply Xah;(case hT=>((try simp only [wtn]);rfl));(case hH=>((try simp only [wtn]);rfl))))|fail))
 revert b
 intro br
 apply XaQ (S:=Nat) (fun k=>frm 59 [(0,.sq l.length (ta l)),(2,.x (.pointer (some ⟨br,0,none⟩))),(4,.x (.int .i64 k))]) (fun _=>[.box br [.x (.int .i64 0),.x (.string (bs [])),.x (.bool false),.x (.int .i64 0),.x (.slice none 0 0),.x (.int .u64 0),.x (.int .i64 0),.x (.int .i64 0)]]) (fun k=>1≤k∧k≤15∧(l[0].kind=1→∀i,i < k - 1→XbA.getD i []≠l[0].text)) (fun k=>15 - k) 1
 case h0=>exact (XaH.mk' [] _ (Xvv _) (XaB.refl _ _) (by (repeat' (first|exact VwL.nil|(refine VwL.cons ?_ ?_)|exact Vw.refl _|exact Vw.top _|fail))))
 case hi=>exact ⟨Nat.le_refl _,by omega,fun _ i hi=>by omega⟩
 rintro k ⟨k1,k2,hw⟩
 have hw':=Lib.hid hw
 clear hw
 simp only [frm,XvC,XvD,Xvw,Xvx,XvJ,XvK]
 by_cases hk:k≤14
 ·have hf:=Xrt k k1 hk
  have hfl:=Xk6 (k:=k - 1) (by omega)
  generalize hwd:XbA.getD (k - 1) []=wd at hf
  generalize hfs:Xa2.getD (k - 1) []=fs at hf hfl
  have hwd':=Lib.hid hwd
  have hfs':=Lib.hid hfs
  clear hwd hfs
  (repeat' (first|with_reducible (first|refine Xag ?_|refine Xac ?_|refine Xao ?_|refine Xar ?_|refine Xau ?_|refine XaW ?_|refine Xae ?_|refine Xaa ?_|refine XaL ?_|refine Xax ?_|refine XaJ ?_|refine Xav ?_)|(refine Xak _ rfl (fun h=>?_) (fun h=>?_)<;>((try (simp only [whn] at h));first|(exfalso;omega;done)|skip))|((first|apply Xad rfl|apply Xa8 _ _ rfl rfl rfl);(case h=>((try (intro (hp:(_:Bool)=true);((try simp only [Bool.not_eq_true'] at hp);(try simp only [hp,wte]);(try simp only [whn] at hp))));(first|(apply Xab 0 rfl;(first|exact Xap _ rfl|exact Xan _ rfl))|(apply Xab 1 rfl;(exact XdJ _ _ _ _ _ rfl rfl rfl rfl))|(apply Xab 2 rfl;(exact XaM _ _ _ _ rfl rfl rfl))|(apply Xab 3 rfl;(exact XaX _ _ _ _ _ _ HEl.out rfl rfl))|(apply Xab 5 rfl;(exact XbV _ _ _ _ _ rfl rfl Xa5.out))|(apply Xab 6 rfl;(exact XaF _ _ _ _ _ rfl rfl XaN.out (by first|exact Xvu rfl|fail) (by first|exact Xvu rfl|fail)))|(apply Xab 7 rfl;(exact XaG _ _ _ _ _ _ _ _ _ _ rfl rfl rfl HEl.out rfl (by first|assumption|fail) (by simp;first|omega|fail)))|(apply Xab 10 rfl;(exact Xa1 _ _ _ _ _ rfl HPl.out (by first|rfl|fail) rfl))|(apply Xab 11 rfl;(exact Xay 57 Tryz.f57 _ _ rfl rfl Tryz.func57 (by decide) rfl (VwL.refl _ _) (hf)))|(apply XaC;(case hs=>(intro _ _ h;cases h));(case hx=>rfl);(case hrun=>(intro w;simp [wtb,AV.val,go_sem];(try go_bits);rfl))))));(case hT=>((try simp (disch:=omega) only [wtn,h0,Xvz,Xvw,Xvx,XvA,XvE,Nat.reduceAdd,Nat.reduceMul,Nat.reduceSub,↓reduceIte,Nat.reduceEqDiff]);rfl)))|(refine Xai rfl ?_;((first|(refine Xas 14 rfl ?_;(refine XaK _ _ rfl Xbk.out rfl (fun b=>?_)))|(refine Xas 16 rfl ?_;(refine Xaw _ _ _ _ _ _ _ rfl rfl XaS.out XaR.out (by first|rfl|fail) (by first|exact Xvu rfl|fail) ?_)));apply Xah;(case hT=>((try simp (disch:=omega) only [wtn,h0,Xvz,Xvw,Xvx,XvA,XvE,Nat.reduceAdd,Nat.reduceMul,Nat.reduceSub,↓reduceIte,Nat.reduceEqDiff]);rfl));(case hH=>((try simp (disch:=omega) only [wtn,h0,Xvz,Xvw,Xvx,XvA,XvE,Nat.reduceAdd,Nat.reduceMul,Nat.reduceSub,↓reduceIte,Nat.reduceEqDiff]);rfl))))|fail))
  ·refine ⟨k+1,by omega,⟨by omega,by omega,fun hk1 i hi=>?_⟩,(XaH.mk' [] _ (Xvv _) (XaB.refl _ _) (by (repeat' (first|exact VwL.nil|(refine VwL.cons ?_ ?_)|exact Vw.refl _|exact Vw.top _|fail))))⟩
   rcases Nat.lt_or_ge i (k - 1) with h5|h5
   ·exact hw'.out hk1 i h5
   ·obtain rfl:i=k - 1:=by omega
    rw [hwd'.out]
    rcases h with h|h
    ·exact absurd hk1 h
    ·exact fun e=>h e.symm
  ·rename_i _ hkw
   refine Xaf _ _ (XcB rfl (RV.cell 1 rfl rfl XaN.out (by simp) (by simp)) (RV.tmp _) (XaH.mk' [_,_] [] (Xvv _) XaB.nil (VwL.refl _ _))) ?_
   refine ⟨?_,rfl⟩
   rw [XdX h1 (by exact hkw.1) (k:=k - 1) (by omega) (by rw [hwd'.out,hkw.2]),hfs'.out,if_pos (by omega)]
   rfl
  ·rename_i _ hkw
   have hkw':=Lib.hid hkw
   clear hkw
   revert b
   intro be
   have hat:=Lib.hid (XdX h1 hkw'.out.1 (k:=k - 1) (by omega) (by rw [hwd'.out,hkw'.out.2]))
   have hlf:l.length=fs.length+1:=by omega
   apply XaQ (S:=Nat × EF) (fun q=>frm 59 [(0,.sq l.length (ta l)),(2,.x (.pointer (some ⟨br,0,none⟩))),(6,.x (.string (bs fs))),(7,.x (.pointer (some ⟨be,0,none⟩))),(8,.x (.int .i64 q.1))]) (fun q=>[.box be q.2.cells,.box br [.x (.int .i64 0),.x (.string (bs [])),.x (.bool false),.x (.int .i64 0),.x (.slice none 0 0),.x (.int .u64 0),.x (.int .i64 0),.x (.int .i64 0)]]) (fun q=>q.1≤fs.length∧Xcf l=XdA q.2 (fs.drop q.1) ((l.drop 1).drop q.1)) (fun q=>fs.length - q.1) (0,ev0 k)
   case h0=>exact XaH.mk' [] [_,_] (Xvv _) (XaB.cons (VwH.box _ (VwL.cons (Vw.refl _) (VwL.cons (Vw.refl _) (VwL.cons (Vw.refl _) (VwL.cons (Vw.refl _) (VwL.cons Vw.nil (VwL.refl _ _))))))) (XaB.cons (VwH.refl _ _) XaB.nil)) (by (repeat' (first|exact VwL.nil|(refine VwL.cons ?_ ?_)|exact Vw.refl _|exact Vw.top _|fail)))
   case hi=>
    refine ⟨Nat.zero_le _,?_⟩
    rw [hat.out,hfs'.out,if_neg (by omega),List.drop_zero,List.drop_zero,show k - 1+1=k from by omega]
   rintro ⟨i,ev⟩ ⟨g1,g2⟩
   simp only at g1 g2
   have g2':=Lib.hid g2
   clear g2
   simp only [frm,XvC,XvD,Xvw,Xvx,XvJ,XvK]
   by_cases hi:i < fs.length
   ·have hd:=XjE l (i+1) (by omega)
    have hF:=Xr9 be ev (fs.getD i 0) l[i+1] (hN'.out _ (List.getElem_mem _)) (hlen'.out _ (List.getElem_mem _))
    have hst:=Lib.hid (XfB ev fs (l.drop 1) i hi (by simp;omega))
    unfold Tok.av at hF
    (repeat' (first|with_reducible (first|refine Xag ?_|refine Xac ?_|refine Xao ?_|refine Xau ?_|refine Xae ?_|refine Xaa ?_)|(refine Xak _ rfl (fun h=>?_) (fun h=>?_)<;>((try (simp only [whn] at h));first|(exfalso;omega;done)|skip))|((apply Xad rfl);(case h=>(first|(apply Xab 0 rfl;(exact Xap _ rfl))|(apply XaC;(case hs=>(intro _ _ h;cases h));(case hx=>rfl);(case hrun=>(intro w;simp [wtb,AV.val,go_sem];skip;rfl)))));(case hT=>((try simp only [wtn]);rfl)))|fail))
    refine Xc5 (B:=[]) (R:=[_,_]) mixed [0,1,2,3,4,5,6,7,8,9] [8] [] none [] 0 (Xvv _) (by decide +kernel) rfl (fun i o h=>by cases h) (by decide) ?_
    (repeat' (first|(apply Xcv rfl rfl;(case h=>(intro H1;(try simp only [XvF]);(first|(apply Xab 0 rfl;(exact Xap _ rfl))|(apply Xab 6 rfl;(exact XaF _ _ _ _ _ rfl rfl XaN.out (by first|exact Xvu rfl|fail) (by first|exact Xvu rfl|fail)))|(apply Xab 7 rfl;(exact XaG _ _ _ _ _ _ _ _ _ _ rfl rfl rfl HEl.out rfl (by first|omega|fail) (by simp;first|omega|fail)))|(apply Xab 8 rfl;(exact Xbb _ _ _ _ _ _ _ rfl rfl rfl (by kernel_rfl) rfl (by omega)))|(apply XaC;(case hs=>(intro _ _ h;cases h));(case hx=>rfl);(case hrun=>(intro w;simp [wtb,AV.val,go_sem];(try go_bits);rfl))))));(case hT=>((try simp (disch:=omega) only [wtn,hd,XbP,Xvz,Xvw,Xvx,XvA,XvE,Nat.reduceAdd,Nat.reduceMul,Nat.reduceSub,↓reduceIte,Nat.reduceEqDiff]);rfl)))|(apply Xc7 rfl rfl;(refine Xas 11 rfl ?_;(refine Xam 58 Tryz.f58 [_] _ _ _ rfl rfl Tryz.func58 (by decide) rfl (Xvv _) (VwL.refl _ _) (hF) ?_;rintro _ _ ⟨rfl,rfl⟩));refine ⟨_,rfl,?_⟩;apply Xc6;(case hT=>((try simp (disch:=omega) only [wtn,hd,XbP,Xvz,Xvw,Xvx,XvA,XvE,Nat.reduceAdd,Nat.reduceMul,Nat.reduceSub,↓reduceIte,Nat.reduceEqDiff]);rfl));(case hH=>((try simp (disch:=omega) only [wtn,hd,XbP,Xvz,Xvw,Xvx,XvA,XvE,Nat.reduceAdd,Nat.reduceMul,Nat.reduceSub,↓reduceIte,Nat.reduceEqDiff]);rfl)))|fail))
    (first|refine XbY ?_|fail);(apply XaA;(case hT=>rfl);(case hH=>(simp only [XvF];rfl)));skip;refine Xa4 (by decide +kernel) ?_
    (repeat (first|refine Xaa ?_|fail))
    have e1:fs.getD i 0=fs[i]:=by rw [List.getD_eq_getElem?_getD,List.getElem?_eq_getElem hi];rfl
    have e2:(l.drop 1)[i]'(by simp;omega)=l[i+1]:=by simp [Nat.add_comm]
    have hst2:=hst.out
    rw [e2,←e1,XiQ] at hst2
    have hst3:=Lib.hid hst2
    clear hst2 hst e1 e2
    (repeat' (first|with_reducible (first|refine Xag ?_|refine Xac ?_|refine Xar ?_|refine Xau ?_|refine Xae ?_|refine Xaa ?_|refine Xax ?_|refine Xaj ?_|refine Xav ?_)|(refine Xak _ rfl (fun h=>?_) (fun h=>?_)<;>((try (simp only [whn] at h));skip))|((apply Xad rfl);(case h=>(first|(apply Xab 0 rfl;(first|exact Xap _ rfl|exact Xan _ rfl))|(apply Xab 10 rfl;(exact Xa1 _ _ _ _ _ rfl HPl.out (by first|rfl|fail) rfl))|(apply XaC;(case hs=>(intro _ _ h;cases h));(case hx=>rfl);(case hrun=>(intro w;simp [wtb,AV.val,go_sem];(try go_bits);rfl)))));(case hT=>((try simp only [wtn,↓reduceIte]);rfl)))|(refine Xai rfl ?_;((refine Xas 16 rfl ?_;(refine Xaw _ _ _ _ _ _ _ rfl rfl XaS.out XaR.out (by first|rfl|fail) (by first|exact Xvu rfl|fail) ?_));apply Xah;(case hT=>((try simp only [wtn]);rfl));(case hH=>((try simp only [wtn,Nat.reduceAdd]);rfl))))|fail))
    ·have h':XbH (fs.getD i 0) l[i+1]=false:=by simpa using h
     refine Xaf _ _ (XcB rfl (RV.cell 1 rfl rfl XaN.out (by simp) (by simp)) (RV.tmp _) (XaH.mk' [_,_] [] (Xvv _) XaB.nil (VwL.refl _ _))) ?_
     refine ⟨?_,rfl⟩
     rw [g2'.out,hst3.out,h']
     rfl
    ·have h':XbH (fs.getD i 0) l[i+1]=true:=by simpa using h
     refine ⟨(i+1,XgU ev (fs.getD i 0) l[i+1]),by simp only;omega,⟨by simp only;omega,?_⟩,?_⟩
     ·simp only
      rw [g2'.out,hst3.out,h']
      rfl
     ·exact (XaH.mk' [] _ (Xvv _) (XaB.refl _ _) (by (repeat' (first|exact VwL.nil|(refine VwL.cons ?_ ?_)|exact Vw.refl _|exact Vw.top _|fail))))
   ·unfold EF.cells
    (repeat' (first|with_reducible (first|refine Xag ?_|refine Xac ?_|refine Xar ?_|refine XaW ?_|refine Xae ?_|refine Xaa ?_|refine XaL ?_|refine Xax ?_|refine XaJ ?_|refine Xav ?_)|(refine Xak _ rfl (fun h=>?_) (fun h=>?_)<;>((try (simp only [whn] at h));first|(exfalso;omega;done)|skip))|((apply Xad rfl);(case h=>(first|(apply Xab 0 rfl;(first|exact Xap _ rfl|exact Xan _ rfl))|(apply Xab 6 rfl;(exact Xaz _ _ _ _ _ _ _ _ rfl rfl XaS.out XaN.out (by first|exact Xvu rfl|fail) (by first|exact Xvu rfl|fail)))|(apply XaC;(case hs=>(intro _ _ h;cases h));(case hx=>rfl);(case hrun=>(intro w;simp [wtb,AV.val,go_sem];skip;rfl)))));(case hT=>((try simp only [wtn,↓reduceIte]);rfl)))|(refine Xai rfl ?_;((refine Xas 16 rfl ?_;(refine Xaw _ _ _ _ _ _ _ rfl rfl XaS.out XaR.out (by first|rfl|fail) (by first|exact Xvu rfl|fail) ?_));apply Xah;(case hT=>((try simp only [wtn]);rfl));(case hH=>((try simp only [wtn,Nat.reduceAdd]);rfl))))|fail))
    refine Xaf _ _ (XcB rfl (RV.cell 1 rfl rfl XaN.out (by simp) (by simp)) (RV.tmp _) (XaH.mk' [_,_] [] (Xvv _) XaB.nil (VwL.refl _ _))) ?_
    refine ⟨?_,rfl⟩
    rw [g2'.out,List.drop_of_length_le (by omega)]
    rfl
 ·(repeat' (first|with_reducible (first|refine Xag ?_|refine Xac ?_|refine Xar ?_|refine XaW ?_|refine Xae ?_|refine Xaa ?_|refine XaL ?_|refine XaJ ?_)|(refine Xak _ rfl (fun h=>?_) (fun h=>?_)<;>((try (simp only [whn] at h));first|(exfalso;omega;done)|skip))|((apply Xad rfl);(case h=>(first|(apply Xab 0 rfl;(first|exact Xap _ rfl|exact Xan _ rfl))|(apply Xab 10 rfl;(exact Xa1 _ _ _ _ _ rfl HPl.out (by first|rfl|fail) rfl))|(apply XaC;(case hs=>(intro _ _ h;cases h));(case hx=>rfl);(case hrun=>(intro w;simp [wtb,AV.val,go_sem];skip;rfl)))));(case hT=>((try simp only [wtn,↓reduceIte]);rfl)))|(refine Xai rfl ?_;((refine Xas 16 rfl ?_;(refine Xaw _ _ _ _ _ _ _ rfl rfl XaS.out XaR.out (by first|rfl|fail) (by first|exact Xvu rfl|fail) ?_));apply Xah;(case hT=>((try simp only [wtn]);rfl));(case hH=>((try simp only [wtn,Nat.reduceAdd]);rfl))))|fail))
  refine Xaf _ _ (XcB rfl (RV.cell 0 rfl rfl XaN.out (by simp) (by simp)) (RV.tmp _) (XaH.mk' [_] [] (Xvv _) XaB.nil (VwL.refl _ _))) ?_
  refine ⟨?_,rfl⟩
  rw [Xgj h1 (fun q i hi=>hw'.out q i (by omega))]
  rfl
def dcI (n:Int):List UInt8:=if n < 0 then 45 :: XbJ (-n).toNat else XbJ n.toNat
theorem XhR {n:Int} (h:0≤n):dcI n=XbJ n.toNat:=if_neg (by omega)
def Xcr (e:EF) (f:UInt8):List UInt8:=
 if f.toNat=78 then e.job else if f.toNat=75 then (if e.ok then wOk else Xdb) else if f.toNat=68 then XcE e.data
 else if f.toNat=84 then XbJ e.time.toNat else if f.toNat=67 then dcI e.code else if f.toNat=76 then dcI e.client else dcI e.num
def XbQ (e:EF) (fs:List UInt8):List UInt8:=fs.flatMap fun f=>32 :: Xcr e f
def Xhe (k:Nat) (e:EF):List UInt8:=XbA.getD k []++XbQ e (Xa2.getD k [])
def XdO (e:EF):List UInt8:=if 1≤e.kind∧e.kind≤14 then Xhe (e.kind.toNat - 1) e else []
def Xby (l:List EF):List UInt8:=l.flatMap fun e=>XdO e++[10]
def cKT (e:EF) (f:UInt8):KT:=
 if f.toNat=78 then (1,e.job) else if f.toNat=75 then (1,if e.ok then wOk else Xdb) else if f.toNat=68 then (3,e.data)
 else if f.toNat=84 then (2,XbJ e.time.toNat) else if f.toNat=67 then (2,XbJ e.code.toNat) else if f.toNat=76 then (2,XbJ e.client.toNat) else (2,XbJ e.num.toNat)
def Xto (e a:EF) (f:UInt8):EF:=
 if f.toNat=78 then { a with job:=e.job } else if f.toNat=75 then { a with ok:=e.ok } else if f.toNat=68 then { a with data:=e.data }
 else if f.toNat=84 then { a with time:=e.time } else if f.toNat=67 then { a with code:=e.code } else if f.toNat=76 then { a with client:=e.client } else { a with num:=e.num }
def Sm (n:Int):Prop:=0≤n∧n≤999999999
def FOk (e:EF) (f:UInt8):Prop:=
 if f.toNat=78 then Xct e.job else if f.toNat=75 then True else if f.toNat=68 then True
 else if f.toNat=84 then Xg6 e.time else if f.toNat=67 then Sm e.code else if f.toNat=76 then Sm e.client else Sm e.num
theorem Sm.b {n:Int} (h:Sm n):Xg6 n:=⟨h.1,by have:=h.2;omega⟩
def XfI (e:EF):Prop:=∃k,k < 14∧e.kind=((k+1:Nat):Int)∧(∀f∈Xa2.getD k [],FOk e f)∧(Xa2.getD k []).foldl (Xto e) (ev0 (k+1:Nat))=e
theorem Xnq {e a:EF} {f:UInt8} {t:Tok} (h:FOk e f) (hk:(t.kind,t.text)=cKT e f):XeS a f t=some (Xto e a f):=by
 unfold FOk at h
 unfold cKT at hk
 unfold XeS Xto
 by_cases h1:f.toNat=78
 ·simp only [h1,if_true,Prod.mk.injEq] at hk ⊢
  rw [if_pos hk.1,hk.2]
 by_cases h2:f.toNat=75
 ·simp only [h2,if_true,Nat.reduceEqDiff,if_false] at hk ⊢
  simp only [Prod.mk.injEq] at hk
  obtain ⟨q1,q2⟩:=hk
  cases he:e.ok with
  | true=>rw [he] at q2;simp only [if_true] at q2;rw [if_pos ⟨q1,.inl q2⟩,q2];simp
  | false=>rw [he] at q2;simp only [Bool.false_eq_true,if_false] at q2;rw [if_pos ⟨q1,.inr q2⟩,q2];simp [wOk,Xdb]
 by_cases h3:f.toNat=68
 ·simp only [h3,if_true,Nat.reduceEqDiff,if_false] at hk ⊢
  simp only [Prod.mk.injEq] at hk
  obtain ⟨q1,q2⟩:=hk
  simp [q1,q2]
 simp only [h1,h2,h3,if_false] at h hk ⊢
 by_cases h4:f.toNat=84
 ·simp only [h4,if_true,Nat.reduceEqDiff,if_false,Prod.mk.injEq] at h hk ⊢
  obtain ⟨q1,q2⟩:=hk
  simp [q1,q2,Xjk h]
 simp only [h4,if_false] at h hk ⊢
 by_cases h5:f.toNat=67
 ·simp only [h5,if_true,Nat.reduceEqDiff,if_false,Prod.mk.injEq] at h hk ⊢
  obtain ⟨q1,q2⟩:=hk
  rw [if_neg (by omega),q2,Xjk h.b,if_neg (by have:=h.2;omega)]
 simp only [h5,if_false] at h hk ⊢
 by_cases h6:f.toNat=76
 ·simp only [h6,if_true,Prod.mk.injEq] at h hk ⊢
  obtain ⟨q1,q2⟩:=hk
  rw [if_neg (by omega),q2,Xjk h.b,if_neg (by have:=h.2;omega)]
 simp only [h6,if_false,Prod.mk.injEq] at h hk ⊢
 obtain ⟨q1,q2⟩:=hk
 rw [if_neg (by omega),q2,Xjk h.b,if_neg (by have:=h.2;omega)]
theorem Xhd {e:EF}:∀(fs:List UInt8) (ts:List Tok) (a:EF),(∀f∈fs,FOk e f)→kts ts=fs.map (cKT e)→XdA a fs ts=some (fs.foldl (Xto e) a)
 | [],ts,a,_,_=>rfl
 | f :: fs,[],a,_,h=>by simp [kts] at h
 | f :: fs,t :: ts,a,h,hk=>by
   simp only [kts,XvA,List.cons.injEq] at hk
   rw [XdA,Xnq (h f (by simp)) hk.1,Option.bind_some,Xvw]
   exact Xhd fs ts _ (fun g hg=>h g (by simp [hg])) hk.2
/-! ### Lines are read -/
theorem XaZ.any {C:List UInt8→Prop} {l:List UInt8} {ks:List KT} (h:XaZ Any l ks):XaZ C l ks:=fun p n t _ hn=>h p n t trivial hn
theorem XoZ {e:EF} {f:UInt8} (h:FOk e f):XaZ Brk (Xcr e f) [cKT e f]:=by
 unfold FOk at h
 unfold Xcr cKT
 by_cases h1:f.toNat=78
 ·simp only [h1,if_true] at h ⊢;exact XaZ.word h
 by_cases h2:f.toNat=75
 ·simp only [h2,if_true,Nat.reduceEqDiff,if_false]
  cases e.ok with
  | true=>exact XaZ.word (XbD (by decide))
  | false=>exact XaZ.word (XbD (by decide))
 by_cases h3:f.toNat=68
 ·simp only [h3,if_true,Nat.reduceEqDiff,if_false];exact (XaZ.str e.data).any
 simp only [h1,h2,h3,if_false] at h ⊢
 by_cases h4:f.toNat=84
 ·simp only [h4,if_true] at h ⊢;exact XaZ.num (XdL h)
 simp only [h4,if_false] at h ⊢
 by_cases h5:f.toNat=67
 ·simp only [h5,if_true] at h ⊢;rw [XhR h.1];exact XaZ.num (XdL h.b)
 simp only [h5,if_false] at h ⊢
 by_cases h6:f.toNat=76
 ·simp only [h6,if_true] at h ⊢;rw [XhR h.1];exact XaZ.num (XdL h.b)
 simp only [h6,if_false] at h ⊢
 rw [XhR h.1];exact XaZ.num (XdL h.b)
theorem Xhu {e:EF}:∀(fs:List UInt8) (w:List UInt8) (kw:List KT),(∀f∈fs,FOk e f)→XaZ Brk w kw→XaZ Brk (w++XbQ e fs) (kw++fs.map (cKT e))
 | [],w,kw,_,h=>by simpa [XbQ] using h
 | f :: fs,w,kw,hf,h=>by
   have h1:XaZ Brk (w++32 :: Xcr e f) (kw++[cKT e f]):=h.brk (by decide) (.bl 32 (by unfold Xc2;decide) (XoZ (hf f (by simp))))
   have h2:=Xhu fs _ _ (fun g hg=>hf g (by simp [hg])) h1
   simpa [XbQ] using h2
theorem XrX {k:Nat} (h:k < 14):Xct (XbA.getD k []):=by
 match k,h with
 | 0,_|1,_|2,_|3,_|4,_|5,_|6,_|7,_|8,_|9,_|10,_|11,_|12,_|13,_=>exact XbD (by decide)
theorem XrV {k:Nat} (h:k < 14):(XbA.getD k []).length≤8:=by
 match k,h with
 | 0,_|1,_|2,_|3,_|4,_|5,_|6,_|7,_|8,_|9,_|10,_|11,_|12,_|13,_=>decide
theorem XmK {k:Nat} (hk:k < 14) {e:EF} (h:∀f∈Xa2.getD k [],FOk e f):XaZ Brk (Xhe k e) ((1,XbA.getD k []) :: (Xa2.getD k []).map (cKT e)):=
 Xhu _ _ [_] h (XaZ.word (XrX hk))
theorem Xrv {l:List UInt8} {ks:List KT} (h:XaZ Brk l ks) (h1:ks.length≤2000) (h2:l.length≤8192):∃ts e,lex l=.ok (ts++[e])∧kts ts=ks:=by
 obtain ⟨ts,q1,q2⟩:=h (1,1) 0 [] trivial (by omega)
 rw [List.append_nil,XcU _ _ [] (by rw [XgJ];rfl)] at q2
 unfold lex
 rw [if_neg (by omega),q2]
 exact ⟨ts,_,rfl,q1⟩
theorem Xj3 {e:EF} (h:XfI e) {ts:List Tok} (hk:∀k,e.kind=((k+1:Nat):Int)→kts ts=(1,XbA.getD k []) :: (Xa2.getD k []).map (cKT e)):Xcf ts=some e:=by
 obtain ⟨k,h14,hkd,hf,hw⟩:=h
 have h1:=hk k hkd
 cases ts with
 | nil=>cases h1
 | cons t r=>
   simp only [kts,XvA,List.cons.injEq,Prod.mk.injEq] at h1
   obtain ⟨⟨q1,q2⟩,q3⟩:=h1
   have hl:=congrArg List.length q3
   simp only [List.length_map] at hl
   rw [XdX (by simp) (by exact q1) h14 (by exact q2.symm),if_neg (by simp [hl]),List.drop_succ_cons,List.drop_zero,Xhd _ _ _ hf q3,hw]
/-! ### Lines do not go over line feeds -/
def XrF (l:List UInt8):Prop:=∀b∈l,b.toNat≠10
theorem XrF.app {a b:List UInt8} (h1:XrF a) (h2:XrF b):XrF (a++b):=fun x hx=>by
 rcases List.mem_append.1 hx with h|h
 ·exact h1 x h
 ·exact h2 x h
theorem XrF.cons {c:UInt8} {b:List UInt8} (h1:c.toNat≠10) (h2:XrF b):XrF (c :: b):=fun x hx=>by
 rcases List.mem_cons.1 hx with rfl|h
 ·exact h1
 ·exact h2 x h
theorem XfI.line {e:EF} (h:XfI e):∃k,k < 14∧e.kind=((k+1:Nat):Int)∧XdO e=Xhe k e∧∀f∈Xa2.getD k [],FOk e f:=by
 obtain ⟨k,h14,hkd,hf,hw⟩:=h
 refine ⟨k,h14,hkd,?_,hf⟩
 unfold XdO
 rw [if_pos (by omega),show e.kind.toNat - 1=k from by omega]
theorem XfI.lex {e:EF} (h:XfI e) (h8:(XdO e).length≤8192):∃ts,lex (XdO e)=.ok ts∧¬ts.length≤1∧Xcf ts.dropLast=some e:=by
 obtain ⟨k,h14,hkd,hl,hf⟩:=h.line
 have hfl:=Xk6 h14
 obtain ⟨ts,x,q1,q2⟩:=Xrv (hl▸XmK h14 hf) (by simp only [Xvy,List.length_map];omega) h8
 have hlen:=congrArg List.length q2
 simp only [kts,Xvy,List.length_map] at hlen
 refine ⟨_,q1,by simp only [XvH,Xvy,XvB];omega,?_⟩
 rw [List.dropLast_concat]
 refine Xj3 h fun k' hk'=>?_
 obtain rfl:k'=k:=by omega
 exact q2
/-! ### Which events are equal; the text, or why there is none -/
def Xfs (a b:EF):Bool:=a.kind == b.kind && a.job == b.job && a.ok == b.ok && a.code == b.code && a.data == b.data && a.time == b.time && a.client == b.client && a.num == b.num
def Xft (a b:List EF):Bool:=decide (a.length=b.length) && (a.zip b).all fun p=>Xfs p.1 p.2
theorem Xhz {a b:List EF} {k:Nat} (ha:k < a.length) (hb:k < b.length) (h:(((a.take k).zip (b.take k)).all fun p=>Xfs p.1 p.2)=true) (h2:Xfs a[k] b[k]=true):(((a.take (k+1)).zip (b.take (k+1))).all fun p=>Xfs p.1 p.2)=true:=by
 rw [Xa0 a k ha,Xa0 b k hb,List.zip_append (by simp;omega)]
 simp only [List.all_append,h,Bool.true_and]
 simp [h2]
theorem XlB {a b:List EF} {k:Nat} (ha:k < a.length) (hb:k < b.length) (h2:Xfs a[k] b[k]=false):Xft a b=false:=by
 unfold Xft
 rw [Bool.and_eq_false_iff];right
 rw [List.all_eq_false]
 refine ⟨(a[k],b[k]),List.mem_iff_getElem.2 ⟨k,by simp;omega,by simp⟩,by simp [h2]⟩
def Xcu (l:List EF):List UInt8 × Int:=
 if 1000 < l.length then ([],1) else if 65536 < (Xby l).length then ([],1)
 else if (XcT (Xby l)).2.2=0∧Xft l (XcT (Xby l)).1=true then (Xby l,0) else ([],320)
theorem XiU (v:Int) (h0:0≤v) (h1:v≤18446744073709551615):Xa3 Tryz.prog 199 [] [.x (.int .u64 v)] (fun r H'=>r=.x (.string (bs (XbJ v.toNat)))∧H'=[]):=by
 have:=XnL v.toNat (by omega)
 rwa [show ((v.toNat:Nat):Int)=v by omega] at this
theorem XdM (v:Int) (h1:v≤18446744073709551615):(XbJ v.toNat).length≤20:=XbM _ (by omega)
theorem XcI (s:List UInt8):(XcE s).length≤4*s.length+2:=by
 unfold XcE;rw [XvH];have:=XhX s;simp;omega
theorem Xik (n:Int):(Xg5 n).length≤4:=by
 unfold Xg5
 cases h:XcZ.find? (fun s=>Xs6 s == n) with
 | none=>simp
 | some s=>
   have:=List.mem_of_find?_eq_some h
   simp only [XcZ,List.mem_cons,List.not_mem_nil,or_false] at this
   rcases this with rfl|rfl|rfl|rfl|rfl|rfl<;>simp
theorem Xew (n:Int):(XdD n).length≤10:=by
 unfold XdD;repeat' (first|split|(simp;done)|fail)
end Go.Proofs.YtdpobjakdplljaaGreatDoor

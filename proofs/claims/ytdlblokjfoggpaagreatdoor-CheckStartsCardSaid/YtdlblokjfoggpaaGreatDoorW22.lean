import Derived.Test.YtdlblokjfoggpaaGreatDoorW7
import Derived.Test.YtdlblokjfoggpaaGreatDoorW6
import Derived.Test.YtdlblokjfoggpaaGreatDoorW13
import Derived.Test.YtdlblokjfoggpaaGreatDoorW11
import Derived.Test.YtdlblokjfoggpaaGreatDoorW16
import Derived.Test.YtdlblokjfoggpaaGreatDoorW21
import Derived.Test.YtdlblokjfoggpaaGreatDoorW0
/- The mill: a deck of numbers (XGr1's part, for seats that have XBits). -/
set_option linter.unusedSimpArgs false
set_option linter.unusedVariables false
set_option maxRecDepth 100000
set_option maxHeartbeats 8000000
namespace Go.Proofs.YtdlblokjfoggpaaGreatDoor
open Go.RowKit
def ia (l:List Int):List AV:=l.map fun n=>.x (.int .i64 n)
@[simp] theorem Xs9 (l:List Int):(ia l).length=l.length:=by simp [ia]
theorem Xe2 (l:List Int) (k:Nat) (h:k < l.length):(ia l).drop k=.x (.int .i64 l[k]) :: ia (l.drop (k+1)):=by
 rw [ia,←List.map_drop,List.drop_eq_getElem_cons h];rfl
def deck (b:Nat) (l:List Int) (k:Nat):Hp:=.box b [.sq l.length (ia l),.x (.int .i64 k)]
theorem XmW (b:Nat) (l:List Int) (k:Nat) (hl:l.length≤140737488355328):XaM Tryz.prog 68 [deck b l k] [.x (.pointer (some ⟨b,0,none⟩))] (fun r H'=>r=.x (.bool (decide (k < l.length)))∧H'=[deck b l k]):=by
 unfold deck
 refine Xbs Tryz.func68 Tryz.ntmps68 ?_
 (repeat' (first|refine Wkx.go ?_|refine XaJ ?_|refine XaG ?_|(refine XaE (fun h=>?_) (fun h=>?_)<;>first|(exact absurd h (by decide))|(exfalso;omega;done)|skip)|refine XaF ?_|refine Xai ?_|(refine Xaa rfl ?_;(first|refine Xax ?_|refine Xaw ?_|refine Xav (fun ad cap=>?_)|refine Xat (fun b=>?_)|refine Xas (fun b=>?_)|refine Xau (fun b=>?_)|fail))|fail))
 refine Xab _ _ (Xa0 rfl (RV.tmp _) (XcJ (D:=[]))) ?_
 exact ⟨rfl,rfl⟩
theorem XoS (v n:Int) (hn:1≤n) (hn2:n≤9223372036854775807) (hv : -9223372036854775808≤v∧v≤9223372036854775807) (H:List Hp):XaM Tryz.prog 69 H [.x (.int .i64 v),.x (.int .i64 n)] (fun r H'=>r=.x (.int .i64 (v % n))∧H'=H):=
 XdS (args:=[.int .i64 v,.int .i64 n]) (fun w=>(Xru v n w hn hn2 hv.1 hv.2).mono fun e w' ⟨h1,h2⟩=>⟨h1,h2▸Below.refl _ _⟩) H
def Xm9 (l:List Int) (k:Nat) (n:Nat):Int:=if h:k < l.length then l[k] % n else 0
def I64 (l:List Int):Prop:=∀x∈l,-9223372036854775808≤x∧x≤9223372036854775807
theorem Xm8 (b:Nat) (l:List Int) (k n:Nat) (hl:l.length≤140737488355328) (hk:k≤l.length) (hn:1≤n) (hn2:n≤1000000) (hI:I64 l):XaM Tryz.prog 34 [deck b l k] [.x (.pointer (some ⟨b,0,none⟩)),.x (.int .i64 n)] (fun r H'=>r=.x (.int .i64 (Xm9 l k n))∧H'=[deck b l (min (k+1) l.length)]):=by
 have hI:=Lib.hid hI
 have hd:deck b l k=.box b [.sq l.length (ia l),.x (.int .i64 k)]:=rfl
 rw [hd]
 refine Xbs Tryz.func34 Tryz.ntmps34 ?_
 (have wx:=And.intro @deck.eq_1 @Xe2;(repeat' (first|refine Wkx.go ?_|refine XaJ ?_|refine XaG ?_|(refine XaE (fun h=>?_) (fun h=>?_)<;>first|(exact absurd h (by decide))|(exfalso;omega;done)|skip)|refine XaF ?_|refine Xai ?_ (h:=by first|exact fun _=>Xb3 rfl rfl Tryz.func69 (XoS _ _ (by omega) (by omega) (hI.out _ (List.getElem_mem _)) [])|fail)|refine Xai ?_|(refine Xaa rfl ?_;(first|((refine Xa5 Tryz.func68 ([deck b l k]) rfl rfl (.refl _) (XmW b l k hl) ?_;rintro _ _ ⟨rfl,rfl⟩);refine XaO ?_)|refine Xax ?_|refine Xaw ?_|refine Xav (fun ad cap=>?_)|refine Xat (fun b=>?_)|refine Xas (fun b=>?_)|refine Xau (fun b=>?_)|fail))|fail)))<;>(try clear wx)
 ·refine Xab _ _ (Xa0 rfl (RV.tmp _) (XcJ (D:=[]))) ?_
  exact ⟨by rw [Xm9,dif_neg h];rfl,by rw [show min (k+1) l.length=k from by omega];rfl⟩
 ·refine Xab _ _ (Xa0 rfl (RV.tmp _) (XcJ (D:=[]))) ?_
  exact ⟨by rw [Xm9,dif_pos h];rfl,by rw [show min (k+1) l.length=k+1 from by omega];rfl⟩
structure JA where
 name:List UInt8
 needs:List (List UInt8)
 o:Nat→AV
 one:∀i,(o i).one=true
def JA.cells (j:JA):List AV:=[.x (.string (bs j.name)),j.o 1,j.o 2,.sq j.needs.length (sa j.needs),j.o 4,j.o 5,j.o 6,j.o 7,j.o 8,j.o 9,j.o 10,j.o 11,j.o 12,j.o 13,j.o 14]
def ja (l:List JA):List AV:=l.flatMap JA.cells
@[simp] theorem Xu8 (l:List JA):(ja l).length=l.length*15:=by
 induction l with
 | nil=>rfl
 | cons j l ih=>simp only [ja,List.flatMap_cons,XvF,Xvw] at ih ⊢;rw [ih];simp [JA.cells];omega
theorem XmP (l:List JA) (k:Nat) (h:k < l.length):(ja l).drop (k*15)=l[k].cells++ja (l.drop (k+1)):=by
 induction l generalizing k with
 | nil=>simp at h
 | cons j l ih=>
   have hc:j.cells.length=15:=rfl
   cases k with
   | zero=>simp [ja]
   | succ k=>
     simp only [ja,List.flatMap_cons,List.drop_succ_cons,List.getElem_cons_succ] at ih ⊢
     rw [show (k+1)*15=15+k*15 from by omega,←List.drop_drop,List.drop_append_of_le_length (by omega),show j.cells.drop 15=[] from rfl,XvD]
     exact ih k (by simpa using h)
def idx (l:List JA) (s:List UInt8):Int:=match l.findIdx? fun j=>j.name == s with|some k=>k|none => -1
theorem XiY (j:JA) (b:Nat) (s:List UInt8):XaM Tryz.prog 39 [.box b [.x (.string (bs s))]] [.agg j.cells,.x (.pointer (some ⟨b,0,none⟩))] (fun r H'=>r=.x (.bool (j.name == s))∧H'=[.box b [.x (.string (bs s))]]):=by
 have h1:=j.one
 refine Xbs Tryz.func39 Tryz.ntmps39 ?_
 (have wx:=And.intro @JA.cells.eq_1 @h1;(repeat' (first|refine Wkx.go ?_|refine XaJ ?_|refine XaG ?_|(refine XaE (fun h=>?_) (fun h=>?_)<;>first|(exact absurd h (by decide))|(exfalso;omega;done)|skip)|refine XaF ?_|refine Xai ?_|(refine Xaa rfl ?_;(first|refine Xax ?_|refine Xaw ?_|refine Xav (fun ad cap=>?_)|refine Xat (fun b=>?_)|refine Xas (fun b=>?_)|refine Xau (fun b=>?_)|fail))|fail)))<;>(try clear wx)
 refine Xab _ _ (Xa0 rfl (RV.tmp _) (XcJ (D:=[_]) (R:=[_]))) ?_
 exact ⟨rfl,rfl⟩
theorem XiW (l:List JA) (H:List Hp) (g:Nat) (fn:Func) (cs:Array Value) (p:JA→Bool) (hl:l.length≤1000000) (hf:Tryz.prog.funcs[g]?=some fn) (hnn:fn.name≠ "runtime.NumGoroutine") (hb:fn.body.isSome=true)
  (hp:∀j∈l,XaM Tryz.prog g H (.agg j.cells :: cs.toList.map .x) (fun r H'=>r=.x (.bool (p j))∧H'=H)) :
  XaM Tryz.prog 38 H [.sq l.length (ja l),.x (.func (.func g) #[] cs)] (fun r H'=>r=.x (.int .i64 (fiv (l.findIdx? p)))∧H'=H):=by
 have hp:=Lib.hid hp
 refine Xbs Tryz.func38 Tryz.ntmps38 ?_
 (repeat' (first|refine Wkx.go ?_|refine XaJ ?_|refine XaG ?_|(refine XaE (fun h=>?_) (fun h=>?_)<;>first|(exact absurd h (by decide))|(exfalso;omega;done)|skip)|refine XaF ?_|refine Xai ?_|(refine Xaa rfl ?_;(first|refine Xax ?_|refine Xaw ?_|refine Xav (fun ad cap=>?_)|refine Xat (fun b=>?_)|refine Xas (fun b=>?_)|refine Xau (fun b=>?_)|fail))|fail))
 refine XaA (S:=Nat) (fun k=>frm 19 [(0,.sq l.length (ja l)),(1,.x (.func (.func g) #[] cs)),(7,.x (.int .i64 l.length)),(8,.x (.int .i64 k))]) (fun _=>H) (fun k=>k≤l.length∧∀j∈l.take k,p j=false) (fun k=>l.length - k) 0 (XbQ (D:=[])) ⟨Nat.zero_le _,by simp⟩ fun k hk=>?_
 simp only [wfr]
 obtain ⟨hk,hn⟩:=hk
 have hn:=Lib.hid hn
 (have wx:=And.intro @XmP @JA.cells.eq_1;(repeat' (first|refine Wkx.go ?_|refine XaJ ?_|refine XaG ?_|(refine XaE (fun h=>?_) (fun h=>?_)<;>first|(exact absurd h (by decide))|(exfalso;omega;done)|skip)|refine XaF ?_|refine Xai ?_|(refine Xaa rfl ?_;(first|((refine Xaj g fn H [] _ _ rfl rfl hf hnn hb (by simp) (VwL.refl _ _) (hp.out l[k] (List.getElem_mem h)) ?_;rintro _ _ ⟨rfl,rfl⟩);refine XaO ?_)|refine Xax ?_|refine Xaw ?_|refine Xav (fun ad cap=>?_)|refine Xat (fun b=>?_)|refine Xas (fun b=>?_)|refine Xau (fun b=>?_)|fail))|fail)))<;>(try clear wx)
 ·refine Xab _ _ (Xa0 rfl (RV.tmp _) (XcJ (D:=[]))) ?_
  exact ⟨by rw [Xec p (by assumption) hn.out h];rfl,rfl⟩
 ·exact ⟨k+1,by omega,⟨by omega,by rw [XbC l k (by assumption)];intro j hj;simp only [List.mem_append,List.mem_singleton] at hj;rcases hj with hj|rfl;exact hn.out j hj;exact h⟩,(XbQ (D:=[]))⟩
 ·refine Xab _ _ (Xa0 rfl (RV.tmp _) (XcJ (D:=[]))) ?_
  have hn:=hn.out
  rw [List.take_of_length_le (by omega)] at hn
  exact ⟨by rw [Xeb p hn];rfl,rfl⟩
theorem Xe3 (l:List JA) (s:List UInt8) (hl:l.length≤1000000):XaM Tryz.prog 14 [] [.sq l.length (ja l),.x (.string (bs s))] (fun r H'=>r=.x (.int .i64 (idx l s))∧H'=[]):=by
 refine Xbs Tryz.func14 Tryz.ntmps14 ?_
 (repeat' (first|refine Wkx.go ?_|refine XaJ ?_|refine XaG ?_|(refine XaE (fun h=>?_) (fun h=>?_)<;>first|(exact absurd h (by decide))|(exfalso;omega;done)|skip)|refine XaF ?_|refine Xai ?_|(refine Xaa rfl ?_;(first|((refine Xaj 38 _ [.box b [.x (.string (bs s))]] [] _ _ rfl rfl Tryz.func38 (by decide) rfl (Xvt _) (VwL.refl _ _) (XiW l _ 39 _ #[.pointer (some ⟨b,0,none⟩)] (fun j=>j.name == s) hl Tryz.func39 (by decide) rfl (fun j _=>XiY j b s)) ?_;rintro _ _ ⟨rfl,rfl⟩);refine XaO ?_)|refine Xax ?_|refine Xaw ?_|refine Xav (fun ad cap=>?_)|refine Xat (fun b=>?_)|refine Xas (fun b=>?_)|refine Xau (fun b=>?_)|fail))|fail))
 refine Xab _ _ (Xa0 rfl (RV.tmp _) (XcJ (D:=[_]) (R:=[]))) ?_
 exact ⟨rfl,rfl⟩
theorem Xte (j:JF):∀i,(j.cells.getD i (.x (.bool false))).one=true
 | 0|1|2|3|4|5|6|7|8|9|10|11|12|13|14=>rfl
 | _+15=>rfl
def JF.toJA (j:JF):JA:=⟨j.name,j.needs,fun i=>j.cells.getD i (.x (.bool false)),Xte j⟩
theorem XmQ (l:List JF):jfa l=ja (l.map JF.toJA):=by
 induction l with
 | nil=>rfl
 | cons j l ih=>
   have e1:jfa (j :: l)=j.cells++jfa l:=rfl
   have e2:ja ((j :: l).map JF.toJA)=j.toJA.cells++ja (l.map JF.toJA):=rfl
   rw [e1,e2,ih]
   rfl
def XiV (l:List JF) (s:List UInt8):Int:=idx (l.map JF.toJA) s
theorem Xi0 (l:List JF) (s:List UInt8) (hl:l.length≤1000000):XaM Tryz.prog 14 [] [.sq l.length (jfa l),.x (.string (bs s))] (fun r H'=>r=.x (.int .i64 (XiV l s))∧H'=[]):=by
 have h:=Xe3 (l.map JF.toJA) s (by simpa using hl)
 rw [←XmQ,List.length_map] at h
 exact h
def XnJ (k:Int):Bool:=decide (k=1∨k=2∨k=3∨k=10∨k=12∨k=15)
theorem Xq7 (k:Int):XaM Tryz.prog 111 [] [.x (.int .i64 k)] (fun r H'=>r=.x (.bool (XnJ k))∧H'=[]):=by
 refine Xbs Tryz.func111 Tryz.ntmps111 ?_
 (repeat' (first|refine Wkx.go ?_|refine XaJ ?_|refine XaG ?_|(refine XaE (fun h=>?_) (fun h=>?_)<;>first|(exact absurd h (by decide))|(exfalso;omega;done)|skip)|refine XaF ?_|refine Xai ?_|(refine Xaa rfl ?_;(first|refine Xax ?_|refine Xaw ?_|refine Xav (fun ad cap=>?_)|refine Xat (fun b=>?_)|refine Xas (fun b=>?_)|refine Xau (fun b=>?_)|fail))|fail))
 all_goals
  refine Xab _ _ (Xa0 rfl (RV.tmp _) (Xaq.mk' [] [] (Xvt _) Xap.nil (VwL.refl _ _))) ⟨?_,rfl⟩
  refine congrArg (fun q=>AV.x (.bool q)) ?_
  unfold XnJ
  first|exact (decide_eq_true (by omega)).symm|exact (decide_eq_false (by omega)).symm
theorem Xk5 (a b:Int):XaM Tryz.prog 110 [] [.x (.agg #[.int .i64 a,.int .u64 b])] (fun r H'=>r=.x (.bool (!XnJ a))∧H'=[]):=by
 have h1:=Xq7 a
 refine Xbs Tryz.func110 Tryz.ntmps110 ?_
 (repeat' (first|refine Wkx.go ?_|refine XaJ ?_|refine XaG ?_|(refine XaE (fun h=>?_) (fun h=>?_)<;>first|(exact absurd h (by decide))|(exfalso;omega;done)|skip)|refine XaF ?_|refine Xai ?_ (h:=by first|exact fun _=>XeY rfl rfl Tryz.func111 (hS:=h1)|fail)|refine Xai ?_|(refine Xaa rfl ?_;(first|refine Xax ?_|refine Xaw ?_|refine Xav (fun ad cap=>?_)|refine Xat (fun b=>?_)|refine Xas (fun b=>?_)|refine Xau (fun b=>?_)|fail))|fail))
 refine Xab _ _ (Xa0 rfl (RV.tmp _) (Xaq.mk' [_] [] (Xvt _) Xap.nil (VwL.refl _ _))) ⟨rfl,rfl⟩
theorem XmJ (l:List (Int × Int)) (hl:l.length≤1000000):XaM Tryz.prog 130 [] [.sq l.length (ra l),.x (.func (.func 110) #[] #[])] (fun r H'=>r=.x (.int .i64 (fiv (l.findIdx? fun x=>!XnJ x.1)))∧H'=[]):=by
 have h1:=Lib.hid Xk5
 refine Xbs Tryz.func130 Tryz.ntmps130 ?_
 (repeat' (first|refine Wkx.go ?_|refine XaJ ?_|refine XaG ?_|(refine XaE (fun h=>?_) (fun h=>?_)<;>first|(exact absurd h (by decide))|(exfalso;omega;done)|skip)|refine XaF ?_|refine Xai ?_|(refine Xaa rfl ?_;(first|refine Xax ?_|refine Xaw ?_|refine Xav (fun ad cap=>?_)|refine Xat (fun b=>?_)|refine Xas (fun b=>?_)|refine Xau (fun b=>?_)|fail))|fail))
 refine XaA (S:=Nat) (fun k=>frm 19 [(0,.sq l.length (ra l)),(1,.x (.func (.func 110) #[] #[])),(7,.x (.int .i64 l.length)),(8,.x (.int .i64 k))]) (fun _=>[]) (fun k=>k≤l.length∧∀j∈l.take k,(!XnJ j.1)=false) (fun k=>l.length - k) 0 (XbQ (D:=[])) ⟨Nat.zero_le _,by simp⟩ fun k hk=>?_
 simp only [wfr]
 obtain ⟨hk,hn⟩:=hk
 have hn:=Lib.hid hn
 (have wx:=@XrR;(repeat' (first|refine Wkx.go ?_|refine XaJ ?_|refine XaG ?_|(refine XaE (fun h=>?_) (fun h=>?_)<;>first|(exact absurd h (by decide))|(exfalso;omega;done)|skip)|refine XaF ?_|refine Xai ?_ (h:=by first|exact fun _=>XeY rfl rfl Tryz.func110 (hS:=h1.out _ _)|fail)|refine Xai ?_|(refine Xaa rfl ?_;(first|refine Xax ?_|refine Xaw ?_|refine Xav (fun ad cap=>?_)|refine Xat (fun b=>?_)|refine Xas (fun b=>?_)|refine Xau (fun b=>?_)|fail))|fail)))<;>(try clear wx)
 ·refine Xab _ _ (Xa0 rfl (RV.tmp _) (XcJ (D:=[]))) ?_
  exact ⟨by rw [Xec (fun x:Int × Int=>!XnJ x.1) (by assumption) hn.out (by simpa using h)];rfl,rfl⟩
 ·exact ⟨k+1,by omega,⟨by omega,by rw [XbC l k (by assumption)];intro j hj;simp only [List.mem_append,List.mem_singleton] at hj;rcases hj with hj|rfl;exact hn.out j hj;simpa using h⟩,(XbQ (D:=[]))⟩
 ·refine Xab _ _ (Xa0 rfl (RV.tmp _) (XcJ (D:=[]))) ?_
  have hn:=hn.out
  rw [List.take_of_length_le (by omega)] at hn
  exact ⟨by rw [Xeb (fun x:Int × Int=>!XnJ x.1) hn];rfl,rfl⟩
theorem Xs3 {α:Type} (l:List α) (p:α→Bool):decide ((0:Int)≤fiv (l.findIdx? p))=l.any p:=by
 rw [Bool.eq_iff_iff,decide_eq_true_iff,List.any_eq_true]
 rcases h:l.findIdx? p with _|k
 ·rw [List.findIdx?_eq_none_iff] at h
  constructor
  ·intro q;simp [fiv] at q
  ·rintro ⟨x,hx,q⟩;rw [h x hx] at q;cases q
 ·rw [List.findIdx?_eq_some_iff_getElem] at h
  obtain ⟨hk,h,-⟩:=h
  exact ⟨fun _=>⟨_,List.getElem_mem hk,h⟩,fun _=>Int.natCast_nonneg k⟩
theorem Xk4 (l:List (Int × Int)) (hl:l.length≤1000000):XaM Tryz.prog 109 [] [.sq l.length (ra l),.x (.func (.func 110) #[] #[])] (fun r H'=>r=.x (.bool (l.any fun x=>!XnJ x.1))∧H'=[]):=by
 have h1:=XmJ l hl
 rw [←Xs3]
 generalize fiv (l.findIdx? fun x=>!XnJ x.1)=k at *
 refine Xbs Tryz.func109 Tryz.ntmps109 ?_
 (repeat' (first|refine Wkx.go ?_|refine XaJ ?_|refine XaG ?_|(refine XaE (fun h=>?_) (fun h=>?_)<;>first|(exact absurd h (by decide))|(exfalso;omega;done)|skip)|refine XaF ?_|refine Xai ?_ (h:=by first|exact fun _=>XeY rfl rfl Tryz.func130 (hS:=h1)|fail)|refine Xai ?_|(refine Xaa rfl ?_;(first|refine Xax ?_|refine Xaw ?_|refine Xav (fun ad cap=>?_)|refine Xat (fun b=>?_)|refine Xas (fun b=>?_)|refine Xau (fun b=>?_)|fail))|fail))
 refine Xab _ _ (Xa0 rfl (RV.tmp _) (Xaq.mk' [] [] (Xvt _) Xap.nil (VwL.refl _ _))) ⟨rfl,rfl⟩
def inR (j:JF):Bool:=decide (j.base≤j.cap∧j.window≠0∧1≤j.burst∧j.burst≤16∧(j.restart=1∨j.restart=2∨j.restart=3)∧j.ladder.length≤5) && !(j.ladder.any fun x=>!XnJ x.1)
theorem XmL (j:JF) (hl:j.ladder.length≤1000000):XaM Tryz.prog 79 [] [.agg j.cells] (fun r H'=>r=.x (.bool (inR j))∧H'=[]):=by
 have h1:=Lib.hid (Xk4 j.ladder hl)
 unfold inR
 generalize (j.ladder.any fun x=>!XnJ x.1)=q at *
 refine Xbs Tryz.func79 Tryz.ntmps79 ?_
 (have wx:=@JF.cells.eq_1;(repeat' (first|refine Wkx.go ?_|refine XaJ ?_|refine XaG ?_|(refine XaE (fun h=>?_) (fun h=>?_)<;>first|(exact absurd h (by decide))|(exfalso;omega;done)|skip)|refine XaF ?_|refine Xai ?_ (h:=by first|exact fun _=>XeY rfl rfl Tryz.func109 (hS:=h1.out)|fail)|refine Xai ?_ (h:=by first|(intro hp;(try simp only [wgp] at hp);(try simp only [hp,wte]);(try simp only [whn] at hp);exact XeY rfl rfl Tryz.func109 (hS:=h1.out))|fail)|refine Xai ?_|(refine Xaa rfl ?_;(first|refine Xax ?_|refine Xaw ?_|refine Xav (fun ad cap=>?_)|refine Xat (fun b=>?_)|refine Xas (fun b=>?_)|refine Xau (fun b=>?_)|fail))|fail)))<;>(try clear wx)
 all_goals
  refine Xab _ _ (Xa0 rfl (RV.tmp _) (Xaq.mk' [_] [] (Xvt _) Xap.nil (VwL.refl _ _))) ⟨?_,rfl⟩
  refine congrArg (fun q=>AV.x (.bool q)) ?_
  cases q<;>(rw [Bool.eq_iff_iff];simp<;>omega)
def XmR (l:List JF) (i:Nat) (j:JF):Option Nat:=
 if XiV l j.name < i then some 1 else if j.needs.any (fun n=>decide (XiV l n < 0)) then some 2 else if inR j=false then some 3 else if j.hasr then Xqb j.ready else none
theorem Xtf (bb:Nat) (ad:Nat→Addr) (l:List JF) (s:List UInt8) (hl:l.length≤1000000):XaM Tryz.prog 78 [.box bb [.sq l.length (jfa l)],.sen ad] [.x (.string (bs s)),.x (.pointer (some ⟨bb,0,none⟩))] (fun r H'=>r=.x (.bool (decide (XiV l s < 0)))∧H'=[.box bb [.sq l.length (jfa l)],.sen ad]):=by
 have h1:=Xi0 l s hl
 generalize XiV l s=k at *
 refine Xbs Tryz.func78 Tryz.ntmps78 ?_
 (repeat' (first|refine Wkx.go ?_|refine XaJ ?_|refine XaG ?_|(refine XaE (fun h=>?_) (fun h=>?_)<;>first|(exact absurd h (by decide))|(exfalso;omega;done)|skip)|refine XaF ?_|refine Xai ?_ (h:=by first|exact fun _=>Xb3 rfl rfl Tryz.func14 (h1)|fail)|refine Xai ?_|(refine Xaa rfl ?_;(first|refine Xax ?_|refine Xaw ?_|refine Xav (fun ad cap=>?_)|refine Xat (fun b=>?_)|refine Xas (fun b=>?_)|refine Xau (fun b=>?_)|fail))|fail))
 refine Xab _ _ (Xa0 rfl (RV.tmp _) (XcJ (D:=[]))) ?_
 exact ⟨rfl,rfl⟩
theorem XuD (ad:Nat→Addr) (l:List JF) (i:Nat) (hi:i < l.length) (hl:l.length≤1000000) (hn:(l[i]).needs.length≤140737488355328) (hla:(l[i]).ladder.length≤1000000) (hr:(l[i]).ready.length≤100000000) :
  XaM Tryz.prog 41 [.sen ad] [.sq l.length (jfa l),.x (.int .i64 i)] (fun r H'=>r=.x (Xt7 ad (XmR l i l[i]))∧H'=[.sen ad]):=by
 have hd1:=XeB l i hi
 generalize l[i]=j at *
 have hI:=Xi0 l j.name hl
 have hR:=XmL j hla
 have hP:=XqM ad j.ready hr
 unfold XmR
 generalize hV:Xqb j.ready=pv at *
 generalize XiV l j.name=k at *
 generalize inR j=iv at *
 have hC:=fun bb=>XqL j.needs [.box bb [.sq l.length (jfa l)],.sen ad] 78 _ #[.pointer (some ⟨bb,0,none⟩)] (fun n=>decide (XiV l n < 0)) hn Tryz.func78 (by decide) rfl (fun s _=>Xtf bb ad l s hl)
 generalize (j.needs.any fun n=>decide (XiV l n < 0))=nv at *
 have hd1:=Lib.hid hd1;have hP:=Lib.hid hP;have hC:=Lib.hid hC
 clear hV
 refine Xbs Tryz.func41 Tryz.ntmps41 ?_
 (have wx:=And.intro @hd1.out @JF.cells.eq_1;(repeat' (first|refine Wkx.go ?_|refine XaJ ?_|refine XaG ?_|(refine XaE (fun h=>?_) (fun h=>?_)<;>first|(exact absurd h (by decide))|(exfalso;omega;done)|skip)|refine XaF ?_|refine Xai ?_ (h:=by first|exact fun _=>Xb3 rfl rfl Tryz.func14 (hI)|fail)|refine Xai ?_ (h:=by first|exact fun _=>Xb3 rfl rfl Tryz.func79 (hR)|fail)|refine Xai ?_ (h:=by first|exact fun _=>XfW|fail)|refine Xai ?_|(refine Xaa rfl ?_;(first|((refine Xa5 Tryz.func77 [_,_] rfl rfl (by (repeat' (first|exact Xvt _|exact List.Perm.nil|refine XvJ _ ?_|refine (XvG (l₁:=[_])).trans (XvJ _ ?_)|refine (XvG (l₁:=[_,_])).trans (XvJ _ ?_)|refine (XvG (l₁:=[_,_,_])).trans (XvJ _ ?_)|refine (XvG (l₁:=[_,_,_,_])).trans (XvJ _ ?_)|refine (XvG (l₁:=[_,_,_,_,_])).trans (XvJ _ ?_)|refine (XvG (l₁:=[_,_,_,_,_,_])).trans (XvJ _ ?_)|refine (XvG (l₁:=[_,_,_,_,_,_,_])).trans (XvJ _ ?_)|refine (XvG (l₁:=[_,_,_,_,_,_,_,_])).trans (XvJ _ ?_)))) (hC.out _) ?_;rintro _ _ ⟨rfl,rfl⟩);refine XaO ?_)|((refine Xa5 Tryz.func80 [_] rfl rfl (by (repeat' (first|exact Xvt _|exact List.Perm.nil|refine XvJ _ ?_|refine (XvG (l₁:=[_])).trans (XvJ _ ?_)|refine (XvG (l₁:=[_,_])).trans (XvJ _ ?_)|refine (XvG (l₁:=[_,_,_])).trans (XvJ _ ?_)|refine (XvG (l₁:=[_,_,_,_])).trans (XvJ _ ?_)|refine (XvG (l₁:=[_,_,_,_,_])).trans (XvJ _ ?_)|refine (XvG (l₁:=[_,_,_,_,_,_])).trans (XvJ _ ?_)|refine (XvG (l₁:=[_,_,_,_,_,_,_])).trans (XvJ _ ?_)|refine (XvG (l₁:=[_,_,_,_,_,_,_,_])).trans (XvJ _ ?_)))) hP.out ?_;rintro _ _ ⟨rfl,rfl⟩);refine XaO ?_)|refine Xax ?_|refine Xaw ?_|refine Xav (fun ad cap=>?_)|refine Xat (fun b=>?_)|refine Xas (fun b=>?_)|refine Xau (fun b=>?_)|fail))|fail)))<;>(try clear wx)
 all_goals
  refine Xab _ _ (Xa0 rfl (RV.tmp _) (Xaq.mk' [.box _ _,.box _ _] [.sen ad] (by (repeat' (first|exact Xvt _|exact List.Perm.nil|refine XvJ _ ?_|refine (XvG (l₁:=[_])).trans (XvJ _ ?_)|refine (XvG (l₁:=[_,_])).trans (XvJ _ ?_)|refine (XvG (l₁:=[_,_,_])).trans (XvJ _ ?_)|refine (XvG (l₁:=[_,_,_,_])).trans (XvJ _ ?_)|refine (XvG (l₁:=[_,_,_,_,_])).trans (XvJ _ ?_)|refine (XvG (l₁:=[_,_,_,_,_,_])).trans (XvJ _ ?_)|refine (XvG (l₁:=[_,_,_,_,_,_,_])).trans (XvJ _ ?_)|refine (XvG (l₁:=[_,_,_,_,_,_,_,_])).trans (XvJ _ ?_)))) (Xap.refl _ _) (VwL.refl _ _))) ⟨?_,rfl⟩
  first
   | (rw [if_pos (by omega)];rfl)
   | (rw [if_neg (by omega),if_pos (by assumption)];rfl)
   | (rw [if_neg (by omega),if_neg (by simp only [‹nv=false›];decide),if_pos (by assumption)];rfl)
   | (rw [if_neg (by omega),if_neg (by simp only [‹nv=false›];decide),if_neg (by simp only [‹iv=true›];decide),if_pos (by assumption)];rfl)
   | (rw [if_neg (by omega),if_neg (by simp only [‹nv=false›];decide),if_neg (by simp only [‹iv=true›];decide),if_neg (by simp only [‹j.hasr=false›];decide)];rfl)
   | fail
theorem Xu3 (j:JF) (ty:TypeId) (a:Option Addr):XaM Tryz.prog 42 [] [.agg j.cells,.x (.iface ty (.pointer a))] (fun r H'=>∃b,r=.x (.iface 58 (.pointer (some ⟨b,0,none⟩)))∧H'=[.box b [.x (.int .i64 j.line),.x (.int .i64 j.col),.x (.iface ty (.pointer a))]]):=by
 refine Xbs Tryz.func42 Tryz.ntmps42 ?_
 (have wx:=@JF.cells.eq_1;(repeat' (first|refine Wkx.go ?_|refine XaJ ?_|refine XaG ?_|(refine XaE (fun h=>?_) (fun h=>?_)<;>first|(exact absurd h (by decide))|(exfalso;omega;done)|skip)|refine XaF ?_|refine Xai ?_|(refine Xaa rfl ?_;(first|refine Xax ?_|refine Xaw ?_|refine Xav (fun ad cap=>?_)|refine Xat (fun b=>?_)|refine Xas (fun b=>?_)|refine Xau (fun b=>?_)|fail))|fail)))<;>(try clear wx)
 refine Xab _ _ (Xa0 rfl (RV.tmp _) (Xaq.mk' [.box _ (.x (.string _) :: _)] [.box _ [.x (.int _ _),_,_]] (by (repeat' (first|exact Xvt _|exact List.Perm.nil|refine XvJ _ ?_|refine (XvG (l₁:=[_])).trans (XvJ _ ?_)|refine (XvG (l₁:=[_,_])).trans (XvJ _ ?_)|refine (XvG (l₁:=[_,_,_])).trans (XvJ _ ?_)|refine (XvG (l₁:=[_,_,_,_])).trans (XvJ _ ?_)|refine (XvG (l₁:=[_,_,_,_,_])).trans (XvJ _ ?_)|refine (XvG (l₁:=[_,_,_,_,_,_])).trans (XvJ _ ?_)|refine (XvG (l₁:=[_,_,_,_,_,_,_])).trans (XvJ _ ?_)|refine (XvG (l₁:=[_,_,_,_,_,_,_,_])).trans (XvJ _ ?_)))) (Xap.refl _ _) (VwL.refl _ _))) ⟨_,rfl,rfl⟩
def wnt (l:List JA) (i:Nat) (k:Int):Bool:=match l[i]? with|some j=>j.needs.any fun s=>idx l s == k|none=>false
theorem Xtb (l:List JA) (s:List UInt8) : -1≤idx l s∧idx l s < l.length:=by
 unfold idx
 split
 ·rename_i k h
  have:=(List.findIdx?_eq_some_iff_getElem.1 h).1
  omega
 ·have:=Int.natCast_nonneg l.length
  omega
theorem Xqr {l:List JA} {i:Nat} (h:i < l.length) (k:Int):wnt l i k=l[i].needs.any fun s=>idx l s == k:=by simp [wnt,h]
def Xga (l:List JA) (i n:Nat):List Int:=((List.range n).filter fun (k:Nat)=>wnt l i (k:Int)).map fun (k:Nat)=>(k:Int)
def nds (l:List JA) (i:Int):List Int:=if 0≤i∧i < (l.length:Int) then Xga l i.toNat l.length else []
theorem XoU (l:List JA) (i:Nat) (n:Nat):(Xga l i n).length≤n:=by
 unfold Xga
 rw [List.length_map];have:=List.length_filter_le (fun k:Nat=>wnt l i (k:Int)) (List.range n);simpa using this
theorem XmH (l m:List Int):ia (l++m)=ia l++ia m:=by simp [ia]
def Srt (l:List Int) (n:Nat):Prop:=∀a b,a < b→b < n→l.getD a 0≤l.getD b 0
theorem Xb7 (l:List Int) (j:Nat) (h:j < l.length):l.getD j 0=l[j]:=by simp [List.getD_eq_getElem?_getD,h]
def XlH (r:AV) (H':List Hp):Prop:=(∃n,r=.x (.int .i64 n))∧H'=[]
theorem Xk8 (n:Nat) (h0:n≤12):XaM Tryz.prog 147 [] [.x (.int .u64 n)] XlH:=by
 refine Xbs Tryz.func147 Tryz.ntmps147 ?_
 (repeat' (first|refine Wkx.go ?_|refine XaJ ?_|refine XaG ?_|(refine XaE (fun h=>?_) (fun h=>?_)<;>first|(exact absurd h (by decide))|(exfalso;omega;done)|skip)|refine XaF ?_|refine Xai ?_ (h:=by first|exact fun _=>Xak _ _ _ _ _ _ _ rfl rfl rfl (by kernel_rfl) rfl (Nat.lt_of_le_of_lt h0 (by decide))|fail)|refine Xai ?_|(refine Xaa rfl ?_;(first|refine Xax ?_|refine Xaw ?_|refine Xav (fun ad cap=>?_)|refine Xat (fun b=>?_)|refine Xas (fun b=>?_)|refine Xau (fun b=>?_)|fail))|fail))
 refine Xab _ _ (Xa0 rfl (RV.tmp _) (XcJ (D:=[]))) ?_
 exact ⟨⟨_,rfl⟩,rfl⟩
theorem XoO (n:Nat) (h0:n≤12):XaM Tryz.prog 115 [] [.x (.int .u64 n)] XlH:=by
 refine Xbs Tryz.func115 Tryz.ntmps115 ?_
 (repeat' (first|refine Wkx.go ?_|refine XaJ ?_|refine XaG ?_|(refine XaE (fun h=>?_) (fun h=>?_)<;>first|(exact absurd h (by decide))|(exfalso;omega;done)|skip)|refine XaF ?_|refine Xai ?_|(refine Xaa rfl ?_;(first|((refine Xa5 Tryz.func147 ([]) rfl rfl (.refl _) (Xk8 n h0) ?_;rintro _ _ ⟨⟨m,rfl⟩,rfl⟩);refine XaO ?_)|refine Xax ?_|refine Xaw ?_|refine Xav (fun ad cap=>?_)|refine Xat (fun b=>?_)|refine Xas (fun b=>?_)|refine Xau (fun b=>?_)|fail))|fail))
 refine Xab _ _ (Xa0 rfl (RV.tmp _) (XcJ (D:=[]))) ?_
 exact ⟨⟨_,rfl⟩,rfl⟩
abbrev XmM (b n cap:Nat) (l:List Int):Hp:=.row (some ⟨b,0,none⟩) n cap 3 1 (ia l)
theorem XtK (l:List Int) (k:Nat) (v:Int) (h:k < l.length):spl (ia l) k [.x (.int .i64 v)]=ia (l.set k v):=by
 unfold spl ia
 rw [List.length_singleton,List.set_eq_take_append_cons_drop,if_pos h]
 simp
def XjI (b n cap:Nat) (l:List Int) (H':List Hp):Prop:=∃l',H'=[XmM b n cap l']∧l'.Perm l∧l'.Pairwise (·≤·)
def kp (l:List Int) (j:Nat):Bool:=j == 0 || l.getD j 0 != l.getD (j - 1) 0
def Xfq (l:List Int) (m:Nat):List Int:=((List.range m).filter (kp l)).map fun j=>l.getD j 0
def cmp (l:List Int):List Int:=Xfq l l.length
theorem Xdf (l:List Int) (m:Nat):Xfq l (m+1)=Xfq l m++if kp l m then [l.getD m 0] else []:=by
 unfold Xfq
 rw [List.range_succ,List.filter_append,List.map_append]
 congr 1
 cases h:kp l m<;>simp [List.filter_cons,h]
theorem XfQ (l:List Int):∀m,m≤l.length→(∀j,j < m→kp l j=true)→Xfq l m=l.take m
 | 0,_,_=>by simp [Xfq]
 | m+1,h,hk=>by
   rw [Xdf,XfQ l m (by omega) (fun j hj=>hk j (by omega)),hk m (by omega),List.take_succ_eq_append_getElem (by omega)]
   simp [List.getD_eq_getElem?_getD,show m < l.length by omega]
theorem Xmf {l:List Int} (hk:∀j,j < l.length→kp l j=true):cmp l=l:=by
 rw [cmp,XfQ l _ (Nat.le_refl _) hk,List.take_length]
theorem Xp5 {l:List Int} {m:Nat} (h:m < l.length) (h1:m - 1 < l.length) (h2:l[m]≠l[m - 1]):kp l m=true:=by
 unfold kp;rw [Xb7 _ _ h,Xb7 _ _ h1];simp [h2]
theorem Xp4 {l:List Int} {m:Nat} (h0:0 < m) (h:m < l.length) (h1:m - 1 < l.length) (h2:l[m]=l[m - 1]):kp l m=false:=by
 unfold kp;rw [Xb7 _ _ h,Xb7 _ _ h1];simp [h2];omega
structure Cmp (l:List Int) (m k:Nat) (r:List Int):Prop where
 len:r.length=l.length
 kept:r.take k=Xfq l m
 le:k < m
 rest:∀j,m≤j+1→r.getD j 0=l.getD j 0
 k0:m≤l.length
theorem Cmp.start {l:List Int} {k:Nat} (h:∀j,j < k→kp l j=true) (hk:k < l.length) (hd:kp l k=false):Cmp l (k+1) k l:=by
 refine ⟨rfl,?_,by omega,fun _ _=>rfl,by omega⟩
 rw [Xdf,hd,XfQ l k (by omega) h];simp
theorem Cmp.skip {l r:List Int} {m k:Nat} (h:Cmp l m k r) (hm:m < l.length) (hk:kp l m=false):Cmp l (m+1) k r:=by
 refine ⟨h.len,?_,by have:=h.le;omega,fun j hj=>h.rest j (by omega),by omega⟩
 rw [Xdf,hk,h.kept];simp
theorem Cmp.keep {l r:List Int} {m k:Nat} (h:Cmp l m k r) (hm:m < l.length) (hk:kp l m=true):Cmp l (m+1) (k+1) (r.set k (l.getD m 0)):=by
 have hl:=h.len
 have hle:=h.le
 refine ⟨by simp [h.len],?_,by omega,fun j hj=>?_,by omega⟩
 ·rw [Xdf,hk,←h.kept,List.take_succ_eq_append_getElem (by simp;omega),List.take_set_of_le (Nat.le_refl _)]
  simp
 ·rw [←h.rest j (by omega)]
  simp [List.getD_eq_getElem?_getD,List.getElem?_set,show k≠j by omega]
theorem Cmp.at {l r:List Int} {m k:Nat} (h:Cmp l m k r) (j:Nat) (hj:m≤j+1) (h1:j < r.length):r[j]=l.getD j 0:=by
 rw [←h.rest j hj,Xb7 _ _ h1]
theorem Cmp.done {l r:List Int} {k:Nat} (h:Cmp l l.length k r):cmp l=r.take k:=h.kept.symm
theorem XkS {l:List Int} (h:l.Pairwise (·≤·)):(cmp l).Pairwise (· < ·)∧∀x,x∈cmp l↔x∈l:=by
 have hs:Srt l l.length:=by
  intro a b h1 h2
  rw [Xb7 _ _ (by omega),Xb7 _ _ h2]
  exact List.pairwise_iff_getElem.1 h a b (by omega) h2 h1
 have key:∀m,m≤l.length→(Xfq l m).Pairwise (· < ·)∧(∀x∈Xfq l m,∀j,m≤j+1→0 < m→j < l.length→x≤l.getD j 0)∧(∀x∈Xfq l m,∃j,j < m∧x=l.getD j 0)∧∀j,j < m→l.getD j 0∈Xfq l m:=by
  intro m
  induction m with
  | zero=>intro _;simp [Xfq]
  | succ m ih=>
    intro hm
    obtain ⟨i1,i2,i3,i4⟩:=ih (by omega)
    rw [Xdf]
    refine ⟨?_,?_,?_,?_⟩
    ·cases hk:kp l m with
     | false=>simpa using i1
     | true=>
       rw [if_pos rfl,List.pairwise_append]
       refine ⟨i1,by simp,fun a ha b hb=>?_⟩
       rw [List.mem_singleton] at hb
       subst hb
       obtain ⟨j,hj,rfl⟩:=i3 a ha
       have hm0:0 < m:=by omega
       have h1:=i2 _ ha (m - 1) (by omega) hm0 (by omega)
       have h2:=hs (m - 1) m (by omega) (by omega)
       have h3:l.getD m 0≠l.getD (m - 1) 0:=by
        unfold kp at hk
        simp only [Bool.or_eq_true,beq_iff_eq,bne_iff_ne,ne_eq] at hk
        rcases hk with hk|hk
        ·omega
        ·exact hk
       omega
    ·intro x hx j hj h0 hjl
     rcases List.mem_append.1 hx with hx|hx
     ·obtain ⟨j',hj',rfl⟩:=i3 x hx
      exact hs j' j (by omega) hjl
     ·cases hk:kp l m with
      | false=>rw [hk] at hx;simp at hx
      | true=>
        rw [hk] at hx;simp at hx
        rw [hx]
        have:m=j∨m < j:=by omega
        rcases this with rfl|h2
        ·simp [List.getD_eq_getElem?_getD]
        ·have:=hs m j h2 hjl
         simpa [List.getD_eq_getElem?_getD] using this
    ·intro x hx
     rcases List.mem_append.1 hx with hx|hx
     ·obtain ⟨j,hj,e⟩:=i3 x hx;exact ⟨j,by omega,e⟩
     ·cases hk:kp l m with
      | false=>rw [hk] at hx;simp at hx
      | true=>rw [hk,if_pos rfl,List.mem_singleton] at hx;exact ⟨m,by omega,hx⟩
    ·intro j hj
     by_cases e:j=m
     ·subst e
      cases hk:kp l j with
      | true=>simp
      | false=>
        have h3:j≠0∧l.getD j 0=l.getD (j - 1) 0:=by
         unfold kp at hk
         simp only [Bool.or_eq_false_iff,XvK,bne_eq_false_iff_eq,ne_eq] at hk
         exact hk
        rw [h3.2]
        exact List.mem_append_left _ (i4 (j - 1) (by omega))
     ·exact List.mem_append_left _ (i4 j (by omega))
 obtain ⟨k1,-,k3,k4⟩:=key l.length (Nat.le_refl _)
 refine ⟨k1,fun x=>⟨fun hx=>?_,fun hx=>?_⟩⟩
 ·obtain ⟨j,hj,rfl⟩:=k3 x hx
  rw [Xb7 _ _ hj];exact List.getElem_mem hj
 ·obtain ⟨j,hj,rfl⟩:=List.getElem_of_mem hx
  rw [←Xb7 _ _ hj];exact k4 j hj
end Go.Proofs.YtdlblokjfoggpaaGreatDoor

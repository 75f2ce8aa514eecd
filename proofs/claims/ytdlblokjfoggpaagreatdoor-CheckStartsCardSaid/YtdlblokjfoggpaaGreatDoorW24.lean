import Derived.Test.YtdlblokjfoggpaaGreatDoorW7
import Derived.Test.YtdlblokjfoggpaaGreatDoorW23
import Derived.Test.YtdlblokjfoggpaaGreatDoorW6
/- The graph: the closure over what lies done; IndexFunc and ContainsFunc of ints. -/
set_option linter.unusedSimpArgs false
set_option linter.unusedVariables false
set_option maxRecDepth 100000
set_option maxHeartbeats 8000000
namespace Go.Proofs.YtdlblokjfoggpaaGreatDoor
open Go.RowKit
def ba (l:List Bool):List AV:=l.map fun n=>.x (.bool n)
@[simp] theorem Xu4 (l:List Bool):(ba l).length=l.length:=by simp [ba]
theorem XeW (l:List Bool) (k:Nat) (h:k < l.length):(ba l).drop k=.x (.bool l[k]) :: ba (l.drop (k+1)):=by
 rw [ba,←List.map_drop,List.drop_eq_getElem_cons h];rfl
theorem Xqk (l:List Bool) (k:Nat) (v:Bool) (h:k < l.length):spl (ba l) k [.x (.bool v)]=ba (l.set k v):=by
 unfold spl ba
 rw [List.length_singleton,List.set_eq_take_append_cons_drop,if_pos h]
 simp
abbrev XgW (b c n cap:Nat) (l:List Bool):List Hp:=[.box b [.x (.slice (some ⟨c,0,none⟩) n cap)],.row (some ⟨c,0,none⟩) n cap 4 1 (ba l)]
theorem Xja (b c n cap:Nat) (l:List Bool) (k:Nat) (hn:n=l.length) (hk:k < l.length):XaM Tryz.prog 70 (XgW b c n cap l) [.x (.int .i64 k),.x (.pointer (some ⟨b,0,none⟩))] (fun r H'=>r=.x (.bool (!l[k]))∧H'=XgW b c n cap l):=by
 subst hn
 refine Xbs Tryz.func70 Tryz.ntmps70 ?_
 (have wx:=@XeW;(repeat' (first|refine Wkx.go ?_|refine XaJ ?_|refine XaG ?_|(refine XaE (fun h=>?_) (fun h=>?_)<;>first|(exact absurd h (by decide))|(exfalso;omega;done)|skip)|refine XaF ?_|refine Xai ?_|(refine Xaa rfl ?_;(first|refine Xax ?_|refine Xaw ?_|refine Xav (fun ad cap=>?_)|refine Xat (fun b=>?_)|refine Xas (fun b=>?_)|refine Xau (fun b=>?_)|fail))|fail)))<;>(try clear wx)
 refine Xab _ _ (Xa0 rfl (RV.tmp _) (XcJ (D:=[]))) ?_
 exact ⟨rfl,rfl⟩
theorem XiN (b c n cap:Nat) (l:List Bool) (k:Nat) (hn:n=l.length) (hk:k < l.length):XaM Tryz.prog 81 (XgW b c n cap l) [.x (.int .i64 k),.x (.pointer (some ⟨b,0,none⟩))] (fun r H'=>r=.x (.bool (!l[k]))∧H'=XgW b c n cap l):=by
 subst hn
 refine Xbs Tryz.func81 Tryz.ntmps81 ?_
 (have wx:=@XeW;(repeat' (first|refine Wkx.go ?_|refine XaJ ?_|refine XaG ?_|(refine XaE (fun h=>?_) (fun h=>?_)<;>first|(exact absurd h (by decide))|(exfalso;omega;done)|skip)|refine XaF ?_|refine Xai ?_|(refine Xaa rfl ?_;(first|refine Xax ?_|refine Xaw ?_|refine Xav (fun ad cap=>?_)|refine Xat (fun b=>?_)|refine Xas (fun b=>?_)|refine Xau (fun b=>?_)|fail))|fail)))<;>(try clear wx)
 refine Xab _ _ (Xa0 rfl (RV.tmp _) (XcJ (D:=[]))) ?_
 exact ⟨rfl,rfl⟩
theorem Xf5 (l:List Int) (H:List Hp) (g:Nat) (fn:Func) (cs:Array Value) (p:Int→Bool) (hl:l.length≤1000000) (hf:Tryz.prog.funcs[g]?=some fn) (hnn:fn.name≠ "runtime.NumGoroutine") (hb:fn.body.isSome=true)
  (hp:∀j∈l,XaM Tryz.prog g H (.x (.int .i64 j) :: cs.toList.map .x) (fun r H'=>r=.x (.bool (p j))∧H'=H)) :
  XaM Tryz.prog 85 H [.sq l.length (ia l),.x (.func (.func g) #[] cs)] (fun r H'=>r=.x (.int .i64 (fiv (l.findIdx? p)))∧H'=H):=by
 have hp:=Lib.hid hp
 refine Xbs Tryz.func85 Tryz.ntmps85 ?_
 (repeat' (first|refine Wkx.go ?_|refine XaJ ?_|refine XaG ?_|(refine XaE (fun h=>?_) (fun h=>?_)<;>first|(exact absurd h (by decide))|(exfalso;omega;done)|skip)|refine XaF ?_|refine Xai ?_|(refine Xaa rfl ?_;(first|refine Xax ?_|refine Xaw ?_|refine Xav (fun ad cap=>?_)|refine Xat (fun b=>?_)|refine Xas (fun b=>?_)|refine Xau (fun b=>?_)|fail))|fail))
 refine XaA (S:=Nat) (fun k=>frm 19 [(0,.sq l.length (ia l)),(1,.x (.func (.func g) #[] cs)),(7,.x (.int .i64 l.length)),(8,.x (.int .i64 k))]) (fun _=>H) (fun k=>k≤l.length∧∀j∈l.take k,p j=false) (fun k=>l.length - k) 0 (XbQ (D:=[])) ⟨Nat.zero_le _,by simp⟩ fun k hk=>?_
 simp only [wfr]
 obtain ⟨hk,hn⟩:=hk
 have hn:=Lib.hid hn
 (have wx:=@Xe2;(repeat' (first|refine Wkx.go ?_|refine XaJ ?_|refine XaG ?_|(refine XaE (fun h=>?_) (fun h=>?_)<;>first|(exact absurd h (by decide))|(exfalso;omega;done)|skip)|refine XaF ?_|refine Xai ?_|(refine Xaa rfl ?_;(first|((refine Xaj g fn H [] _ _ rfl rfl hf hnn hb (by simp) (VwL.refl _ _) (hp.out l[k] (List.getElem_mem h)) ?_;rintro _ _ ⟨rfl,rfl⟩);refine XaO ?_)|refine Xax ?_|refine Xaw ?_|refine Xav (fun ad cap=>?_)|refine Xat (fun b=>?_)|refine Xas (fun b=>?_)|refine Xau (fun b=>?_)|fail))|fail)))<;>(try clear wx)
 ·refine Xab _ _ (Xa0 rfl (RV.tmp _) (XcJ (D:=[]))) ?_
  exact ⟨by rw [Xec p (by assumption) hn.out h];rfl,rfl⟩
 ·exact ⟨k+1,by omega,⟨by omega,by rw [XbC l k (by assumption)];intro j hj;simp only [List.mem_append,List.mem_singleton] at hj;rcases hj with hj|rfl;exact hn.out j hj;exact h⟩,(XbQ (D:=[]))⟩
 ·refine Xab _ _ (Xa0 rfl (RV.tmp _) (XcJ (D:=[]))) ?_
  have hn:=hn.out
  rw [List.take_of_length_le (by omega)] at hn
  exact ⟨by rw [Xeb p hn];rfl,rfl⟩
theorem XqY {α:Type} (l:List α) (p:α→Bool):decide (0≤fiv (l.findIdx? p))=l.any p:=by
 cases h:l.findIdx? p with
 | none=>
   rw [List.findIdx?_eq_none_iff] at h
   have:l.any p=false:=by rw [List.any_eq_false];intro x hx;rw [h x hx];simp
   rw [this];rfl
 | some k=>
   obtain ⟨h1,h2,-⟩:=List.findIdx?_eq_some_iff_getElem.1 h
   have:l.any p=true:=by rw [List.any_eq_true];exact ⟨_,List.getElem_mem h1,h2⟩
   rw [this]
   simp [fiv]
theorem XkU (l:List Int) (H:List Hp) (g:Nat) (fn:Func) (cs:Array Value) (p:Int→Bool) (hl:l.length≤1000000) (hf:Tryz.prog.funcs[g]?=some fn) (hnn:fn.name≠ "runtime.NumGoroutine") (hb:fn.body.isSome=true)
  (hp:∀j∈l,XaM Tryz.prog g H (.x (.int .i64 j) :: cs.toList.map .x) (fun r H'=>r=.x (.bool (p j))∧H'=H)) :
  XaM Tryz.prog 71 H [.sq l.length (ia l),.x (.func (.func g) #[] cs)] (fun r H'=>r=.x (.bool (l.any p))∧H'=H):=by
 have hp:=Lib.hid hp
 refine Xbs Tryz.func71 Tryz.ntmps71 ?_
 (repeat' (first|refine Wkx.go ?_|refine XaJ ?_|refine XaG ?_|(refine XaE (fun h=>?_) (fun h=>?_)<;>first|(exact absurd h (by decide))|(exfalso;omega;done)|skip)|refine XaF ?_|refine Xai ?_|(refine Xaa rfl ?_;(first|((refine Xaj 85 _ H [] _ _ rfl rfl Tryz.func85 (by decide) rfl (by simp) (VwL.refl _ _) (Xf5 l H g fn cs p hl hf hnn hb hp.out) ?_;rintro _ _ ⟨rfl,rfl⟩);refine XaO ?_)|refine Xax ?_|refine Xaw ?_|refine Xav (fun ad cap=>?_)|refine Xat (fun b=>?_)|refine Xas (fun b=>?_)|refine Xau (fun b=>?_)|fail))|fail))
 refine Xab _ _ (Xa0 rfl (RV.tmp _) (XcJ (D:=[]))) ?_
 exact ⟨by rw [←XqY];rfl,rfl⟩
def mks (l:List JA) (d:List Int):List Bool:=(List.range l.length).map fun (k:Nat)=>d.contains (k:Int)
@[simp] theorem Xdw (l:List JA) (d:List Int):(mks l d).length=l.length:=by simp [mks]
theorem Xe7 (l:List JA) (d:List Int) (k:Nat) (h:k < (mks l d).length):(mks l d)[k]=d.contains (k:Int):=by simp [mks]
theorem Xrt (l:List JA) (d:List Int) (k:Nat) (h:k < l.length):(mks l d).set k true=mks l (d++[(k:Int)]):=by
 apply List.ext_getElem?
 intro j
 rw [List.getElem?_set]
 unfold mks
 by_cases hj:k=j
 ·subst hj;simp [h]
 ·rw [if_neg hj]
  by_cases hl:j < l.length
  ·simp [hl];omega
  ·rw [List.getElem?_eq_none (by simp;omega),List.getElem?_eq_none (by simp;omega)]
theorem Xrs (l:List JA):List.replicate l.length (AV.x (.bool false))=ba (mks l []):=by
 unfold ba mks
 apply List.ext_getElem?
 intro j
 by_cases h:j < l.length<;>simp [List.getElem?_replicate,h]
theorem Xi8 (l:List JA) (k:Nat) (h:k < l.length):(na l).drop k=.sq (nds l k).length (ia (nds l k)) :: (na l).drop (k+1):=by
 rw [List.drop_eq_getElem_cons (by simpa using h)];simp [na]
theorem Xj8 (l:List JA) (d:List Int) (i:Nat):((nds l i).any fun k=>!d.contains k)=!(nds l i).all (d.contains ·):=by
 simp [List.all_eq_not_any_not]
theorem Xm6 (l:List JA) (i x:Int) (h:x∈nds l i):0≤x∧x < (l.length:Int):=by
 unfold nds at h
 split at h
 ·obtain ⟨k,hk,-,rfl⟩:=(Xh4 ..).1 h
  omega
 ·cases h
theorem Xlc (l:List JA) (d:List Int) (b c:Nat) (j:Int) (hj:0≤j∧j < (l.length:Int)):XaM Tryz.prog 70 (XgW b c l.length l.length (mks l d)) [.x (.int .i64 j),.x (.pointer (some ⟨b,0,none⟩))] (fun r H'=>r=.x (.bool (!d.contains j))∧H'=XgW b c l.length l.length (mks l d)):=by
 obtain ⟨k,rfl⟩:∃k:Nat,j=k:=⟨j.toNat,by omega⟩
 have hk:k < (mks l d).length:=by rw [Xdw];omega
 have:=Xja b c l.length l.length (mks l d) k (Xdw l d).symm hk
 rwa [Xe7] at this
theorem Xe9 (l:List JA) (hl:l.length≤1000000):XaM Tryz.prog 36 [] [.sq l.length (na l)] (fun r H'=>∃ad cap b c,r=.tup [.x (.slice ad (ord l).length cap),.x (.slice (some ⟨c,0,none⟩) l.length l.length)]∧H'=XgW b c l.length l.length (mks l (ord l))++[.row ad (ord l).length cap 3 1 (ia (ord l))]):=by
 refine Xbs Tryz.func36 Tryz.ntmps36 ?_
 (repeat' (first|refine Wkx.go ?_|refine XaJ ?_|refine XaG ?_|(refine XaE (fun h=>?_) (fun h=>?_)<;>first|(exact absurd h (by decide))|(exfalso;omega;done)|skip)|refine XaF ?_|refine Xai ?_|(refine Xaa rfl ?_;(first|refine Xax ?_|refine Xaw ?_|refine Xav (fun ad cap=>?_)|refine Xat (fun b=>?_)|refine Xas (fun b=>?_)|refine Xau (fun b=>?_)|fail))|fail))
 refine XkL (S:=List Int × Option Addr × Nat × Nat × Nat) 0 (fun s=>frm 41 [(0,.sq l.length (na l)),(4,.x (.slice s.2.1 s.1.length s.2.2.1)),(5,.x (.pointer (some ⟨s.2.2.2.1,0,none⟩))),(6,.x (.func (.func 70) #[] #[.pointer (some ⟨s.2.2.2.1,0,none⟩)]))])
  (fun s=>XgW s.2.2.2.1 s.2.2.2.2 l.length l.length (mks l s.1)++[.row s.2.1 s.1.length s.2.2.1 3 1 (ia s.1)]) (fun s=>Xin l s.1) (fun s=>l.length - s.1.length) rfl (fun s hs=>?_) (fun key=>?first)
 case first=>
  refine Xa7 3 1 ?_
  (have wx:=@Xrs;(repeat' (first|refine Wkx.go ?_|refine XaJ ?_|refine XaG ?_|(refine XaE (fun h=>?_) (fun h=>?_)<;>first|(exact absurd h (by decide))|(exfalso;omega;done)|skip)|refine XaF ?_|refine Xai ?_|(refine Xaa rfl ?_;(first|((refine XjL _ _ _ _ _ _ _ _ l.length l.length rfl XbJ.out rfl rfl rfl rfl (Nat.le_refl _) (Xmv _ _ (by omega) (by decide)) (fun c=>?_));refine XaO ?_)|refine Xax ?_|refine Xaw ?_|refine Xav (fun ad cap=>?_)|refine Xat (fun b=>?_)|refine Xas (fun b=>?_)|refine Xau (fun b=>?_)|fail))|fail)))<;>(try clear wx)
  refine Xl6 ?_
  refine Xac ?_
  refine XjP (XgV ?wk (key ([],none,0,b,c) (Xin.nil l))) ?mono
  case mono=>exact fun e T H h=>h
  case wk=>
   simp only [wfr,XgW,XvE,XvD]
   exact (XbQ (D:=[]))
 ·obtain ⟨d,ad,cap,bx,c⟩:=s
  simp only at hs
  have hle:=hs.le
  have hs':=Lib.hid hs
  clear hs
  simp only [wfr,XgW,XvE,XvD]
  (repeat' (first|refine Wkx.go ?_|refine XaJ ?_|refine XaG ?_|(refine XaE (fun h=>?_) (fun h=>?_)<;>first|(exact absurd h (by decide))|(exfalso;omega;done)|skip)|refine XaF ?_|refine Xai ?_|(refine Xaa rfl ?_;(first|refine Xax ?_|refine Xaw ?_|refine Xav (fun ad cap=>?_)|refine Xat (fun b=>?_)|refine Xas (fun b=>?_)|refine Xau (fun b=>?_)|fail))|fail))
  refine XaA (S:=Nat) (fun k=>frm 41 [(0,.sq l.length (na l)),(4,.x (.slice ad d.length cap)),(5,.x (.pointer (some ⟨bx,0,none⟩))),(6,.x (.func (.func 70) #[] #[.pointer (some ⟨bx,0,none⟩)])),(13,.x (.int .i64 l.length)),(14,.x (.int .i64 k))]) (fun _=>XgW bx c l.length l.length (mks l d)++[.row ad d.length cap 3 1 (ia d)]) (fun k=>k≤l.length∧∀j,j < k→rdy l d j=false) (fun k=>l.length - k) 0 (XbQ (D:=[])) ⟨Nat.zero_le _,fun k hk=>absurd hk (Nat.not_lt_zero k)⟩ fun k hk=>?_
  obtain ⟨h1,h2⟩:=hk
  have h2':=Lib.hid h2
  clear h2
  simp only [wfr,XgW,XvE,XvD]
  have hml:=Xdw l d
  (have wx:=And.intro @XeW (And.intro @Xi8 @Xdw);(repeat' (first|refine Wkx.go ?_|refine XaJ ?_|refine XaG ?_|(refine XaE (fun h=>?_) (fun h=>?_)<;>first|(exact absurd h (by decide))|(exfalso;omega;done)|skip)|refine XaF ?_|refine Xai ?_|(refine Xaa rfl ?_;(first|refine Xax ?_|refine Xaw ?_|refine Xav (fun ad cap=>?_)|refine Xat (fun b=>?_)|refine Xas (fun b=>?_)|refine Xau (fun b=>?_)|fail))|fail)))<;>(try clear wx)
  ·refine XqF _ rfl rfl rfl (fun hp=>?_) (fun hp=>?_)
   ·simp only [hp,Xvy,XvC,str]
    refine XaQ 11 rfl ?_
    refine Xaj 71 _ (XgW bx c l.length l.length (mks l d)) [.row ad d.length cap 3 1 (ia d)] _ _ rfl rfl Tryz.func71 (by decide) rfl (Xvt _) (VwL.refl _ _) (XkU (nds l k) _ 70 _ #[.pointer (some ⟨bx,0,none⟩)] (fun j=>!d.contains j) (by have:=Xp9 l k;omega) Tryz.func70 (by decide) rfl (fun j hj=>Xlc l d bx c j (Xm6 l k j hj))) ?_
    rintro _ _ ⟨rfl,rfl⟩
    generalize hA:((nds l k).any fun j=>!d.contains j)=A
    (try simp only [wtn,Xvx,Xvu,Xvv,Xvy,XvC,Nat.reduceAdd,Nat.reduceMul,Nat.reduceSub,↓reduceIte,Nat.reduceEqDiff])
    (have wx:=And.intro @XeW @Xqk;(repeat' (first|refine Wkx.go ?_|refine XaJ ?_|refine XaG ?_|(refine XaE (fun h=>?_) (fun h=>?_)<;>first|(exact absurd h (by decide))|(exfalso;omega;done)|skip)|refine XaF ?_|refine Xai ?_|(refine Xaa rfl ?_;(first|refine Xax ?_|refine Xaw ?_|refine Xav (fun ad cap=>?_)|refine Xat (fun b=>?_)|refine Xas (fun b=>?_)|refine Xau (fun b=>?_)|fail))|fail)))<;>(try clear wx)
    ·have hrd:rdy l d k=true:=by
      rw [Xj8] at hA
      rw [Xe7] at hp
      unfold rdy
      simp only [hp,Bool.true_and]
      rw [Bool.not_eq_eq_eq_not] at hA
      rw [hA,h];rfl
     have hd2:=hs'.out.snoc (by assumption) hrd h2'.out
     have hle2:=hd2.le
     simp only [XvF,Xvw,Xvz] at hle2
     refine ⟨(d++[(k:Int)],ad,cap,bx,c),?_,hd2,?_⟩
     ·simp only [XvF,Xvw,Xvz];omega
     ·simp only [XmH,XvF,Xvw,Xvz,Xrt l d k (by assumption)]
      exact (XbQ (D:=[_]) (R:=[_,_,_]))
    ·have hrd:rdy l d k=false:=by
      rw [Xj8] at hA
      unfold rdy
      rw [Bool.not_eq_eq_eq_not] at hA
      rw [hA,h];simp
     exact ⟨k+1,by omega,⟨by omega,fun j hj=>by
      by_cases e:j=k
      ·subst e;exact hrd
      ·exact h2'.out j (by omega)⟩,(XbQ (D:=[]))⟩
   ·simp only [hp]
    (try simp only [wtn,Xvx,Xvu,Xvv,Xvy,XvC,Nat.reduceAdd,Nat.reduceMul,Nat.reduceSub,↓reduceIte,Nat.reduceEqDiff])
    (have wx:=And.intro @XeW @Xqk;(repeat' (first|refine Wkx.go ?_|refine XaJ ?_|refine XaG ?_|(refine XaE (fun h=>?_) (fun h=>?_)<;>first|(exact absurd h (by decide))|(exfalso;omega;done)|skip)|refine XaF ?_|refine Xai ?_|(refine Xaa rfl ?_;(first|refine Xax ?_|refine Xaw ?_|refine Xav (fun ad cap=>?_)|refine Xat (fun b=>?_)|refine Xas (fun b=>?_)|refine Xau (fun b=>?_)|fail))|fail)))<;>(try clear wx)
    have hrd:rdy l d k=false:=by
     rw [Xe7] at hp
     unfold rdy
     rw [hp];rfl
    exact ⟨k+1,by omega,⟨by omega,fun j hj=>by
     by_cases e:j=k
     ·subst e;exact hrd
     ·exact h2'.out j (by omega)⟩,(XbQ (D:=[]))⟩
  ·have e:d=ord l:=hs'.out.end_ fun j hj=>h2'.out j (by omega)
   subst e
   refine XbO mixed ?_
   (refine Xhp 0 ?_;refine Xhp 2 ?_)
   (refine Xdn 1 ?_;(first|refine Xcb ?_|refine Xax ?_|refine Xaw ?_|refine Xav (fun ad cap=>?_)|refine Xat (fun b=>?_)|refine Xas (fun b=>?_)|refine Xau (fun b=>?_)|fail))
   (refine Xhp 3 ?_)
   refine Xar (by decide +kernel) ?_
   (repeat' (first|refine Wkx.go ?_|refine XaJ ?_|refine XaG ?_|(refine XaE (fun h=>?_) (fun h=>?_)<;>first|(exact absurd h (by decide))|(exfalso;omega;done)|skip)|refine XaF ?_|refine Xai ?_|(refine Xaa rfl ?_;(first|refine Xax ?_|refine Xaw ?_|refine Xav (fun ad cap=>?_)|refine Xat (fun b=>?_)|refine Xas (fun b=>?_)|refine Xau (fun b=>?_)|fail))|fail))
   refine Xab _ _ (Xcn rfl (RV.tmp _) (RV.tmp _) (Xaq.mk' [] _ (Xvt _) (Xap.refl _ _) (VwL.cons (Vw.refl _) (VwL.cons (Vw.refl _) VwL.nil)))) ⟨ad,cap,bx,c,rfl,rfl⟩
theorem Xp1 {l:List JA} {d:List Int} {i:Nat} (h:fst l d=some i):i < l.length∧rdy l d i=true∧∀k,k < i→rdy l d k=false:=by
 unfold fst at h
 rw [List.find?_range_eq_some] at h
 obtain ⟨h1,h2,h3⟩:=h
 exact ⟨List.mem_range.1 h2,h1,fun k hk=>by simpa using h3 k hk⟩
theorem Xs4 {l:List JA} {d:List Int} (h:fst l d=none) (k:Nat) (hk:k < l.length):rdy l d k=false:=by
 unfold fst at h
 rw [List.find?_eq_none] at h
 simpa using h k (List.mem_range.2 hk)
theorem Xh7 (l:List JA):∀(n:Nat) (d:List Int),Xin l d→n=l.length - d.length→Xin l (Xqa l n d)∧fst l (Xqa l n d)=none
 | 0,d,h,hn=>by
   refine ⟨h,?_⟩
   show fst l d=none
   cases hf:fst l d with
   | none=>rfl
   | some i=>
     obtain ⟨h1,h2,h3⟩:=Xp1 hf
     have:=(h.snoc h1 h2 h3).le
     simp at this
     omega
 | n+1,d,h,hn=>by
   unfold Xqa
   cases hf:fst l d with
   | none=>exact ⟨h,hf⟩
   | some i=>
     obtain ⟨h1,h2,h3⟩:=Xp1 hf
     exact Xh7 l n _ (h.snoc h1 h2 h3) (by simp;omega)
theorem XfA (l:List JA):Xin l (ord l)∧fst l (ord l)=none:=Xh7 l _ _ (Xin.nil l) (by simp)
theorem Xtw (l:List JA):(ord l).length≤l.length:=(XfA l).1.le
theorem full:∀(n:Nat) (d:List Int),d.Nodup→(∀x∈d,0≤x∧x < (n:Int))→d.length=n→∀k:Nat,k < n→(k:Int)∈d:=by
 intro n d hd hl hn k hk
 apply Classical.byContradiction
 intro hc
 have:=Xgg n ((k:Int) :: d) (List.nodup_cons.2 ⟨hc,hd⟩) (by
  intro x hx
  rcases List.mem_cons.1 hx with rfl|hx
  ·omega
  ·exact hl x hx)
 simp at this
 omega
theorem Xne (l:List JA) (k:Nat) (h:k < l.length) (hk:(k:Int) ∉ ord l):∃n∈nds l k,n ∉ ord l:=by
 have h1:=Xs4 (XfA l).2 k h
 unfold rdy at h1
 rw [Bool.and_eq_false_iff] at h1
 rcases h1 with h1|h1
 ·simp at h1;exact absurd h1 hk
 ·rw [List.all_eq_false] at h1
  obtain ⟨n,hn,h2⟩:=h1
  exact ⟨n,hn,by simpa using h2⟩
/-! ### The cycle -/
def nxt (l:List JA) (a:Int):Option Int:=(nds l a).find? fun k=>!(ord l).contains k
def XsJ (l:List JA):Nat→List Int→Int→List Int
 | 0,_,_=>[]
 | n+1,path,a=>match path.findIdx? (· == a) with
   | some k=>path.drop k
   | none=>match nxt l a with
     | none=>[]
     | some b=>XsJ l n (path++[a]) b
def at0 (l:List JA):Option Nat:=(mks l (ord l)).findIdx? (· == false)
def cyc (l:List JA):List Int:=match at0 l with
 | none=>[]
 | some a=>XsJ l (l.length+1) [] (a:Int)
structure Way (l:List JA) (p:List Int) (a:Int):Prop where
 nodup:p.Nodup
 lt:∀x∈p,0≤x∧x < (l.length:Int)
 alt:0≤a∧a < (l.length:Int)
 free:a ∉ ord l
 frees:∀x∈p,x ∉ ord l
 chain:∀k,(h:k < p.length)→(p++[a])[k+1]'(by simp;omega)∈nds l p[k]
 cyc:XsJ l (l.length+1 - p.length) p a=cyc l
theorem Way.le {l:List JA} {p:List Int} {a:Int} (h:Way l p a):p.length≤l.length:=Xgg _ p h.nodup h.lt
theorem Xfw {l:List JA} {a:Nat} (h:at0 l=some a):a < l.length∧(a:Int) ∉ ord l:=by
 unfold at0 at h
 obtain ⟨h1,h2,-⟩:=List.findIdx?_eq_some_iff_getElem.1 h
 rw [Xe7] at h2
 rw [Xdw] at h1
 exact ⟨h1,by simpa using h2⟩
theorem Xol {l:List JA} (h:at0 l=none) (a:Nat) (ha:a < l.length):(a:Int)∈ord l:=by
 unfold at0 at h
 rw [List.findIdx?_eq_none_iff] at h
 have hl:a < (mks l (ord l)).length:=by rw [Xdw];exact ha
 have:=h _ (List.getElem_mem hl)
 rw [Xe7] at this
 simpa using this
theorem Way.first {l:List JA} {a:Nat} (h:at0 l=some a):Way l [] (a:Int) where
 nodup:=List.nodup_nil
 lt:=by simp
 alt:=by have:=(Xfw h).1;omega
 free:=(Xfw h).2
 frees:=by simp
 chain:=fun k h=>absurd h (Nat.not_lt_zero k)
 cyc:=by unfold _root_.Go.Proofs.YtdlblokjfoggpaaGreatDoor.cyc;rw [h];rfl
theorem Way.nxt {l:List JA} {p:List Int} {a:Int} (h:Way l p a):∃b,nxt l a=some b∧b∈nds l a∧b ∉ ord l:=by
 have ha:=h.alt
 obtain ⟨k,rfl⟩:∃k:Nat,a=k:=⟨a.toNat,by omega⟩
 obtain ⟨n,hn,h2⟩:=Xne l k (by omega) h.free
 unfold _root_.Go.Proofs.YtdlblokjfoggpaaGreatDoor.nxt
 cases hf:(nds l (k:Int)).find? fun k=>!(ord l).contains k with
 | none=>
   rw [List.find?_eq_none] at hf
   have:=hf n hn
   simp at this
   exact absurd this h2
 | some b=>
   refine ⟨b,rfl,List.mem_of_find?_eq_some hf,?_⟩
   have:=List.find?_some hf
   simpa using this
theorem Way.step {l:List JA} {p:List Int} {a b:Int} (h:Way l p a) (hp:a ∉ p) (hb:_root_.Go.Proofs.YtdlblokjfoggpaaGreatDoor.nxt l a=some b):Way l (p++[a]) b:=by
 have hnd:(p++[a]).Nodup:=by
  rw [List.nodup_append]
  refine ⟨h.nodup,by simp,fun x hx y hy=>?_⟩
  rw [List.mem_singleton] at hy
  subst hy
  intro e;subst e;exact hp hx
 have hlt:∀x∈p++[a],0≤x∧x < (l.length:Int):=by
  intro x hx
  rcases List.mem_append.1 hx with hx|hx
  ·exact h.lt x hx
  ·rw [List.mem_singleton] at hx;subst hx;exact h.alt
 have hle:=Xgg _ _ hnd hlt
 simp only [XvF,Xvw,Xvz] at hle
 obtain ⟨b',hb',hm,hf⟩:=h.nxt
 rw [hb] at hb';cases hb'
 refine ⟨hnd,hlt,Xm6 l a b hm,hf,?_,?_,?_⟩
 ·intro x hx
  rcases List.mem_append.1 hx with hx|hx
  ·exact h.frees x hx
  ·rw [List.mem_singleton] at hx;subst hx;exact h.free
 ·intro k hk
  simp only [XvF,Xvw,Xvz] at hk
  by_cases e:k=p.length
  ·subst e;simpa using hm
  ·have hk2:k < p.length:=by omega
   have hk3:k+1 < (p++[a]).length:=by rw [XvF,List.length_singleton];omega
   have:=h.chain k hk2
   rw [List.getElem_append_left hk3,List.getElem_append_left hk2]
   exact this
 ·have hc:=h.cyc
  rw [show l.length+1 - p.length=(l.length+1 - (p++[a]).length)+1 from by simp;omega] at hc
  rw [←hc]
  rw [XsJ]
  have:p.findIdx? (· == a)=none:=by
   rw [List.findIdx?_eq_none_iff]
   intro x hx
   rw [XvK]
   intro e;subst e;exact hp hx
  simp only [this,hb]
theorem Way.end_ {l:List JA} {p:List Int} {a:Int} (h:Way l p a) {k:Nat} (hk:p.findIdx? (· == a)=some k):p.drop k=_root_.Go.Proofs.YtdlblokjfoggpaaGreatDoor.cyc l:=by
 have hle:=h.le
 rw [←h.cyc,show l.length+1 - p.length=(l.length - p.length)+1 from by omega,XsJ]
 simp only [hk]
theorem Xd5:∀(n:Nat) (d:List Int),(∀k:Nat,k < n→(k:Int)∈d)→n≤d.length
 | 0,d,_=>Nat.zero_le _
 | n+1,d,h=>by
   have hm:(n:Int)∈d:=h n (Nat.lt_succ_self n)
   have:=Xd5 n (d.erase n) fun k hk=>(List.mem_erase_of_ne (by omega)).2 (h k (by omega))
   rw [List.length_erase_of_mem hm] at this
   have:0 < d.length:=List.length_pos_of_mem hm
   omega
theorem Xli (l:List JA) (d:List Int) (h:∀k:Nat,k < l.length→(k:Int)∈d):l.length≤d.length:=Xd5 _ d h
structure Xul (l:List JA) (c:List Int):Prop where
 nodup:c.Nodup
 lt:∀x∈c,0≤x∧x < (l.length:Int)
 pos:0 < c.length
 chain:∀k,(h:k < c.length)→c[(k+1) % c.length]'(Nat.mod_lt _ (by omega))∈nds l c[k]
theorem Way.ring {l:List JA} {p:List Int} {a:Int} (h:Way l p a) {k:Nat} (hk:p.findIdx? (· == a)=some k):Xul l (p.drop k):=by
 obtain ⟨h1,h2,-⟩:=List.findIdx?_eq_some_iff_getElem.1 hk
 rw [beq_iff_eq] at h2
 refine ⟨h.nodup.sublist (List.drop_sublist k p),fun x hx=>h.lt x (List.mem_of_mem_drop hx),by simp;omega,fun j hj=>?_⟩
 have hj2:k+j < p.length:=by rw [List.length_drop] at hj;omega
 have hc:=h.chain (k+j) hj2
 rw [List.getElem_drop]
 by_cases hl:k+j+1 < p.length
 ·rw [List.getElem_append_left (by omega)] at hc
  have e:(j+1) % (p.drop k).length=j+1:=Nat.mod_eq_of_lt (by rw [List.length_drop];omega)
  have:(p.drop k)[(j+1) % (p.drop k).length]'(Nat.mod_lt _ (by simp;omega))=p[k+j+1]:=by
   simp only [e,List.getElem_drop]
   congr 1
  rw [this];exact hc
 ·have e:(j+1) % (p.drop k).length=0:=by
   have:j+1=(p.drop k).length:=by simp;omega
   rw [this,Nat.mod_self]
  have:(p.drop k)[(j+1) % (p.drop k).length]'(Nat.mod_lt _ (by simp;omega))=a:=by
   simp only [e,List.getElem_drop,Nat.add_zero];exact h2
  rw [this]
  have e2:(p++[a])[k+j+1]'(by simp;omega)=a:=by
   rw [List.getElem_append_right (by omega)];simp
  rw [e2] at hc;exact hc
theorem Xkv (l:List JA):∀(n:Nat) (p:List Int) (a:Int),Way l p a→n=l.length+1 - p.length→Xul l (cyc l)
 | 0,p,a,h,hn=>by have:=h.le;omega
 | n+1,p,a,h,hn=>by
   cases hk:p.findIdx? (· == a) with
   | some k=>rw [←h.end_ hk];exact h.ring hk
   | none=>
     obtain ⟨b,hb,-⟩:=h.nxt
     have hp:a ∉ p:=by
      rw [List.findIdx?_eq_none_iff] at hk
      intro hm;simpa using hk a hm
     exact Xkv l n _ b (h.step hp hb) (by simp;omega)
theorem XqQ (l:List JA) (h:(ord l).length=l.length):cyc l=[]:=by
 unfold cyc
 cases ha:at0 l with
 | none=>rfl
 | some a=>
   obtain ⟨h1,h2⟩:=Xfw ha
   exact absurd (full l.length (ord l) (XfA l).1.nodup (XfA l).1.lt h a h1) h2
theorem XjS (l:List JA) (h:(ord l).length≠l.length):Xul l (cyc l):=by
 cases ha:at0 l with
 | none=>
   exfalso
   apply h
   have hle:=Xtw l
   have:=Xli l (ord l) (fun k hk=>Xol ha k hk)
   omega
 | some a=>exact Xkv l _ _ _ (Way.first ha) rfl
theorem XpT (l:List JA) (x:Int) (h:x∈cyc l):0≤x∧x < (l.length:Int):=by
 by_cases e:(ord l).length=l.length
 ·rw [XqQ l e] at h;cases h
 ·exact (XjS l e).lt x h
theorem XoJ (l:List Bool) (v:Bool) (hl:l.length≤1000000):XaM Tryz.prog 82 [] [.sq l.length (ba l),.x (.bool v)] (fun r H'=>r=.x (.int .i64 (fiv (l.findIdx? (· == v))))∧H'=[]):=by
 refine Xbs Tryz.func82 Tryz.ntmps82 ?_
 (repeat' (first|refine Wkx.go ?_|refine XaJ ?_|refine XaG ?_|(refine XaE (fun h=>?_) (fun h=>?_)<;>first|(exact absurd h (by decide))|(exfalso;omega;done)|skip)|refine XaF ?_|refine Xai ?_|(refine Xaa rfl ?_;(first|refine Xax ?_|refine Xaw ?_|refine Xav (fun ad cap=>?_)|refine Xat (fun b=>?_)|refine Xas (fun b=>?_)|refine Xau (fun b=>?_)|fail))|fail))
 refine XaA (S:=Nat) (fun k=>frm 19 [(0,.sq l.length (ba l)),(1,.x (.bool v)),(7,.x (.int .i64 l.length)),(8,.x (.int .i64 k))]) (fun _=>[]) (fun k=>k≤l.length∧∀j∈l.take k,(j == v)=false) (fun k=>l.length - k) 0 (XbQ (D:=[])) ⟨Nat.zero_le _,by simp⟩ fun k hk=>?_
 simp only [wfr]
 obtain ⟨hk,hn⟩:=hk
 have hn:=Lib.hid hn
 (have wx:=@XeW;(repeat' (first|refine Wkx.go ?_|refine XaJ ?_|refine XaG ?_|(refine XaE (fun h=>?_) (fun h=>?_)<;>first|(exact absurd h (by decide))|(exfalso;omega;done)|skip)|refine XaF ?_|refine Xai ?_|(refine Xaa rfl ?_;(first|refine Xax ?_|refine Xaw ?_|refine Xav (fun ad cap=>?_)|refine Xat (fun b=>?_)|refine Xas (fun b=>?_)|refine Xau (fun b=>?_)|fail))|fail)))<;>(try clear wx)
 ·refine Xab _ _ (Xa0 rfl (RV.tmp _) (XcJ (D:=[]))) ?_
  exact ⟨by rw [Xec (· == v) (by assumption) hn.out (by simp [h])];rfl,rfl⟩
 ·exact ⟨k+1,by omega,⟨by omega,by rw [XbC l k (by assumption)];intro j hj;simp only [List.mem_append,List.mem_singleton] at hj;rcases hj with hj|rfl;exact hn.out j hj;exact XvK.2 fun e=>h e.symm⟩,(XbQ (D:=[]))⟩
 ·refine Xab _ _ (Xa0 rfl (RV.tmp _) (XcJ (D:=[]))) ?_
  have hn:=hn.out
  rw [List.take_of_length_le (by omega)] at hn
  exact ⟨by rw [Xeb (· == v) hn];rfl,rfl⟩
theorem XoK (l:List Int) (v:Int) (hl:l.length≤1000000):XaM Tryz.prog 83 [] [.sq l.length (ia l),.x (.int .i64 v)] (fun r H'=>r=.x (.int .i64 (fiv (l.findIdx? (· == v))))∧H'=[]):=by
 refine Xbs Tryz.func83 Tryz.ntmps83 ?_
 (repeat' (first|refine Wkx.go ?_|refine XaJ ?_|refine XaG ?_|(refine XaE (fun h=>?_) (fun h=>?_)<;>first|(exact absurd h (by decide))|(exfalso;omega;done)|skip)|refine XaF ?_|refine Xai ?_|(refine Xaa rfl ?_;(first|refine Xax ?_|refine Xaw ?_|refine Xav (fun ad cap=>?_)|refine Xat (fun b=>?_)|refine Xas (fun b=>?_)|refine Xau (fun b=>?_)|fail))|fail))
 refine XaA (S:=Nat) (fun k=>frm 19 [(0,.sq l.length (ia l)),(1,.x (.int .i64 v)),(7,.x (.int .i64 l.length)),(8,.x (.int .i64 k))]) (fun _=>[]) (fun k=>k≤l.length∧∀j∈l.take k,(j == v)=false) (fun k=>l.length - k) 0 (XbQ (D:=[])) ⟨Nat.zero_le _,by simp⟩ fun k hk=>?_
 simp only [wfr]
 obtain ⟨hk,hn⟩:=hk
 have hn:=Lib.hid hn
 (have wx:=@Xe2;(repeat' (first|refine Wkx.go ?_|refine XaJ ?_|refine XaG ?_|(refine XaE (fun h=>?_) (fun h=>?_)<;>first|(exact absurd h (by decide))|(exfalso;omega;done)|skip)|refine XaF ?_|refine Xai ?_|(refine Xaa rfl ?_;(first|refine Xax ?_|refine Xaw ?_|refine Xav (fun ad cap=>?_)|refine Xat (fun b=>?_)|refine Xas (fun b=>?_)|refine Xau (fun b=>?_)|fail))|fail)))<;>(try clear wx)
 ·refine Xab _ _ (Xa0 rfl (RV.tmp _) (XcJ (D:=[]))) ?_
  exact ⟨by rw [Xec (· == v) (by assumption) hn.out (by simp [h])];rfl,rfl⟩
 ·exact ⟨k+1,by omega,⟨by omega,by rw [XbC l k (by assumption)];intro j hj;simp only [List.mem_append,List.mem_singleton] at hj;rcases hj with hj|rfl;exact hn.out j hj;exact XvK.2 fun e=>h e.symm⟩,(XbQ (D:=[]))⟩
 ·refine Xab _ _ (Xa0 rfl (RV.tmp _) (XcJ (D:=[]))) ?_
  have hn:=hn.out
  rw [List.take_of_length_le (by omega)] at hn
  exact ⟨by rw [Xeb (· == v) hn];rfl,rfl⟩
theorem XkR (l:List Int) (hl:l.length≤1000000) (h0:0 < l.length):XaM Tryz.prog 84 [] [.sq l.length (ia l)] (Xoe l):=by
 refine Xbs Tryz.func84 Tryz.ntmps84 ?_
 (repeat' (first|refine Wkx.go ?_|refine XaJ ?_|refine XaG ?_|(refine XaE (fun h=>?_) (fun h=>?_)<;>first|(exact absurd h (by decide))|(exfalso;omega;done)|skip)|refine XaF ?_|refine Xai ?_ (h:=by first|exact fun _=>Xhs _ _ _ _ _ _ _ HEl.out rfl rfl h0|fail)|refine Xai ?_|(refine Xaa rfl ?_;(first|refine Xax ?_|refine Xaw ?_|refine Xav (fun ad cap=>?_)|refine Xat (fun b=>?_)|refine Xas (fun b=>?_)|refine Xau (fun b=>?_)|fail))|fail))
 refine Xab _ _ (Xa0 rfl (RV.tmp _) (XcJ (D:=[]))) ?_
 exact ⟨ad,cap,by simp [ev],by simp [ia]⟩
theorem XiU (l:List JA) (hl:l.length≤1000000) (hm:∀j∈l,j.needs.length≤8796093022208):XaM Tryz.prog 13 [] [.sq l.length (ja l)] (Xoe (ord l)):=by
 refine Xbs Tryz.func13 Tryz.ntmps13 ?_
 (repeat' (first|refine Wkx.go ?_|refine XaJ ?_|refine XaG ?_|(refine XaE (fun h=>?_) (fun h=>?_)<;>first|(exact absurd h (by decide))|(exfalso;omega;done)|skip)|refine XaF ?_|refine Xai ?_ (h:=by first|exact fun _=>Xb3 rfl rfl Tryz.func37 (XgU l hl hm)|fail)|refine Xai ?_|(refine Xaa rfl ?_;(first|((refine Xa5 Tryz.func36 ([]) rfl rfl (.refl _) (Xe9 l hl) ?_;rintro _ _ ⟨ad,cap,b,c,rfl,rfl⟩);refine XaO ?_)|refine Xax ?_|refine Xaw ?_|refine Xav (fun ad cap=>?_)|refine Xat (fun b=>?_)|refine Xas (fun b=>?_)|refine Xau (fun b=>?_)|fail))|fail))
 refine Xab _ _ (Xa0 rfl (RV.tmp _) (XcJ (D:=[_,_]) (R:=[_]))) ?_
 exact ⟨ad,cap,rfl,rfl⟩
end Go.Proofs.YtdlblokjfoggpaaGreatDoor

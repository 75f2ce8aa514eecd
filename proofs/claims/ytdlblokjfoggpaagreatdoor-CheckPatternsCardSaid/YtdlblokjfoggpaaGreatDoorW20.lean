import Derived.Test.YtdlblokjfoggpaaGreatDoorW7
import Derived.Test.YtdlblokjfoggpaaGreatDoorW6
import Derived.Test.YtdlblokjfoggpaaGreatDoorW12
import Derived.Test.YtdlblokjfoggpaaGreatDoorW15
import Derived.Test.YtdlblokjfoggpaaGreatDoorW17
import Derived.Shelf.Sort.Plain
import Derived.Sort.OwnSortedInts
/- The mill: a deck of numbers (XGr1's part, for seats that have XBits). -/
set_option linter.unusedSimpArgs false
set_option linter.unusedVariables false
set_option maxRecDepth 100000
set_option maxHeartbeats 8000000
namespace Go.Proofs.YtdlblokjfoggpaaGreatDoor
open Go.RowKit
def ia (l:List Int):List AV:=l.map fun n=>.x (.int .i64 n)
@[simp] theorem XvK (l:List Int):(ia l).length=l.length:=by simp [ia]
theorem Xgp (l:List Int) (k:Nat) (h:k < l.length):(ia l).drop k=.x (.int .i64 l[k]) :: ia (l.drop (k+1)):=by
 rw [ia,←List.map_drop,List.drop_eq_getElem_cons h];rfl
def deck (b:Nat) (l:List Int) (k:Nat):Hp:=.box b [.sq l.length (ia l),.x (.int .i64 k)]
def I64 (l:List Int):Prop:=∀x∈l,-9223372036854775808≤x∧x≤9223372036854775807
structure JA where
 name:List UInt8
 needs:List (List UInt8)
 o:Nat→AV
 one:∀i,(o i).one=true
def JA.cells (j:JA):List AV:=[.x (.string (bs j.name)),j.o 1,j.o 2,.sq j.needs.length (sa j.needs),j.o 4,j.o 5,j.o 6,j.o 7,j.o 8,j.o 9,j.o 10,j.o 11,j.o 12,j.o 13,j.o 14]
def ja (l:List JA):List AV:=l.flatMap JA.cells
@[simp] theorem Xx1 (l:List JA):(ja l).length=l.length*15:=by
 induction l with
 | nil=>rfl
 | cons j l ih=>simp only [ja,List.flatMap_cons,XyA,Xyr] at ih ⊢;rw [ih];simp [JA.cells];omega
theorem Xoi (l:List JA) (k:Nat) (h:k < l.length):(ja l).drop (k*15)=l[k].cells++ja (l.drop (k+1)):=by
 induction l generalizing k with
 | nil=>simp at h
 | cons j l ih=>
   have hc:j.cells.length=15:=rfl
   cases k with
   | zero=>simp [ja]
   | succ k=>
     simp only [ja,List.flatMap_cons,List.drop_succ_cons,List.getElem_cons_succ] at ih ⊢
     rw [show (k+1)*15=15+k*15 from by omega,←List.drop_drop,List.drop_append_of_le_length (by omega),show j.cells.drop 15=[] from rfl,Xyy]
     exact ih k (by simpa using h)
def idx (l:List JA) (s:List UInt8):Int:=match l.findIdx? fun j=>j.name == s with|some k=>k|none => -1
theorem XjZ (j:JA) (b:Nat) (s:List UInt8):Xay Tryz.prog 39 [.box b [.x (.string (bs s))]] [.agg j.cells,.x (.pointer (some ⟨b,0,none⟩))] (fun r H'=>r=.x (.bool (j.name == s))∧H'=[.box b [.x (.string (bs s))]]):=by
 have h1:=j.one
 refine XaV Tryz.func39 Tryz.ntmps39 ?_
 (have wx:=And.intro @JA.cells.eq_1 @h1;(repeat' (first|refine Wkx.go ?_|refine Xad ?_|(refine Xab rfl ?_;(refine Xd9 (fun b=>?_)))|fail)))<;>(try clear wx)
 refine Xaa _ _ (XaF rfl (RV.tmp _) (XcS (D:=[_]) (R:=[_]))) ?_
 exact ⟨rfl,rfl⟩
theorem XjX (l:List JA) (H:List Hp) (g:Nat) (fn:Func) (cs:Array Value) (p:JA→Bool) (hl:l.length≤1000000) (hf:Tryz.prog.funcs[g]?=some fn) (hnn:fn.name≠ "runtime.NumGoroutine") (hb:fn.body.isSome=true)
  (hp:∀j∈l,Xay Tryz.prog g H (.agg j.cells :: cs.toList.map .x) (fun r H'=>r=.x (.bool (p j))∧H'=H)) :
  Xay Tryz.prog 38 H [.sq l.length (ja l),.x (.func (.func g) #[] cs)] (fun r H'=>r=.x (.int .i64 (fiv (l.findIdx? p)))∧H'=H):=by
 have hp:=Lib.hid hp
 refine XaV Tryz.func38 Tryz.ntmps38 ?_
 (repeat' (first|refine Wkx.go ?_|refine Xad ?_|fail))
 refine Xah (S:=Nat) (fun k=>frm 19 [(0,.sq l.length (ja l)),(1,.x (.func (.func g) #[] cs)),(7,.x (.int .i64 l.length)),(8,.x (.int .i64 k))]) (fun _=>H) (fun k=>k≤l.length∧∀j∈l.take k,p j=false) (fun k=>l.length - k) 0 (XaX (D:=[])) ⟨Nat.zero_le _,by simp⟩ fun k hk=>?_
 simp only [wfr]
 obtain ⟨hk,hn⟩:=hk
 have hn:=Lib.hid hn
 (have wx:=And.intro @Xoi @JA.cells.eq_1;(repeat' (first|refine Wkx.go ?_|(refine Xaz (fun h=>?_) (fun h=>?_)<;>skip)|refine Xad ?_|(refine Xab rfl ?_;((refine Xau g fn H [] _ _ rfl rfl hf hnn hb (by simp) (VwL.refl _ _) (hp.out l[k] (List.getElem_mem h)) ?_;rintro _ _ ⟨rfl,rfl⟩);refine XaJ ?_))|fail)))<;>(try clear wx)
 ·refine Xaa _ _ (XaF rfl (RV.tmp _) (XcS (D:=[]))) ?_
  exact ⟨by rw [Xes p (by assumption) hn.out h];rfl,rfl⟩
 ·exact ⟨k+1,by omega,⟨by omega,by rw [XbA l k (by assumption)];intro j hj;simp only [List.mem_append,List.mem_singleton] at hj;rcases hj with hj|rfl;exact hn.out j hj;exact h⟩,(XaX (D:=[]))⟩
 ·refine Xaa _ _ (XaF rfl (RV.tmp _) (XcS (D:=[]))) ?_
  have hn:=hn.out
  rw [List.take_of_length_le (by omega)] at hn
  exact ⟨by rw [Xer p hn];rfl,rfl⟩
theorem Xfk (l:List JA) (s:List UInt8) (hl:l.length≤1000000):Xay Tryz.prog 14 [] [.sq l.length (ja l),.x (.string (bs s))] (fun r H'=>r=.x (.int .i64 (idx l s))∧H'=[]):=by
 refine XaV Tryz.func14 Tryz.ntmps14 ?_
 (repeat' (first|refine Wkx.go ?_|refine Xad ?_|(refine Xab rfl ?_;(first|((refine Xau 38 _ [.box b [.x (.string (bs s))]] [] _ _ rfl rfl Tryz.func38 (by decide) rfl (Xyo _) (VwL.refl _ _) (XjX l _ 39 _ #[.pointer (some ⟨b,0,none⟩)] (fun j=>j.name == s) hl Tryz.func39 (by decide) rfl (fun j _=>XjZ j b s)) ?_;rintro _ _ ⟨rfl,rfl⟩);refine XaJ ?_)|refine Xd9 (fun b=>?_)))|fail))
 refine Xaa _ _ (XaF rfl (RV.tmp _) (XcS (D:=[_]) (R:=[]))) ?_
 exact ⟨rfl,rfl⟩
def wnt (l:List JA) (i:Nat) (k:Int):Bool:=match l[i]? with|some j=>j.needs.any fun s=>idx l s == k|none=>false
theorem XvM (l:List JA) (s:List UInt8) : -1≤idx l s∧idx l s < l.length:=by
 unfold idx
 split
 ·rename_i k h
  have:=(List.findIdx?_eq_some_iff_getElem.1 h).1
  omega
 ·have:=Int.natCast_nonneg l.length
  omega
theorem XsO {l:List JA} {i:Nat} (h:i < l.length) (k:Int):wnt l i k=l[i].needs.any fun s=>idx l s == k:=by simp [wnt,h]
def Xgx (l:List JA) (i n:Nat):List Int:=((List.range n).filter fun (k:Nat)=>wnt l i (k:Int)).map fun (k:Nat)=>(k:Int)
def nds (l:List JA) (i:Int):List Int:=if 0≤i∧i < (l.length:Int) then Xgx l i.toNat l.length else []
theorem XqQ (l:List JA) (i:Nat) (n:Nat):(Xgx l i n).length≤n:=by
 unfold Xgx
 rw [List.length_map];have:=List.length_filter_le (fun k:Nat=>wnt l i (k:Int)) (List.range n);simpa using this
theorem Xoa (l m:List Int):ia (l++m)=ia l++ia m:=by simp [ia]
def Srt (l:List Int) (n:Nat):Prop:=∀a b,a < b→b < n→l.getD a 0≤l.getD b 0
theorem Xb0 (l:List Int) (j:Nat) (h:j < l.length):l.getD j 0=l[j]:=by simp [List.getD_eq_getElem?_getD,h]
def Xm4 (r:AV) (H':List Hp):Prop:=(∃n,r=.x (.int .i64 n))∧H'=[]
theorem Xmz (n:Nat) (h0:n≤12):Xay Tryz.prog 147 [] [.x (.int .u64 n)] Xm4:=by
 refine XaV Tryz.func147 Tryz.ntmps147 ?_
 (repeat' (first|refine Wkx.go ?_|(refine Xaz (fun h=>?_) (fun h=>?_)<;>first|(exfalso;omega;done)|skip)|refine Xad ?_ (h:=by exact fun _=>Xam _ _ _ _ _ _ _ rfl rfl rfl (by kernel_rfl) rfl (Nat.lt_of_le_of_lt h0 (by decide)))|refine Xad ?_|fail))
 refine Xaa _ _ (XaF rfl (RV.tmp _) (XcS (D:=[]))) ?_
 exact ⟨⟨_,rfl⟩,rfl⟩
theorem XqM (n:Nat) (h0:n≤12):Xay Tryz.prog 115 [] [.x (.int .u64 n)] Xm4:=by
 refine XaV Tryz.func115 Tryz.ntmps115 ?_
 (repeat' (first|refine Wkx.go ?_|(refine Xaz (fun h=>?_) (fun h=>?_)<;>first|(exact absurd h (by decide))|skip)|refine Xad ?_|(refine Xab rfl ?_;((refine Xa7 Tryz.func147 ([]) rfl rfl (.refl _) (Xmz n h0) ?_;rintro _ _ ⟨⟨m,rfl⟩,rfl⟩);refine XaJ ?_))|fail))
 refine Xaa _ _ (XaF rfl (RV.tmp _) (XcS (D:=[]))) ?_
 exact ⟨⟨_,rfl⟩,rfl⟩
abbrev Xof (b n cap:Nat) (l:List Int):Hp:=.row (some ⟨b,0,none⟩) n cap 3 1 (ia l)
theorem Xwt (l:List Int) (k:Nat) (v:Int) (h:k < l.length):spl (ia l) k [.x (.int .i64 v)]=ia (l.set k v):=by
 unfold spl ia
 rw [List.length_singleton,List.set_eq_take_append_cons_drop,if_pos h]
 simp
def XkH (b n cap:Nat) (l:List Int) (H':List Hp):Prop:=∃l',H'=[Xof b n cap l']∧l'.Perm l∧l'.Pairwise (·≤·)
def kp (l:List Int) (j:Nat):Bool:=j == 0 || l.getD j 0 != l.getD (j - 1) 0
def XfH (l:List Int) (m:Nat):List Int:=((List.range m).filter (kp l)).map fun j=>l.getD j 0
def cmp (l:List Int):List Int:=XfH l l.length
theorem Xdk (l:List Int) (m:Nat):XfH l (m+1)=XfH l m++if kp l m then [l.getD m 0] else []:=by
 unfold XfH
 rw [List.range_succ,List.filter_append,List.map_append]
 congr 1
 cases h:kp l m<;>simp [List.filter_cons,h]
theorem Xge (l:List Int):∀m,m≤l.length→(∀j,j < m→kp l j=true)→XfH l m=l.take m
 | 0,_,_=>by simp [XfH]
 | m+1,h,hk=>by
   rw [Xdk,Xge l m (by omega) (fun j hj=>hk j (by omega)),hk m (by omega),List.take_succ_eq_append_getElem (by omega)]
   simp [List.getD_eq_getElem?_getD,show m < l.length by omega]
theorem XnH {l:List Int} (hk:∀j,j < l.length→kp l j=true):cmp l=l:=by
 rw [cmp,Xge l _ (Nat.le_refl _) hk,List.take_length]
theorem Xsa {l:List Int} {m:Nat} (h:m < l.length) (h1:m - 1 < l.length) (h2:l[m]≠l[m - 1]):kp l m=true:=by
 unfold kp;rw [Xb0 _ _ h,Xb0 _ _ h1];simp [h2]
theorem Xr9 {l:List Int} {m:Nat} (h0:0 < m) (h:m < l.length) (h1:m - 1 < l.length) (h2:l[m]=l[m - 1]):kp l m=false:=by
 unfold kp;rw [Xb0 _ _ h,Xb0 _ _ h1];simp [h2];omega
structure Cmp (l:List Int) (m k:Nat) (r:List Int):Prop where
 len:r.length=l.length
 kept:r.take k=XfH l m
 le:k < m
 rest:∀j,m≤j+1→r.getD j 0=l.getD j 0
 k0:m≤l.length
theorem Cmp.start {l:List Int} {k:Nat} (h:∀j,j < k→kp l j=true) (hk:k < l.length) (hd:kp l k=false):Cmp l (k+1) k l:=by
 refine ⟨rfl,?_,by omega,fun _ _=>rfl,by omega⟩
 rw [Xdk,hd,Xge l k (by omega) h];simp
theorem Cmp.skip {l r:List Int} {m k:Nat} (h:Cmp l m k r) (hm:m < l.length) (hk:kp l m=false):Cmp l (m+1) k r:=by
 refine ⟨h.len,?_,by have:=h.le;omega,fun j hj=>h.rest j (by omega),by omega⟩
 rw [Xdk,hk,h.kept];simp
theorem Cmp.keep {l r:List Int} {m k:Nat} (h:Cmp l m k r) (hm:m < l.length) (hk:kp l m=true):Cmp l (m+1) (k+1) (r.set k (l.getD m 0)):=by
 have hl:=h.len
 have hle:=h.le
 refine ⟨by simp [h.len],?_,by omega,fun j hj=>?_,by omega⟩
 ·rw [Xdk,hk,←h.kept,List.take_succ_eq_append_getElem (by simp;omega),List.take_set_of_le (Nat.le_refl _)]
  simp
 ·rw [←h.rest j (by omega)]
  simp [List.getD_eq_getElem?_getD,List.getElem?_set,show k≠j by omega]
theorem Cmp.at {l r:List Int} {m k:Nat} (h:Cmp l m k r) (j:Nat) (hj:m≤j+1) (h1:j < r.length):r[j]=l.getD j 0:=by
 rw [←h.rest j hj,Xb0 _ _ h1]
theorem Cmp.done {l r:List Int} {k:Nat} (h:Cmp l l.length k r):cmp l=r.take k:=h.kept.symm
theorem Xmf {l:List Int} (h:l.Pairwise (·≤·)):(cmp l).Pairwise (· < ·)∧∀x,x∈cmp l↔x∈l:=by
 have hs:Srt l l.length:=by
  intro a b h1 h2
  rw [Xb0 _ _ (by omega),Xb0 _ _ h2]
  exact List.pairwise_iff_getElem.1 h a b (by omega) h2 h1
 have key:∀m,m≤l.length→(XfH l m).Pairwise (· < ·)∧(∀x∈XfH l m,∀j,m≤j+1→0 < m→j < l.length→x≤l.getD j 0)∧(∀x∈XfH l m,∃j,j < m∧x=l.getD j 0)∧∀j,j < m→l.getD j 0∈XfH l m:=by
  intro m
  induction m with
  | zero=>intro _;simp [XfH]
  | succ m ih=>
    intro hm
    obtain ⟨i1,i2,i3,i4⟩:=ih (by omega)
    rw [Xdk]
    refine ⟨?_,?_,?_,?_⟩
    ·cases hk:kp l m with
     | false=>simpa using i1
     | true=>
       rw [if_pos rfl,List.pairwise_append]
       refine ⟨i1,by simp,fun a ha b hb=>?_⟩
       rw [List.mem_singleton] at hb
       subst hb
       obtain ⟨j,hj,rfl⟩:=i3 a ha
       have hm0:0 < m:=by omega
       have h1:=i2 _ ha (m - 1) (by omega) hm0 (by omega)
       have h2:=hs (m - 1) m (by omega) (by omega)
       have h3:l.getD m 0≠l.getD (m - 1) 0:=by
        unfold kp at hk
        simp only [Bool.or_eq_true,beq_iff_eq,bne_iff_ne,ne_eq] at hk
        rcases hk with hk|hk
        ·omega
        ·exact hk
       omega
    ·intro x hx j hj h0 hjl
     rcases List.mem_append.1 hx with hx|hx
     ·obtain ⟨j',hj',rfl⟩:=i3 x hx
      exact hs j' j (by omega) hjl
     ·cases hk:kp l m with
      | false=>rw [hk] at hx;simp at hx
      | true=>
        rw [hk] at hx;simp at hx
        rw [hx]
        have:m=j∨m < j:=by omega
        rcases this with rfl|h2
        ·simp [List.getD_eq_getElem?_getD]
        ·have:=hs m j h2 hjl
         simpa [List.getD_eq_getElem?_getD] using this
    ·intro x hx
     rcases List.mem_append.1 hx with hx|hx
     ·obtain ⟨j,hj,e⟩:=i3 x hx;exact ⟨j,by omega,e⟩
     ·cases hk:kp l m with
      | false=>rw [hk] at hx;simp at hx
      | true=>rw [hk,if_pos rfl,List.mem_singleton] at hx;exact ⟨m,by omega,hx⟩
    ·intro j hj
     by_cases e:j=m
     ·subst e
      cases hk:kp l j with
      | true=>simp
      | false=>
        have h3:j≠0∧l.getD j 0=l.getD (j - 1) 0:=by
         unfold kp at hk
         simp only [Bool.or_eq_false_iff,XyF,bne_eq_false_iff_eq,ne_eq] at hk
         exact hk
        rw [h3.2]
        exact List.mem_append_left _ (i4 (j - 1) (by omega))
     ·exact List.mem_append_left _ (i4 j (by omega))
 obtain ⟨k1,-,k3,k4⟩:=key l.length (Nat.le_refl _)
 refine ⟨k1,fun x=>⟨fun hx=>?_,fun hx=>?_⟩⟩
 ·obtain ⟨j,hj,rfl⟩:=k3 x hx
  rw [Xb0 _ _ hj];exact List.getElem_mem hj
 ·obtain ⟨j,hj,rfl⟩:=List.getElem_of_mem hx
  rw [←Xb0 _ _ hj];exact k4 j hj
def Xu3 (b cap:Nat) (l:List Int) (r:AV) (H':List Hp):Prop:=r=.x (.slice (some ⟨b,0,none⟩) l.length cap)∧H'=[Xof b l.length cap l]
theorem XiF (b cap:Nat) (l:List Int) (hl:l.length≤8796093022208):Xay Tryz.prog 98 [Xof b l.length cap l] [.x (.slice (some ⟨b,0,none⟩) l.length cap)] (Xu3 b cap (cmp l)):=by
 refine XaV Tryz.func98 Tryz.ntmps98 ?_
 refine Xcl 0 rfl fun hcap h1 h2=>?_
 clear h1 h2
 (repeat' (first|refine Wkx.go ?_|(refine Xaz (fun h=>?_) (fun h=>?_)<;>skip)|refine Xad ?_|fail))
 ·refine Xaa _ _ (XaF rfl (RV.tmp _) (XcS (D:=[]))) ?_
  have:cmp l=l:=XnH fun j hj=>by
   have:j=0:=by omega
   subst this;rfl
  rw [this]
  exact ⟨rfl,rfl⟩
 refine Xah (S:=Nat) (fun s=>frm 61 [(0,.x (.slice (some ⟨b,0,none⟩) l.length cap)),(2,.x (.slice none 0 0)),(3,.x (.int .i64 s))]) (fun s=>[Xof b l.length cap l]) (fun s=>1≤s∧s≤l.length∧∀j,j < s→kp l j=true) (fun s=>l.length - s) 1 (XaX (D:=[])) ?inv fun s hs=>?_
 case inv=>
  refine ⟨Nat.le_refl _,by omega,fun j hj=>?_⟩
  have e:j=0:=by omega
  subst e;rfl
 obtain ⟨h1,h2,hk⟩:=hs
 have hk':=Lib.hid hk
 clear hk
 simp only [wfr]
 obtain ⟨s,rfl⟩:∃q,s=q+1:=⟨s - 1,by omega⟩
 (have wx:=And.intro @Xgp @XvN;(repeat' (first|refine Wkx.go ?_|refine Xc4 ?_|(refine Xaz (fun h=>?_) (fun h=>?_)<;>skip)|refine Xad ?_|fail)))<;>(try clear wx)
 ·have hk1:kp l (s+1)=false:=Xr9 (by omega) (by omega) (by omega) h
  have hC:Cmp l (s+1+1) (s+1) l:=Cmp.start hk'.out (by omega) hk1
  clear h hk'
  refine Xah (S:=Nat × Nat × List Int) (fun q=>frm 61 [(0,.x (.slice (some ⟨b,0,none⟩) l.length cap)),(3,.x (.int .i64 q.2.1)),(4,.x (.slice (some ⟨b,s+1,none⟩) (l.length - (s+1)) (cap - (s+1)))),(5,.x (.int .i64 q.1))]) (fun q=>[Xof b l.length cap q.2.2]) (fun q=>1≤q.1∧Cmp l (s+1+q.1) q.2.1 q.2.2) (fun q=>l.length - q.1) (1,s+1,l) (XaX (D:=[])) ⟨Nat.le_refl _,hC⟩ fun q hq=>?_
  clear hC hk1
  obtain ⟨m,k,r⟩:=q
  obtain ⟨hm,hC⟩:=hq
  simp only at hm hC
  have hlen:=hC.len
  have hkl:=hC.le
  have hml:=hC.k0
  have hC':=Lib.hid hC
  clear hC
  simp only [wfr]
  obtain ⟨m,rfl⟩:∃q,m=q+1:=⟨m - 1,by omega⟩
  (have wx:=And.intro @Xgp (And.intro @XvN @Xwt);(repeat' (first|refine Wkx.go ?_|refine Xc4 ?_|(refine Xaz (fun h=>?_) (fun h=>?_)<;>skip)|refine Xad ?_|(refine Xab rfl ?_;(refine Xg3 ?_))|fail)))<;>(try clear wx)
  ·have hC:=hC'.out
   have e1:=hC.at (s+1+(m+1)) (by omega) (by omega)
   have e2:=hC.at (s+1+m) (by omega) (by omega)
   refine ⟨(m+1+1,k+1,r.set k r[s+1+(m+1)]),by simp only;omega,⟨by simp only;omega,?_⟩,(XaX (D:=[]))⟩
   simp only
   rw [e1,show s+1+(m+1+1)=s+1+(m+1)+1 from rfl]
   refine hC.keep (by omega) (Xsa (by omega) (by omega) ?_)
   rw [←Xb0,←Xb0,←e1]
   intro h9
   exact h (h9.trans e2.symm)
  ·have hC:=hC'.out
   have e1:=hC.at (s+1+(m+1)) (by omega) (by omega)
   have e2:=hC.at (s+1+m) (by omega) (by omega)
   refine ⟨(m+1+1,k,r),by simp only;omega,⟨by simp only;omega,?_⟩,(XaX (D:=[]))⟩
   simp only
   refine hC.skip (by omega) (Xr9 (by omega) (by omega) (by omega) ?_)
   rw [←Xb0,←Xb0]
   exact e1.symm.trans (h.trans e2)
  ·have hC:=hC'.out
   have em:s+1+(m+1)=l.length:=by omega
   rw [em] at hC
   have ec:=hC.done
   have ek:k=(cmp l).length:=by rw [ec,List.length_take];omega
   clear hC hC'
   refine Xab rfl ?_
   refine Xm8 0 _ _ _ _ _ b k (l.length - k) _ _ _ _ rfl rfl rfl XbY.out rfl rfl (by rw [XvK];omega) ?_
   refine Xat ?_
   refine Xac ?_
   refine Xg8 0 k rfl (by omega) (fun _=>.inr trivial) (by simp) ?_
   have e9:((spl (ia r) k (List.replicate (l.length - k) (.x (.int .i64 0)))).take (k*1))=ia (cmp l):=by
    rw [ec,Nat.mul_one]
    unfold spl
    rw [List.append_assoc,List.take_append_of_le_length (by simp;omega),List.take_take,Nat.min_self]
    unfold ia;rw [List.map_take]
   rw [e9]
   clear e9
   have ek':=Lib.hid ek
   clear ek ec
   (try simp only [wtn,Xys,Xyp,Xyq,Xyt,Xyx,Nat.reduceAdd,Nat.reduceMul,Nat.reduceSub,↓reduceIte,Nat.reduceEqDiff])
   (repeat' (first|refine Wkx.go ?_|refine Xad ?_|fail))
   have ek:=ek'.out
   subst ek
   simp only [Nat.sub_zero,ite_self]
   refine Xaa _ _ (XaF rfl (RV.tmp _) (XcS (D:=[]))) ?_
   exact ⟨rfl,rfl⟩
 ·exact ⟨s+1+1,by omega,⟨by omega,by omega,fun j hj=>by
   by_cases e:j=s+1
   ·subst e;exact Xsa (by omega) (by omega) h
   ·exact hk'.out j (by omega)⟩,(XaX (D:=[]))⟩
 ·refine Xaa _ _ (XaF rfl (RV.tmp _) (XcS (D:=[]))) ?_
  have:cmp l=l:=XnH fun j hj=>hk'.out j (by omega)
  rw [this]
  exact ⟨rfl,rfl⟩
theorem Xhi:∀{l m:List Int},l.Pairwise (· < ·)→m.Pairwise (· < ·)→(∀x,x∈l↔x∈m)→l=m
 | [],[],_,_,_=>rfl
 | [],b :: m,_,_,h=>by have:=(h b).2 (List.mem_cons_self ..);simp at this
 | a :: l,[],_,_,h=>by have:=(h a).1 (List.mem_cons_self ..);simp at this
 | a :: l,b :: m,hl,hm,h=>by
   rw [List.pairwise_cons] at hl hm
   have e:a=b:=by
    rcases List.mem_cons.1 ((h a).1 (List.mem_cons_self ..)) with e|h1
    ·exact e
    ·rcases List.mem_cons.1 ((h b).2 (List.mem_cons_self ..)) with e|h2
     ·exact e.symm
     ·have:=hm.1 a h1;have:=hl.1 b h2;omega
   subst e
   congr 1
   refine Xhi hl.2 hm.2 fun x=>⟨fun hx=>?_,fun hx=>?_⟩
   ·rcases List.mem_cons.1 ((h x).1 (List.mem_cons_of_mem _ hx)) with e|h1
    ·subst e;have:=hl.1 x hx;omega
    ·exact h1
   ·rcases List.mem_cons.1 ((h x).2 (List.mem_cons_of_mem _ hx)) with e|h1
    ·subst e;have:=hm.1 x hx;omega
    ·exact h1
def gat (l:List JA) (j:JA) (n:Nat):List Int:=((j.needs.take n).map (idx l)).filter fun k=>decide (0≤k)
theorem XvI (l:List JA) (j:JA) (n:Nat):(gat l j n).length≤n:=by
 unfold gat
 refine Nat.le_trans (List.length_filter_le ..) ?_
 simp;omega
theorem Xn4 (l:List JA) (j:JA) (n:Nat) (h:n < j.needs.length) (h0:0≤idx l (j.needs[n])):gat l j (n+1)=gat l j n++[idx l (j.needs[n])]:=by
 unfold gat
 rw [XbA _ n h,List.map_append,List.filter_append]
 simp [h0]
theorem Xn3 (l:List JA) (j:JA) (n:Nat) (h:n < j.needs.length) (h0:¬0≤idx l (j.needs[n])):gat l j (n+1)=gat l j n:=by
 unfold gat
 rw [XbA _ n h,List.map_append,List.filter_append]
 simp [h0]
theorem Xi1 (l:List JA) (i n:Nat):(Xgx l i n).Pairwise (· < ·):=by
 unfold Xgx
 rw [List.pairwise_map]
 refine List.Pairwise.imp ?_ (List.Pairwise.filter _ List.pairwise_lt_range)
 intro a b h;omega
theorem Xi0 (l:List JA) (i n:Nat) (x:Int):x∈Xgx l i n↔∃k:Nat,k < n∧wnt l i k=true∧(k:Int)=x:=by
 unfold Xgx
 simp only [List.mem_map,List.mem_filter,List.mem_range]
 constructor
 ·rintro ⟨k,⟨h1,h2⟩,h3⟩;exact ⟨k,h1,h2,h3⟩
 ·rintro ⟨k,h1,h2,h3⟩;exact ⟨k,⟨h1,h2⟩,h3⟩
theorem XnI (l:List JA) (i:Nat) (hi:i < l.length) (m:List Int) (hp:m.Perm (gat l l[i] l[i].needs.length)) (hs:m.Pairwise (·≤·)):cmp m=Xgx l i l.length:=by
 obtain ⟨h1,h2⟩:=Xmf hs
 refine Xhi h1 (Xi1 ..) fun x=>?_
 rw [h2,hp.mem_iff,Xi0]
 unfold gat
 rw [List.take_length]
 simp only [List.mem_filter,List.mem_map,decide_eq_true_eq]
 constructor
 ·rintro ⟨⟨s,hs,rfl⟩,h0⟩
  have:=(XvM l s).2
  refine ⟨(idx l s).toNat,by omega,?_,by omega⟩
  rw [XsO hi,List.any_eq_true]
  exact ⟨s,hs,by rw [Int.toNat_of_nonneg h0];simp⟩
 ·rintro ⟨k,hk,hw,rfl⟩
  rw [XsO hi,List.any_eq_true] at hw
  obtain ⟨s,hs,he⟩:=hw
  exact ⟨⟨s,hs,by simpa using he⟩,by omega⟩
open Go.Shelf
def Xj4:Go.Shelf.Ren:=⟨fun|189=>97|125=>115|257=>114|128=>146|129=>147|294=>137|295=>138|296=>139|297=>140|298=>141|299=>142|216=>143|300=>144|301=>145|328=>164|329=>165|330=>166|331=>167|332=>168|215=>169|343=>182|n=>n,fun|28=>45|3=>3|46=>207|0=>0|51=>242|53=>24|4=>4|183=>234|182=>233|131=>239|5=>5|9=>9|218=>258|222=>261|228=>273|229=>274|n=>n,fun|n=>n⟩
theorem XtP:Go.Proofs.Lays.n189 Tryz.prog Xj4:={
 mixed:=by kernel_rfl
 f125:=Tryz.func115.trans (congrArg some (by kernel_rfl))
 f128:=Tryz.func146.trans (congrArg some (by kernel_rfl))
 f129:=Tryz.func147.trans (congrArg some (by kernel_rfl))
 f189:=Tryz.func97.trans (congrArg some (by kernel_rfl))
 f215:=Tryz.func169.trans (congrArg some (by kernel_rfl))
 f216:=Tryz.func143.trans (congrArg some (by kernel_rfl))
 f257:=Tryz.func114.trans (congrArg some (by kernel_rfl))
 f294:=Tryz.func137.trans (congrArg some (by kernel_rfl))
 f295:=Tryz.func138.trans (congrArg some (by kernel_rfl))
 f296:=Tryz.func139.trans (congrArg some (by kernel_rfl))
 f297:=Tryz.func140.trans (congrArg some (by kernel_rfl))
 f298:=Tryz.func141.trans (congrArg some (by kernel_rfl))
 f299:=Tryz.func142.trans (congrArg some (by kernel_rfl))
 f300:=Tryz.func144.trans (congrArg some (by kernel_rfl))
 f301:=Tryz.func145.trans (congrArg some (by kernel_rfl))
 f328:=Tryz.func164.trans (congrArg some (by kernel_rfl))
 f329:=Tryz.func165.trans (congrArg some (by kernel_rfl))
 f330:=Tryz.func166.trans (congrArg some (by kernel_rfl))
 f331:=Tryz.func167.trans (congrArg some (by kernel_rfl))
 f332:=Tryz.func168.trans (congrArg some (by kernel_rfl))
 f343:=Tryz.func182.trans (congrArg some (by kernel_rfl))
 t0:=Tryz.underlying0
 a0:=Tryz.isAgg0
 z0:=Tryz.sizeOf0
 v0:=Tryz.zeroValue0
 t3:=Tryz.underlying3
 a3:=Tryz.isAgg3
 z3:=Tryz.sizeOf3
 v3:=Tryz.zeroValue3
 t4:=Tryz.underlying4
 a4:=Tryz.isAgg4
 z4:=Tryz.sizeOf4
 v4:=Tryz.zeroValue4
 t5:=Tryz.underlying5
 a5:=Tryz.isAgg5
 z5:=Tryz.sizeOf5
 v5:=Tryz.zeroValue5
 t9:=Tryz.underlying9
 a9:=Tryz.isAgg9
 z9:=Tryz.sizeOf9
 v9:=Tryz.zeroValue9
 t28:=Tryz.underlying45
 a28:=Tryz.isAgg45
 z28:=Tryz.sizeOf45
 v28:=Tryz.zeroValue45
 t46:=Tryz.underlying207
 a46:=Tryz.isAgg207
 z46:=Tryz.sizeOf207
 v46:=Tryz.zeroValue207
 t51:=Tryz.underlying242
 a51:=Tryz.isAgg242
 z51:=Tryz.sizeOf242
 v51:=Tryz.zeroValue242
 t53:=Tryz.underlying24
 a53:=Tryz.isAgg24
 z53:=Tryz.sizeOf24
 v53:=Tryz.zeroValue24
 t131:=Tryz.underlying239
 a131:=Tryz.isAgg239
 z131:=Tryz.sizeOf239
 v131:=Tryz.zeroValue239
 t182:=Tryz.underlying233
 a182:=Tryz.isAgg233
 z182:=Tryz.sizeOf233
 v182:=Tryz.zeroValue233
 t183:=Tryz.underlying234
 a183:=Tryz.isAgg234
 z183:=Tryz.sizeOf234
 v183:=Tryz.zeroValue234
 t218:=Tryz.underlying258
 a218:=Tryz.isAgg258
 z218:=Tryz.sizeOf258
 v218:=Tryz.zeroValue258
 t222:=Tryz.underlying261
 a222:=Tryz.isAgg261
 z222:=Tryz.sizeOf261
 v222:=Tryz.zeroValue261
 t228:=Tryz.underlying273
 a228:=Tryz.isAgg273
 z228:=Tryz.sizeOf273
 v228:=Tryz.zeroValue273
 t229:=Tryz.underlying274
 a229:=Tryz.isAgg274
 z229:=Tryz.sizeOf274
 v229:=Tryz.zeroValue274 }
open Go.Sort Go.RowKit in
theorem slices_Sort_int (blk off cap:Nat) (zs:List Int) (w:World) (hH:Holds (Value.int .i64) w blk off zs.toArray) (hblk:blk < w.heap.size) (hsz:zs.length < 4611686018427387904) :
  Calls Tryz.prog 97 #[.slice (some ⟨blk,off,none⟩) zs.length cap] w fun e w'=>
   e=.returned (.tuple #[])∧∃n os,w'=grow (putRow (Value.int .i64) (Sort.ahead w n) blk off (zs.mergeSort fun x y=>decide (x≤y)).toArray) os:=Any.slices_Sort_int XtP blk off cap zs w hH hblk hsz
open Go.RowKit Go.Sort
theorem DenL.eq {F:Nat→Prop} {w:World}:∀{l vs:List Value},DenL F w (l.map AV.x) vs→vs=l
 | [],vs,h=>by rw [Xyx,DenL] at h;exact h
 | x :: l,vs,h=>by
   rw [Xyt,DenL] at h
   obtain ⟨u,us,rfl,h1,h2⟩:=h
   rw [Den] at h1
   rw [h1,DenL.eq h2]
theorem Xr5 (l:List Int):ia l=(l.map (Value.int .i64)).map AV.x:=by simp [ia]
theorem Xrr (b cap:Nat) (l:List Int) (hl:l.length < 4611686018427387904):Xay Tryz.prog 97 [Xof b l.length cap l] [.x (.slice (some ⟨b,0,none⟩) l.length cap)] (fun r H'=>XkH b l.length cap l H'):=by
 intro V w vs h1 h2 h3 _
 rw [DenL] at h3
 obtain ⟨u,us,rfl,hu,hus⟩:=h3
 rw [Den] at hu
 rw [DenL] at hus
 subst hu hus
 obtain ⟨vals,hd,hown,hone⟩:=h2.ok _ (List.mem_singleton.2 rfl)
 rw [Xr5] at hd
 obtain rfl:=DenL.eq hd
 have hlt:=h2.lt _ (List.mem_singleton.2 rfl) b rfl
 obtain ⟨hlen,hn|⟨g,capx,cur,e1,hbg,hg,hnc,hcm,hcs,htake⟩⟩:=hown
 ·cases hn.1
 simp only [Value.slice.injEq,Option.some.injEq,Addr.mk.injEq] at e1
 obtain ⟨⟨rfl,-,-⟩,-,rfl⟩:=e1
 have hH:Holds (Value.int .i64) w b 0 l.toArray:=holds_of_blockI hg (by simpa using htake)
 refine (slices_Sort_int b 0 cap l w hH hlt.1 hl).mono fun e w' ⟨he,n,os,hw⟩=>?_
 subst hw
 have hml:(l.mergeSort fun x y=>decide (x≤y)).length=l.length:=(List.mergeSort_perm _ _).length_eq
 have hgr:=grownBy_sortedI (w:=w) (g:=b) (n:=n) (os:=os) (l.mergeSort fun x y=>decide (x≤y)).toArray
 have hz:w.heap.size≤(grow (putRow (Value.int .i64) (Sort.ahead w n) b 0 (l.mergeSort fun x y=>decide (x≤y)).toArray) os).heap.size:=hgr.size
 refine ⟨.x (.tuple #[]),[Xof b l.length cap (l.mergeSort fun x y=>decide (x≤y))],_,⟨_,rfl,List.mergeSort_perm _ _,?_⟩,he,by rw [Den],⟨?_,List.pairwise_singleton _ _,?_⟩,⟨hgr.os,hgr.tape,hgr.output,hz,?_⟩,?_⟩
 ·have:=List.pairwise_mergeSort (le:=fun x y:Int=>decide (x≤y)) (fun a b c h1 h2=>by simp at *;omega) (fun a b=>by simp;omega) l
  exact this.imp fun h=>by simpa using h
 ·intro h hh
  rw [List.mem_singleton] at hh
  subst hh
  refine ⟨(l.mergeSort fun x y=>decide (x≤y)).map (Value.int .i64),by rw [Xr5];exact DenL.exact,?_,fun u hu=>by obtain ⟨x,-,rfl⟩:=List.mem_map.1 hu;rfl⟩
  exact ownsRow_sortedI hml (Nat.zero_le _) hg hnc hcm (by simpa using hcs)
 ·intro h hh k hk
  rw [List.mem_singleton] at hh
  subst hh
  simp only [Hp.blk,Option.map_some,Option.some.injEq] at hk
  subst hk
  exact ⟨Nat.lt_of_lt_of_le hlt.1 hz,hlt.2⟩
 ·intro k hk hn
  refine hgr.block k hk fun e=>hn ?_
  simp only [Option.some.injEq] at e
  exact ⟨_,List.mem_singleton.2 rfl,by rw [e];rfl⟩
 ·intro h hh k hk
  rw [List.mem_singleton] at hh
  subst hh
  exact .inl ⟨_,List.mem_singleton.2 rfl,hk⟩
theorem Xoh:Xay Tryz.prog 137 [] [.x (.slice none 0 0),.x (.int .i64 0),.x (.int .i64 0)] (fun r H'=>H'=[]):=by
 refine XaV Tryz.func137 Tryz.ntmps137 ?_
 (repeat' (first|refine Wkx.go ?_|refine Xad ?_|fail))
 refine Xah (S:=Unit) (fun s=>frm 49 [(0,.x (.slice none 0 0)),(1,.x (.int .i64 0)),(2,.x (.int .i64 0)),(6,.x (.int .i64 1))]) (fun s=>[]) (fun s=>True) (fun s=>0) () (XaX (D:=[])) trivial fun s hs=>?_
 simp only [wfr]
 (repeat' (first|refine Wkx.go ?_|(refine Xaz (fun h=>?_) (fun h=>?_)<;>first|(exact absurd h (by decide))|skip)|refine Xad ?_|fail))
 exact XbF _ _ (Xfa rfl (XaX (D:=[]))) rfl
theorem Xul (m:Int):Xay Tryz.prog 114 [] [.x (.slice none 0 0),.x (.int .i64 0),.x (.int .i64 0),.x (.int .i64 m)] (fun r H'=>H'=[]):=by
 refine XaV Tryz.func114 Tryz.ntmps114 ?_
 (repeat' (first|refine Wkx.go ?_|refine Xad ?_|fail))
 refine Xah (S:=Unit) (fun s=>frm 134 [(0,.x (.slice none 0 0)),(1,.x (.int .i64 0)),(2,.x (.int .i64 0)),(3,.x (.int .i64 m)),(8,.x (.bool true)),(9,.x (.bool true))]) (fun s=>[]) (fun s=>True) (fun s=>0) () (XaX (D:=[])) trivial fun s hs=>?_
 simp only [wfr]
 (repeat' (first|refine Wkx.go ?_|(refine Xaz (fun h=>?_) (fun h=>?_)<;>first|(exact absurd h (by decide))|skip)|refine Xad ?_|(refine Xab rfl ?_;((refine Xa7 Tryz.func137 ([]) rfl rfl (.refl _) (Xoh) ?_;rintro _ _ rfl);refine XaJ ?_))|fail))
 exact Xaa _ _ (Xfa rfl (XaX (D:=[]))) rfl
theorem Xrs:Xay Tryz.prog 97 [] [.x (.slice none 0 0)] (fun r H'=>H'=[]):=by
 refine XaV Tryz.func97 Tryz.ntmps97 ?_
 (repeat' (first|refine Wkx.go ?_|refine Xad ?_|(refine Xab rfl ?_;(first|((refine Xa7 Tryz.func115 ([]) rfl rfl (.refl _) (XqM 0 (by decide)) ?_;rintro _ _ ⟨⟨m,rfl⟩,rfl⟩);refine XaJ ?_)|((refine Xa7 Tryz.func114 ([]) rfl rfl (.refl _) (Xul m) ?_;rintro _ _ rfl);refine XaJ ?_)))|fail))
 exact XbF _ _ (Xfa rfl (XaX (D:=[]))) rfl
theorem XjN:Xay Tryz.prog 98 [] [.x (.slice none 0 0)] (fun r H'=>r=.x (.slice none 0 0)∧H'=[]):=by
 refine XaV Tryz.func98 Tryz.ntmps98 ?_
 (repeat' (first|refine Wkx.go ?_|(refine Xaz (fun h=>?_) (fun h=>?_)<;>first|(exact absurd h (by decide))|skip)|refine Xad ?_|fail))
 refine Xaa _ _ (XaF rfl (RV.tmp _) (XcS (D:=[]))) ?_
 exact ⟨rfl,rfl⟩
theorem XnL (b cap n:Nat) (l:List Int) (hn:l.length=n) (hl:n≤8796093022208):Xay Tryz.prog 98 [Xof b n cap l] [.x (.slice (some ⟨b,0,none⟩) n cap)] (Xu3 b cap (cmp l)):=by
 subst hn;exact XiF b cap l hl
theorem Xwr (b cap n:Nat) (l:List Int) (hn:l.length=n) (hl:n≤8796093022208):Xay Tryz.prog 97 [Xof b n cap l] [.x (.slice (some ⟨b,0,none⟩) n cap)] (fun r H'=>XkH b n cap l H'):=by
 subst hn;exact Xrr b cap l (by omega)
theorem XqR (l:List JA) (i:Nat) (hi:i < l.length) (hl:l.length≤1000000) (hm:(l[i]'hi).needs.length≤8796093022208):Xay Tryz.prog 72 [] [.sq l.length (ja l),.x (.int .i64 i)] (fun r H'=>r=.sq (Xgx l i l.length).length (ia (Xgx l i l.length))∧H'=[]):=by
 refine XaV Tryz.func72 Tryz.ntmps72 ?_
 (have wx:=And.intro @Xoi @JA.cells.eq_1;(repeat' (first|refine Wkx.go ?_|(refine Xaz (fun h=>?_) (fun h=>?_)<;>first|(exfalso;omega;done)|skip)|refine Xad ?_|fail)))<;>(try clear wx)
 refine Xa3 3 1 ?_
 refine Xah (S:=Nat × Option Addr × Nat) (fun s=>frm 41 [(0,.sq l.length (ja l)),(1,.x (.int .i64 i)),(5,.x (.slice s.2.1 (gat l l[i] s.1).length s.2.2)),(21,.sq l[i].needs.length (sa l[i].needs)),(22,.x (.int .i64 l[i].needs.length)),(23,.x (.int .i64 s.1))]) (fun s=>[.row s.2.1 (gat l l[i] s.1).length s.2.2 3 1 (ia (gat l l[i] s.1))]) (fun s=>s.1≤l[i].needs.length) (fun s=>l[i].needs.length - s.1) (0,none,0) ?a (Nat.zero_le _) fun s hs=>?_
 case a=>exact (XaX (D:=[]))
 obtain ⟨n,ad,cap⟩:=s
 simp only at hs
 simp only [wfr]
 have hle:=XvI l l[i] n
 refine Xcl 0 rfl fun hcap h1 hcase=>?_
 clear h1
 rcases hcase with ⟨rfl,hn,rfl⟩|⟨b,rfl⟩
 ·have e0:gat l l[i] n=[]:=List.eq_nil_of_length_eq_zero hn
  clear hcap hn hle
  simp only [e0,Xyu,show ia []=[] from rfl]
  have e0':=Lib.hid e0
  clear e0
  (have wx:=@Xh2;(repeat' (first|refine Wkx.go ?_|(refine Xaz (fun h=>?_) (fun h=>?_)<;>skip)|refine Xad ?_|(refine Xab rfl ?_;(first|((refine Xa7 Tryz.func14 ([]) rfl rfl (.refl _) (Xfk l _ hl) ?_;rintro _ _ ⟨rfl,rfl⟩);refine XaJ ?_)|((refine Xa7 Tryz.func97 ([]) rfl rfl (.refl _) (Xrs) ?_;rintro _ _ rfl);refine XaJ ?_)|((refine Xa7 Tryz.func98 ([]) rfl rfl (.refl _) (XjN) ?_;rintro _ _ ⟨rfl,rfl⟩);refine XaJ ?_)|refine XfK (fun ad cap=>?_)|refine Xfr (fun b=>?_)))|fail)))<;>(try clear wx)
  ·have e:gat l l[i] (n+1)=[idx l (l[i].needs[n])]:=by rw [Xn4 l l[i] n (by assumption) h,e0'.out];rfl
   refine ⟨(n+1,ad,cap),by simp only;omega,by simp only;omega,?_⟩
   simp only [e,Xyr,Xyu]
   exact (XaX (D:=[_]) (R:=[_]))
  ·have e:gat l l[i] (n+1)=[]:=by rw [Xn3 l l[i] n (by assumption) h,e0'.out]
   refine ⟨(n+1,none,0),by simp only;omega,by simp only;omega,?_⟩
   simp only [e,Xyu]
   exact (XaX (D:=[]))
  ·refine Xaa _ _ (XaF rfl (RV.tmp _) (Xaj.mk' [_] [] (Xyo _) Xak.nil (VwL.cons Vw.nil VwL.nil))) ?_
   obtain rfl:n=l[i].needs.length:=by omega
   have:=XnI l i hi [] (by rw [e0'.out]) List.Pairwise.nil
   rw [←this]
   exact ⟨rfl,rfl⟩
 ·(have wx:=@Xh2;(repeat' (first|refine Wkx.go ?_|(refine Xaz (fun h=>?_) (fun h=>?_)<;>skip)|refine Xad ?_|(refine Xab rfl ?_;(first|((refine Xcy _ _ _ _ _ _ _ _ _ _ _ _ _ _ rfl rfl XfM.out (Src.row _ rfl XfM.out) XbY.out (by first|rfl|fail) ⟨by omega,by unfold maxLen;omega⟩ (fun ad cap=>?_));refine XaJ ?_)|((refine Xa7 Tryz.func14 ([]) rfl rfl (.refl _) (Xfk l _ hl) ?_;rintro _ _ ⟨rfl,rfl⟩);refine XaJ ?_)|((refine Xa7 Tryz.func97 ([Xof b (gat l l[i] n).length cap (gat l l[i] n)]) rfl rfl (.refl _) (Xwr b cap _ _ rfl (by omega)) ?_;rintro _ _ ⟨m,rfl,hpm,hsm⟩);refine XaJ ?_)|((refine Xa7 Tryz.func98 ([Xof b (gat l l[i] n).length cap m]) rfl rfl (.refl _) (XnL b cap _ m hpm.length_eq (by omega)) ?_;rintro _ _ ⟨rfl,rfl⟩);refine XaJ ?_)|refine Xfr (fun b=>?_)))|fail)))<;>(try clear wx)
  ·clear hcap hle
   have e:=Xn4 l l[i] n (by assumption) h
   refine ⟨(n+1,ad,cap),by simp only;omega,by simp only;omega,?_⟩
   simp only [e,Xoa,XyA,Xyr,Xyu]
   exact (XaX (D:=[_]) (R:=[_]))
  ·have e:=Xn3 l l[i] n (by assumption) h
   refine ⟨(n+1,some ⟨b,0,none⟩,cap),by simp only;omega,by simp only;omega,?_⟩
   simp only [e]
   exact (XaX (D:=[]))
  ·obtain rfl:n=l[i].needs.length:=by omega
   have:=XnI l i hi m hpm hsm
   rw [←this]
   refine Xaa _ _ (XaF rfl (RV.tmp _) (Xaj.mk' [_] [] (Xyo _) Xak.nil (VwL.cons (Vw.row (List.Mem.head _) (VwL.refl _ _)) VwL.nil))) ?_
   exact ⟨rfl,rfl⟩
theorem XoD (l:List JA) (i:Int) (hi:¬(0≤i∧i < (l.length:Int))) (hl:l.length≤1000000):Xay Tryz.prog 72 [] [.sq l.length (ja l),.x (.int .i64 i)] (fun r H'=>r=.sq 0 []∧H'=[]):=by
 refine XaV Tryz.func72 Tryz.ntmps72 ?_
 (repeat' (first|refine Wkx.go ?_|(refine Xaz (fun h=>?_) (fun h=>?_)<;>first|(exfalso;omega;done)|skip)|refine Xad ?_|fail))
 refine Xaa _ _ (XaF rfl (RV.tmp _) (Xaj.mk' [] [] (Xyo _) Xak.nil (VwL.cons Vw.nil VwL.nil))) ?_
 exact ⟨rfl,rfl⟩
theorem XmE (l:List JA) (i:Int) (hl:l.length≤1000000) (hm:∀j∈l,j.needs.length≤8796093022208):Xay Tryz.prog 72 [] [.sq l.length (ja l),.x (.int .i64 i)] (fun r H'=>r=.sq (nds l i).length (ia (nds l i))∧H'=[]):=by
 by_cases hi:0≤i∧i < (l.length:Int)
 ·obtain ⟨k,rfl⟩:∃k:Nat,i=k:=⟨i.toNat,by omega⟩
  have hk:k < l.length:=by omega
  have e:nds l k=Xgx l k l.length:=by unfold nds;rw [if_pos hi];simp
  rw [e]
  exact XqR l k hk hl (hm _ (List.getElem_mem hk))
 ·have e:nds l i=[]:=by unfold nds;rw [if_neg hi]
  rw [e]
  exact XoD l i hi hl
end Go.Proofs.YtdlblokjfoggpaaGreatDoor

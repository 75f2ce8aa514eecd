import Derived.Test.YtdlblokjfoggpaaGreatDoorW20
import Derived.Test.YtdlblokjfoggpaaGreatDoorW7
import Derived.Test.YtdlblokjfoggpaaGreatDoorW6
/- The order: the plain facts. -/
set_option linter.unusedSimpArgs false
set_option linter.unusedVariables false
set_option maxRecDepth 100000
set_option maxHeartbeats 8000000
namespace Go.Proofs.YtdlblokjfoggpaaGreatDoor
open Go.RowKit
theorem XgD:∀(n:Nat) (d:List Int),d.Nodup→(∀x∈d,0≤x∧x < (n:Int))→d.length≤n
 | 0,d,_,h=>by
   cases d with
   | nil=>simp
   | cons a d=>have:=h a (List.mem_cons_self ..);omega
 | n+1,d,hd,h=>by
   by_cases hm:(n:Int)∈d
   ·have h1:=XgD n (d.erase n) (hd.erase _) (fun x hx=>by
     rw [hd.mem_erase_iff] at hx
     have:=h x hx.2
     have:=hx.1
     omega)
    rw [List.length_erase_of_mem hm] at h1
    omega
   ·have:=XgD n d hd (fun x hx=>by
     have:=h x hx
     have:x≠n:=fun e=>hm (e▸hx)
     omega)
    omega
def rdy (l:List JA) (d:List Int) (i:Nat):Bool:=!d.contains (i:Int) && (nds l i).all (d.contains ·)
def fst (l:List JA) (d:List Int):Option Nat:=(List.range l.length).find? (rdy l d)
def Xsi (l:List JA):Nat→List Int→List Int
 | 0,d=>d
 | n+1,d=>match fst l d with
   | none=>d
   | some i=>Xsi l n (d++[(i:Int)])
def ord (l:List JA):List Int:=Xsi l l.length []
structure Xjk (l:List JA) (d:List Int):Prop where
 nodup:d.Nodup
 lt:∀x∈d,0≤x∧x < (l.length:Int)
 ord:Xsi l (l.length - d.length) d=ord l
theorem Xjk.nil (l:List JA):Xjk l []:=⟨List.nodup_nil,by simp,rfl⟩
theorem Xjk.le {l:List JA} {d:List Int} (h:Xjk l d):d.length≤l.length:=XgD _ d h.nodup h.lt
theorem Xqw {l:List JA} {d:List Int} {i:Nat} (hi:i < l.length) (hr:rdy l d i=true) (hn:∀k,k < i→rdy l d k=false):fst l d=some i:=by
 unfold fst
 rw [List.find?_eq_some_iff_append]
 refine ⟨hr,List.range i,(List.range' (i+1) (l.length - (i+1))),?_,fun k hk=>by rw [hn k (List.mem_range.1 hk)];rfl⟩
 rw [List.range_eq_range',List.range_eq_range']
 have:l.length=i+(1+(l.length - (i+1))):=by omega
 conv=>lhs;rw [this]
 rw [←List.range'_append_1,←List.range'_append_1]
 simp [Nat.zero_add]
theorem Xqv {l:List JA} {d:List Int} (hn:∀k,k < l.length→rdy l d k=false):fst l d=none:=by
 unfold fst
 rw [List.find?_eq_none]
 intro k hk
 rw [hn k (List.mem_range.1 hk)];simp
theorem Xjk.snoc {l:List JA} {d:List Int} (h:Xjk l d) {i:Nat} (hi:i < l.length) (hr:rdy l d i=true) (hn:∀k,k < i→rdy l d k=false):Xjk l (d++[(i:Int)]):=by
 have hnot:(i:Int) ∉ d:=by
  unfold rdy at hr
  simp only [Bool.and_eq_true,Bool.not_eq_true'] at hr
  intro hm
  rw [List.contains_iff_mem.2 hm] at hr
  simp at hr
 have hnd:(d++[(i:Int)]).Nodup:=by
  rw [List.nodup_append]
  refine ⟨h.nodup,by simp,fun a ha b hb=>?_⟩
  rw [List.mem_singleton] at hb
  subst hb
  intro e;subst e;exact hnot ha
 have hlt:∀x∈d++[(i:Int)],0≤x∧x < (l.length:Int):=by
  intro x hx
  rcases List.mem_append.1 hx with hx|hx
  ·exact h.lt x hx
  ·rw [List.mem_singleton] at hx;subst hx;omega
 have hle:=XgD _ _ hnd hlt
 simp only [XyA,Xyr,Xyu] at hle
 refine ⟨hnd,hlt,?_⟩
 rw [←h.ord]
 obtain ⟨n,hn2⟩:∃n,l.length - d.length=n+1:=⟨l.length - d.length - 1,by omega⟩
 rw [hn2,show l.length - (d++[(i:Int)]).length=n by simp;omega]
 simp only [Xsi,Xqw hi hr hn]
theorem Xjk.end_ {l:List JA} {d:List Int} (h:Xjk l d) (hn:∀k,k < l.length→rdy l d k=false):d=_root_.Go.Proofs.YtdlblokjfoggpaaGreatDoor.ord l:=by
 rw [←h.ord]
 cases l.length - d.length with
 | zero=>rfl
 | succ n=>simp only [Xsi,Xqv hn]
theorem Xsh (l:List JA) (i:Int):(nds l i).length≤l.length:=by
 unfold nds
 split
 ·exact XqQ ..
 ·exact Nat.zero_le _
def XsY (l:List Int) (r:AV) (H':List Hp):Prop:=∃ad cap,r=.x (.slice ad l.length cap)∧H'=[.row ad l.length cap 3 1 (ia l)]
def Xoz (l:List JA) (k:Nat):List AV:=(List.range l.length).map fun (j:Nat)=>if j < k then .sq (nds l (j:Int)).length (ia (nds l (j:Int))) else .x (.slice none 0 0)
def na (l:List JA):List AV:=(List.range l.length).map fun (j:Nat)=>.sq (nds l (j:Int)).length (ia (nds l (j:Int)))
@[simp] theorem XwZ (l:List JA) (k:Nat):(Xoz l k).length=l.length:=by simp [Xoz]
@[simp] theorem Xx2 (l:List JA):(na l).length=l.length:=by simp [na]
theorem XoA (l:List JA):List.replicate l.length (.x (.slice none 0 0))=Xoz l 0:=by
 unfold Xoz
 apply List.ext_getElem?
 intro j
 by_cases h:j < l.length<;>simp [List.getElem?_replicate,h]
theorem XqP (l:List JA):Xoz l l.length=na l:=by
 unfold Xoz na
 apply List.map_congr_left
 intro j hj
 rw [if_pos (List.mem_range.1 hj)]
theorem Xwu (l:List JA) (k:Nat) (h:k < l.length):spl (Xoz l k) k [.sq (nds l k).length (ia (nds l k))]=Xoz l (k+1):=by
 unfold spl
 have hs:=List.set_eq_take_append_cons_drop (l:=Xoz l k) (i:=k) (a:=AV.sq (nds l k).length (ia (nds l k)))
 rw [if_pos (by simpa using h)] at hs
 rw [List.length_singleton,List.append_assoc,List.singleton_append,←hs]
 apply List.ext_getElem?
 intro j
 rw [List.getElem?_set]
 unfold Xoz
 by_cases hj:k=j
 ·subst hj;simp [h]
 ·by_cases hj2:j < l.length
  ·simp only [if_neg hj,List.getElem?_map,List.getElem?_range hj2,Option.map_some]
   by_cases h3:j < k
   ·rw [if_pos h3,if_pos (by omega)]
   ·rw [if_neg h3,if_neg (by omega)]
  ·rw [if_neg hj,List.getElem?_eq_none (by simp;omega),List.getElem?_eq_none (by simp;omega)]
theorem XkN (l:List JA) (hl:l.length≤1000000) (hm:∀j∈l,j.needs.length≤8796093022208):Xay Tryz.prog 37 [] [.sq l.length (ja l)] (fun r H'=>r=.sq l.length (na l)∧H'=[]):=by
 refine XaV Tryz.func37 Tryz.ntmps37 ?_
 (have wx:=@XoA;(repeat' (first|refine Wkx.go ?_|refine Xad ?_|(refine Xab rfl ?_;((refine Xhr _ _ _ _ _ _ _ _ l.length l.length rfl XbY.out rfl rfl rfl rfl (Nat.le_refl _) (Xqs _ _ (by omega) (by decide)) (fun b=>?_));refine XaJ ?_))|fail)))<;>(try clear wx)
 refine Xah (S:=Nat) (fun k=>frm 21 [(0,.sq l.length (ja l)),(3,.x (.slice (some ⟨b,0,none⟩) l.length l.length)),(9,.x (.int .i64 l.length)),(10,.x (.int .i64 k))]) (fun k=>[.row (some ⟨b,0,none⟩) l.length l.length 45 1 (Xoz l k)]) (fun k=>k≤l.length) (fun k=>l.length - k) 0 (XaX (D:=[])) (Nat.zero_le _) fun k hk=>?_
 simp only [wfr]
 (have wx:=@Xwu;(repeat' (first|refine Wkx.go ?_|(refine Xaz (fun h=>?_) (fun h=>?_)<;>skip)|refine Xad ?_ (h:=by exact fun _=>Xbb rfl rfl Tryz.func72 (XmE l _ hl hm))|refine Xad ?_|(refine Xab rfl ?_;(refine Xg3 ?_))|fail)))<;>(try clear wx)
 ·exact ⟨k+1,by omega,by omega,(XaX (D:=[]))⟩
 ·obtain rfl:k=l.length:=by omega
  rw [XqP]
  refine Xaa _ _ (XaF rfl (RV.tmp _) (Xaj.mk' [_] [] (Xyo _) Xak.nil (VwL.cons (Vw.row (List.Mem.head _) (VwL.refl _ _)) VwL.nil))) ?_
  exact ⟨rfl,rfl⟩
def ba (l:List Bool):List AV:=l.map fun n=>.x (.bool n)
@[simp] theorem XxW (l:List Bool):(ba l).length=l.length:=by simp [ba]
theorem Xce (l:List Bool) (k:Nat) (h:k < l.length):(ba l).drop k=.x (.bool l[k]) :: ba (l.drop (k+1)):=by
 rw [ba,←List.map_drop,List.drop_eq_getElem_cons h];rfl
theorem Xpl (l:List Bool) (k:Nat) (v:Bool) (h:k < l.length):spl (ba l) k [.x (.bool v)]=ba (l.set k v):=by
 unfold spl ba
 rw [List.length_singleton,List.set_eq_take_append_cons_drop,if_pos h]
 simp
abbrev XhC (b c n cap:Nat) (l:List Bool):List Hp:=[.box b [.x (.slice (some ⟨c,0,none⟩) n cap)],.row (some ⟨c,0,none⟩) n cap 4 1 (ba l)]
theorem Xka (b c n cap:Nat) (l:List Bool) (k:Nat) (hn:n=l.length) (hk:k < l.length):Xay Tryz.prog 70 (XhC b c n cap l) [.x (.int .i64 k),.x (.pointer (some ⟨b,0,none⟩))] (fun r H'=>r=.x (.bool (!l[k]))∧H'=XhC b c n cap l):=by
 subst hn
 refine XaV Tryz.func70 Tryz.ntmps70 ?_
 (have wx:=@Xce;(repeat' (first|refine Wkx.go ?_|refine Xad ?_|fail)))<;>(try clear wx)
 refine Xaa _ _ (XaF rfl (RV.tmp _) (XcS (D:=[]))) ?_
 exact ⟨rfl,rfl⟩
theorem XjP (b c n cap:Nat) (l:List Bool) (k:Nat) (hn:n=l.length) (hk:k < l.length):Xay Tryz.prog 81 (XhC b c n cap l) [.x (.int .i64 k),.x (.pointer (some ⟨b,0,none⟩))] (fun r H'=>r=.x (.bool (!l[k]))∧H'=XhC b c n cap l):=by
 subst hn
 refine XaV Tryz.func81 Tryz.ntmps81 ?_
 (have wx:=@Xce;(repeat' (first|refine Wkx.go ?_|refine Xad ?_|fail)))<;>(try clear wx)
 refine Xaa _ _ (XaF rfl (RV.tmp _) (XcS (D:=[]))) ?_
 exact ⟨rfl,rfl⟩
theorem Xgq (l:List Int) (H:List Hp) (g:Nat) (fn:Func) (cs:Array Value) (p:Int→Bool) (hl:l.length≤1000000) (hf:Tryz.prog.funcs[g]?=some fn) (hnn:fn.name≠ "runtime.NumGoroutine") (hb:fn.body.isSome=true)
  (hp:∀j∈l,Xay Tryz.prog g H (.x (.int .i64 j) :: cs.toList.map .x) (fun r H'=>r=.x (.bool (p j))∧H'=H)) :
  Xay Tryz.prog 85 H [.sq l.length (ia l),.x (.func (.func g) #[] cs)] (fun r H'=>r=.x (.int .i64 (fiv (l.findIdx? p)))∧H'=H):=by
 have hp:=Lib.hid hp
 refine XaV Tryz.func85 Tryz.ntmps85 ?_
 (repeat' (first|refine Wkx.go ?_|refine Xad ?_|fail))
 refine Xah (S:=Nat) (fun k=>frm 19 [(0,.sq l.length (ia l)),(1,.x (.func (.func g) #[] cs)),(7,.x (.int .i64 l.length)),(8,.x (.int .i64 k))]) (fun _=>H) (fun k=>k≤l.length∧∀j∈l.take k,p j=false) (fun k=>l.length - k) 0 (XaX (D:=[])) ⟨Nat.zero_le _,by simp⟩ fun k hk=>?_
 simp only [wfr]
 obtain ⟨hk,hn⟩:=hk
 have hn:=Lib.hid hn
 (have wx:=@Xgp;(repeat' (first|refine Wkx.go ?_|(refine Xaz (fun h=>?_) (fun h=>?_)<;>skip)|refine Xad ?_|(refine Xab rfl ?_;((refine Xau g fn H [] _ _ rfl rfl hf hnn hb (by simp) (VwL.refl _ _) (hp.out l[k] (List.getElem_mem h)) ?_;rintro _ _ ⟨rfl,rfl⟩);refine XaJ ?_))|fail)))<;>(try clear wx)
 ·refine Xaa _ _ (XaF rfl (RV.tmp _) (XcS (D:=[]))) ?_
  exact ⟨by rw [Xes p (by assumption) hn.out h];rfl,rfl⟩
 ·exact ⟨k+1,by omega,⟨by omega,by rw [XbA l k (by assumption)];intro j hj;simp only [List.mem_append,List.mem_singleton] at hj;rcases hj with hj|rfl;exact hn.out j hj;exact h⟩,(XaX (D:=[]))⟩
 ·refine Xaa _ _ (XaF rfl (RV.tmp _) (XcS (D:=[]))) ?_
  have hn:=hn.out
  rw [List.take_of_length_le (by omega)] at hn
  exact ⟨by rw [Xer p hn];rfl,rfl⟩
theorem Xtw {α:Type} (l:List α) (p:α→Bool):decide (0≤fiv (l.findIdx? p))=l.any p:=by
 cases h:l.findIdx? p with
 | none=>
   rw [List.findIdx?_eq_none_iff] at h
   have:l.any p=false:=by rw [List.any_eq_false];intro x hx;rw [h x hx];simp
   rw [this];rfl
 | some k=>
   obtain ⟨h1,h2,-⟩:=List.findIdx?_eq_some_iff_getElem.1 h
   have:l.any p=true:=by rw [List.any_eq_true];exact ⟨_,List.getElem_mem h1,h2⟩
   rw [this]
   simp [fiv]
theorem Xmi (l:List Int) (H:List Hp) (g:Nat) (fn:Func) (cs:Array Value) (p:Int→Bool) (hl:l.length≤1000000) (hf:Tryz.prog.funcs[g]?=some fn) (hnn:fn.name≠ "runtime.NumGoroutine") (hb:fn.body.isSome=true)
  (hp:∀j∈l,Xay Tryz.prog g H (.x (.int .i64 j) :: cs.toList.map .x) (fun r H'=>r=.x (.bool (p j))∧H'=H)) :
  Xay Tryz.prog 71 H [.sq l.length (ia l),.x (.func (.func g) #[] cs)] (fun r H'=>r=.x (.bool (l.any p))∧H'=H):=by
 have hp:=Lib.hid hp
 refine XaV Tryz.func71 Tryz.ntmps71 ?_
 (repeat' (first|refine Wkx.go ?_|refine Xad ?_|(refine Xab rfl ?_;((refine Xau 85 _ H [] _ _ rfl rfl Tryz.func85 (by decide) rfl (by simp) (VwL.refl _ _) (Xgq l H g fn cs p hl hf hnn hb hp.out) ?_;rintro _ _ ⟨rfl,rfl⟩);refine XaJ ?_))|fail))
 refine Xaa _ _ (XaF rfl (RV.tmp _) (XcS (D:=[]))) ?_
 exact ⟨by rw [←Xtw];rfl,rfl⟩
def mks (l:List JA) (d:List Int):List Bool:=(List.range l.length).map fun (k:Nat)=>d.contains (k:Int)
@[simp] theorem XdA (l:List JA) (d:List Int):(mks l d).length=l.length:=by simp [mks]
theorem Xfm (l:List JA) (d:List Int) (k:Nat) (h:k < (mks l d).length):(mks l d)[k]=d.contains (k:Int):=by simp [mks]
theorem XtV (l:List JA) (d:List Int) (k:Nat) (h:k < l.length):(mks l d).set k true=mks l (d++[(k:Int)]):=by
 apply List.ext_getElem?
 intro j
 rw [List.getElem?_set]
 unfold mks
 by_cases hj:k=j
 ·subst hj;simp [h]
 ·rw [if_neg hj]
  by_cases hl:j < l.length
  ·simp [hl];omega
  ·rw [List.getElem?_eq_none (by simp;omega),List.getElem?_eq_none (by simp;omega)]
theorem XtU (l:List JA):List.replicate l.length (AV.x (.bool false))=ba (mks l []):=by
 unfold ba mks
 apply List.ext_getElem?
 intro j
 by_cases h:j < l.length<;>simp [List.getElem?_replicate,h]
theorem Xj7 (l:List JA) (k:Nat) (h:k < l.length):(na l).drop k=.sq (nds l k).length (ia (nds l k)) :: (na l).drop (k+1):=by
 rw [List.drop_eq_getElem_cons (by simpa using h)];simp [na]
theorem Xlc (l:List JA) (d:List Int) (i:Nat):((nds l i).any fun k=>!d.contains k)=!(nds l i).all (d.contains ·):=by
 simp [List.all_eq_not_any_not]
theorem XoC (l:List JA) (i x:Int) (h:x∈nds l i):0≤x∧x < (l.length:Int):=by
 unfold nds at h
 split at h
 ·obtain ⟨k,hk,-,rfl⟩:=(Xi0 ..).1 h
  omega
 ·cases h
theorem XmD (l:List JA) (d:List Int) (b c:Nat) (j:Int) (hj:0≤j∧j < (l.length:Int)):Xay Tryz.prog 70 (XhC b c l.length l.length (mks l d)) [.x (.int .i64 j),.x (.pointer (some ⟨b,0,none⟩))] (fun r H'=>r=.x (.bool (!d.contains j))∧H'=XhC b c l.length l.length (mks l d)):=by
 obtain ⟨k,rfl⟩:∃k:Nat,j=k:=⟨j.toNat,by omega⟩
 have hk:k < (mks l d).length:=by rw [XdA];omega
 have:=Xka b c l.length l.length (mks l d) k (XdA l d).symm hk
 rwa [Xfm] at this
theorem Xhh (l:List JA) (hl:l.length≤1000000):Xay Tryz.prog 36 [] [.sq l.length (na l)] (fun r H'=>∃ad cap b c,r=.tup [.x (.slice ad (ord l).length cap),.x (.slice (some ⟨c,0,none⟩) l.length l.length)]∧H'=XhC b c l.length l.length (mks l (ord l))++[.row ad (ord l).length cap 3 1 (ia (ord l))]):=by
 refine XaV Tryz.func36 Tryz.ntmps36 ?_
 (repeat' (first|refine Wkx.go ?_|refine Xad ?_|fail))
 refine Xl6 (S:=List Int × Option Addr × Nat × Nat × Nat) 0 (fun s=>frm 41 [(0,.sq l.length (na l)),(4,.x (.slice s.2.1 s.1.length s.2.2.1)),(5,.x (.pointer (some ⟨s.2.2.2.1,0,none⟩))),(6,.x (.func (.func 70) #[] #[.pointer (some ⟨s.2.2.2.1,0,none⟩)]))])
  (fun s=>XhC s.2.2.2.1 s.2.2.2.2 l.length l.length (mks l s.1)++[.row s.2.1 s.1.length s.2.2.1 3 1 (ia s.1)]) (fun s=>Xjk l s.1) (fun s=>l.length - s.1.length) rfl (fun s hs=>?_) (fun key=>?first)
 case first=>
  refine Xa3 3 1 ?_
  (have wx:=@XtU;(repeat' (first|refine Wkx.go ?_|refine Xad ?_|(refine Xab rfl ?_;(first|((refine Xhr _ _ _ _ _ _ _ _ l.length l.length rfl XbY.out rfl rfl rfl rfl (Nat.le_refl _) (Xqs _ _ (by omega) (by decide)) (fun c=>?_));refine XaJ ?_)|refine Xbh ?_|refine Xb8 (fun b=>?_)))|fail)))<;>(try clear wx)
  refine Xnt ?_
  refine Xac ?_
  refine XkO (Xqc ?wk (key ([],none,0,b,c) (Xjk.nil l))) ?mono
  case mono=>exact fun e T H h=>h
  case wk=>
   simp only [wfr,XhC,Xyz,Xyy]
   exact (XaX (D:=[]))
 ·obtain ⟨d,ad,cap,bx,c⟩:=s
  simp only at hs
  have hle:=hs.le
  have hs':=Lib.hid hs
  clear hs
  simp only [wfr,XhC,Xyz,Xyy]
  (repeat' (first|refine Wkx.go ?_|refine Xad ?_|fail))
  refine Xah (S:=Nat) (fun k=>frm 41 [(0,.sq l.length (na l)),(4,.x (.slice ad d.length cap)),(5,.x (.pointer (some ⟨bx,0,none⟩))),(6,.x (.func (.func 70) #[] #[.pointer (some ⟨bx,0,none⟩)])),(13,.x (.int .i64 l.length)),(14,.x (.int .i64 k))]) (fun _=>XhC bx c l.length l.length (mks l d)++[.row ad d.length cap 3 1 (ia d)]) (fun k=>k≤l.length∧∀j,j < k→rdy l d j=false) (fun k=>l.length - k) 0 (XaX (D:=[])) ⟨Nat.zero_le _,fun k hk=>absurd hk (Nat.not_lt_zero k)⟩ fun k hk=>?_
  obtain ⟨h1,h2⟩:=hk
  have h2':=Lib.hid h2
  clear h2
  simp only [wfr,XhC,Xyz,Xyy]
  have hml:=XdA l d
  (have wx:=And.intro @Xce (And.intro @Xj7 @XdA);(repeat' (first|refine Wkx.go ?_|(refine Xaz (fun h=>?_) (fun h=>?_)<;>skip)|refine Xad ?_|fail)))<;>(try clear wx)
  ·refine Xhy _ rfl rfl rfl (fun hp=>?_) (fun hp=>?_)
   ·simp only [hp,Xyt,Xyx,str]
    refine XaQ 11 rfl ?_
    refine Xau 71 _ (XhC bx c l.length l.length (mks l d)) [.row ad d.length cap 3 1 (ia d)] _ _ rfl rfl Tryz.func71 (by decide) rfl (Xyo _) (VwL.refl _ _) (Xmi (nds l k) _ 70 _ #[.pointer (some ⟨bx,0,none⟩)] (fun j=>!d.contains j) (by have:=Xsh l k;omega) Tryz.func70 (by decide) rfl (fun j hj=>XmD l d bx c j (XoC l k j hj))) ?_
    rintro _ _ ⟨rfl,rfl⟩
    generalize hA:((nds l k).any fun j=>!d.contains j)=A
    (try simp only [wtn,Xys,Xyp,Xyq,Xyt,Xyx,Nat.reduceAdd,Nat.reduceMul,Nat.reduceSub,↓reduceIte,Nat.reduceEqDiff])
    (have wx:=And.intro @Xce @Xpl;(repeat' (first|refine Wkx.go ?_|(refine Xaz (fun h=>?_) (fun h=>?_)<;>skip)|refine Xad ?_|(refine Xab rfl ?_;(first|refine Xg3 ?_|refine XfK (fun ad cap=>?_)|refine Xfr (fun b=>?_)))|fail)))<;>(try clear wx)
    ·have hrd:rdy l d k=true:=by
      rw [Xlc] at hA
      rw [Xfm] at hp
      unfold rdy
      simp only [hp,Bool.true_and]
      rw [Bool.not_eq_eq_eq_not] at hA
      rw [hA,h];rfl
     have hd2:=hs'.out.snoc (by assumption) hrd h2'.out
     have hle2:=hd2.le
     simp only [XyA,Xyr,Xyu] at hle2
     refine ⟨(d++[(k:Int)],ad,cap,bx,c),?_,hd2,?_⟩
     ·simp only [XyA,Xyr,Xyu];omega
     ·simp only [Xoa,XyA,Xyr,Xyu,XtV l d k (by assumption)]
      exact (XaX (D:=[_]) (R:=[_,_,_]))
    ·have hrd:rdy l d k=false:=by
      rw [Xlc] at hA
      unfold rdy
      rw [Bool.not_eq_eq_eq_not] at hA
      rw [hA,h];simp
     exact ⟨k+1,by omega,⟨by omega,fun j hj=>by
      by_cases e:j=k
      ·subst e;exact hrd
      ·exact h2'.out j (by omega)⟩,(XaX (D:=[]))⟩
   ·simp only [hp]
    (try simp only [wtn,Xys,Xyp,Xyq,Xyt,Xyx,Nat.reduceAdd,Nat.reduceMul,Nat.reduceSub,↓reduceIte,Nat.reduceEqDiff])
    (have wx:=And.intro @Xce @Xpl;(repeat' (first|refine Wkx.go ?_|(refine Xaz (fun h=>?_) (fun h=>?_)<;>first|(exact absurd h (by decide))|skip)|refine XlL ?_|refine Xad ?_|fail)))<;>(try clear wx)
    have hrd:rdy l d k=false:=by
     rw [Xfm] at hp
     unfold rdy
     rw [hp];rfl
    exact ⟨k+1,by omega,⟨by omega,fun j hj=>by
     by_cases e:j=k
     ·subst e;exact hrd
     ·exact h2'.out j (by omega)⟩,(XaX (D:=[]))⟩
  ·have e:d=ord l:=hs'.out.end_ fun j hj=>h2'.out j (by omega)
   subst e
   refine Xbu mixed ?_
   (refine XfY 0 ?_;refine XfY 2 ?_)
   (refine Xd8 1 ?_;(first|refine Xd5 ?_|fail))
   (refine XfY 3 ?_)
   refine Xao (by decide +kernel) ?_
   (repeat' (first|refine Wkx.go ?_|fail))
   refine Xaa _ _ (XbR rfl (RV.tmp _) (RV.tmp _) (Xaj.mk' [] _ (Xyo _) (Xak.refl _ _) (VwL.cons (Vw.refl _) (VwL.cons (Vw.refl _) VwL.nil)))) ⟨ad,cap,bx,c,rfl,rfl⟩
theorem Xr2 {l:List JA} {d:List Int} {i:Nat} (h:fst l d=some i):i < l.length∧rdy l d i=true∧∀k,k < i→rdy l d k=false:=by
 unfold fst at h
 rw [List.find?_range_eq_some] at h
 obtain ⟨h1,h2,h3⟩:=h
 exact ⟨List.mem_range.1 h2,h1,fun k hk=>by simpa using h3 k hk⟩
theorem XvF {l:List JA} {d:List Int} (h:fst l d=none) (k:Nat) (hk:k < l.length):rdy l d k=false:=by
 unfold fst at h
 rw [List.find?_eq_none] at h
 simpa using h k (List.mem_range.2 hk)
theorem Xi3 (l:List JA):∀(n:Nat) (d:List Int),Xjk l d→n=l.length - d.length→Xjk l (Xsi l n d)∧fst l (Xsi l n d)=none
 | 0,d,h,hn=>by
   refine ⟨h,?_⟩
   show fst l d=none
   cases hf:fst l d with
   | none=>rfl
   | some i=>
     obtain ⟨h1,h2,h3⟩:=Xr2 hf
     have:=(h.snoc h1 h2 h3).le
     simp at this
     omega
 | n+1,d,h,hn=>by
   unfold Xsi
   cases hf:fst l d with
   | none=>exact ⟨h,hf⟩
   | some i=>
     obtain ⟨h1,h2,h3⟩:=Xr2 hf
     exact Xi3 l n _ (h.snoc h1 h2 h3) (by simp;omega)
theorem XfT (l:List JA):Xjk l (ord l)∧fst l (ord l)=none:=Xi3 l _ _ (Xjk.nil l) (by simp)
theorem Xv6 (l:List JA):(ord l).length≤l.length:=(XfT l).1.le
theorem full:∀(n:Nat) (d:List Int),d.Nodup→(∀x∈d,0≤x∧x < (n:Int))→d.length=n→∀k:Nat,k < n→(k:Int)∈d:=by
 intro n d hd hl hn k hk
 apply Classical.byContradiction
 intro hc
 have:=XgD n ((k:Int) :: d) (List.nodup_cons.2 ⟨hc,hd⟩) (by
  intro x hx
  rcases List.mem_cons.1 hx with rfl|hx
  ·omega
  ·exact hl x hx)
 simp at this
 omega
theorem XoI (l:List JA) (k:Nat) (h:k < l.length) (hk:(k:Int) ∉ ord l):∃n∈nds l k,n ∉ ord l:=by
 have h1:=XvF (XfT l).2 k h
 unfold rdy at h1
 rw [Bool.and_eq_false_iff] at h1
 rcases h1 with h1|h1
 ·simp at h1;exact absurd h1 hk
 ·rw [List.all_eq_false] at h1
  obtain ⟨n,hn,h2⟩:=h1
  exact ⟨n,hn,by simpa using h2⟩
/-! ### The cycle -/
def nxt (l:List JA) (a:Int):Option Int:=(nds l a).find? fun k=>!(ord l).contains k
def Xvm (l:List JA):Nat→List Int→Int→List Int
 | 0,_,_=>[]
 | n+1,path,a=>match path.findIdx? (· == a) with
   | some k=>path.drop k
   | none=>match nxt l a with
     | none=>[]
     | some b=>Xvm l n (path++[a]) b
def at0 (l:List JA):Option Nat:=(mks l (ord l)).findIdx? (· == false)
def cyc (l:List JA):List Int:=match at0 l with
 | none=>[]
 | some a=>Xvm l (l.length+1) [] (a:Int)
structure Way (l:List JA) (p:List Int) (a:Int):Prop where
 nodup:p.Nodup
 lt:∀x∈p,0≤x∧x < (l.length:Int)
 alt:0≤a∧a < (l.length:Int)
 free:a ∉ ord l
 frees:∀x∈p,x ∉ ord l
 chain:∀k,(h:k < p.length)→(p++[a])[k+1]'(by simp;omega)∈nds l p[k]
 cyc:Xvm l (l.length+1 - p.length) p a=cyc l
theorem Way.le {l:List JA} {p:List Int} {a:Int} (h:Way l p a):p.length≤l.length:=XgD _ p h.nodup h.lt
theorem XfN {l:List JA} {a:Nat} (h:at0 l=some a):a < l.length∧(a:Int) ∉ ord l:=by
 unfold at0 at h
 obtain ⟨h1,h2,-⟩:=List.findIdx?_eq_some_iff_getElem.1 h
 rw [Xfm] at h2
 rw [XdA] at h1
 exact ⟨h1,by simpa using h2⟩
theorem Xp4 {l:List JA} (h:at0 l=none) (a:Nat) (ha:a < l.length):(a:Int)∈ord l:=by
 unfold at0 at h
 rw [List.findIdx?_eq_none_iff] at h
 have hl:a < (mks l (ord l)).length:=by rw [XdA];exact ha
 have:=h _ (List.getElem_mem hl)
 rw [Xfm] at this
 simpa using this
theorem Way.first {l:List JA} {a:Nat} (h:at0 l=some a):Way l [] (a:Int) where
 nodup:=List.nodup_nil
 lt:=by simp
 alt:=by have:=(XfN h).1;omega
 free:=(XfN h).2
 frees:=by simp
 chain:=fun k h=>absurd h (Nat.not_lt_zero k)
 cyc:=by unfold _root_.Go.Proofs.YtdlblokjfoggpaaGreatDoor.cyc;rw [h];rfl
theorem Way.nxt {l:List JA} {p:List Int} {a:Int} (h:Way l p a):∃b,nxt l a=some b∧b∈nds l a∧b ∉ ord l:=by
 have ha:=h.alt
 obtain ⟨k,rfl⟩:∃k:Nat,a=k:=⟨a.toNat,by omega⟩
 obtain ⟨n,hn,h2⟩:=XoI l k (by omega) h.free
 unfold _root_.Go.Proofs.YtdlblokjfoggpaaGreatDoor.nxt
 cases hf:(nds l (k:Int)).find? fun k=>!(ord l).contains k with
 | none=>
   rw [List.find?_eq_none] at hf
   have:=hf n hn
   simp at this
   exact absurd this h2
 | some b=>
   refine ⟨b,rfl,List.mem_of_find?_eq_some hf,?_⟩
   have:=List.find?_some hf
   simpa using this
theorem Way.step {l:List JA} {p:List Int} {a b:Int} (h:Way l p a) (hp:a ∉ p) (hb:_root_.Go.Proofs.YtdlblokjfoggpaaGreatDoor.nxt l a=some b):Way l (p++[a]) b:=by
 have hnd:(p++[a]).Nodup:=by
  rw [List.nodup_append]
  refine ⟨h.nodup,by simp,fun x hx y hy=>?_⟩
  rw [List.mem_singleton] at hy
  subst hy
  intro e;subst e;exact hp hx
 have hlt:∀x∈p++[a],0≤x∧x < (l.length:Int):=by
  intro x hx
  rcases List.mem_append.1 hx with hx|hx
  ·exact h.lt x hx
  ·rw [List.mem_singleton] at hx;subst hx;exact h.alt
 have hle:=XgD _ _ hnd hlt
 simp only [XyA,Xyr,Xyu] at hle
 obtain ⟨b',hb',hm,hf⟩:=h.nxt
 rw [hb] at hb';cases hb'
 refine ⟨hnd,hlt,XoC l a b hm,hf,?_,?_,?_⟩
 ·intro x hx
  rcases List.mem_append.1 hx with hx|hx
  ·exact h.frees x hx
  ·rw [List.mem_singleton] at hx;subst hx;exact h.free
 ·intro k hk
  simp only [XyA,Xyr,Xyu] at hk
  by_cases e:k=p.length
  ·subst e;simpa using hm
  ·have hk2:k < p.length:=by omega
   have hk3:k+1 < (p++[a]).length:=by rw [XyA,List.length_singleton];omega
   have:=h.chain k hk2
   rw [List.getElem_append_left hk3,List.getElem_append_left hk2]
   exact this
 ·have hc:=h.cyc
  rw [show l.length+1 - p.length=(l.length+1 - (p++[a]).length)+1 from by simp;omega] at hc
  rw [←hc]
  rw [Xvm]
  have:p.findIdx? (· == a)=none:=by
   rw [List.findIdx?_eq_none_iff]
   intro x hx
   rw [XyF]
   intro e;subst e;exact hp hx
  simp only [this,hb]
theorem Way.end_ {l:List JA} {p:List Int} {a:Int} (h:Way l p a) {k:Nat} (hk:p.findIdx? (· == a)=some k):p.drop k=_root_.Go.Proofs.YtdlblokjfoggpaaGreatDoor.cyc l:=by
 have hle:=h.le
 rw [←h.cyc,show l.length+1 - p.length=(l.length - p.length)+1 from by omega,Xvm]
 simp only [hk]
theorem Xej:∀(n:Nat) (d:List Int),(∀k:Nat,k < n→(k:Int)∈d)→n≤d.length
 | 0,d,_=>Nat.zero_le _
 | n+1,d,h=>by
   have hm:(n:Int)∈d:=h n (Nat.lt_succ_self n)
   have:=Xej n (d.erase n) fun k hk=>(List.mem_erase_of_ne (by omega)).2 (h k (by omega))
   rw [List.length_erase_of_mem hm] at this
   have:0 < d.length:=List.length_pos_of_mem hm
   omega
theorem XmL (l:List JA) (d:List Int) (h:∀k:Nat,k < l.length→(k:Int)∈d):l.length≤d.length:=Xej _ d h
structure Xw9 (l:List JA) (c:List Int):Prop where
 nodup:c.Nodup
 lt:∀x∈c,0≤x∧x < (l.length:Int)
 pos:0 < c.length
 chain:∀k,(h:k < c.length)→c[(k+1) % c.length]'(Nat.mod_lt _ (by omega))∈nds l c[k]
theorem Way.ring {l:List JA} {p:List Int} {a:Int} (h:Way l p a) {k:Nat} (hk:p.findIdx? (· == a)=some k):Xw9 l (p.drop k):=by
 obtain ⟨h1,h2,-⟩:=List.findIdx?_eq_some_iff_getElem.1 hk
 rw [beq_iff_eq] at h2
 refine ⟨h.nodup.sublist (List.drop_sublist k p),fun x hx=>h.lt x (List.mem_of_mem_drop hx),by simp;omega,fun j hj=>?_⟩
 have hj2:k+j < p.length:=by rw [List.length_drop] at hj;omega
 have hc:=h.chain (k+j) hj2
 rw [List.getElem_drop]
 by_cases hl:k+j+1 < p.length
 ·rw [List.getElem_append_left (by omega)] at hc
  have e:(j+1) % (p.drop k).length=j+1:=Nat.mod_eq_of_lt (by rw [List.length_drop];omega)
  have:(p.drop k)[(j+1) % (p.drop k).length]'(Nat.mod_lt _ (by simp;omega))=p[k+j+1]:=by
   simp only [e,List.getElem_drop]
   congr 1
  rw [this];exact hc
 ·have e:(j+1) % (p.drop k).length=0:=by
   have:j+1=(p.drop k).length:=by simp;omega
   rw [this,Nat.mod_self]
  have:(p.drop k)[(j+1) % (p.drop k).length]'(Nat.mod_lt _ (by simp;omega))=a:=by
   simp only [e,List.getElem_drop,Nat.add_zero];exact h2
  rw [this]
  have e2:(p++[a])[k+j+1]'(by simp;omega)=a:=by
   rw [List.getElem_append_right (by omega)];simp
  rw [e2] at hc;exact hc
theorem XlJ (l:List JA):∀(n:Nat) (p:List Int) (a:Int),Way l p a→n=l.length+1 - p.length→Xw9 l (cyc l)
 | 0,p,a,h,hn=>by have:=h.le;omega
 | n+1,p,a,h,hn=>by
   cases hk:p.findIdx? (· == a) with
   | some k=>rw [←h.end_ hk];exact h.ring hk
   | none=>
     obtain ⟨b,hb,-⟩:=h.nxt
     have hp:a ∉ p:=by
      rw [List.findIdx?_eq_none_iff] at hk
      intro hm;simpa using hk a hm
     exact XlJ l n _ b (h.step hp hb) (by simp;omega)
theorem Xtj (l:List JA) (h:(ord l).length=l.length):cyc l=[]:=by
 unfold cyc
 cases ha:at0 l with
 | none=>rfl
 | some a=>
   obtain ⟨h1,h2⟩:=XfN ha
   exact absurd (full l.length (ord l) (XfT l).1.nodup (XfT l).1.lt h a h1) h2
theorem Xqn (l:List JA) (h:(ord l).length≠l.length):Xw9 l (cyc l):=by
 cases ha:at0 l with
 | none=>
   exfalso
   apply h
   have hle:=Xv6 l
   have:=XmL l (ord l) (fun k hk=>Xp4 ha k hk)
   omega
 | some a=>exact XlJ l _ _ _ (Way.first ha) rfl
theorem Xvn (l:List JA) (x:Int) (h:x∈cyc l):0≤x∧x < (l.length:Int):=by
 by_cases e:(ord l).length=l.length
 ·rw [Xtj l e] at h;cases h
 ·exact (Xqn l e).lt x h
theorem XqF (l:List Bool) (v:Bool) (hl:l.length≤1000000):Xay Tryz.prog 82 [] [.sq l.length (ba l),.x (.bool v)] (fun r H'=>r=.x (.int .i64 (fiv (l.findIdx? (· == v))))∧H'=[]):=by
 refine XaV Tryz.func82 Tryz.ntmps82 ?_
 (repeat' (first|refine Wkx.go ?_|refine Xad ?_|fail))
 refine Xah (S:=Nat) (fun k=>frm 19 [(0,.sq l.length (ba l)),(1,.x (.bool v)),(7,.x (.int .i64 l.length)),(8,.x (.int .i64 k))]) (fun _=>[]) (fun k=>k≤l.length∧∀j∈l.take k,(j == v)=false) (fun k=>l.length - k) 0 (XaX (D:=[])) ⟨Nat.zero_le _,by simp⟩ fun k hk=>?_
 simp only [wfr]
 obtain ⟨hk,hn⟩:=hk
 have hn:=Lib.hid hn
 (have wx:=@Xce;(repeat' (first|refine Wkx.go ?_|(refine Xaz (fun h=>?_) (fun h=>?_)<;>skip)|refine Xad ?_|fail)))<;>(try clear wx)
 ·refine Xaa _ _ (XaF rfl (RV.tmp _) (XcS (D:=[]))) ?_
  exact ⟨by rw [Xes (· == v) (by assumption) hn.out (by simp [h])];rfl,rfl⟩
 ·exact ⟨k+1,by omega,⟨by omega,by rw [XbA l k (by assumption)];intro j hj;simp only [List.mem_append,List.mem_singleton] at hj;rcases hj with hj|rfl;exact hn.out j hj;exact XyF.2 fun e=>h e.symm⟩,(XaX (D:=[]))⟩
 ·refine Xaa _ _ (XaF rfl (RV.tmp _) (XcS (D:=[]))) ?_
  have hn:=hn.out
  rw [List.take_of_length_le (by omega)] at hn
  exact ⟨by rw [Xer (· == v) hn];rfl,rfl⟩
theorem XqG (l:List Int) (v:Int) (hl:l.length≤1000000):Xay Tryz.prog 83 [] [.sq l.length (ia l),.x (.int .i64 v)] (fun r H'=>r=.x (.int .i64 (fiv (l.findIdx? (· == v))))∧H'=[]):=by
 refine XaV Tryz.func83 Tryz.ntmps83 ?_
 (repeat' (first|refine Wkx.go ?_|refine Xad ?_|fail))
 refine Xah (S:=Nat) (fun k=>frm 19 [(0,.sq l.length (ia l)),(1,.x (.int .i64 v)),(7,.x (.int .i64 l.length)),(8,.x (.int .i64 k))]) (fun _=>[]) (fun k=>k≤l.length∧∀j∈l.take k,(j == v)=false) (fun k=>l.length - k) 0 (XaX (D:=[])) ⟨Nat.zero_le _,by simp⟩ fun k hk=>?_
 simp only [wfr]
 obtain ⟨hk,hn⟩:=hk
 have hn:=Lib.hid hn
 (have wx:=@Xgp;(repeat' (first|refine Wkx.go ?_|(refine Xaz (fun h=>?_) (fun h=>?_)<;>skip)|refine Xad ?_|fail)))<;>(try clear wx)
 ·refine Xaa _ _ (XaF rfl (RV.tmp _) (XcS (D:=[]))) ?_
  exact ⟨by rw [Xes (· == v) (by assumption) hn.out (by simp [h])];rfl,rfl⟩
 ·exact ⟨k+1,by omega,⟨by omega,by rw [XbA l k (by assumption)];intro j hj;simp only [List.mem_append,List.mem_singleton] at hj;rcases hj with hj|rfl;exact hn.out j hj;exact XyF.2 fun e=>h e.symm⟩,(XaX (D:=[]))⟩
 ·refine Xaa _ _ (XaF rfl (RV.tmp _) (XcS (D:=[]))) ?_
  have hn:=hn.out
  rw [List.take_of_length_le (by omega)] at hn
  exact ⟨by rw [Xer (· == v) hn];rfl,rfl⟩
theorem Xme (l:List Int) (hl:l.length≤1000000) (h0:0 < l.length):Xay Tryz.prog 84 [] [.sq l.length (ia l)] (XsY l):=by
 refine XaV Tryz.func84 Tryz.ntmps84 ?_
 (repeat' (first|refine Wkx.go ?_|(refine Xaz (fun h=>?_) (fun h=>?_)<;>first|(exact absurd h (by decide))|skip)|refine Xad ?_ (h:=by exact fun _=>Xik _ _ _ _ _ _ _ HEl.out rfl rfl h0)|refine Xad ?_|(refine Xab rfl ?_;(first|refine XfK (fun ad cap=>?_)|refine Xfr (fun b=>?_)))|fail))
 refine Xaa _ _ (XaF rfl (RV.tmp _) (XcS (D:=[]))) ?_
 exact ⟨ad,cap,by simp [ev],by simp [ia]⟩
end Go.Proofs.YtdlblokjfoggpaaGreatDoor

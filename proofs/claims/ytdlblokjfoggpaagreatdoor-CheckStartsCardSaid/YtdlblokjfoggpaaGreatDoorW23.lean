import Derived.Test.YtdlblokjfoggpaaGreatDoorW7
import Derived.Test.YtdlblokjfoggpaaGreatDoorW22
import Derived.Test.YtdlblokjfoggpaaGreatDoorW13
import Derived.Shelf.Sort.Plain
import Derived.Sort.OwnSortedInts
/- The graph: Compact. -/
set_option linter.unusedSimpArgs false
set_option linter.unusedVariables false
set_option maxRecDepth 100000
set_option maxHeartbeats 8000000
namespace Go.Proofs.YtdlblokjfoggpaaGreatDoor
open Go.RowKit
def Xsr (b cap:Nat) (l:List Int) (r:AV) (H':List Hp):Prop:=r=.x (.slice (some ⟨b,0,none⟩) l.length cap)∧H'=[XmM b l.length cap l]
theorem XhK (b cap:Nat) (l:List Int) (hl:l.length≤8796093022208):XaM Tryz.prog 98 [XmM b l.length cap l] [.x (.slice (some ⟨b,0,none⟩) l.length cap)] (Xsr b cap (cmp l)):=by
 refine Xbs Tryz.func98 Tryz.ntmps98 ?_
 refine XdG 0 rfl fun hcap h1 h2=>?_
 clear h1 h2
 (repeat' (first|refine Wkx.go ?_|refine XaJ ?_|refine XaG ?_|(refine XaE (fun h=>?_) (fun h=>?_)<;>first|(exact absurd h (by decide))|(exfalso;omega;done)|skip)|refine XaF ?_|refine Xai ?_|(refine Xaa rfl ?_;(first|refine Xax ?_|refine Xaw ?_|refine Xav (fun ad cap=>?_)|refine Xat (fun b=>?_)|refine Xas (fun b=>?_)|refine Xau (fun b=>?_)|fail))|fail))
 ·refine Xab _ _ (Xa0 rfl (RV.tmp _) (XcJ (D:=[]))) ?_
  have:cmp l=l:=Xmf fun j hj=>by
   have:j=0:=by omega
   subst this;rfl
  rw [this]
  exact ⟨rfl,rfl⟩
 refine XaA (S:=Nat) (fun s=>frm 61 [(0,.x (.slice (some ⟨b,0,none⟩) l.length cap)),(2,.x (.slice none 0 0)),(3,.x (.int .i64 s))]) (fun s=>[XmM b l.length cap l]) (fun s=>1≤s∧s≤l.length∧∀j,j < s→kp l j=true) (fun s=>l.length - s) 1 (XbQ (D:=[])) ?inv fun s hs=>?_
 case inv=>
  refine ⟨Nat.le_refl _,by omega,fun j hj=>?_⟩
  have e:j=0:=by omega
  subst e;rfl
 obtain ⟨h1,h2,hk⟩:=hs
 have hk':=Lib.hid hk
 clear hk
 simp only [wfr]
 obtain ⟨s,rfl⟩:∃q,s=q+1:=⟨s - 1,by omega⟩
 (have wx:=And.intro @Xe2 @Xtc;(repeat' (first|refine Wkx.go ?_|refine XaJ ?_|refine XaG ?_|(refine XaE (fun h=>?_) (fun h=>?_)<;>first|(exact absurd h (by decide))|(exfalso;omega;done)|skip)|refine XaF ?_|refine Xai ?_|(refine Xaa rfl ?_;(first|refine Xax ?_|refine Xaw ?_|refine Xav (fun ad cap=>?_)|refine Xat (fun b=>?_)|refine Xas (fun b=>?_)|refine Xau (fun b=>?_)|fail))|fail)))<;>(try clear wx)
 ·have hk1:kp l (s+1)=false:=Xp4 (by omega) (by omega) (by omega) h
  have hC:Cmp l (s+1+1) (s+1) l:=Cmp.start hk'.out (by omega) hk1
  clear h hk'
  refine XaA (S:=Nat × Nat × List Int) (fun q=>frm 61 [(0,.x (.slice (some ⟨b,0,none⟩) l.length cap)),(3,.x (.int .i64 q.2.1)),(4,.x (.slice (some ⟨b,s+1,none⟩) (l.length - (s+1)) (cap - (s+1)))),(5,.x (.int .i64 q.1))]) (fun q=>[XmM b l.length cap q.2.2]) (fun q=>1≤q.1∧Cmp l (s+1+q.1) q.2.1 q.2.2) (fun q=>l.length - q.1) (1,s+1,l) (XbQ (D:=[])) ⟨Nat.le_refl _,hC⟩ fun q hq=>?_
  clear hC hk1
  obtain ⟨m,k,r⟩:=q
  obtain ⟨hm,hC⟩:=hq
  simp only at hm hC
  have hlen:=hC.len
  have hkl:=hC.le
  have hml:=hC.k0
  have hC':=Lib.hid hC
  clear hC
  simp only [wfr]
  obtain ⟨m,rfl⟩:∃q,m=q+1:=⟨m - 1,by omega⟩
  (have wx:=And.intro @Xe2 (And.intro @Xtc @XtK);(repeat' (first|refine Wkx.go ?_|refine XaJ ?_|refine XaG ?_|(refine XaE (fun h=>?_) (fun h=>?_)<;>first|(exact absurd h (by decide))|(exfalso;omega;done)|skip)|refine XaF ?_|refine Xai ?_|(refine Xaa rfl ?_;(first|refine Xax ?_|refine Xaw ?_|refine Xav (fun ad cap=>?_)|refine Xat (fun b=>?_)|refine Xas (fun b=>?_)|refine Xau (fun b=>?_)|fail))|fail)))<;>(try clear wx)
  ·have hC:=hC'.out
   have e1:=hC.at (s+1+(m+1)) (by omega) (by omega)
   have e2:=hC.at (s+1+m) (by omega) (by omega)
   refine ⟨(m+1+1,k+1,r.set k r[s+1+(m+1)]),by simp only;omega,⟨by simp only;omega,?_⟩,(XbQ (D:=[]))⟩
   simp only
   rw [e1,show s+1+(m+1+1)=s+1+(m+1)+1 from rfl]
   refine hC.keep (by omega) (Xp5 (by omega) (by omega) ?_)
   rw [←Xb7,←Xb7,←e1]
   intro h9
   exact h (h9.trans e2.symm)
  ·have hC:=hC'.out
   have e1:=hC.at (s+1+(m+1)) (by omega) (by omega)
   have e2:=hC.at (s+1+m) (by omega) (by omega)
   refine ⟨(m+1+1,k,r),by simp only;omega,⟨by simp only;omega,?_⟩,(XbQ (D:=[]))⟩
   simp only
   refine hC.skip (by omega) (Xp4 (by omega) (by omega) (by omega) ?_)
   rw [←Xb7,←Xb7]
   exact e1.symm.trans (h.trans e2)
  ·have hC:=hC'.out
   have em:s+1+(m+1)=l.length:=by omega
   rw [em] at hC
   have ec:=hC.done
   have ek:k=(cmp l).length:=by rw [ec,List.length_take];omega
   clear hC hC'
   refine Xaa rfl ?_
   refine XlL 0 _ _ _ _ _ b k (l.length - k) _ _ _ _ rfl rfl rfl XbJ.out rfl rfl (by rw [Xs9];omega) ?_
   refine Xay ?_
   refine Xac ?_
   refine XgD 0 k rfl (by omega) (fun _=>.inr trivial) (by simp) ?_
   have e9:((spl (ia r) k (List.replicate (l.length - k) (.x (.int .i64 0)))).take (k*1))=ia (cmp l):=by
    rw [ec,Nat.mul_one]
    unfold spl
    rw [List.append_assoc,List.take_append_of_le_length (by simp;omega),List.take_take,Nat.min_self]
    unfold ia;rw [List.map_take]
   rw [e9]
   clear e9
   have ek':=Lib.hid ek
   clear ek ec
   (try simp only [wtn,Xvx,Xvu,Xvv,Xvy,XvC,Nat.reduceAdd,Nat.reduceMul,Nat.reduceSub,↓reduceIte,Nat.reduceEqDiff])
   (repeat' (first|refine Wkx.go ?_|refine XaJ ?_|refine XaG ?_|(refine XaE (fun h=>?_) (fun h=>?_)<;>first|(exact absurd h (by decide))|(exfalso;omega;done)|skip)|refine XaF ?_|refine Xai ?_|(refine Xaa rfl ?_;(first|refine Xax ?_|refine Xaw ?_|refine Xav (fun ad cap=>?_)|refine Xat (fun b=>?_)|refine Xas (fun b=>?_)|refine Xau (fun b=>?_)|fail))|fail))
   have ek:=ek'.out
   subst ek
   simp only [Nat.sub_zero,ite_self]
   refine Xab _ _ (Xa0 rfl (RV.tmp _) (XcJ (D:=[]))) ?_
   exact ⟨rfl,rfl⟩
 ·exact ⟨s+1+1,by omega,⟨by omega,by omega,fun j hj=>by
   by_cases e:j=s+1
   ·subst e;exact Xp5 (by omega) (by omega) h
   ·exact hk'.out j (by omega)⟩,(XbQ (D:=[]))⟩
 ·refine Xab _ _ (Xa0 rfl (RV.tmp _) (XcJ (D:=[]))) ?_
  have:cmp l=l:=Xmf fun j hj=>hk'.out j (by omega)
  rw [this]
  exact ⟨rfl,rfl⟩
theorem XgL:∀{l m:List Int},l.Pairwise (· < ·)→m.Pairwise (· < ·)→(∀x,x∈l↔x∈m)→l=m
 | [],[],_,_,_=>rfl
 | [],b :: m,_,_,h=>by have:=(h b).2 (List.mem_cons_self ..);simp at this
 | a :: l,[],_,_,h=>by have:=(h a).1 (List.mem_cons_self ..);simp at this
 | a :: l,b :: m,hl,hm,h=>by
   rw [List.pairwise_cons] at hl hm
   have e:a=b:=by
    rcases List.mem_cons.1 ((h a).1 (List.mem_cons_self ..)) with e|h1
    ·exact e
    ·rcases List.mem_cons.1 ((h b).2 (List.mem_cons_self ..)) with e|h2
     ·exact e.symm
     ·have:=hm.1 a h1;have:=hl.1 b h2;omega
   subst e
   congr 1
   refine XgL hl.2 hm.2 fun x=>⟨fun hx=>?_,fun hx=>?_⟩
   ·rcases List.mem_cons.1 ((h x).1 (List.mem_cons_of_mem _ hx)) with e|h1
    ·subst e;have:=hl.1 x hx;omega
    ·exact h1
   ·rcases List.mem_cons.1 ((h x).2 (List.mem_cons_of_mem _ hx)) with e|h1
    ·subst e;have:=hm.1 x hx;omega
    ·exact h1
def gat (l:List JA) (j:JA) (n:Nat):List Int:=((j.needs.take n).map (idx l)).filter fun k=>decide (0≤k)
theorem Xs7 (l:List JA) (j:JA) (n:Nat):(gat l j n).length≤n:=by
 unfold gat
 refine Nat.le_trans (List.length_filter_le ..) ?_
 simp;omega
theorem XmC (l:List JA) (j:JA) (n:Nat) (h:n < j.needs.length) (h0:0≤idx l (j.needs[n])):gat l j (n+1)=gat l j n++[idx l (j.needs[n])]:=by
 unfold gat
 rw [XbC _ n h,List.map_append,List.filter_append]
 simp [h0]
theorem XmB (l:List JA) (j:JA) (n:Nat) (h:n < j.needs.length) (h0:¬0≤idx l (j.needs[n])):gat l j (n+1)=gat l j n:=by
 unfold gat
 rw [XbC _ n h,List.map_append,List.filter_append]
 simp [h0]
theorem Xh5 (l:List JA) (i n:Nat):(Xga l i n).Pairwise (· < ·):=by
 unfold Xga
 rw [List.pairwise_map]
 refine List.Pairwise.imp ?_ (List.Pairwise.filter _ List.pairwise_lt_range)
 intro a b h;omega
theorem Xh4 (l:List JA) (i n:Nat) (x:Int):x∈Xga l i n↔∃k:Nat,k < n∧wnt l i k=true∧(k:Int)=x:=by
 unfold Xga
 simp only [List.mem_map,List.mem_filter,List.mem_range]
 constructor
 ·rintro ⟨k,⟨h1,h2⟩,h3⟩;exact ⟨k,h1,h2,h3⟩
 ·rintro ⟨k,h1,h2,h3⟩;exact ⟨k,⟨h1,h2⟩,h3⟩
theorem Xmg (l:List JA) (i:Nat) (hi:i < l.length) (m:List Int) (hp:m.Perm (gat l l[i] l[i].needs.length)) (hs:m.Pairwise (·≤·)):cmp m=Xga l i l.length:=by
 obtain ⟨h1,h2⟩:=XkS hs
 refine XgL h1 (Xh5 ..) fun x=>?_
 rw [h2,hp.mem_iff,Xh4]
 unfold gat
 rw [List.take_length]
 simp only [List.mem_filter,List.mem_map,decide_eq_true_eq]
 constructor
 ·rintro ⟨⟨s,hs,rfl⟩,h0⟩
  have:=(Xtb l s).2
  refine ⟨(idx l s).toNat,by omega,?_,by omega⟩
  rw [Xqr hi,List.any_eq_true]
  exact ⟨s,hs,by rw [Int.toNat_of_nonneg h0];simp⟩
 ·rintro ⟨k,hk,hw,rfl⟩
  rw [Xqr hi,List.any_eq_true] at hw
  obtain ⟨s,hs,he⟩:=hw
  exact ⟨⟨s,hs,by simpa using he⟩,by omega⟩
open Go.Shelf
def Xi4:Go.Shelf.Ren:=⟨fun|189=>97|125=>115|257=>114|128=>146|129=>147|294=>137|295=>138|296=>139|297=>140|298=>141|299=>142|216=>143|300=>144|301=>145|328=>164|329=>165|330=>166|331=>167|332=>168|215=>169|343=>182|n=>n,fun|28=>45|3=>3|46=>207|0=>0|51=>242|53=>24|4=>4|183=>234|182=>233|131=>239|5=>5|9=>9|218=>258|222=>261|228=>273|229=>274|n=>n,fun|n=>n⟩
theorem Xrl:Go.Proofs.Lays.n189 Tryz.prog Xi4:={
 mixed:=by kernel_rfl
 f125:=Tryz.func115.trans (congrArg some (by kernel_rfl))
 f128:=Tryz.func146.trans (congrArg some (by kernel_rfl))
 f129:=Tryz.func147.trans (congrArg some (by kernel_rfl))
 f189:=Tryz.func97.trans (congrArg some (by kernel_rfl))
 f215:=Tryz.func169.trans (congrArg some (by kernel_rfl))
 f216:=Tryz.func143.trans (congrArg some (by kernel_rfl))
 f257:=Tryz.func114.trans (congrArg some (by kernel_rfl))
 f294:=Tryz.func137.trans (congrArg some (by kernel_rfl))
 f295:=Tryz.func138.trans (congrArg some (by kernel_rfl))
 f296:=Tryz.func139.trans (congrArg some (by kernel_rfl))
 f297:=Tryz.func140.trans (congrArg some (by kernel_rfl))
 f298:=Tryz.func141.trans (congrArg some (by kernel_rfl))
 f299:=Tryz.func142.trans (congrArg some (by kernel_rfl))
 f300:=Tryz.func144.trans (congrArg some (by kernel_rfl))
 f301:=Tryz.func145.trans (congrArg some (by kernel_rfl))
 f328:=Tryz.func164.trans (congrArg some (by kernel_rfl))
 f329:=Tryz.func165.trans (congrArg some (by kernel_rfl))
 f330:=Tryz.func166.trans (congrArg some (by kernel_rfl))
 f331:=Tryz.func167.trans (congrArg some (by kernel_rfl))
 f332:=Tryz.func168.trans (congrArg some (by kernel_rfl))
 f343:=Tryz.func182.trans (congrArg some (by kernel_rfl))
 t0:=Tryz.underlying0
 a0:=Tryz.isAgg0
 z0:=Tryz.sizeOf0
 v0:=Tryz.zeroValue0
 t3:=Tryz.underlying3
 a3:=Tryz.isAgg3
 z3:=Tryz.sizeOf3
 v3:=Tryz.zeroValue3
 t4:=Tryz.underlying4
 a4:=Tryz.isAgg4
 z4:=Tryz.sizeOf4
 v4:=Tryz.zeroValue4
 t5:=Tryz.underlying5
 a5:=Tryz.isAgg5
 z5:=Tryz.sizeOf5
 v5:=Tryz.zeroValue5
 t9:=Tryz.underlying9
 a9:=Tryz.isAgg9
 z9:=Tryz.sizeOf9
 v9:=Tryz.zeroValue9
 t28:=Tryz.underlying45
 a28:=Tryz.isAgg45
 z28:=Tryz.sizeOf45
 v28:=Tryz.zeroValue45
 t46:=Tryz.underlying207
 a46:=Tryz.isAgg207
 z46:=Tryz.sizeOf207
 v46:=Tryz.zeroValue207
 t51:=Tryz.underlying242
 a51:=Tryz.isAgg242
 z51:=Tryz.sizeOf242
 v51:=Tryz.zeroValue242
 t53:=Tryz.underlying24
 a53:=Tryz.isAgg24
 z53:=Tryz.sizeOf24
 v53:=Tryz.zeroValue24
 t131:=Tryz.underlying239
 a131:=Tryz.isAgg239
 z131:=Tryz.sizeOf239
 v131:=Tryz.zeroValue239
 t182:=Tryz.underlying233
 a182:=Tryz.isAgg233
 z182:=Tryz.sizeOf233
 v182:=Tryz.zeroValue233
 t183:=Tryz.underlying234
 a183:=Tryz.isAgg234
 z183:=Tryz.sizeOf234
 v183:=Tryz.zeroValue234
 t218:=Tryz.underlying258
 a218:=Tryz.isAgg258
 z218:=Tryz.sizeOf258
 v218:=Tryz.zeroValue258
 t222:=Tryz.underlying261
 a222:=Tryz.isAgg261
 z222:=Tryz.sizeOf261
 v222:=Tryz.zeroValue261
 t228:=Tryz.underlying273
 a228:=Tryz.isAgg273
 z228:=Tryz.sizeOf273
 v228:=Tryz.zeroValue273
 t229:=Tryz.underlying274
 a229:=Tryz.isAgg274
 z229:=Tryz.sizeOf274
 v229:=Tryz.zeroValue274 }
open Go.Sort Go.RowKit in
theorem slices_Sort_int (blk off cap:Nat) (zs:List Int) (w:World) (hH:Holds (Value.int .i64) w blk off zs.toArray) (hblk:blk < w.heap.size) (hsz:zs.length < 4611686018427387904) :
  Calls Tryz.prog 97 #[.slice (some ⟨blk,off,none⟩) zs.length cap] w fun e w'=>
   e=.returned (.tuple #[])∧∃n os,w'=grow (putRow (Value.int .i64) (Sort.ahead w n) blk off (zs.mergeSort fun x y=>decide (x≤y)).toArray) os:=Any.slices_Sort_int Xrl blk off cap zs w hH hblk hsz
open Go.RowKit Go.Sort
theorem DenL.eq {F:Nat→Prop} {w:World}:∀{l vs:List Value},DenL F w (l.map AV.x) vs→vs=l
 | [],vs,h=>by rw [XvC,DenL] at h;exact h
 | x :: l,vs,h=>by
   rw [Xvy,DenL] at h
   obtain ⟨u,us,rfl,h1,h2⟩:=h
   rw [Den] at h1
   rw [h1,DenL.eq h2]
theorem Xp2 (l:List Int):ia l=(l.map (Value.int .i64)).map AV.x:=by simp [ia]
theorem Xpp (b cap:Nat) (l:List Int) (hl:l.length < 4611686018427387904):XaM Tryz.prog 97 [XmM b l.length cap l] [.x (.slice (some ⟨b,0,none⟩) l.length cap)] (fun r H'=>XjI b l.length cap l H'):=by
 intro V w vs h1 h2 h3 _
 rw [DenL] at h3
 obtain ⟨u,us,rfl,hu,hus⟩:=h3
 rw [Den] at hu
 rw [DenL] at hus
 subst hu hus
 obtain ⟨vals,hd,hown,hone⟩:=h2.ok _ (List.mem_singleton.2 rfl)
 rw [Xp2] at hd
 obtain rfl:=DenL.eq hd
 have hlt:=h2.lt _ (List.mem_singleton.2 rfl) b rfl
 obtain ⟨hlen,hn|⟨g,capx,cur,e1,hbg,hg,hnc,hcm,hcs,htake⟩⟩:=hown
 ·cases hn.1
 simp only [Value.slice.injEq,Option.some.injEq,Addr.mk.injEq] at e1
 obtain ⟨⟨rfl,-,-⟩,-,rfl⟩:=e1
 have hH:Holds (Value.int .i64) w b 0 l.toArray:=holds_of_blockI hg (by simpa using htake)
 refine (slices_Sort_int b 0 cap l w hH hlt.1 hl).mono fun e w' ⟨he,n,os,hw⟩=>?_
 subst hw
 have hml:(l.mergeSort fun x y=>decide (x≤y)).length=l.length:=(List.mergeSort_perm _ _).length_eq
 have hgr:=grownBy_sortedI (w:=w) (g:=b) (n:=n) (os:=os) (l.mergeSort fun x y=>decide (x≤y)).toArray
 have hz:w.heap.size≤(grow (putRow (Value.int .i64) (Sort.ahead w n) b 0 (l.mergeSort fun x y=>decide (x≤y)).toArray) os).heap.size:=hgr.size
 refine ⟨.x (.tuple #[]),[XmM b l.length cap (l.mergeSort fun x y=>decide (x≤y))],_,⟨_,rfl,List.mergeSort_perm _ _,?_⟩,he,by rw [Den],⟨?_,List.pairwise_singleton _ _,?_⟩,⟨hgr.os,hgr.tape,hgr.output,hz,?_⟩,?_⟩
 ·have:=List.pairwise_mergeSort (le:=fun x y:Int=>decide (x≤y)) (fun a b c h1 h2=>by simp at *;omega) (fun a b=>by simp;omega) l
  exact this.imp fun h=>by simpa using h
 ·intro h hh
  rw [List.mem_singleton] at hh
  subst hh
  refine ⟨(l.mergeSort fun x y=>decide (x≤y)).map (Value.int .i64),by rw [Xp2];exact DenL.exact,?_,fun u hu=>by obtain ⟨x,-,rfl⟩:=List.mem_map.1 hu;rfl⟩
  exact ownsRow_sortedI hml (Nat.zero_le _) hg hnc hcm (by simpa using hcs)
 ·intro h hh k hk
  rw [List.mem_singleton] at hh
  subst hh
  simp only [Hp.blk,Option.map_some,Option.some.injEq] at hk
  subst hk
  exact ⟨Nat.lt_of_lt_of_le hlt.1 hz,hlt.2⟩
 ·intro k hk hn
  refine hgr.block k hk fun e=>hn ?_
  simp only [Option.some.injEq] at e
  exact ⟨_,List.mem_singleton.2 rfl,by rw [e];rfl⟩
 ·intro h hh k hk
  rw [List.mem_singleton] at hh
  subst hh
  exact .inl ⟨_,List.mem_singleton.2 rfl,hk⟩
theorem XmO:XaM Tryz.prog 137 [] [.x (.slice none 0 0),.x (.int .i64 0),.x (.int .i64 0)] (fun r H'=>H'=[]):=by
 refine Xbs Tryz.func137 Tryz.ntmps137 ?_
 (repeat' (first|refine Wkx.go ?_|refine XaJ ?_|refine XaG ?_|(refine XaE (fun h=>?_) (fun h=>?_)<;>first|(exact absurd h (by decide))|(exfalso;omega;done)|skip)|refine XaF ?_|refine Xai ?_|(refine Xaa rfl ?_;(first|refine Xax ?_|refine Xaw ?_|refine Xav (fun ad cap=>?_)|refine Xat (fun b=>?_)|refine Xas (fun b=>?_)|refine Xau (fun b=>?_)|fail))|fail))
 refine XaA (S:=Unit) (fun s=>frm 49 [(0,.x (.slice none 0 0)),(1,.x (.int .i64 0)),(2,.x (.int .i64 0)),(6,.x (.int .i64 1))]) (fun s=>[]) (fun s=>True) (fun s=>0) () (XbQ (D:=[])) trivial fun s hs=>?_
 simp only [wfr]
 (repeat' (first|refine Wkx.go ?_|refine XaJ ?_|refine XaG ?_|(refine XaE (fun h=>?_) (fun h=>?_)<;>first|(exact absurd h (by decide))|(exfalso;omega;done)|skip)|refine XaF ?_|refine Xai ?_|(refine Xaa rfl ?_;(first|refine Xax ?_|refine Xaw ?_|refine Xav (fun ad cap=>?_)|refine Xat (fun b=>?_)|refine Xas (fun b=>?_)|refine Xau (fun b=>?_)|fail))|fail))
 exact Xb2 _ _ (Xff rfl (XbQ (D:=[]))) rfl
theorem XrP (m:Int):XaM Tryz.prog 114 [] [.x (.slice none 0 0),.x (.int .i64 0),.x (.int .i64 0),.x (.int .i64 m)] (fun r H'=>H'=[]):=by
 refine Xbs Tryz.func114 Tryz.ntmps114 ?_
 (repeat' (first|refine Wkx.go ?_|refine XaJ ?_|refine XaG ?_|(refine XaE (fun h=>?_) (fun h=>?_)<;>first|(exact absurd h (by decide))|(exfalso;omega;done)|skip)|refine XaF ?_|refine Xai ?_|(refine Xaa rfl ?_;(first|refine Xax ?_|refine Xaw ?_|refine Xav (fun ad cap=>?_)|refine Xat (fun b=>?_)|refine Xas (fun b=>?_)|refine Xau (fun b=>?_)|fail))|fail))
 refine XaA (S:=Unit) (fun s=>frm 134 [(0,.x (.slice none 0 0)),(1,.x (.int .i64 0)),(2,.x (.int .i64 0)),(3,.x (.int .i64 m)),(8,.x (.bool true)),(9,.x (.bool true))]) (fun s=>[]) (fun s=>True) (fun s=>0) () (XbQ (D:=[])) trivial fun s hs=>?_
 simp only [wfr]
 (repeat' (first|refine Wkx.go ?_|refine XaJ ?_|refine XaG ?_|(refine XaE (fun h=>?_) (fun h=>?_)<;>first|(exact absurd h (by decide))|(exfalso;omega;done)|skip)|refine XaF ?_|refine Xai ?_|(refine Xaa rfl ?_;(first|((refine Xa5 Tryz.func137 ([]) rfl rfl (.refl _) (XmO) ?_;rintro _ _ rfl);refine XaO ?_)|refine Xax ?_|refine Xaw ?_|refine Xav (fun ad cap=>?_)|refine Xat (fun b=>?_)|refine Xas (fun b=>?_)|refine Xau (fun b=>?_)|fail))|fail))
 exact Xab _ _ (Xff rfl (XbQ (D:=[]))) rfl
theorem Xpq:XaM Tryz.prog 97 [] [.x (.slice none 0 0)] (fun r H'=>H'=[]):=by
 refine Xbs Tryz.func97 Tryz.ntmps97 ?_
 (repeat' (first|refine Wkx.go ?_|refine XaJ ?_|refine XaG ?_|(refine XaE (fun h=>?_) (fun h=>?_)<;>first|(exact absurd h (by decide))|(exfalso;omega;done)|skip)|refine XaF ?_|refine Xai ?_|(refine Xaa rfl ?_;(first|((refine Xa5 Tryz.func115 ([]) rfl rfl (.refl _) (XoO 0 (by decide)) ?_;rintro _ _ ⟨⟨m,rfl⟩,rfl⟩);refine XaO ?_)|((refine Xa5 Tryz.func114 ([]) rfl rfl (.refl _) (XrP m) ?_;rintro _ _ rfl);refine XaO ?_)|refine Xax ?_|refine Xaw ?_|refine Xav (fun ad cap=>?_)|refine Xat (fun b=>?_)|refine Xas (fun b=>?_)|refine Xau (fun b=>?_)|fail))|fail))
 exact Xb2 _ _ (Xff rfl (XbQ (D:=[]))) rfl
theorem XiL:XaM Tryz.prog 98 [] [.x (.slice none 0 0)] (fun r H'=>r=.x (.slice none 0 0)∧H'=[]):=by
 refine Xbs Tryz.func98 Tryz.ntmps98 ?_
 (repeat' (first|refine Wkx.go ?_|refine XaJ ?_|refine XaG ?_|(refine XaE (fun h=>?_) (fun h=>?_)<;>first|(exact absurd h (by decide))|(exfalso;omega;done)|skip)|refine XaF ?_|refine Xai ?_|(refine Xaa rfl ?_;(first|refine Xax ?_|refine Xaw ?_|refine Xav (fun ad cap=>?_)|refine Xat (fun b=>?_)|refine Xas (fun b=>?_)|refine Xau (fun b=>?_)|fail))|fail))
 refine Xab _ _ (Xa0 rfl (RV.tmp _) (XcJ (D:=[]))) ?_
 exact ⟨rfl,rfl⟩
theorem Xmi (b cap n:Nat) (l:List Int) (hn:l.length=n) (hl:n≤8796093022208):XaM Tryz.prog 98 [XmM b n cap l] [.x (.slice (some ⟨b,0,none⟩) n cap)] (Xsr b cap (cmp l)):=by
 subst hn;exact XhK b cap l hl
theorem XtJ (b cap n:Nat) (l:List Int) (hn:l.length=n) (hl:n≤8796093022208):XaM Tryz.prog 97 [XmM b n cap l] [.x (.slice (some ⟨b,0,none⟩) n cap)] (fun r H'=>XjI b n cap l H'):=by
 subst hn;exact Xpp b cap l (by omega)
theorem XoV (l:List JA) (i:Nat) (hi:i < l.length) (hl:l.length≤1000000) (hm:(l[i]'hi).needs.length≤8796093022208):XaM Tryz.prog 72 [] [.sq l.length (ja l),.x (.int .i64 i)] (fun r H'=>r=.sq (Xga l i l.length).length (ia (Xga l i l.length))∧H'=[]):=by
 refine Xbs Tryz.func72 Tryz.ntmps72 ?_
 (have wx:=And.intro @XmP @JA.cells.eq_1;(repeat' (first|refine Wkx.go ?_|refine XaJ ?_|refine XaG ?_|(refine XaE (fun h=>?_) (fun h=>?_)<;>first|(exact absurd h (by decide))|(exfalso;omega;done)|skip)|refine XaF ?_|refine Xai ?_|(refine Xaa rfl ?_;(first|refine Xax ?_|refine Xaw ?_|refine Xav (fun ad cap=>?_)|refine Xat (fun b=>?_)|refine Xas (fun b=>?_)|refine Xau (fun b=>?_)|fail))|fail)))<;>(try clear wx)
 refine Xa7 3 1 ?_
 refine XaA (S:=Nat × Option Addr × Nat) (fun s=>frm 41 [(0,.sq l.length (ja l)),(1,.x (.int .i64 i)),(5,.x (.slice s.2.1 (gat l l[i] s.1).length s.2.2)),(21,.sq l[i].needs.length (sa l[i].needs)),(22,.x (.int .i64 l[i].needs.length)),(23,.x (.int .i64 s.1))]) (fun s=>[.row s.2.1 (gat l l[i] s.1).length s.2.2 3 1 (ia (gat l l[i] s.1))]) (fun s=>s.1≤l[i].needs.length) (fun s=>l[i].needs.length - s.1) (0,none,0) ?a (Nat.zero_le _) fun s hs=>?_
 case a=>exact (XbQ (D:=[]))
 obtain ⟨n,ad,cap⟩:=s
 simp only at hs
 simp only [wfr]
 have hle:=Xs7 l l[i] n
 refine XdG 0 rfl fun hcap h1 hcase=>?_
 clear h1
 rcases hcase with ⟨rfl,hn,rfl⟩|⟨b,rfl⟩
 ·have e0:gat l l[i] n=[]:=List.eq_nil_of_length_eq_zero hn
  clear hcap hn hle
  simp only [e0,Xvz,show ia []=[] from rfl]
  have e0':=Lib.hid e0
  clear e0
  (have wx:=@Xei;(repeat' (first|refine Wkx.go ?_|refine XaJ ?_|refine XaG ?_|(refine XaE (fun h=>?_) (fun h=>?_)<;>first|(exact absurd h (by decide))|(exfalso;omega;done)|skip)|refine XaF ?_|refine Xai ?_|(refine Xaa rfl ?_;(first|((refine Xa5 Tryz.func14 ([]) rfl rfl (.refl _) (Xe3 l _ hl) ?_;rintro _ _ ⟨rfl,rfl⟩);refine XaO ?_)|((refine Xa5 Tryz.func97 ([]) rfl rfl (.refl _) (Xpq) ?_;rintro _ _ rfl);refine XaO ?_)|((refine Xa5 Tryz.func98 ([]) rfl rfl (.refl _) (XiL) ?_;rintro _ _ ⟨rfl,rfl⟩);refine XaO ?_)|refine Xax ?_|refine Xaw ?_|refine Xav (fun ad cap=>?_)|refine Xat (fun b=>?_)|refine Xas (fun b=>?_)|refine Xau (fun b=>?_)|fail))|fail)))<;>(try clear wx)
  ·have e:gat l l[i] (n+1)=[idx l (l[i].needs[n])]:=by rw [XmC l l[i] n (by assumption) h,e0'.out];rfl
   refine ⟨(n+1,ad,cap),by simp only;omega,by simp only;omega,?_⟩
   simp only [e,Xvw,Xvz]
   exact (XbQ (D:=[_]) (R:=[_]))
  ·have e:gat l l[i] (n+1)=[]:=by rw [XmB l l[i] n (by assumption) h,e0'.out]
   refine ⟨(n+1,none,0),by simp only;omega,by simp only;omega,?_⟩
   simp only [e,Xvz]
   exact (XbQ (D:=[]))
  ·refine Xab _ _ (Xa0 rfl (RV.tmp _) (Xaq.mk' [_] [] (Xvt _) Xap.nil (VwL.cons Vw.nil VwL.nil))) ?_
   obtain rfl:n=l[i].needs.length:=by omega
   have:=Xmg l i hi [] (by rw [e0'.out]) List.Pairwise.nil
   rw [←this]
   exact ⟨rfl,rfl⟩
 ·(have wx:=@Xei;(repeat' (first|refine Wkx.go ?_|refine XaJ ?_|refine XaG ?_|(refine XaE (fun h=>?_) (fun h=>?_)<;>first|(exact absurd h (by decide))|(exfalso;omega;done)|skip)|refine XaF ?_|refine Xai ?_|(refine Xaa rfl ?_;(first|((refine XbN _ _ _ _ _ _ _ _ _ _ _ _ _ _ rfl rfl Xdp.out (Src.row _ rfl Xdp.out) XbJ.out (by first|rfl|(simp;first|done|omega)) ⟨by omega,by unfold maxLen;omega⟩ (fun ad cap=>?_));refine XaO ?_)|((refine XbN _ _ _ _ _ _ _ _ _ _ _ _ _ _ rfl rfl Xdp.out (Src.sq rfl) XbJ.out (by first|rfl|(simp;first|done|omega)) ⟨by omega,by unfold maxLen;omega⟩ (fun ad cap=>?_));refine XaO ?_)|((refine Xa5 Tryz.func14 ([]) rfl rfl (.refl _) (Xe3 l _ hl) ?_;rintro _ _ ⟨rfl,rfl⟩);refine XaO ?_)|((refine Xa5 Tryz.func97 ([XmM b (gat l l[i] n).length cap (gat l l[i] n)]) rfl rfl (.refl _) (XtJ b cap _ _ rfl (by omega)) ?_;rintro _ _ ⟨m,rfl,hpm,hsm⟩);refine XaO ?_)|((refine Xa5 Tryz.func98 ([XmM b (gat l l[i] n).length cap m]) rfl rfl (.refl _) (Xmi b cap _ m hpm.length_eq (by omega)) ?_;rintro _ _ ⟨rfl,rfl⟩);refine XaO ?_)|refine Xax ?_|refine Xaw ?_|refine Xav (fun ad cap=>?_)|refine Xat (fun b=>?_)|refine Xas (fun b=>?_)|refine Xau (fun b=>?_)|fail))|fail)))<;>(try clear wx)
  ·clear hcap hle
   have e:=XmC l l[i] n (by assumption) h
   refine ⟨(n+1,ad,cap),by simp only;omega,by simp only;omega,?_⟩
   simp only [e,XmH,XvF,Xvw,Xvz]
   exact (XbQ (D:=[_]) (R:=[_]))
  ·have e:=XmB l l[i] n (by assumption) h
   refine ⟨(n+1,some ⟨b,0,none⟩,cap),by simp only;omega,by simp only;omega,?_⟩
   simp only [e]
   exact (XbQ (D:=[]))
  ·obtain rfl:n=l[i].needs.length:=by omega
   have:=Xmg l i hi m hpm hsm
   rw [←this]
   refine Xab _ _ (Xa0 rfl (RV.tmp _) (Xaq.mk' [_] [] (Xvt _) Xap.nil (VwL.cons (Vw.row (List.Mem.head _) (VwL.refl _ _)) VwL.nil))) ?_
   exact ⟨rfl,rfl⟩
theorem Xm7 (l:List JA) (i:Int) (hi:¬(0≤i∧i < (l.length:Int))) (hl:l.length≤1000000):XaM Tryz.prog 72 [] [.sq l.length (ja l),.x (.int .i64 i)] (fun r H'=>r=.sq 0 []∧H'=[]):=by
 refine Xbs Tryz.func72 Tryz.ntmps72 ?_
 (repeat' (first|refine Wkx.go ?_|refine XaJ ?_|refine XaG ?_|(refine XaE (fun h=>?_) (fun h=>?_)<;>first|(exact absurd h (by decide))|(exfalso;omega;done)|skip)|refine XaF ?_|refine Xai ?_|(refine Xaa rfl ?_;(first|refine Xax ?_|refine Xaw ?_|refine Xav (fun ad cap=>?_)|refine Xat (fun b=>?_)|refine Xas (fun b=>?_)|refine Xau (fun b=>?_)|fail))|fail))
 refine Xab _ _ (Xa0 rfl (RV.tmp _) (Xaq.mk' [] [] (Xvt _) Xap.nil (VwL.cons Vw.nil VwL.nil))) ?_
 exact ⟨rfl,rfl⟩
theorem XgJ (l:List JA) (i:Int) (hl:l.length≤1000000) (hm:∀j∈l,j.needs.length≤8796093022208):XaM Tryz.prog 72 [] [.sq l.length (ja l),.x (.int .i64 i)] (fun r H'=>r=.sq (nds l i).length (ia (nds l i))∧H'=[]):=by
 by_cases hi:0≤i∧i < (l.length:Int)
 ·obtain ⟨k,rfl⟩:∃k:Nat,i=k:=⟨i.toNat,by omega⟩
  have hk:k < l.length:=by omega
  have e:nds l k=Xga l k l.length:=by unfold nds;rw [if_pos hi];simp
  rw [e]
  exact XoV l k hk hl (hm _ (List.getElem_mem hk))
 ·have e:nds l i=[]:=by unfold nds;rw [if_neg hi]
  rw [e]
  exact Xm7 l i hi hl
theorem Xgg:∀(n:Nat) (d:List Int),d.Nodup→(∀x∈d,0≤x∧x < (n:Int))→d.length≤n
 | 0,d,_,h=>by
   cases d with
   | nil=>simp
   | cons a d=>have:=h a (List.mem_cons_self ..);omega
 | n+1,d,hd,h=>by
   by_cases hm:(n:Int)∈d
   ·have h1:=Xgg n (d.erase n) (hd.erase _) (fun x hx=>by
     rw [hd.mem_erase_iff] at hx
     have:=h x hx.2
     have:=hx.1
     omega)
    rw [List.length_erase_of_mem hm] at h1
    omega
   ·have:=Xgg n d hd (fun x hx=>by
     have:=h x hx
     have:x≠n:=fun e=>hm (e▸hx)
     omega)
    omega
def rdy (l:List JA) (d:List Int) (i:Nat):Bool:=!d.contains (i:Int) && (nds l i).all (d.contains ·)
def fst (l:List JA) (d:List Int):Option Nat:=(List.range l.length).find? (rdy l d)
def Xqa (l:List JA):Nat→List Int→List Int
 | 0,d=>d
 | n+1,d=>match fst l d with
   | none=>d
   | some i=>Xqa l n (d++[(i:Int)])
def ord (l:List JA):List Int:=Xqa l l.length []
structure Xin (l:List JA) (d:List Int):Prop where
 nodup:d.Nodup
 lt:∀x∈d,0≤x∧x < (l.length:Int)
 ord:Xqa l (l.length - d.length) d=ord l
theorem Xin.nil (l:List JA):Xin l []:=⟨List.nodup_nil,by simp,rfl⟩
theorem Xin.le {l:List JA} {d:List Int} (h:Xin l d):d.length≤l.length:=Xgg _ d h.nodup h.lt
theorem XoB {l:List JA} {d:List Int} {i:Nat} (hi:i < l.length) (hr:rdy l d i=true) (hn:∀k,k < i→rdy l d k=false):fst l d=some i:=by
 unfold fst
 rw [List.find?_eq_some_iff_append]
 refine ⟨hr,List.range i,(List.range' (i+1) (l.length - (i+1))),?_,fun k hk=>by rw [hn k (List.mem_range.1 hk)];rfl⟩
 rw [List.range_eq_range',List.range_eq_range']
 have:l.length=i+(1+(l.length - (i+1))):=by omega
 conv=>lhs;rw [this]
 rw [←List.range'_append_1,←List.range'_append_1]
 simp [Nat.zero_add]
theorem XoA {l:List JA} {d:List Int} (hn:∀k,k < l.length→rdy l d k=false):fst l d=none:=by
 unfold fst
 rw [List.find?_eq_none]
 intro k hk
 rw [hn k (List.mem_range.1 hk)];simp
theorem Xin.snoc {l:List JA} {d:List Int} (h:Xin l d) {i:Nat} (hi:i < l.length) (hr:rdy l d i=true) (hn:∀k,k < i→rdy l d k=false):Xin l (d++[(i:Int)]):=by
 have hnot:(i:Int) ∉ d:=by
  unfold rdy at hr
  simp only [Bool.and_eq_true,Bool.not_eq_true'] at hr
  intro hm
  rw [List.contains_iff_mem.2 hm] at hr
  simp at hr
 have hnd:(d++[(i:Int)]).Nodup:=by
  rw [List.nodup_append]
  refine ⟨h.nodup,by simp,fun a ha b hb=>?_⟩
  rw [List.mem_singleton] at hb
  subst hb
  intro e;subst e;exact hnot ha
 have hlt:∀x∈d++[(i:Int)],0≤x∧x < (l.length:Int):=by
  intro x hx
  rcases List.mem_append.1 hx with hx|hx
  ·exact h.lt x hx
  ·rw [List.mem_singleton] at hx;subst hx;omega
 have hle:=Xgg _ _ hnd hlt
 simp only [XvF,Xvw,Xvz] at hle
 refine ⟨hnd,hlt,?_⟩
 rw [←h.ord]
 obtain ⟨n,hn2⟩:∃n,l.length - d.length=n+1:=⟨l.length - d.length - 1,by omega⟩
 rw [hn2,show l.length - (d++[(i:Int)]).length=n by simp;omega]
 simp only [Xqa,XoB hi hr hn]
theorem Xin.end_ {l:List JA} {d:List Int} (h:Xin l d) (hn:∀k,k < l.length→rdy l d k=false):d=_root_.Go.Proofs.YtdlblokjfoggpaaGreatDoor.ord l:=by
 rw [←h.ord]
 cases l.length - d.length with
 | zero=>rfl
 | succ n=>simp only [Xqa,XoA hn]
theorem Xp9 (l:List JA) (i:Int):(nds l i).length≤l.length:=by
 unfold nds
 split
 ·exact XoU ..
 ·exact Nat.zero_le _
def Xoe (l:List Int) (r:AV) (H':List Hp):Prop:=∃ad cap,r=.x (.slice ad l.length cap)∧H'=[.row ad l.length cap 3 1 (ia l)]
def Xm3 (l:List JA) (k:Nat):List AV:=(List.range l.length).map fun (j:Nat)=>if j < k then .sq (nds l (j:Int)).length (ia (nds l (j:Int))) else .x (.slice none 0 0)
def na (l:List JA):List AV:=(List.range l.length).map fun (j:Nat)=>.sq (nds l (j:Int)).length (ia (nds l (j:Int)))
@[simp] theorem Xud (l:List JA) (k:Nat):(Xm3 l k).length=l.length:=by simp [Xm3]
@[simp] theorem Xu9 (l:List JA):(na l).length=l.length:=by simp [na]
theorem Xm4 (l:List JA):List.replicate l.length (.x (.slice none 0 0))=Xm3 l 0:=by
 unfold Xm3
 apply List.ext_getElem?
 intro j
 by_cases h:j < l.length<;>simp [List.getElem?_replicate,h]
theorem XoT (l:List JA):Xm3 l l.length=na l:=by
 unfold Xm3 na
 apply List.map_congr_left
 intro j hj
 rw [if_pos (List.mem_range.1 hj)]
theorem XtL (l:List JA) (k:Nat) (h:k < l.length):spl (Xm3 l k) k [.sq (nds l k).length (ia (nds l k))]=Xm3 l (k+1):=by
 unfold spl
 have hs:=List.set_eq_take_append_cons_drop (l:=Xm3 l k) (i:=k) (a:=AV.sq (nds l k).length (ia (nds l k)))
 rw [if_pos (by simpa using h)] at hs
 rw [List.length_singleton,List.append_assoc,List.singleton_append,←hs]
 apply List.ext_getElem?
 intro j
 rw [List.getElem?_set]
 unfold Xm3
 by_cases hj:k=j
 ·subst hj;simp [h]
 ·by_cases hj2:j < l.length
  ·simp only [if_neg hj,List.getElem?_map,List.getElem?_range hj2,Option.map_some]
   by_cases h3:j < k
   ·rw [if_pos h3,if_pos (by omega)]
   ·rw [if_neg h3,if_neg (by omega)]
  ·rw [if_neg hj,List.getElem?_eq_none (by simp;omega),List.getElem?_eq_none (by simp;omega)]
theorem XgU (l:List JA) (hl:l.length≤1000000) (hm:∀j∈l,j.needs.length≤8796093022208):XaM Tryz.prog 37 [] [.sq l.length (ja l)] (fun r H'=>r=.sq l.length (na l)∧H'=[]):=by
 refine Xbs Tryz.func37 Tryz.ntmps37 ?_
 (have wx:=@Xm4;(repeat' (first|refine Wkx.go ?_|refine XaJ ?_|refine XaG ?_|(refine XaE (fun h=>?_) (fun h=>?_)<;>first|(exact absurd h (by decide))|(exfalso;omega;done)|skip)|refine XaF ?_|refine Xai ?_|(refine Xaa rfl ?_;(first|((refine XjL _ _ _ _ _ _ _ _ l.length l.length rfl XbJ.out rfl rfl rfl rfl (Nat.le_refl _) (Xmv _ _ (by omega) (by decide)) (fun b=>?_));refine XaO ?_)|refine Xax ?_|refine Xaw ?_|refine Xav (fun ad cap=>?_)|refine Xat (fun b=>?_)|refine Xas (fun b=>?_)|refine Xau (fun b=>?_)|fail))|fail)))<;>(try clear wx)
 refine XaA (S:=Nat) (fun k=>frm 21 [(0,.sq l.length (ja l)),(3,.x (.slice (some ⟨b,0,none⟩) l.length l.length)),(9,.x (.int .i64 l.length)),(10,.x (.int .i64 k))]) (fun k=>[.row (some ⟨b,0,none⟩) l.length l.length 45 1 (Xm3 l k)]) (fun k=>k≤l.length) (fun k=>l.length - k) 0 (XbQ (D:=[])) (Nat.zero_le _) fun k hk=>?_
 simp only [wfr]
 (have wx:=@XtL;(repeat' (first|refine Wkx.go ?_|refine XaJ ?_|refine XaG ?_|(refine XaE (fun h=>?_) (fun h=>?_)<;>first|(exact absurd h (by decide))|(exfalso;omega;done)|skip)|refine XaF ?_|refine Xai ?_ (h:=by first|exact fun _=>Xb3 rfl rfl Tryz.func72 (XgJ l _ hl hm)|fail)|refine Xai ?_|(refine Xaa rfl ?_;(first|((refine Xa5 Tryz.func72 ([]) rfl rfl (.refl _) (XgJ l _ hl hm) ?_;rintro _ _ ⟨rfl,rfl⟩);refine XaO ?_)|refine Xax ?_|refine Xaw ?_|refine Xav (fun ad cap=>?_)|refine Xat (fun b=>?_)|refine Xas (fun b=>?_)|refine Xau (fun b=>?_)|fail))|fail)))<;>(try clear wx)
 ·exact ⟨k+1,by omega,by omega,(XbQ (D:=[]))⟩
 ·obtain rfl:k=l.length:=by omega
  rw [XoT]
  refine Xab _ _ (Xa0 rfl (RV.tmp _) (Xaq.mk' [_] [] (Xvt _) Xap.nil (VwL.cons (Vw.row (List.Mem.head _) (VwL.refl _ _)) VwL.nil))) ?_
  exact ⟨rfl,rfl⟩
end Go.Proofs.YtdlblokjfoggpaaGreatDoor

import Derived.Test.YtdlblokjfoggpaaGreatDoorW7
import Derived.Test.YtdlblokjfoggpaaGreatDoorW15
import Derived.Test.YtdlblokjfoggpaaGreatDoorW8
import Derived.Test.YtdlblokjfoggpaaGreatDoorW10
import Derived.Test.YtdlblokjfoggpaaGreatDoorW12
import Derived.Test.YtdlblokjfoggpaaGreatDoorW14
/- slices.Reverse of bytes. -/
set_option linter.unusedSimpArgs false
set_option linter.unusedVariables false
set_option maxRecDepth 100000
set_option maxHeartbeats 8000000
namespace Go.Proofs.YtdlblokjfoggpaaGreatDoor
open Go.RowKit
attribute [local simp] XkB
theorem XfD (l:List UInt8) (k:Nat) (h:k < l.length):(u8a l).drop k=.x (.int .u8 ((l.getD k 0).toNat:Nat)) :: u8a (l.drop (k+1)):=by
 induction l generalizing k with
 | nil=>simp at h
 | cons a l ih=>
   rw [Xd6]
   cases k with
   | zero=>rfl
   | succ k=>simpa using ih k (by simpa using h)
theorem Xpn (l:List UInt8) (k:Nat) (b:UInt8) (h:k < l.length):spl (u8a l) k [.x (.int .u8 (b.toNat:Nat))]=u8a (l.set k b):=by
 induction l generalizing k with
 | nil=>simp at h
 | cons a l ih=>
   rw [Xd6]
   cases k with
   | zero=>rw [XyC,Xd6];simp [spl]
   | succ k=>rw [XyD,Xd6,Xlv,ih k (by simpa using h)]
theorem Xpo (l:List UInt8) (i:Nat) (c:UInt8) (k:Nat) (b:UInt8) (h:k < l.length):spl (u8a (l.set i c)) k [.x (.int .u8 (b.toNat:Nat))]=u8a ((l.set i c).set k b):=Xpn _ _ _ (by rw [List.length_set];exact h)
structure RvI (l:List UInt8) (i:Nat) (m:List UInt8):Prop where
 len:m.length=l.length
 le:2*i≤l.length
 get:∀k,k < l.length→m[k]?=if k < i∨l.length - i≤k then l[l.length - 1 - k]? else l[k]?
theorem RvI.start (l:List UInt8):RvI l 0 l:=⟨rfl,by omega,fun k hk=>by rw [if_neg (by omega)]⟩
theorem getD_some {m:List UInt8} {i:Nat} (h:i < m.length):some (m.getD i 0)=m[i]?:=by rw [List.getD_eq_getElem?_getD,List.getElem?_eq_getElem h];rfl
theorem RvI.next {l:List UInt8} {i:Nat} {m:List UInt8} (h:RvI l i m) (hi:i < l.length - 1 - i):RvI l (i+1) ((m.set i (m.getD (l.length - 1 - i) 0)).set (l.length - 1 - i) (m.getD i 0)):=by
 have hl:=h.len
 refine ⟨by simp [h.len],by omega,fun k hk=>?_⟩
 have hgi:=h.get i (by omega)
 have hgj:=h.get (l.length - 1 - i) (by omega)
 rw [if_neg (by omega)] at hgi hgj
 rw [List.getElem?_set,List.getElem?_set]
 simp only [List.length_set]
 by_cases e1:l.length - 1 - i=k
 ·subst e1
  rw [if_pos rfl,if_pos (by omega),if_pos (by omega),getD_some (by omega),hgi]
  congr 1;omega
 rw [if_neg e1]
 by_cases e2:i=k
 ·subst e2
  rw [if_pos rfl,if_pos (by omega),if_pos (by omega),getD_some (by omega),hgj]
 rw [if_neg e2,h.get k hk]
 by_cases c:k < i∨l.length - i≤k
 ·rw [if_pos c,if_pos (by omega)]
 ·rw [if_neg c,if_neg (by omega)]
theorem RvI.done {l:List UInt8} {i:Nat} {m:List UInt8} (h:RvI l i m) (hi:¬i < l.length - 1 - i):m=l.reverse:=by
 apply List.ext_getElem?
 intro k
 have hle:=h.le
 by_cases hk:k < l.length
 ·rw [h.get k hk,List.getElem?_reverse hk]
  split
  ·rfl
  ·congr 1;omega
 ·rw [List.getElem?_eq_none (by rw [h.len];omega),List.getElem?_eq_none (by simp;omega)]
theorem XxD (l:List UInt8) (ad:Option Addr) (cap:Nat) (hl:l.length≤1000000):Xay Tryz.prog 57 [.row ad l.length cap 5 1 (u8a l)] [.x (.slice ad l.length cap)] (fun r H'=>r=.x (.tuple #[])∧H'=[.row ad l.length cap 5 1 (u8a l.reverse)]):=by
 refine XaV Tryz.func57 Tryz.ntmps57 ?_
 (repeat' (first|refine Wkx.go ?_|refine Xad ?_|fail))
 refine Xah (S:=Nat × List UInt8) (fun s=>frm 28 [(0,.x (.slice ad l.length cap)),(2,.x (.int .i64 s.1)),(3,.x (.int .i64 ((l.length:Int) - 1 - s.1)))]) (fun s=>[.row ad l.length cap 5 1 (u8a s.2)]) (fun s=>RvI l s.1 s.2) (fun s=>l.length - s.1) (0,l) (XaX (D:=[])) (RvI.start l) fun s hs=>?_
 obtain ⟨i,m⟩:=s
 simp only at hs
 have hml:=hs.len
 have hle:=hs.le
 simp only [wfr]
 by_cases hlt:i < l.length - 1 - i
 ·have hnx:=hs.next hlt
  have hj:(l.length:Int) - 1 - (i:Int)=((l.length - 1 - i:Nat):Int):=by omega
  rw [hj]
  clear hs
  have hj:=Lib.hid hj
  obtain ⟨j,hjj⟩:∃j,l.length - 1 - i=j:=⟨_,rfl⟩
  simp only [hjj] at hnx hlt ⊢
  have hi2:i < m.length:=by omega
  have hj2:j < m.length:=by omega
  refine Xcl 0 rfl fun _ _ hd=>?_
  rcases hd with ⟨_,h0,_⟩|⟨g,rfl⟩
  ·omega
  (repeat' (first|refine Wkx.go ?_|(refine Xaz (fun h=>?_) (fun h=>?_)<;>first|(exfalso;omega;done)|skip)|refine Xad ?_|fail))
  refine Xbu mixed ?_
  (refine XfY 0 ?_;refine XfY 1 ?_;refine XfY 2 ?_;refine XfY 3 ?_;refine XfY 4 ?_;refine XfY 5 ?_;refine XfY 6 ?_;refine XfY 8 ?_;refine XfY 9 ?_;refine XfY 10 ?_)
  refine Xnq 7 11 (by decide +kernel) rfl rfl rfl rfl ?_ ?_
  ·(have wx:=@XfD;(first|refine Xd5 ?_|fail))<;>(try clear wx)
   (have wx:=@XfD;(refine Xd8 11 ?_;(first|refine Xd5 ?_|fail)))<;>(try clear wx)
   ((refine Xd8 12 ?_;(first|refine Xd5 ?_|fail));(have wx:=@Xpn;(refine Xd8 13 ?_;(first|refine Xg3 ?_|fail)))<;>(try clear wx);(refine Xd8 14 ?_;(first|refine Xd5 ?_|fail));(have wx:=@Xpo;(refine Xd8 15 ?_;(first|refine Xg3 ?_|fail)))<;>(try clear wx);refine Xao (by decide +kernel) ?_;(repeat' (first|refine Wkx.go ?_|refine Xad ?_|fail));exact ⟨(i+1,_),(by show l.length - (i+1) < l.length - i;omega),hnx,(XaX (D:=[]))⟩)
  ·(have wx:=@XfD;(first|refine Xd5 ?_|fail))<;>(try clear wx)
   (have wx:=@XfD;(refine Xd8 7 ?_;(first|refine Xd5 ?_|fail)))<;>(try clear wx)
   ((refine Xd8 12 ?_;(first|refine Xd5 ?_|fail));(have wx:=@Xpn;(refine Xd8 13 ?_;(first|refine Xg3 ?_|fail)))<;>(try clear wx);(refine Xd8 14 ?_;(first|refine Xd5 ?_|fail));(have wx:=@Xpo;(refine Xd8 15 ?_;(first|refine Xg3 ?_|fail)))<;>(try clear wx);refine Xao (by decide +kernel) ?_;(repeat' (first|refine Wkx.go ?_|refine Xad ?_|fail));exact ⟨(i+1,_),(by show l.length - (i+1) < l.length - i;omega),hnx,(XaX (D:=[]))⟩)
 ·have e:=hs.done hlt
  subst e
  (repeat' (first|refine Wkx.go ?_|(refine Xaz (fun h=>?_) (fun h=>?_)<;>first|(exfalso;omega;done)|skip)|refine Xad ?_|fail))
  refine XbF _ _ (Xfa rfl (Xaj.mk' [] [_] (Xyo _) (Xak.refl _ _) VwL.nil)) ⟨rfl,rfl⟩
theorem Xrz (l:List UInt8) (c:Nat):u8a l++[.x (.int .u8 (c % 256:Nat))]=u8a (l++[UInt8.ofNat c]):=by
 rw [Xpw,Xd6,Xpx];simp
theorem Xic (sn:SnL):∀(f:Nat) (p:Sp),(Xcw sn f p).length≤f
 | 0,_=>by simp [Xcw]
 | f+1,p=>by
   have:=Xic sn f (XpP sn p).from_
   rw [Xcw]
   split
   ·simp
   ·split<;>simp<;>omega
def TxI (sn:SnL) (R:List UInt8) (i:Nat) (o:Og) (acc:List UInt8):Prop:=∃p f,sn[i]?=some (p,o)∧i < f∧acc++Xcw sn f p=R
theorem TxI.done {n:Nat} {sn:SnL} (hn:XfF n sn) {R:List UInt8} {i:Nat} {o:Og} {acc:List UInt8} (h:TxI sn R i o acc) (hr:o.root=true):acc=R:=by
 obtain ⟨p,f,h1,h2,h3⟩:=h
 obtain ⟨f,rfl⟩:∃k,f=k+1:=⟨f - 1,by omega⟩
 have:=Xf8 hn h1
 simp only at this
 rw [Xcw] at h3
 simp only [this,hr,if_true,List.append_nil] at h3
 exact h3
theorem TxI.next {n:Nat} {sn:SnL} (hn:XfF n sn) {R:List UInt8} {i:Nat} {o:Og} {acc:List UInt8} (h:TxI sn R i o acc) (hr:o.root=false):∃j,j < i∧(∃y∈sn,y.1=o.from_)∧TxI sn R j (XpP sn o.from_) (acc++if o.over then [UInt8.ofNat o.c] else []):=by
 obtain ⟨p,f,h1,h2,h3⟩:=h
 obtain ⟨f,rfl⟩:∃k,f=k+1:=⟨f - 1,by omega⟩
 have h4:=Xf8 hn h1
 simp only at h4
 rw [Xcw] at h3
 simp only [h4,hr,Bool.false_eq_true,if_false] at h3
 rcases hn.chain i _ h1 with h5|⟨j,y,h5,h6,h7⟩
 ·simp only at h5;rw [hr] at h5;cases h5
 ·simp only at h7
  have h8:=Xf8 hn h6
  rw [h7] at h8
  refine ⟨j,h5,⟨y,List.mem_of_getElem? h6,h7⟩,o.from_,f,?_,by omega,by rw [List.append_assoc];exact h3⟩
  rw [h6,h8,←h7]
theorem TxI.len {n:Nat} {sn:SnL} (hn:XfF n sn) {R:List UInt8} {i:Nat} {o:Og} {acc:List UInt8} (h:TxI sn R i o acc):acc.length≤R.length:=by
 obtain ⟨p,f,h1,h2,h3⟩:=h
 rw [←h3];simp
theorem XqT (sb mb:Nat) (l:List Sx) (sn:SnL) (p:Sp) (hn:XfF l.length sn) (hl:l.length≤1000) (hp:∃y∈sn,y.1=p) :
  Xay Tryz.prog 28 [.box sb [.sq l.length (sxa l),.x (.map (some mb))],.map mb (snv sn)] [.x (.pointer (some ⟨sb,0,none⟩)),.x (.agg #[.int .i64 p.st,.bool p.bol,.bool p.eol])] (fun r H'=>∃ad' cap',r=.x (.slice ad' (Xcw sn (4*l.length+1) p).reverse.length cap')∧H'=[.box sb [.sq l.length (sxa l),.x (.map (some mb))],.map mb (snv sn),.row ad' (Xcw sn (4*l.length+1) p).reverse.length cap' 5 1 (u8a (Xcw sn (4*l.length+1) p).reverse)]):=by
 have hk:=Lib.hid (Xkz hn (by omega))
 have hq:=Lib.hid (Xjc p (by obtain ⟨y,hy,rfl⟩:=hp;have:=hn.st y hy;omega))
 have hit:=Xpi hn hp
 have hRl:=Xic sn (4*l.length+1) p
 obtain ⟨i0,hI⟩:∃i,TxI sn (Xcw sn (4*l.length+1) p) i (XpP sn p) []:=by
  obtain ⟨y,hy,rfl⟩:=hp
  obtain ⟨i,hi,hiy⟩:=List.getElem_of_mem hy
  have h1:sn[i]?=some y:=by rw [List.getElem?_eq_getElem hi,hiy]
  have:=hn.len
  exact ⟨i,y.1,4*l.length+1,by rw [Xf8 hn h1];exact h1,by omega,rfl⟩
 generalize Xcw sn (4*l.length+1) p=R at *
 generalize XpP sn p=o0 at *
 unfold Og.val at hit
 have hit:=Lib.hid hit
 refine XaV Tryz.func28 Tryz.ntmps28 ?_
 refine Xa3 5 1 ?_
 (repeat' (first|refine Wkx.go ?_|refine Xad ?_|(refine Xab rfl ?_;(refine Xd9 (fun b=>?_)))|fail))
 refine Xeq (B:=[_,.box sb _,.map mb _]) (R:=[.row none 0 0 _ _ []]) mixed [0,1,2,3,4,5] [] [7] (some 6) _ 1 (by (repeat' (first|exact Xyo _|refine XyE _ ?_|refine (XyB (l₁:=[_])).trans (XyE _ ?_)|fail))) (by decide +kernel) rfl (XeU rfl rfl rfl XbT.out rfl rfl) (by decide) ?_
 (repeat' (first|refine Xjh ?_ (h:=by ((intro hp;(try simp only [wgp] at hp);(try simp only [hp,wte]);(try simp only [whn] at hp));((try simp only [Xyz,Xyy]);exact Xxj Xhj hk.out hq.out hit.out)))|refine Xjh ?_|fail))
 (first|(refine Xqo (fun b=>?_))|fail);(refine Xd8 7 ?_;(first|refine Xbh ?_|fail));refine Xao (by decide +kernel) ?_
 (repeat' (first|refine Wkx.go ?_|fail))
 rename_i b0
 refine Xah (S:=Nat × Og × List UInt8 × Option Addr × Nat × Nat) (fun s=>frm 34 [(0,.x (.pointer (some ⟨sb,0,none⟩))),(5,.x (.slice s.2.2.2.1 s.2.2.1.length s.2.2.2.2.1)),(6,.x (.pointer (some ⟨s.2.2.2.2.2,0,none⟩)))])
  (fun s=>[.box s.2.2.2.2.2 [.x (.int .i64 s.2.1.from_.st),.x (.bool s.2.1.from_.bol),.x (.bool s.2.1.from_.eol),.x (.bool s.2.1.root),.x (.bool s.2.1.over),.x (.int .u8 (s.2.1.c % 256:Nat))],.box sb [.sq l.length (sxa l),.x (.map (some mb))],.map mb (snv sn),.row s.2.2.2.1 s.2.2.1.length s.2.2.2.2.1 5 1 (u8a s.2.2.1)]) (fun s=>TxI sn R s.1 s.2.1 s.2.2.1) (fun s=>s.1) (i0,o0,[],none,0,b) (Xaj.mk' [.box b0 _] [.box b _,.box sb _,.map mb _,.row none 0 0 _ _ []] (by (repeat' (first|exact Xyo _|refine XyE _ ?_|refine (XyB (l₁:=[_,_])).trans (XyE _ ?_)|fail))) (Xak.refl _ _) (by (repeat' (first|exact VwL.nil|(refine VwL.cons ?_ ?_)|exact Vw.refl _|exact Vw.top _|fail)))) hI fun s hs=>?_
 clear hI hit
 obtain ⟨i,o,acc,ad,cap,bo⟩:=s
 simp only at hs
 have hal:=hs.len hn
 simp only [wfr]
 cases hr:o.root with
 | true=>
   have e:=hs.done hn hr
   subst e
   clear hs
   have h9:=XxD acc ad cap (by omega)
   (repeat' (first|refine Wkx.go ?_|(refine Xaz (fun h=>?_) (fun h=>?_)<;>first|(exact absurd h (by decide))|skip)|refine Xad ?_|(refine Xab rfl ?_;((refine Xa7 Tryz.func57 [_] rfl rfl (XyB (l₁:=[_,_,_])) (h9) ?_;rintro _ _ ⟨rfl,rfl⟩);refine XaJ ?_))|fail))
   refine Xaa _ _ (XaF rfl (RV.tmp _) (Xaj.mk' [.box bo _] [.box sb _,.map mb _,.row _ _ _ _ _ _] (by (repeat' (first|exact Xyo _|refine (XyB (l₁:=[_])).trans (XyE _ ?_)|fail))) (Xak.refl _ _) (VwL.refl _ _))) ⟨ad,cap,?_,?_⟩
   ·rw [List.length_reverse];rfl
   ·rw [List.length_reverse]
 | false=>
   obtain ⟨j,hji,hpj,hnx⟩:=hs.next hn hr
   have hq2:=Lib.hid (Xjc o.from_ (by obtain ⟨y,hy,e⟩:=hpj;have:=hn.st y hy;rw [e] at this;omega))
   have hit2:=Xpi hn hpj
   generalize XpP sn o.from_=o' at *
   unfold Og.val at hit2
   have hit2:=Lib.hid hit2
   clear hs
   cases hov:o.over with
   | true=>
     rw [hov] at hnx
     simp only [if_true] at hnx
     have hpl:acc.length+1=(acc++[UInt8.ofNat o.c]).length:=by simp
     have hpl:=Lib.hid hpl
     (have wx:=And.intro @hpl.out @Xrz;(repeat' (first|refine Wkx.go ?_|(refine Xaz (fun h=>?_) (fun h=>?_)<;>first|(exact absurd h (by decide))|skip)|refine Xad ?_|(refine Xab rfl ?_;(first|refine Xbh ?_|refine XfK (fun ad cap=>?_)|refine Xb8 (fun b=>?_)|refine Xfr (fun b=>?_)))|fail)))<;>(try clear wx)
     refine Xeq (B:=[_,_,_,_,_,_]) (R:=[]) mixed [0,1,2,3,4,5,6] [] [7] none [] 1 (Xyo _) (by decide +kernel) rfl (fun i o h=>by cases h) (by decide) ?_
     (repeat' (first|refine Xjh ?_ (h:=by ((intro hp;(try simp only [wgp] at hp);(try simp only [hp,wte]);(try simp only [whn] at hp));((try simp only [Xyz,Xyy]);exact Xxj Xhj hk.out hq2.out hit2.out)))|refine Xjh ?_|fail))
     (first|refine XjQ ?_|fail);(refine Xd8 7 ?_;(first|refine Xbh ?_|fail));refine Xao (by decide +kernel) ?_
     exact ⟨(j,o',acc++[UInt8.ofNat o.c],_,_,_),hji,hnx,(Xaj.mk' [.row (some _) 1 1 _ _ _,.box bo _] [.box _ [_,_,_,_,_,_],.box sb _,.map mb _,.row _ (List.length (acc++_)) _ _ _ _] (by (repeat' (first|exact Xyo _|refine (XyB (l₁:=[_])).trans (XyE _ ?_)|fail))) (Xak.refl _ _) (by (repeat' (first|exact VwL.nil|(refine VwL.cons ?_ ?_)|exact Vw.refl _|exact Vw.top _|fail))))⟩
   | false=>
     rw [hov] at hnx
     simp only [Bool.false_eq_true,if_false,List.append_nil] at hnx
     (repeat' (first|refine Wkx.go ?_|(refine Xaz (fun h=>?_) (fun h=>?_)<;>first|(exact absurd h (by decide))|skip)|refine Xad ?_|(refine Xab rfl ?_;(first|refine Xbh ?_|refine Xb8 (fun b=>?_)))|fail))
     refine Xeq (B:=[_,_,_,_,_]) (R:=[]) mixed [0,1,2,3,4,5,6] [] [7] none [] 1 (Xyo _) (by decide +kernel) rfl (fun i o h=>by cases h) (by decide) ?_
     (repeat' (first|refine Xjh ?_ (h:=by ((intro hp;(try simp only [wgp] at hp);(try simp only [hp,wte]);(try simp only [whn] at hp));((try simp only [Xyz,Xyy]);exact Xxj Xhj hk.out hq2.out hit2.out)))|refine Xjh ?_|fail))
     (first|refine XjQ ?_|fail);(refine Xd8 7 ?_;(first|refine Xbh ?_|fail));refine Xao (by decide +kernel) ?_
     exact ⟨(j,o',acc,_,_,_),hji,hnx,(Xaj.mk' [.box bo _] [.box _ [_,_,_,_,_,_],.box sb _,.map mb _,.row _ _ _ _ _ _] (by (repeat' (first|exact Xyo _|refine (XyB (l₁:=[_])).trans (XyE _ ?_)|fail))) (Xak.refl _ _) (by (repeat' (first|exact VwL.nil|(refine VwL.cons ?_ ?_)|exact Vw.refl _|exact Vw.top _|fail))))⟩
def fiv (o:Option Nat):Int:=match o with|some k=>k|none => -1
theorem Xes {α:Type} {l:List α} (p:α→Bool) {k:Nat} (hk:k < l.length) (hn:∀j∈l.take k,p j=false) (h:p l[k]=true):fiv (l.findIdx? p)=k:=by
 have:l.findIdx? p=some k:=by
  rw [List.findIdx?_eq_some_iff_getElem]
  refine ⟨hk,h,fun j hj=>?_⟩
  have:=hn l[j] (List.mem_iff_getElem.2 ⟨j,by simp;omega,by simp⟩)
  simp [this]
 rw [this];rfl
theorem Xer {α:Type} {l:List α} (p:α→Bool) (hn:∀j∈l,p j=false):fiv (l.findIdx? p) = -1:=by
 have:l.findIdx? p=none:=by
  rw [List.findIdx?_eq_none_iff]
  intro j hj;simp [hn j hj]
 rw [this];rfl
theorem Xoc (l:List Sp) (H:List Hp) (g:Nat) (fn:Func) (cs:Array Value) (p:Sp→Bool) (hl:l.length≤1000000) (hf:Tryz.prog.funcs[g]?=some fn) (hnn:fn.name≠ "runtime.NumGoroutine") (hb:fn.body.isSome=true)
  (hp:∀j∈l,Xay Tryz.prog g H (.x j.val :: cs.toList.map .x) (fun r H'=>r=.x (.bool (p j))∧H'=H)) :
  Xay Tryz.prog 55 H [.sq l.length (spa l),.x (.func (.func g) #[] cs)] (fun r H'=>r=.x (.int .i64 (fiv (l.findIdx? p)))∧H'=H):=by
 unfold Sp.val at hp
 have hp:=Lib.hid hp
 refine XaV Tryz.func55 Tryz.ntmps55 ?_
 (repeat' (first|refine Wkx.go ?_|refine Xad ?_|fail))
 refine Xah (S:=Nat) (fun k=>frm 19 [(0,.sq l.length (spa l)),(1,.x (.func (.func g) #[] cs)),(7,.x (.int .i64 l.length)),(8,.x (.int .i64 k))]) (fun _=>H) (fun k=>k≤l.length∧∀j∈l.take k,p j=false) (fun k=>l.length - k) 0 (XaX (D:=[])) ⟨Nat.zero_le _,by simp⟩ fun k hk=>?_
 simp only [wfr]
 obtain ⟨hk,hn⟩:=hk
 have hn:=Lib.hid hn
 (have wx:=And.intro @Xlu @Sp.cells.eq_1;(repeat' (first|refine Wkx.go ?_|(refine Xaz (fun h=>?_) (fun h=>?_)<;>skip)|refine Xad ?_|(refine Xab rfl ?_;((refine Xau g fn H [] _ _ rfl rfl hf hnn hb (by simp) (VwL.refl _ _) (hp.out l[k] (List.getElem_mem h)) ?_;rintro _ _ ⟨rfl,rfl⟩);refine XaJ ?_))|fail)))<;>(try clear wx)
 ·refine Xaa _ _ (XaF rfl (RV.tmp _) (XcS (D:=[]))) ?_
  exact ⟨by rw [Xes p (by assumption) hn.out h];rfl,rfl⟩
 ·exact ⟨k+1,by omega,⟨by omega,by rw [XbA l k (by assumption)];intro j hj;simp only [List.mem_append,List.mem_singleton] at hj;rcases hj with hj|rfl;exact hn.out j hj;exact h⟩,(XaX (D:=[]))⟩
 ·refine Xaa _ _ (XaF rfl (RV.tmp _) (XcS (D:=[]))) ?_
  have hn:=hn.out
  rw [List.take_of_length_le (by omega)] at hn
  exact ⟨by rw [Xer p hn];rfl,rfl⟩
theorem XqO (bp be sb:Nat) (l:List Sx) (rest:List AV) (s:Sp) (e:Bool) (hl:l.length≤1000) (hs:s.st < l.length):Xay Tryz.prog 56 [.box bp [.x (.pointer (some ⟨sb,0,none⟩))],.box be [.x (.bool e)],.box sb (.sq l.length (sxa l) :: rest)] [.x s.val,.x (.pointer (some ⟨bp,0,none⟩)),.x (.pointer (some ⟨be,0,none⟩))] (fun r H'=>r=.x (.bool ((l.getD s.st default).kind == 5 && s.eol == e))∧H'=[.box bp [.x (.pointer (some ⟨sb,0,none⟩))],.box be [.x (.bool e)],.box sb (.sq l.length (sxa l) :: rest)]):=by
 have hg:l.getD s.st default=l[s.st]:=by rw [List.getD_eq_getElem?_getD,List.getElem?_eq_getElem hs];rfl
 rw [hg]
 unfold Sp.val
 refine XaV Tryz.func56 Tryz.ntmps56 ?_
 (have wx:=And.intro @Xia @Sx.cells.eq_1;(repeat' (first|refine Wkx.go ?_|refine Xc4 ?_|refine Xad ?_|(refine Xab rfl ?_;(refine Xd9 (fun b=>?_)))|fail)))<;>(try clear wx)
 refine Xaa _ _ (XaF rfl (RV.tmp _) (Xaj.mk' [_] [_,_,_] (Xyo _) (Xak.refl _ _) (VwL.refl _ _))) ⟨?_,rfl⟩
 refine congrArg (fun q=>AV.x (.bool q)) ?_
 have h5:(((l[s.st].kind:Nat):Int) == 5)=(l[s.st].kind == 5):=by rw [Bool.eq_iff_iff];simp;omega
 rw [h5]
def mtF (l:List Sx) (e:Bool) (s:Sp):Bool:=(l.getD s.st default).kind == 5 && s.eol == e
theorem XtT (sb:Nat) (l:List Sx) (rest:List AV) (q:List Sp) (e:Bool) (hl:l.length≤1000) (hq:q.length≤1000000) (hs:∀s∈q,s.st < l.length):Xay Tryz.prog 27 [.box sb (.sq l.length (sxa l) :: rest)] [.x (.pointer (some ⟨sb,0,none⟩)),.sq q.length (spa q),.x (.bool e)] (fun r H'=>r=.x (.int .i64 (fiv (q.findIdx? (mtF l e))))∧H'=[.box sb (.sq l.length (sxa l) :: rest)]):=by
 refine XaV Tryz.func27 Tryz.ntmps27 ?_
 (repeat' (first|refine Wkx.go ?_|refine Xad ?_|(refine Xab rfl ?_;(first|((refine Xau 55 _ [_,_,_] [] _ _ rfl rfl Tryz.func55 (by decide) rfl (by (repeat' (first|exact Xyo _|refine XyE _ ?_|refine (XyB (l₁:=[_])).trans (XyE _ ?_)|fail))) (VwL.refl _ _) (Xoc q [.box _ [.x (.pointer (some ⟨sb,0,none⟩))],.box _ [.x (.bool e)],.box sb (.sq l.length (sxa l) :: rest)] 56 _ #[.pointer (some ⟨_,0,none⟩),.pointer (some ⟨_,0,none⟩)] (mtF l e) hq Tryz.func56 (by decide) rfl (fun j hj=>XqO _ _ sb l rest j e hl (hs j hj))) ?_;rintro _ _ ⟨rfl,rfl⟩);refine XaJ ?_)|refine Xd9 (fun b=>?_)))|fail))
 refine Xaa _ _ (XaF rfl (RV.tmp _) (Xaj.mk' [.box _ [.x (.pointer _)],.box _ [.x (.bool _)]] [.box sb _] (Xyo _) (Xak.refl _ _) (VwL.refl _ _))) ⟨rfl,rfl⟩
theorem Xb1 (l:List Nd) (k:Nat) (h:k < l.length):(nda l).drop (k*7)=l[k].cells++nda (l.drop (k+1)):=by
 induction l generalizing k with
 | nil=>simp at h
 | cons a l ih=>
   have e:nda (a :: l)=a.cells++nda l:=by simp [nda]
   cases k with
   | zero=>simp [e]
   | succ k=>
     rw [e,show (k+1)*7=a.cells.length+k*7 by simp [Nd.cells];omega,List.drop_append]
     simp only [XyA,Nat.add_sub_cancel_left]
     rw [List.drop_eq_nil_of_le (by omega),Xyy,ih k (by simpa using h)]
     simp
theorem Xu6 (bb:Nat) (l:List Nd) (ss:List Sx) (ad:Option Addr) (cap:Nat) (n:Sx) (hn:ss.length≤1000):Xay Tryz.prog 22 [.box bb [.sq l.length (nda l),.x (.slice ad (ss).length cap)],.row ad (ss).length cap 76 7 (sxa (ss))] [.x (.pointer (some ⟨bb,0,none⟩)),.x n.val] (fun r H'=>∃g cap',r=.x (.int .i64 ss.length)∧H'=[.box bb [.sq l.length (nda l),.x (.slice (some ⟨g,0,none⟩) (ss++[n]).length cap')],.row (some ⟨g,0,none⟩) (ss++[n]).length cap' 76 7 (sxa (ss++[n]))]):=by
 unfold Sx.val
 refine XaV Tryz.func22 Tryz.ntmps22 ?_
 (repeat' (first|refine Wkx.go ?_|refine Xad ?_|(refine Xab rfl ?_;(refine Xd9 (fun b=>?_)))|fail))
 refine XaE mixed [10] [_,_] [_] (Xyo _) ?_
 ((first|refine XbQ 0 ?_|fail);(first|refine XbQ 1 ?_|fail);(first|refine XbQ 2 ?_|fail);(first|refine XbQ 3 ?_|fail);(first|refine Xdr 4 ?_|fail);(first|refine Xdr 5 ?_|fail))
 (refine XcV 6 ?_;(first|refine Xfr (fun b=>?_)|fail))
 (refine XcV 7 ?_;(first|refine XfK (fun ad cap=>?_)|fail))
 (repeat ((first|refine XcV 8 ?_|refine XcV 9 ?_|fail);(first|refine Xd5 ?_|fail)))
 refine XaG (by decide +kernel) ?_
 refine Xai rfl (by simp only [Xyz,Xyy];rfl) ?_
 (refine Xd8 10 ?_;(first|refine Xbh ?_|fail))
 refine Xao (by decide +kernel) ?_
 refine Xcl 3 rfl fun _ _ hd=>?_
 rcases hd with ⟨_,h0,_⟩|⟨g,rfl⟩
 ·omega
 (repeat' (first|refine Wkx.go ?_|refine Xad ?_|fail))
 refine Xaa _ _ (XaF rfl (RV.tmp _) (Xaj.mk' [.box _ _,.row (some ⟨b,_,_⟩) 1 1 _ _ _] [.box bb _,.row (some ⟨g,_,_⟩) _ cap _ _ _] (by (repeat' (first|exact Xyo _|refine XyE _ ?_|refine (XyB (l₁:=[_])).trans (XyE _ ?_)|fail))) (Xak.refl _ _) (VwL.refl _ _))) ⟨g,cap,rfl,?_⟩
 simp only [←XuP,XyA,Xyr,Xyu]
 rfl
theorem Xig (n:Nat):w4 n=[.x (.int .u64 (wd n 0:Nat)),.x (.int .u64 (wd n 1:Nat)),.x (.int .u64 (wd n 2:Nat)),.x (.int .u64 (wd n 3:Nat))]:=rfl
theorem XpV (bb:Nat) (l:List Nd):RowKit.Hid (∀(ss:List Sx) (ad:Option Addr) (cap:Nat) (kd o r set:Nat) (a b c d e f g:Int),a=(kd:Int)→b=(o:Int)→c=(r:Int)→d=(wd set 0:Nat)→e=(wd set 1:Nat)→f=(wd set 2:Nat)→g=(wd set 3:Nat)→ss.length≤1000 →
  Xay Tryz.prog 22 [.box bb [.sq l.length (nda l),.x (.slice ad (ss).length cap)],.row ad (ss).length cap 76 7 (sxa (ss))] [.x (.pointer (some ⟨bb,0,none⟩)),.x (.agg #[.int .i64 a,.int .i64 b,.int .i64 c,.int .u64 d,.int .u64 e,.int .u64 f,.int .u64 g])] (fun r' H'=>∃g cap',r'=.x (.int .i64 ss.length)∧H'=[.box bb [.sq l.length (nda l),.x (.slice (some ⟨g,0,none⟩) (ss++[(⟨kd,o,r,set⟩:Sx)]).length cap')],.row (some ⟨g,0,none⟩) (ss++[(⟨kd,o,r,set⟩:Sx)]).length cap' 76 7 (sxa (ss++[(⟨kd,o,r,set⟩:Sx)]))])):=
 Lib.hid fun ss ad cap kd o r set a b c d e f g h1 h2 h3 h4 h5 h6 h7 h=>by
  subst h1 h2 h3 h4 h5 h6 h7
  exact Xu6 bb l ss ad cap ⟨kd,o,r,set⟩ h
def XsS (l:List Nd) (k m:Nat):Prop:=∀(bb:Nat) (ss:List Sx) (next g cap n:Nat),k < n→next < ss.length→ss.length+m≤600 →
 Xay Tryz.prog 23 [.box bb [.sq l.length (nda l),.x (.slice (some ⟨g,0,none⟩) (ss).length cap)],.row (some ⟨g,0,none⟩) (ss).length cap 76 7 (sxa (ss))] [.x (.pointer (some ⟨bb,0,none⟩)),.x (.int .i64 k),.x (.int .i64 next)] (fun r' H'=>∃g cap',r'=.x (.int .i64 ((bld n l ss k next).1:Nat))∧H'=[.box bb [.sq l.length (nda l),.x (.slice (some ⟨g,0,none⟩) ((bld n l ss k next).2).length cap')],.row (some ⟨g,0,none⟩) ((bld n l ss k next).2).length cap' 76 7 (sxa ((bld n l ss k next).2))])
theorem XvW (l:List Nd) (hl:l.length≤256) (k:Nat) (hk:k < l.length) (h0:XcO (l.getD k default).kind=some 0):XsS l k 1:=by
 intro bb ss next g cap n hn hx hb
 obtain ⟨n,rfl⟩:∃q,n=q+1:=⟨n - 1,by omega⟩
 rw [Xcu]
 have hg:l.getD k default=l[k]:=by rw [List.getD_eq_getElem?_getD,List.getElem?_eq_getElem hk];rfl
 rw [hg] at h0 ⊢
 have hA:=XpV bb l
 have h0:=Xmw h0
 refine XaV Tryz.func23 Tryz.ntmps23 ?_
 rcases h0 with e|e|e|e
 ·simp only [e,reduceCtorEq,Nat.reduceEqDiff,if_true,if_false,or_false]
  (have wx:=And.intro @Xb1 (And.intro @Nd.cells.eq_1 (And.intro @Xig @Xbr));(repeat' (first|refine Wkx.go ?_|(refine Xaz (fun h=>?_) (fun h=>?_)<;>first|(exfalso;omega;done)|skip)|refine Xad ?_|(refine Xab rfl ?_;(first|refine Xbh ?_|refine Xb8 (fun b=>?_)))|fail)))<;>(try clear wx)
  first|refine Xaa _ _ (XaF rfl (RV.tmp _) (Xaj.mk' [.box _ _] [.box bb _,.row (some ⟨g,_,_⟩) _ cap _ _ _] (Xyo _) (Xak.refl _ _) (VwL.refl _ _))) ⟨g,cap,?_,?_⟩|fail
  all_goals (first|rfl|fail)
 ·simp only [e,reduceCtorEq,Nat.reduceEqDiff,if_true,if_false,or_false]
  (have wx:=And.intro @Xb1 (And.intro @Nd.cells.eq_1 (And.intro @Xig @Xbr));(repeat' (first|refine Wkx.go ?_|(refine Xaz (fun h=>?_) (fun h=>?_)<;>first|(exfalso;omega;done)|skip)|refine Xad ?_|(refine Xab rfl ?_;(first|((refine Xau 22 Tryz.f22 [_,_] _ _ _ rfl rfl Tryz.func22 (by decide) rfl (List.perm_append_comm (l₁:=[_]) (l₂:=[_,_])) (VwL.refl _ _) (hA.out ss _ _ 1 next 0 l[k].set _ _ _ _ _ _ _ rfl rfl rfl rfl rfl rfl rfl (by omega)) ?_;rintro _ _ ⟨g,cap,rfl,rfl⟩);refine XaJ ?_)|refine Xbh ?_|refine Xb8 (fun b=>?_)))|fail)))<;>(try clear wx)
  first|refine Xaa _ _ (XaF rfl (RV.tmp _) (Xaj.mk' [.box _ _] [.box bb _,.row (some ⟨g,_,_⟩) _ cap _ _ _] (List.perm_append_comm (l₁:=[_,_]) (l₂:=[_])) (Xak.refl _ _) (VwL.refl _ _))) ⟨g,cap,?_,?_⟩|fail
  all_goals (first|rfl|fail)
 ·simp only [e,reduceCtorEq,Nat.reduceEqDiff,if_true,if_false,or_false]
  (have wx:=And.intro @Xb1 (And.intro @Nd.cells.eq_1 (And.intro @Xig @Xbr));(repeat' (first|refine Wkx.go ?_|(refine Xaz (fun h=>?_) (fun h=>?_)<;>first|(exfalso;omega;done)|skip)|refine Xad ?_|(refine Xab rfl ?_;(first|((refine Xau 22 Tryz.f22 [_,_] _ _ _ rfl rfl Tryz.func22 (by decide) rfl (List.perm_append_comm (l₁:=[_]) (l₂:=[_,_])) (VwL.refl _ _) (hA.out ss _ _ 3 next 0 0 _ _ _ _ _ _ _ rfl rfl rfl (by rw [XaU];rfl) (by rw [XaU];rfl) (by rw [XaU];rfl) (by rw [XaU];rfl) (by omega)) ?_;rintro _ _ ⟨g,cap,rfl,rfl⟩);refine XaJ ?_)|refine Xbh ?_|refine Xb8 (fun b=>?_)))|fail)))<;>(try clear wx)
  first|refine Xaa _ _ (XaF rfl (RV.tmp _) (Xaj.mk' [.box _ _] [.box bb _,.row (some ⟨g,_,_⟩) _ cap _ _ _] (List.perm_append_comm (l₁:=[_,_]) (l₂:=[_])) (Xak.refl _ _) (VwL.refl _ _))) ⟨g,cap,?_,?_⟩|fail
  all_goals (first|rfl|fail)
 ·simp only [e,reduceCtorEq,Nat.reduceEqDiff,if_true,if_false,or_false]
  (have wx:=And.intro @Xb1 (And.intro @Nd.cells.eq_1 (And.intro @Xig @Xbr));(repeat' (first|refine Wkx.go ?_|(refine Xaz (fun h=>?_) (fun h=>?_)<;>first|(exfalso;omega;done)|skip)|refine Xad ?_|(refine Xab rfl ?_;(first|((refine Xau 22 Tryz.f22 [_,_] _ _ _ rfl rfl Tryz.func22 (by decide) rfl (List.perm_append_comm (l₁:=[_]) (l₂:=[_,_])) (VwL.refl _ _) (hA.out ss _ _ 4 next 0 0 _ _ _ _ _ _ _ rfl rfl rfl (by rw [XaU];rfl) (by rw [XaU];rfl) (by rw [XaU];rfl) (by rw [XaU];rfl) (by omega)) ?_;rintro _ _ ⟨g,cap,rfl,rfl⟩);refine XaJ ?_)|refine Xbh ?_|refine Xb8 (fun b=>?_)))|fail)))<;>(try clear wx)
  first|refine Xaa _ _ (XaF rfl (RV.tmp _) (Xaj.mk' [.box _ _] [.box bb _,.row (some ⟨g,_,_⟩) _ cap _ _ _] (List.perm_append_comm (l₁:=[_,_]) (l₂:=[_])) (Xak.refl _ _) (VwL.refl _ _))) ⟨g,cap,?_,?_⟩|fail
  all_goals (first|rfl|fail)
theorem Xnw {l:List Nd} {k m:Nat} (h:Xht l k m):∀(n:Nat) (ss:List Sx) (next:Nat),k < n→∃t,(bld n l ss k next).2=ss++t:=by
 induction h with
 | leaf k hk=>
   intro n ss next hn
   obtain ⟨n,rfl⟩:∃q,n=q+1:=⟨n - 1,by omega⟩
   rw [Xcu]
   rcases Xmw hk with e|e|e|e<;>simp only [e,reduceCtorEq,Nat.reduceEqDiff,if_true,if_false,or_false]
   ·exact ⟨[],by simp⟩
   ·exact ⟨_,rfl⟩
   ·exact ⟨_,rfl⟩
   ·exact ⟨_,rfl⟩
 | one k m hk hl _ ih=>
   intro n ss next hn
   obtain ⟨n,rfl⟩:∃q,n=q+1:=⟨n - 1,by omega⟩
   rw [Xcu]
   obtain ⟨t1,e1⟩:=ih n ss next (by omega)
   obtain ⟨t2,e2⟩:=ih n (ss++[⟨2,0,next,0⟩]) ss.length (by omega)
   rcases Xmx hk with e|e|e<;>simp only [e,reduceCtorEq,Nat.reduceEqDiff,if_true,if_false,or_false,or_true]
   ·rw [e2,List.append_assoc];exact ⟨_,List.set_append_right _ _ (Nat.le_refl _)⟩
   ·rw [e2,List.append_assoc];exact ⟨_,List.set_append_right _ _ (Nat.le_refl _)⟩
   ·exact ⟨_,by rw [e1,List.append_assoc]⟩
 | two k m n hk hl hr _ _ ih1 ih2=>
   intro q ss next hn
   obtain ⟨q,rfl⟩:∃p,q=p+1:=⟨q - 1,by omega⟩
   rw [Xcu]
   rcases Xmy hk with e|e
   ·obtain ⟨t1,e1⟩:=ih2 q ss next (by omega)
    obtain ⟨t2,e2⟩:=ih1 q (bld q l ss (l.getD k default).right next).2 (bld q l ss (l.getD k default).right next).1 (by omega)
    simp only [e,reduceCtorEq,Nat.reduceEqDiff,if_true,if_false]
    exact ⟨_,by rw [e2,e1,List.append_assoc]⟩
   ·obtain ⟨t1,e1⟩:=ih1 q ss next (by omega)
    obtain ⟨t2,e2⟩:=ih2 q (bld q l ss (l.getD k default).left next).2 next (by omega)
    simp only [e,reduceCtorEq,Nat.reduceEqDiff,if_true,if_false]
    exact ⟨_,by rw [e2,e1,List.append_assoc,List.append_assoc]⟩
theorem XgK (l:List Sx) (k v:Nat) (h:k < l.length):spl (sxa l) (k*7+1) [.x (.int .i64 (v:Nat))]=sxa (l.set k { l[k] with out:=v }):=by
 induction l generalizing k with
 | nil=>simp at h
 | cons a l ih=>
   have e:∀(x:Sx) (y:List Sx),sxa (x :: y)=x.cells++sxa y:=fun x y=>by simp [sxa]
   cases k with
   | zero=>rw [XyC,e,e];simp [spl,Sx.cells]
   | succ k=>
     have h':k < l.length:=by simpa using h
     rw [XyD,e,e]
     have i:=ih k h'
     simp only [List.getElem_cons_succ]
     rw [←i]
     have c7:a.cells.length=7:=by simp [Sx.cells]
     unfold spl
     rw [show (k+1)*7+1=a.cells.length+(k*7+1) by omega,List.take_length_add_append,Nat.add_assoc,List.drop_length_add_append]
     simp only [List.append_assoc]
theorem Xt1 (l:List Nd) (hl:l.length≤256) (k m:Nat) (hk:k < l.length) (h0:XcO (l.getD k default).kind=some 1) (hlt:(l.getD k default).left < k) (ht:Xht l (l.getD k default).left m) (ih:XsS l (l.getD k default).left m):XsS l k (m+1):=by
 intro bb ss next g cap n hn hx hb
 obtain ⟨n,rfl⟩:∃q,n=q+1:=⟨n - 1,by omega⟩
 rw [Xcu]
 have hg:l.getD k default=l[k]:=by rw [List.getD_eq_getElem?_getD,List.getElem?_eq_getElem hk];rfl
 rw [hg] at h0 hlt ht ih ⊢
 have hA:=XpV bb l
 have h0:=Xmx h0
 refine XaV Tryz.func23 Tryz.ntmps23 ?_
 by_cases h7:l[k].kind=7
 ·simp only [h7,reduceCtorEq,Nat.reduceEqDiff,if_true,if_false,or_false]
  have hc:=ih bb ss next g cap n (by omega) hx (by omega)
  have hb2:=Xbm ht n ss next (by omega) hx
  generalize bld n l ss l[k].left next=A at *
  obtain ⟨a1,ass⟩:=A
  simp only at hc hb2
  have hc:=Lib.hid hc
  clear ih ht
  (have wx:=And.intro @Xb1 (And.intro @Nd.cells.eq_1 (And.intro @Xig @Xbr));(repeat' (first|refine Wkx.go ?_|(refine Xaz (fun h=>?_) (fun h=>?_)<;>first|(exfalso;omega;done)|skip)|refine Xad ?_|(refine Xab rfl ?_;(first|((refine Xau 23 Tryz.f23 [_,_] _ _ _ rfl rfl Tryz.func23 (by decide) rfl (List.perm_append_comm (l₁:=[_]) (l₂:=[_,_])) (VwL.refl _ _) (hc.out) ?_;rintro _ _ ⟨g,cap,rfl,rfl⟩);refine XaJ ?_)|((refine Xau 22 Tryz.f22 [_,_] _ _ _ rfl rfl Tryz.func22 (by decide) rfl (Xyo _) (VwL.refl _ _) (hA.out ass _ _ 2 a1 next 0 _ _ _ _ _ _ _ rfl rfl rfl (by rw [XaU];rfl) (by rw [XaU];rfl) (by rw [XaU];rfl) (by rw [XaU];rfl) (by omega)) ?_;rintro _ _ ⟨g,cap,rfl,rfl⟩);refine XaJ ?_)|refine Xbh ?_|refine Xb8 (fun b=>?_)))|fail)))<;>(try clear wx)
  first|refine Xaa _ _ (XaF rfl (RV.tmp _) (Xaj.mk' [.box _ _] [.box bb _,.row (some ⟨g,_,_⟩) _ cap _ _ _] (List.perm_append_comm (l₁:=[_,_]) (l₂:=[_])) (Xak.refl _ _) (VwL.refl _ _))) ⟨g,cap,?_,?_⟩|fail
  ·rfl
  ·rfl
 ·have h56:l[k].kind=5∨l[k].kind=6:=by omega
  simp only [show l[k].kind≠2 from by omega,show l[k].kind≠8 from by omega,show l[k].kind≠9 from by omega,show l[k].kind≠3 from by omega,show l[k].kind≠4 from by omega,h7,h56,if_true,if_false]
  have hc:=fun g cap=>ih bb (ss++[⟨2,0,next,0⟩]) ss.length g cap n (by omega) (by simp) (by simp;omega)
  have hb2:=Xbm ht n (ss++[⟨2,0,next,0⟩]) ss.length (by omega) (by simp)
  obtain ⟨t,hpre⟩:=Xnw ht n (ss++[⟨2,0,next,0⟩]) ss.length (by omega)
  generalize bld n l (ss++[⟨2,0,next,0⟩]) l[k].left ss.length=A at *
  obtain ⟨a1,ass⟩:=A
  simp only [XyA,List.length_singleton] at hb2
  simp only at hc hb2 hpre ⊢
  have hc:=Lib.hid hc
  clear ih ht
  (have wx:=And.intro @Xb1 (And.intro @Nd.cells.eq_1 (And.intro @Xig @Xbr));(repeat' (first|refine Wkx.go ?_|(refine Xaz (fun h=>?_) (fun h=>?_)<;>first|(exfalso;omega;done)|skip)|refine Xad ?_|(refine Xab rfl ?_;(first|((refine Xau 22 Tryz.f22 [_,_] _ _ _ rfl rfl Tryz.func22 (by decide) rfl (List.perm_append_comm (l₁:=[_]) (l₂:=[_,_])) (VwL.refl _ _) (hA.out ss _ _ 2 0 next 0 _ _ _ _ _ _ _ rfl rfl rfl (by rw [XaU];rfl) (by rw [XaU];rfl) (by rw [XaU];rfl) (by rw [XaU];rfl) (by omega)) ?_;rintro _ _ ⟨g,cap,rfl,rfl⟩);refine XaJ ?_)|((refine Xau 23 Tryz.f23 [_,_] _ _ _ rfl rfl Tryz.func23 (by decide) rfl (Xyo _) (VwL.refl _ _) (hc.out _ _) ?_;rintro _ _ ⟨g,cap,rfl,rfl⟩);refine XaJ ?_)|refine Xbh ?_|refine Xg3 ?_|refine Xb8 (fun b=>?_)))|fail)))<;>(try clear wx)
  all_goals
   have hlen:ss.length < ass.length:=by omega
   have hat:ass[ss.length]=⟨2,0,next,0⟩:=by
    have h9:ass[ss.length]?=some ⟨2,0,next,0⟩:=by rw [hpre];simp
    exact (List.getElem?_eq_some_iff.1 h9).2
   have hsp:spl (sxa ass) (ss.length*7+1) [.x (.int .i64 (a1:Nat))]=sxa (ass.set ss.length ⟨2,a1,next,0⟩):=by rw [XgK _ _ _ hlen,hat]
   rw [hsp]
   first|refine Xaa _ _ (XaF rfl (RV.tmp _) (Xaj.mk' [.box _ _] [.box bb _,.row (some ⟨g,_,_⟩) _ cap _ _ _] (List.perm_append_comm (l₁:=[_,_]) (l₂:=[_])) (Xak.refl _ _) (VwL.refl _ _))) ⟨g,cap,?_,?_⟩|fail
   ·first|(rw [if_pos (by omega)];rfl)|(rw [if_neg (by omega)];rfl)|fail
   ·simp only [List.length_set]
end Go.Proofs.YtdlblokjfoggpaaGreatDoor

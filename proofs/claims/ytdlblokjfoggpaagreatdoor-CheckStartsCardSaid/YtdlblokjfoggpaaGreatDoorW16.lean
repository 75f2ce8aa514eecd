import Derived.Test.YtdlblokjfoggpaaGreatDoorW7
import Derived.Test.YtdlblokjfoggpaaGreatDoorW12
import Derived.Test.YtdlblokjfoggpaaGreatDoorW15
import Derived.Test.YtdlblokjfoggpaaGreatDoorW10
import Derived.Test.YtdlblokjfoggpaaGreatDoorW13
import Derived.Test.YtdlblokjfoggpaaGreatDoorW11
import Derived.Test.YtdlblokjfoggpaaGreatDoorW14
/- The search: text. -/
set_option linter.unusedSimpArgs false
set_option linter.unusedVariables false
set_option maxRecDepth 100000
set_option maxHeartbeats 8000000
namespace Go.Proofs.YtdlblokjfoggpaaGreatDoor
open Go.RowKit
theorem Xpz (l:List UInt8) (c:Nat):u8a l++[.x (.int .u8 (c % 256:Nat))]=u8a (l++[UInt8.ofNat c]):=by
 rw [XnT,XdX,XnU];simp
theorem Xhn (sn:SnL):∀(f:Nat) (p:Sp),(Xcv sn f p).length≤f
 | 0,_=>by simp [Xcv]
 | f+1,p=>by
   have:=Xhn sn f (Xn7 sn p).from_
   rw [Xcv]
   split
   ·simp
   ·split<;>simp<;>omega
def TxI (sn:SnL) (R:List UInt8) (i:Nat) (o:Og) (acc:List UInt8):Prop:=∃p f,sn[i]?=some (p,o)∧i < f∧acc++Xcv sn f p=R
theorem TxI.done {n:Nat} {sn:SnL} (hn:Xfv n sn) {R:List UInt8} {i:Nat} {o:Og} {acc:List UInt8} (h:TxI sn R i o acc) (hr:o.root=true):acc=R:=by
 obtain ⟨p,f,h1,h2,h3⟩:=h
 obtain ⟨f,rfl⟩:∃k,f=k+1:=⟨f - 1,by omega⟩
 have:=XfK hn h1
 simp only at this
 rw [Xcv] at h3
 simp only [this,hr,if_true,List.append_nil] at h3
 exact h3
theorem TxI.next {n:Nat} {sn:SnL} (hn:Xfv n sn) {R:List UInt8} {i:Nat} {o:Og} {acc:List UInt8} (h:TxI sn R i o acc) (hr:o.root=false):∃j,j < i∧(∃y∈sn,y.1=o.from_)∧TxI sn R j (Xn7 sn o.from_) (acc++if o.over then [UInt8.ofNat o.c] else []):=by
 obtain ⟨p,f,h1,h2,h3⟩:=h
 obtain ⟨f,rfl⟩:∃k,f=k+1:=⟨f - 1,by omega⟩
 have h4:=XfK hn h1
 simp only at h4
 rw [Xcv] at h3
 simp only [h4,hr,Bool.false_eq_true,if_false] at h3
 rcases hn.chain i _ h1 with h5|⟨j,y,h5,h6,h7⟩
 ·simp only at h5;rw [hr] at h5;cases h5
 ·simp only at h7
  have h8:=XfK hn h6
  rw [h7] at h8
  refine ⟨j,h5,⟨y,List.mem_of_getElem? h6,h7⟩,o.from_,f,?_,by omega,by rw [List.append_assoc];exact h3⟩
  rw [h6,h8,←h7]
theorem TxI.len {n:Nat} {sn:SnL} (hn:Xfv n sn) {R:List UInt8} {i:Nat} {o:Og} {acc:List UInt8} (h:TxI sn R i o acc):acc.length≤R.length:=by
 obtain ⟨p,f,h1,h2,h3⟩:=h
 rw [←h3];simp
theorem XoY (sb mb:Nat) (l:List Sx) (sn:SnL) (p:Sp) (hn:Xfv l.length sn) (hl:l.length≤1000) (hp:∃y∈sn,y.1=p) :
  XaM Tryz.prog 28 [.box sb [.sq l.length (sxa l),.x (.map (some mb))],.map mb (snv sn)] [.x (.pointer (some ⟨sb,0,none⟩)),.x (.agg #[.int .i64 p.st,.bool p.bol,.bool p.eol])] (fun r H'=>∃ad' cap',r=.x (.slice ad' (Xcv sn (4*l.length+1) p).reverse.length cap')∧H'=[.box sb [.sq l.length (sxa l),.x (.map (some mb))],.map mb (snv sn),.row ad' (Xcv sn (4*l.length+1) p).reverse.length cap' 5 1 (u8a (Xcv sn (4*l.length+1) p).reverse)]):=by
 have hk:=Lib.hid (XjB hn (by omega))
 have hq:=Lib.hid (Xig p (by obtain ⟨y,hy,rfl⟩:=hp;have:=hn.st y hy;omega))
 have hit:=XnM hn hp
 have hRl:=Xhn sn (4*l.length+1) p
 obtain ⟨i0,hI⟩:∃i,TxI sn (Xcv sn (4*l.length+1) p) i (Xn7 sn p) []:=by
  obtain ⟨y,hy,rfl⟩:=hp
  obtain ⟨i,hi,hiy⟩:=List.getElem_of_mem hy
  have h1:sn[i]?=some y:=by rw [List.getElem?_eq_getElem hi,hiy]
  have:=hn.len
  exact ⟨i,y.1,4*l.length+1,by rw [XfK hn h1];exact h1,by omega,rfl⟩
 generalize Xcv sn (4*l.length+1) p=R at *
 generalize Xn7 sn p=o0 at *
 unfold Og.val at hit
 have hit:=Lib.hid hit
 refine Xbs Tryz.func28 Tryz.ntmps28 ?_
 refine Xa7 5 1 ?_
 (repeat' (first|refine Wkx.go ?_|refine XaG ?_|(refine XaE (fun h=>?_) (fun h=>?_)<;>first|(exact absurd h (by decide))|(exfalso;omega;done)|skip)|refine XaF ?_|refine Xai ?_|(refine Xaa rfl ?_;(first|refine Xax ?_|refine Xaw ?_|refine Xav (fun ad cap=>?_)|refine Xat (fun b=>?_)|refine Xas (fun b=>?_)|refine Xau (fun b=>?_)|fail))|fail))
 refine Xcx (B:=[_,.box sb _,.map mb _]) (R:=[.row none 0 0 _ _ []]) mixed [0,1,2,3,4,5] [] [7] (some 6) _ 1 (by (repeat' (first|exact Xvt _|exact List.Perm.nil|refine XvJ _ ?_|refine (XvG (l₁:=[_])).trans (XvJ _ ?_)|refine (XvG (l₁:=[_,_])).trans (XvJ _ ?_)|refine (XvG (l₁:=[_,_,_])).trans (XvJ _ ?_)|refine (XvG (l₁:=[_,_,_,_])).trans (XvJ _ ?_)|refine (XvG (l₁:=[_,_,_,_,_])).trans (XvJ _ ?_)|refine (XvG (l₁:=[_,_,_,_,_,_])).trans (XvJ _ ?_)|refine (XvG (l₁:=[_,_,_,_,_,_,_])).trans (XvJ _ ?_)|refine (XvG (l₁:=[_,_,_,_,_,_,_,_])).trans (XvJ _ ?_)))) (by decide +kernel) rfl (Xdj rfl rfl rfl Xb0.out rfl rfl) (by decide) ?_
 (repeat' (first|refine XiQ ?_ (h:=by first|((first|(refine fun (_:True)=>?_)|(intro hp;(try simp only [wgp] at hp);(try simp only [hp,wte]);(try simp only [whn] at hp)));((try simp only [XvE,XvD]);exact Xuv XgM hk.out hq.out hit.out))|fail)|refine XiQ ?_|(refine Xmk ?_;(first|refine XlB (fun ad cap=>?_)|refine Xml (fun b=>?_)))|fail))
 (first|(refine XfS (fun b=>?_))|refine XfT ?_);(refine Xdn 7 ?_;(first|refine Xcb ?_|refine Xax ?_|refine Xaw ?_|refine Xav (fun ad cap=>?_)|refine Xat (fun b=>?_)|refine Xas (fun b=>?_)|refine Xau (fun b=>?_)|fail));refine Xar (by decide +kernel) ?_
 (repeat' (first|refine Wkx.go ?_|refine XaJ ?_|refine XaG ?_|(refine XaE (fun h=>?_) (fun h=>?_)<;>first|(exact absurd h (by decide))|(exfalso;omega;done)|skip)|refine XaF ?_|refine Xai ?_|(refine Xaa rfl ?_;(first|refine Xax ?_|refine Xaw ?_|refine Xav (fun ad cap=>?_)|refine Xat (fun b=>?_)|refine Xas (fun b=>?_)|refine Xau (fun b=>?_)|fail))|fail))
 rename_i b0
 refine XaA (S:=Nat × Og × List UInt8 × Option Addr × Nat × Nat) (fun s=>frm 34 [(0,.x (.pointer (some ⟨sb,0,none⟩))),(5,.x (.slice s.2.2.2.1 s.2.2.1.length s.2.2.2.2.1)),(6,.x (.pointer (some ⟨s.2.2.2.2.2,0,none⟩)))])
  (fun s=>[.box s.2.2.2.2.2 [.x (.int .i64 s.2.1.from_.st),.x (.bool s.2.1.from_.bol),.x (.bool s.2.1.from_.eol),.x (.bool s.2.1.root),.x (.bool s.2.1.over),.x (.int .u8 (s.2.1.c % 256:Nat))],.box sb [.sq l.length (sxa l),.x (.map (some mb))],.map mb (snv sn),.row s.2.2.2.1 s.2.2.1.length s.2.2.2.2.1 5 1 (u8a s.2.2.1)]) (fun s=>TxI sn R s.1 s.2.1 s.2.2.1) (fun s=>s.1) (i0,o0,[],none,0,b) (Xaq.mk' [.box b0 _] [.box b _,.box sb _,.map mb _,.row none 0 0 _ _ []] (by (repeat' (first|exact Xvt _|exact List.Perm.nil|refine XvJ _ ?_|refine (XvG (l₁:=[_])).trans (XvJ _ ?_)|refine (XvG (l₁:=[_,_])).trans (XvJ _ ?_)|refine (XvG (l₁:=[_,_,_])).trans (XvJ _ ?_)|refine (XvG (l₁:=[_,_,_,_])).trans (XvJ _ ?_)|refine (XvG (l₁:=[_,_,_,_,_])).trans (XvJ _ ?_)|refine (XvG (l₁:=[_,_,_,_,_,_])).trans (XvJ _ ?_)|refine (XvG (l₁:=[_,_,_,_,_,_,_])).trans (XvJ _ ?_)|refine (XvG (l₁:=[_,_,_,_,_,_,_,_])).trans (XvJ _ ?_)))) (Xap.refl _ _) (by (repeat' (first|exact VwL.nil|(refine VwL.cons ?_ ?_)|exact Vw.refl _|exact Vw.top _|exact Vw.nil|(refine Vw.eq ?_;first|rfl|(simp;done)|(congr 3;omega)|(congr 2;omega)))))) hI fun s hs=>?_
 clear hI hit
 obtain ⟨i,o,acc,ad,cap,bo⟩:=s
 simp only at hs
 have hal:=hs.len hn
 simp only [wfr]
 cases hr:o.root with
 | true=>
   have e:=hs.done hn hr
   subst e
   clear hs
   have h9:=XuN acc ad cap (by omega)
   (repeat' (first|refine Wkx.go ?_|refine XaJ ?_|refine XaG ?_|(refine XaE (fun h=>?_) (fun h=>?_)<;>first|(exact absurd h (by decide))|(exfalso;omega;done)|skip)|refine XaF ?_|refine Xai ?_|(refine Xaa rfl ?_;(first|((refine Xa5 Tryz.func57 [_] rfl rfl (.refl _) (h9) ?_;rintro _ _ ⟨rfl,rfl⟩);refine XaO ?_)|((refine Xa5 Tryz.func57 [_] rfl rfl (XvG (l₁:=[_])) (h9) ?_;rintro _ _ ⟨rfl,rfl⟩);refine XaO ?_)|((refine Xa5 Tryz.func57 [_] rfl rfl (XvG (l₁:=[_,_])) (h9) ?_;rintro _ _ ⟨rfl,rfl⟩);refine XaO ?_)|((refine Xa5 Tryz.func57 [_] rfl rfl (XvG (l₁:=[_,_,_])) (h9) ?_;rintro _ _ ⟨rfl,rfl⟩);refine XaO ?_)|refine Xax ?_|refine Xaw ?_|refine Xav (fun ad cap=>?_)|refine Xat (fun b=>?_)|refine Xas (fun b=>?_)|refine Xau (fun b=>?_)|fail))|fail))
   refine Xab _ _ (Xa0 rfl (RV.tmp _) (Xaq.mk' [.box bo _] [.box sb _,.map mb _,.row _ _ _ _ _ _] (by (repeat' (first|exact Xvt _|exact List.Perm.nil|refine XvJ _ ?_|refine (XvG (l₁:=[_])).trans (XvJ _ ?_)|refine (XvG (l₁:=[_,_])).trans (XvJ _ ?_)|refine (XvG (l₁:=[_,_,_])).trans (XvJ _ ?_)|refine (XvG (l₁:=[_,_,_,_])).trans (XvJ _ ?_)|refine (XvG (l₁:=[_,_,_,_,_])).trans (XvJ _ ?_)|refine (XvG (l₁:=[_,_,_,_,_,_])).trans (XvJ _ ?_)|refine (XvG (l₁:=[_,_,_,_,_,_,_])).trans (XvJ _ ?_)|refine (XvG (l₁:=[_,_,_,_,_,_,_,_])).trans (XvJ _ ?_)))) (Xap.refl _ _) (VwL.refl _ _))) ⟨ad,cap,?_,?_⟩
   ·rw [List.length_reverse];rfl
   ·rw [List.length_reverse]
 | false=>
   obtain ⟨j,hji,hpj,hnx⟩:=hs.next hn hr
   have hq2:=Lib.hid (Xig o.from_ (by obtain ⟨y,hy,e⟩:=hpj;have:=hn.st y hy;rw [e] at this;omega))
   have hit2:=XnM hn hpj
   generalize Xn7 sn o.from_=o' at *
   unfold Og.val at hit2
   have hit2:=Lib.hid hit2
   clear hs
   cases hov:o.over with
   | true=>
     rw [hov] at hnx
     simp only [if_true] at hnx
     have hpl:acc.length+1=(acc++[UInt8.ofNat o.c]).length:=by simp
     have hpl:=Lib.hid hpl
     (have wx:=And.intro @hpl.out @Xpz;(repeat' (first|refine Wkx.go ?_|refine XaG ?_|(refine XaE (fun h=>?_) (fun h=>?_)<;>first|(exact absurd h (by decide))|(exfalso;omega;done)|skip)|refine XaF ?_|refine Xai ?_|(refine Xaa rfl ?_;(first|refine Xax ?_|refine Xaw ?_|refine Xav (fun ad cap=>?_)|refine Xat (fun b=>?_)|refine Xas (fun b=>?_)|refine Xau (fun b=>?_)|fail))|fail)))<;>(try clear wx)
     refine Xcx (B:=[_,_,_,_,_,_]) (R:=[]) mixed [0,1,2,3,4,5,6] [] [7] none [] 1 (Xvt _) (by decide +kernel) rfl (fun i o h=>by cases h) (by decide) ?_
     (repeat' (first|refine XiQ ?_ (h:=by first|((first|(refine fun (_:True)=>?_)|(intro hp;(try simp only [wgp] at hp);(try simp only [hp,wte]);(try simp only [whn] at hp)));((try simp only [XvE,XvD]);exact Xuv XgM hk.out hq2.out hit2.out))|fail)|refine XiQ ?_|(refine Xmk ?_;(first|refine XlB (fun ad cap=>?_)|refine Xml (fun b=>?_)))|fail))
     (first|(refine XfS (fun b=>?_))|refine XfT ?_);(refine Xdn 7 ?_;(first|refine Xcb ?_|refine Xax ?_|refine Xaw ?_|refine Xav (fun ad cap=>?_)|refine Xat (fun b=>?_)|refine Xas (fun b=>?_)|refine Xau (fun b=>?_)|fail));refine Xar (by decide +kernel) ?_
     exact ⟨(j,o',acc++[UInt8.ofNat o.c],_,_,_),hji,hnx,(Xaq.mk' [.row (some _) 1 1 _ _ _,.box bo _] [.box _ [_,_,_,_,_,_],.box sb _,.map mb _,.row _ (List.length (acc++_)) _ _ _ _] (by (repeat' (first|exact Xvt _|exact List.Perm.nil|refine XvJ _ ?_|refine (XvG (l₁:=[_])).trans (XvJ _ ?_)|refine (XvG (l₁:=[_,_])).trans (XvJ _ ?_)|refine (XvG (l₁:=[_,_,_])).trans (XvJ _ ?_)|refine (XvG (l₁:=[_,_,_,_])).trans (XvJ _ ?_)|refine (XvG (l₁:=[_,_,_,_,_])).trans (XvJ _ ?_)|refine (XvG (l₁:=[_,_,_,_,_,_])).trans (XvJ _ ?_)|refine (XvG (l₁:=[_,_,_,_,_,_,_])).trans (XvJ _ ?_)|refine (XvG (l₁:=[_,_,_,_,_,_,_,_])).trans (XvJ _ ?_)))) (Xap.refl _ _) (by (repeat' (first|exact VwL.nil|(refine VwL.cons ?_ ?_)|exact Vw.refl _|exact Vw.top _|exact Vw.nil|(refine Vw.eq ?_;first|rfl|(simp;done)|(congr 3;omega)|(congr 2;omega))))))⟩
   | false=>
     rw [hov] at hnx
     simp only [Bool.false_eq_true,if_false,List.append_nil] at hnx
     (repeat' (first|refine Wkx.go ?_|refine XaG ?_|(refine XaE (fun h=>?_) (fun h=>?_)<;>first|(exact absurd h (by decide))|(exfalso;omega;done)|skip)|refine XaF ?_|refine Xai ?_|(refine Xaa rfl ?_;(first|refine Xax ?_|refine Xaw ?_|refine Xav (fun ad cap=>?_)|refine Xat (fun b=>?_)|refine Xas (fun b=>?_)|refine Xau (fun b=>?_)|fail))|fail))
     refine Xcx (B:=[_,_,_,_,_]) (R:=[]) mixed [0,1,2,3,4,5,6] [] [7] none [] 1 (Xvt _) (by decide +kernel) rfl (fun i o h=>by cases h) (by decide) ?_
     (repeat' (first|refine XiQ ?_ (h:=by first|((first|(refine fun (_:True)=>?_)|(intro hp;(try simp only [wgp] at hp);(try simp only [hp,wte]);(try simp only [whn] at hp)));((try simp only [XvE,XvD]);exact Xuv XgM hk.out hq2.out hit2.out))|fail)|refine XiQ ?_|(refine Xmk ?_;(first|refine XlB (fun ad cap=>?_)|refine Xml (fun b=>?_)))|fail))
     (first|(refine XfS (fun b=>?_))|refine XfT ?_);(refine Xdn 7 ?_;(first|refine Xcb ?_|refine Xax ?_|refine Xaw ?_|refine Xav (fun ad cap=>?_)|refine Xat (fun b=>?_)|refine Xas (fun b=>?_)|refine Xau (fun b=>?_)|fail));refine Xar (by decide +kernel) ?_
     exact ⟨(j,o',acc,_,_,_),hji,hnx,(Xaq.mk' [.box bo _] [.box _ [_,_,_,_,_,_],.box sb _,.map mb _,.row _ _ _ _ _ _] (by (repeat' (first|exact Xvt _|exact List.Perm.nil|refine XvJ _ ?_|refine (XvG (l₁:=[_])).trans (XvJ _ ?_)|refine (XvG (l₁:=[_,_])).trans (XvJ _ ?_)|refine (XvG (l₁:=[_,_,_])).trans (XvJ _ ?_)|refine (XvG (l₁:=[_,_,_,_])).trans (XvJ _ ?_)|refine (XvG (l₁:=[_,_,_,_,_])).trans (XvJ _ ?_)|refine (XvG (l₁:=[_,_,_,_,_,_])).trans (XvJ _ ?_)|refine (XvG (l₁:=[_,_,_,_,_,_,_])).trans (XvJ _ ?_)|refine (XvG (l₁:=[_,_,_,_,_,_,_,_])).trans (XvJ _ ?_)))) (Xap.refl _ _) (by (repeat' (first|exact VwL.nil|(refine VwL.cons ?_ ?_)|exact Vw.refl _|exact Vw.top _|exact Vw.nil|(refine Vw.eq ?_;first|rfl|(simp;done)|(congr 3;omega)|(congr 2;omega))))))⟩
def fiv (o:Option Nat):Int:=match o with|some k=>k|none => -1
theorem Xec {α:Type} {l:List α} (p:α→Bool) {k:Nat} (hk:k < l.length) (hn:∀j∈l.take k,p j=false) (h:p l[k]=true):fiv (l.findIdx? p)=k:=by
 have:l.findIdx? p=some k:=by
  rw [List.findIdx?_eq_some_iff_getElem]
  refine ⟨hk,h,fun j hj=>?_⟩
  have:=hn l[j] (List.mem_iff_getElem.2 ⟨j,by simp;omega,by simp⟩)
  simp [this]
 rw [this];rfl
theorem Xeb {α:Type} {l:List α} (p:α→Bool) (hn:∀j∈l,p j=false):fiv (l.findIdx? p) = -1:=by
 have:l.findIdx? p=none:=by
  rw [List.findIdx?_eq_none_iff]
  intro j hj;simp [hn j hj]
 rw [this];rfl
theorem XmK (l:List Sp) (H:List Hp) (g:Nat) (fn:Func) (cs:Array Value) (p:Sp→Bool) (hl:l.length≤1000000) (hf:Tryz.prog.funcs[g]?=some fn) (hnn:fn.name≠ "runtime.NumGoroutine") (hb:fn.body.isSome=true)
  (hp:∀j∈l,XaM Tryz.prog g H (.x j.val :: cs.toList.map .x) (fun r H'=>r=.x (.bool (p j))∧H'=H)) :
  XaM Tryz.prog 55 H [.sq l.length (spa l),.x (.func (.func g) #[] cs)] (fun r H'=>r=.x (.int .i64 (fiv (l.findIdx? p)))∧H'=H):=by
 unfold Sp.val at hp
 have hp:=Lib.hid hp
 refine Xbs Tryz.func55 Tryz.ntmps55 ?_
 (repeat' (first|refine Wkx.go ?_|refine XaJ ?_|refine XaG ?_|(refine XaE (fun h=>?_) (fun h=>?_)<;>first|(exact absurd h (by decide))|(exfalso;omega;done)|skip)|refine XaF ?_|refine Xai ?_|(refine Xaa rfl ?_;(first|refine Xax ?_|refine Xaw ?_|refine Xav (fun ad cap=>?_)|refine Xat (fun b=>?_)|refine Xas (fun b=>?_)|refine Xau (fun b=>?_)|fail))|fail))
 refine XaA (S:=Nat) (fun k=>frm 19 [(0,.sq l.length (spa l)),(1,.x (.func (.func g) #[] cs)),(7,.x (.int .i64 l.length)),(8,.x (.int .i64 k))]) (fun _=>H) (fun k=>k≤l.length∧∀j∈l.take k,p j=false) (fun k=>l.length - k) 0 (XbQ (D:=[])) ⟨Nat.zero_le _,by simp⟩ fun k hk=>?_
 simp only [wfr]
 obtain ⟨hk,hn⟩:=hk
 have hn:=Lib.hid hn
 (have wx:=And.intro @Xkm @Sp.cells.eq_1;(repeat' (first|refine Wkx.go ?_|refine XaJ ?_|refine XaG ?_|(refine XaE (fun h=>?_) (fun h=>?_)<;>first|(exact absurd h (by decide))|(exfalso;omega;done)|skip)|refine XaF ?_|refine Xai ?_|(refine Xaa rfl ?_;(first|((refine Xaj g fn H [] _ _ rfl rfl hf hnn hb (by simp) (VwL.refl _ _) (hp.out l[k] (List.getElem_mem h)) ?_;rintro _ _ ⟨rfl,rfl⟩);refine XaO ?_)|refine Xax ?_|refine Xaw ?_|refine Xav (fun ad cap=>?_)|refine Xat (fun b=>?_)|refine Xas (fun b=>?_)|refine Xau (fun b=>?_)|fail))|fail)))<;>(try clear wx)
 ·refine Xab _ _ (Xa0 rfl (RV.tmp _) (XcJ (D:=[]))) ?_
  exact ⟨by rw [Xec p (by assumption) hn.out h];rfl,rfl⟩
 ·exact ⟨k+1,by omega,⟨by omega,by rw [XbC l k (by assumption)];intro j hj;simp only [List.mem_append,List.mem_singleton] at hj;rcases hj with hj|rfl;exact hn.out j hj;exact h⟩,(XbQ (D:=[]))⟩
 ·refine Xab _ _ (Xa0 rfl (RV.tmp _) (XcJ (D:=[]))) ?_
  have hn:=hn.out
  rw [List.take_of_length_le (by omega)] at hn
  exact ⟨by rw [Xeb p hn];rfl,rfl⟩
theorem XoQ (bp be sb:Nat) (l:List Sx) (rest:List AV) (s:Sp) (e:Bool) (hl:l.length≤1000) (hs:s.st < l.length):XaM Tryz.prog 56 [.box bp [.x (.pointer (some ⟨sb,0,none⟩))],.box be [.x (.bool e)],.box sb (.sq l.length (sxa l) :: rest)] [.x s.val,.x (.pointer (some ⟨bp,0,none⟩)),.x (.pointer (some ⟨be,0,none⟩))] (fun r H'=>r=.x (.bool ((l.getD s.st default).kind == 5 && s.eol == e))∧H'=[.box bp [.x (.pointer (some ⟨sb,0,none⟩))],.box be [.x (.bool e)],.box sb (.sq l.length (sxa l) :: rest)]):=by
 have hg:l.getD s.st default=l[s.st]:=by rw [List.getD_eq_getElem?_getD,List.getElem?_eq_getElem hs];rfl
 rw [hg]
 unfold Sp.val
 refine Xbs Tryz.func56 Tryz.ntmps56 ?_
 (have wx:=And.intro @Xhl @Sx.cells.eq_1;(repeat' (first|refine Wkx.go ?_|refine XaJ ?_|refine XaG ?_|(refine XaE (fun h=>?_) (fun h=>?_)<;>first|(exact absurd h (by decide))|(exfalso;omega;done)|skip)|refine XaF ?_|refine Xai ?_|(refine Xaa rfl ?_;(first|refine Xax ?_|refine Xaw ?_|refine Xav (fun ad cap=>?_)|refine Xat (fun b=>?_)|refine Xas (fun b=>?_)|refine Xau (fun b=>?_)|fail))|fail)))<;>(try clear wx)
 refine Xab _ _ (Xa0 rfl (RV.tmp _) (Xaq.mk' [_] [_,_,_] (Xvt _) (Xap.refl _ _) (VwL.refl _ _))) ⟨?_,rfl⟩
 refine congrArg (fun q=>AV.x (.bool q)) ?_
 have h5:(((l[s.st].kind:Nat):Int) == 5)=(l[s.st].kind == 5):=by rw [Bool.eq_iff_iff];simp;omega
 rw [h5]
def mtF (l:List Sx) (e:Bool) (s:Sp):Bool:=(l.getD s.st default).kind == 5 && s.eol == e
theorem Xrp (sb:Nat) (l:List Sx) (rest:List AV) (q:List Sp) (e:Bool) (hl:l.length≤1000) (hq:q.length≤1000000) (hs:∀s∈q,s.st < l.length):XaM Tryz.prog 27 [.box sb (.sq l.length (sxa l) :: rest)] [.x (.pointer (some ⟨sb,0,none⟩)),.sq q.length (spa q),.x (.bool e)] (fun r H'=>r=.x (.int .i64 (fiv (q.findIdx? (mtF l e))))∧H'=[.box sb (.sq l.length (sxa l) :: rest)]):=by
 refine Xbs Tryz.func27 Tryz.ntmps27 ?_
 (repeat' (first|refine Wkx.go ?_|refine XaJ ?_|refine XaG ?_|(refine XaE (fun h=>?_) (fun h=>?_)<;>first|(exact absurd h (by decide))|(exfalso;omega;done)|skip)|refine XaF ?_|refine Xai ?_|(refine Xaa rfl ?_;(first|((refine Xaj 55 _ [_,_,_] [] _ _ rfl rfl Tryz.func55 (by decide) rfl (by (repeat' (first|exact Xvt _|exact List.Perm.nil|refine XvJ _ ?_|refine (XvG (l₁:=[_])).trans (XvJ _ ?_)|refine (XvG (l₁:=[_,_])).trans (XvJ _ ?_)|refine (XvG (l₁:=[_,_,_])).trans (XvJ _ ?_)|refine (XvG (l₁:=[_,_,_,_])).trans (XvJ _ ?_)|refine (XvG (l₁:=[_,_,_,_,_])).trans (XvJ _ ?_)|refine (XvG (l₁:=[_,_,_,_,_,_])).trans (XvJ _ ?_)|refine (XvG (l₁:=[_,_,_,_,_,_,_])).trans (XvJ _ ?_)|refine (XvG (l₁:=[_,_,_,_,_,_,_,_])).trans (XvJ _ ?_)))) (VwL.refl _ _) (XmK q [.box _ [.x (.pointer (some ⟨sb,0,none⟩))],.box _ [.x (.bool e)],.box sb (.sq l.length (sxa l) :: rest)] 56 _ #[.pointer (some ⟨_,0,none⟩),.pointer (some ⟨_,0,none⟩)] (mtF l e) hq Tryz.func56 (by decide) rfl (fun j hj=>XoQ _ _ sb l rest j e hl (hs j hj))) ?_;rintro _ _ ⟨rfl,rfl⟩);refine XaO ?_)|refine Xax ?_|refine Xaw ?_|refine Xav (fun ad cap=>?_)|refine Xat (fun b=>?_)|refine Xas (fun b=>?_)|refine Xau (fun b=>?_)|fail))|fail))
 refine Xab _ _ (Xa0 rfl (RV.tmp _) (Xaq.mk' [.box _ [.x (.pointer _)],.box _ [.x (.bool _)]] [.box sb _] (Xvt _) (Xap.refl _ _) (VwL.refl _ _))) ⟨rfl,rfl⟩
set_option linter.defProp false
theorem Xcr (s:List UInt8) (j:Nat):(s.getD j 0).toNat=chr s j:=rfl
theorem Xdz (s:List UInt8) (j:Nat):chr s j < 256:=by unfold chr;exact UInt8.toNat_lt _
def Nd.cells (n:Nd):List AV:=.x (.int .i64 n.kind) :: .x (.int .i64 n.left) :: .x (.int .i64 n.right) :: w4 n.set
def Nd.val (n:Nd):Value:=.agg #[.int .i64 n.kind,.int .i64 n.left,.int .i64 n.right,.int .u64 (wd n.set 0:Nat),.int .u64 (wd n.set 1:Nat),.int .u64 (wd n.set 2:Nat),.int .u64 (wd n.set 3:Nat)]
def nda (l:List Nd):List AV:=l.flatMap Nd.cells
@[simp] theorem XuH (l:List Nd):(nda l).length=l.length*7:=by
 induction l with
 | nil=>rfl
 | cons a l ih=>
   have e:nda (a :: l)=a.cells++nda l:=by simp [nda]
   rw [e,XvF,ih];simp [Nd.cells];omega
theorem Xrv (l:List Nd) (n:Nd):nda l++n.cells=nda (l++[n]):=by simp [nda]
theorem Xdt (n:Nat):AV.cells (.x (v4 n))=w4 n:=rfl
theorem Xgc (n:Nat):(w4 n).all AV.one=true:=rfl
theorem Xci:v4 0=.agg #[.int .u64 0,.int .u64 0,.int .u64 0,.int .u64 0]:=by simp [v4,XaI]
def pcx (s:List UInt8) (p:RS) (ad:Option Addr) (cap:Nat):List AV:=[.x (.string (bs s)),.x (.int .i64 p.at_),.x (.int .i64 p.opn),.x (.slice ad p.ns.length cap)]
abbrev ph (pb:Nat) (s:List UInt8) (p:RS) (ad:Option Addr) (cap:Nat):List Hp:=[.box pb (pcx s p ad cap),.row ad p.ns.length cap 127 7 (nda p.ns)]
theorem XiS (s:List UInt8) (p:RS) (ad:Option Addr) (cap:Nat) (hs:s.length≤128) (h:p.at_≤s.length):XaM Tryz.prog 132 [] [.at_ (pcx s p ad cap)] (fun r H'=>r=.x (.bool (p.at_ == s.length))∧H'=[]):=by
 unfold pcx
 refine Xbs Tryz.func132 Tryz.ntmps132 ?_
 (repeat' (first|refine Wkx.go ?_|refine XaJ ?_|refine XaG ?_|(refine XaE (fun h=>?_) (fun h=>?_)<;>first|(exact absurd h (by decide))|(exfalso;omega;done)|skip)|refine XaF ?_|refine Xai ?_|(refine Xaa rfl ?_;(first|refine Xax ?_|refine Xaw ?_|refine Xav (fun ad cap=>?_)|refine Xat (fun b=>?_)|refine Xas (fun b=>?_)|refine Xau (fun b=>?_)|fail))|fail))
 refine Xab _ _ (Xa0 rfl (RV.tmp _) (XcJ (D:=[]))) ?_
 exact ⟨congrArg (fun q=>AV.x (.bool q)) (by rw [Bool.eq_iff_iff];simp;omega),rfl⟩
theorem Xun (pb:Nat) (s:List UInt8) (p:RS) (ad:Option Addr) (cap:Nat) (n:Nd) (hn:p.ns.length≤1000):XaM Tryz.prog 160 (ph pb s p ad cap) [.x (.pointer (some ⟨pb,0,none⟩)),.x n.val] (fun r H'=>∃ad' cap',r=.x (.int .i64 p.ns.length)∧H'=ph pb s (p.add n) ad' cap'):=by
 unfold Nd.val ph pcx
 refine Xbs Tryz.func160 Tryz.ntmps160 ?_
 (repeat' (first|refine Wkx.go ?_|refine XaG ?_|(refine XaE (fun h=>?_) (fun h=>?_)<;>first|(exact absurd h (by decide))|(exfalso;omega;done)|skip)|refine XaF ?_|refine Xai ?_|(refine Xaa rfl ?_;(first|refine Xax ?_|refine Xaw ?_|refine Xav (fun ad cap=>?_)|refine Xat (fun b=>?_)|refine Xas (fun b=>?_)|refine Xau (fun b=>?_)|fail))|fail))
 refine XaP mixed [10] [_,_] [_] (Xvt _) ?_
 ((first|refine Xbj 0 ?_|refine Xbt 0 ?_);(first|refine Xbj 1 ?_|refine Xbt 1 ?_);(first|refine Xbj 2 ?_|refine Xbt 2 ?_);(first|refine Xbj 3 ?_|refine Xbt 3 ?_);(first|refine Xbj 4 ?_|refine Xbt 4 ?_);(first|refine Xbj 5 ?_|refine Xbt 5 ?_))
 (refine Xdd 6 ?_;(first|refine Xcb ?_|refine Xax ?_|refine Xaw ?_|refine Xav (fun ad cap=>?_)|refine Xat (fun b=>?_)|refine Xas (fun b=>?_)|refine Xau (fun b=>?_)|fail))
 (refine Xdd 7 ?_;(first|refine Xcb ?_|refine Xax ?_|refine Xaw ?_|refine Xav (fun ad cap=>?_)|refine Xat (fun b=>?_)|refine Xas (fun b=>?_)|refine Xau (fun b=>?_)|fail))
 (repeat ((first|refine Xdd 8 ?_|refine Xdd 9 ?_);(first|refine Xcb ?_|refine Xax ?_|refine Xaw ?_|refine Xav (fun ad cap=>?_)|refine Xat (fun b=>?_)|refine Xas (fun b=>?_)|refine Xau (fun b=>?_)|fail)))
 refine XaV (by decide +kernel) ?_
 refine Xag rfl (by simp only [XvE,XvD];rfl) ?_
 (refine Xdn 10 ?_;(first|refine Xcb ?_|refine Xax ?_|refine Xaw ?_|refine Xav (fun ad cap=>?_)|refine Xat (fun b=>?_)|refine Xas (fun b=>?_)|refine Xau (fun b=>?_)|fail))
 refine Xar (by decide +kernel) ?_
 (repeat' (first|refine Wkx.go ?_|refine XaJ ?_|refine XaG ?_|(refine XaE (fun h=>?_) (fun h=>?_)<;>first|(exact absurd h (by decide))|(exfalso;omega;done)|skip)|refine XaF ?_|refine Xai ?_|(refine Xaa rfl ?_;(first|refine Xax ?_|refine Xaw ?_|refine Xav (fun ad cap=>?_)|refine Xat (fun b=>?_)|refine Xas (fun b=>?_)|refine Xau (fun b=>?_)|fail))|fail))
 refine Xab _ _ (Xa0 rfl (RV.tmp _) (Xaq.mk' [.box _ _,.row (some _) 1 1 _ _ _] [.box pb _,.row ad _ cap _ _ _] (by (repeat' (first|exact Xvt _|exact List.Perm.nil|refine XvJ _ ?_|refine (XvG (l₁:=[_])).trans (XvJ _ ?_)|refine (XvG (l₁:=[_,_])).trans (XvJ _ ?_)|refine (XvG (l₁:=[_,_,_])).trans (XvJ _ ?_)|refine (XvG (l₁:=[_,_,_,_])).trans (XvJ _ ?_)|refine (XvG (l₁:=[_,_,_,_,_])).trans (XvJ _ ?_)|refine (XvG (l₁:=[_,_,_,_,_,_])).trans (XvJ _ ?_)|refine (XvG (l₁:=[_,_,_,_,_,_,_])).trans (XvJ _ ?_)|refine (XvG (l₁:=[_,_,_,_,_,_,_,_])).trans (XvJ _ ?_)))) (Xap.refl _ _) (VwL.refl _ _))) ⟨ad,cap,rfl,?_⟩
 simp only [RS.add,←Xrv,XvF,Xvw,Xvz]
 rfl
theorem XsU (pb:Nat) (s:List UInt8) (p:RS) (ad:Option Addr) (cap:Nat) (hs:s.length≤128) (hp:p.at_ < s.length):XaM Tryz.prog 199 [.box pb (pcx s p ad cap)] [.x (.pointer (some ⟨pb,0,none⟩))] (fun r H'=>
  r=.tup [.x (.int .i64 (XcS s p.at_).1),.x (v4 (XcS s p.at_).2.1),.x (.int .i64 ((XcS s p.at_).2.2.1:Nat))]∧H'=[.box pb (pcx s { p with at_:=(XcS s p.at_).2.2.2 } ad cap)]):=by
 unfold pcx
 have hq:=Xdz s (p.at_+1)
 refine Xbs Tryz.func199 Tryz.ntmps199 ?_
 (have wx:=And.intro @Xcr (And.intro @Xdt (And.intro @Xgc @w4r));(repeat' (first|refine Wkx.go ?_|refine XaJ ?_|refine XaG ?_|(refine XaE (fun h=>?_) (fun h=>?_)<;>first|(exact absurd h (by decide))|(exfalso;omega;done)|skip)|refine XaF ?_|refine Xai ?_ (h:=by first|exact fun _=>Xb3 rfl rfl Tryz.func201 (Xb9 48 57 (by decide) (by decide))|fail)|refine Xai ?_ (h:=by first|exact fun _=>Xb3 rfl rfl Tryz.func201 (Xb9 65 90 (by decide) (by decide))|fail)|refine Xai ?_ (h:=by first|exact fun _=>Xb3 rfl rfl Tryz.func201 (Xb9 97 122 (by decide) (by decide))|fail)|refine Xai ?_ (h:=by first|exact fun _=>Xb3 rfl rfl Tryz.func201 (Xb9 95 95 (by decide) (by decide))|fail)|refine Xai ?_ (h:=by first|exact fun _=>Xb3 rfl rfl Tryz.func201 (Xb9 32 32 (by decide) (by decide))|fail)|refine Xai ?_ (h:=by first|exact fun _=>Xb3 rfl rfl Tryz.func201 (Xb9 9 9 (by decide) (by decide))|fail)|refine Xai ?_ (h:=by first|exact fun _=>Xb3 rfl rfl Tryz.func201 (Xb9 13 13 (by decide) (by decide))|fail)|refine Xai ?_ (h:=by first|exact fun _=>Xb3 rfl rfl Tryz.func201 (Xb9 10 10 (by decide) (by decide))|fail)|refine Xai ?_ (h:=by first|exact fun _=>Xb3 rfl rfl Tryz.func201 (Xb9 _ _ hq hq)|fail)|refine Xai ?_ (h:=by first|exact fun _=>Xb3 rfl rfl Tryz.func204 (XjF _ _)|fail)|refine Xai ?_ (h:=by first|exact fun _=>Xb3 rfl rfl Tryz.func205 (Xtn _ hq)|fail)|refine Xai ?_ (h:=by first|exact fun _=>Xak _ _ _ _ _ _ _ rfl rfl rfl (by kernel_rfl) Xdb.out (by omega)|fail)|refine Xai ?_|(refine Xaa rfl ?_;(first|refine Xax ?_|refine Xaw ?_|refine Xav (fun ad cap=>?_)|refine Xat (fun b=>?_)|refine Xas (fun b=>?_)|refine Xau (fun b=>?_)|fail))|fail)))<;>(try clear wx)
 all_goals
  refine Xab _ _ (Xuk rfl (RV.tmp _) (RV.cell 0 rfl rfl XaR.out (by simp) (by simp)) (RV.tmp _) (Xaq.mk' [.box b _] [.box pb _] (Xvt _) (Xap.refl _ _) (VwL.refl _ _))) ⟨?_,?_⟩
  all_goals (unfold XcS;(repeat' split)<;>first|rfl|(rw [Xci];rfl)|(exfalso;omega)|(exfalso;simp_all;done))
end Go.Proofs.YtdlblokjfoggpaaGreatDoor

import Derived.Test.YtdlblokjfoggpaaGreatDoorW7
import Derived.Test.YtdlblokjfoggpaaGreatDoorW24
import Derived.Test.YtdlblokjfoggpaaGreatDoorW10
import Derived.Test.YtdlblokjfoggpaaGreatDoorW22
import Derived.Test.YtdlblokjfoggpaaGreatDoorW21
import Derived.WalkKit
import Derived.LaidEql
import Derived.Stop.Asserts
import Derived.RowKitTokens
import Derived.Test.YtdlblokjfoggpaaGreatDoorW0
/- The graph: Cycle. -/
set_option linter.unusedSimpArgs false
set_option linter.unusedVariables false
set_option maxRecDepth 100000
set_option maxHeartbeats 8000000
namespace Go.Proofs.YtdlblokjfoggpaaGreatDoor
open Go.RowKit
theorem Xi7 (l:List JA) (d:List Int) (b c:Nat) (j:Int) (hj:0≤j∧j < (l.length:Int)):XaM Tryz.prog 81 (XgW b c l.length l.length (mks l d)) [.x (.int .i64 j),.x (.pointer (some ⟨b,0,none⟩))] (fun r H'=>r=.x (.bool (!d.contains j))∧H'=XgW b c l.length l.length (mks l d)):=by
 obtain ⟨k,rfl⟩:∃k:Nat,j=k:=⟨j.toNat,by omega⟩
 have hk:k < (mks l d).length:=by rw [Xdw];omega
 have:=XiN b c l.length l.length (mks l d) k (Xdw l d).symm hk
 rwa [Xe7] at this
theorem XoF (l:List Int) (k:Nat):(ia l).drop k=ia (l.drop k):=by simp [ia,List.map_drop]
theorem XoG (l:List Int) (k:Nat):(ia l).take k=ia (l.take k):=by simp [ia,List.map_take]
theorem Xhm {α:Type} (l:List α) (k:Nat):(l.drop k).take (l.length - k)=l.drop k:=List.take_of_length_le (by simp)
theorem Xry {l:List JA} {a b:Int} (h:nxt l a=some b):∃k,∃hk:k < (nds l a).length,(nds l a).findIdx? (fun k=>!(ord l).contains k)=some k∧(nds l a)[k]=b:=by
 unfold nxt at h
 cases hi:(nds l a).findIdx? (fun k=>!(ord l).contains k) with
 | none=>
   rw [List.findIdx?_eq_none_iff] at hi
   have:=List.find?_some h
   rw [hi b (List.mem_of_find?_eq_some h)] at this
   cases this
 | some k=>
   obtain ⟨h1,h2,h3⟩:=List.findIdx?_eq_some_iff_getElem.1 hi
   refine ⟨k,h1,rfl,?_⟩
   have:(nds l a).find? (fun k=>!(ord l).contains k)=some (nds l a)[k]:=by
    rw [List.find?_eq_some_iff_getElem]
    exact ⟨h2,k,h1,rfl,fun j hj=>by simpa using h3 j hj⟩
   rw [this] at h;cases h;rfl
theorem XkW (l:List JA) (hl:l.length≤1000000) (hm:∀j∈l,j.needs.length≤8796093022208):XaM Tryz.prog 43 [] [.sq l.length (ja l)] (Xoe (cyc l)):=by
 have hIb:=XoJ (mks l (ord l)) false (by simpa using hl)
 rw [Xdw,show List.findIdx? (fun x=>x == false) (mks l (ord l))=at0 l from rfl] at hIb
 refine Xbs Tryz.func43 Tryz.ntmps43 ?_
 refine Xa7 3 1 ?_
 cases h0:at0 l with
 | none=>
   rw [h0] at hIb
   simp only [fiv] at hIb
   have hc:cyc l=[]:=by unfold cyc;rw [h0]
   (repeat' (first|refine Wkx.go ?_|refine XaJ ?_|refine XaG ?_|(refine XaE (fun h=>?_) (fun h=>?_)<;>first|(exact absurd h (by decide))|(exfalso;omega;done)|skip)|refine XaF ?_|refine Xai ?_ (h:=by first|exact fun _=>Xb3 rfl rfl Tryz.func37 (XgU l hl hm)|fail)|refine Xai ?_ (h:=by first|exact fun _=>XeY rfl rfl Tryz.func82 (hS:=hIb)|fail)|refine Xai ?_|(refine Xaa rfl ?_;(first|((refine Xa5 Tryz.func36 ([]) rfl rfl (.refl _) (Xe9 l hl) ?_;rintro _ _ ⟨ad,cap,b,c,rfl,rfl⟩);refine XaO ?_)|refine Xax ?_|refine Xaw ?_|refine Xav (fun ad cap=>?_)|refine Xat (fun b=>?_)|refine Xas (fun b=>?_)|refine Xau (fun b=>?_)|fail))|fail))
   refine Xab _ _ (Xa0 rfl (RV.tmp _) (XcJ (D:=[_,_,_,_]) (R:=[_]))) ?_
   rw [hc]
   exact ⟨none,0,rfl,rfl⟩
 | some a0=>
   rw [h0] at hIb
   simp only [fiv] at hIb
   have hw0:=Way.first h0
   have ha0:=(Xfw h0).1
   (repeat' (first|refine Wkx.go ?_|refine XaJ ?_|refine XaG ?_|(refine XaE (fun h=>?_) (fun h=>?_)<;>first|(exact absurd h (by decide))|(exfalso;omega;done)|skip)|refine XaF ?_|refine Xai ?_ (h:=by first|exact fun _=>Xb3 rfl rfl Tryz.func37 (XgU l hl hm)|fail)|refine Xai ?_ (h:=by first|exact fun _=>XeY rfl rfl Tryz.func82 (hS:=hIb)|fail)|refine Xai ?_|(refine Xaa rfl ?_;(first|((refine Xa5 Tryz.func36 ([]) rfl rfl (.refl _) (Xe9 l hl) ?_;rintro _ _ ⟨ad,cap,b,c,rfl,rfl⟩);refine XaO ?_)|refine Xax ?_|refine Xaw ?_|refine Xav (fun ad cap=>?_)|refine Xat (fun b=>?_)|refine Xas (fun b=>?_)|refine Xau (fun b=>?_)|fail))|fail))
   refine XaA (S:=List Int × Int × Option Addr × Nat) (fun s=>frm 51 [(3,.sq l.length (na l)),(5,.x (.pointer (some ⟨b,0,none⟩))),(6,.x (.func (.func 81) #[] #[.pointer (some ⟨b,0,none⟩)])),(7,.x (.int .i64 s.2.1)),(8,.x (.slice s.2.2.1 s.1.length s.2.2.2))])
    (fun s=>XgW b c l.length l.length (mks l (ord l))++[.row s.2.2.1 s.1.length s.2.2.2 3 1 (ia s.1)]) (fun s=>Way l s.1 s.2.1) (fun s=>l.length+1 - s.1.length) ([],(a0:Int),none,0) ?a hw0 fun s hs=>?_
   case a=>
    refine Xaq.mk' [_,_] [_,_,_] ((XvG (l₁:=[_])).trans (.cons _ (XvG (l₁:=[_,_])))) (Xap.refl _ _) ?_
    (repeat' (first|exact VwL.nil|(refine VwL.cons ?_ ?_)|exact Vw.refl _|exact Vw.top _|exact Vw.nil|(refine Vw.eq ?_;first|rfl|(simp;done)|(congr 3;omega)|(congr 2;omega))))
   clear hIb hw0 h
   obtain ⟨d,a,ad2,cap2⟩:=s
   simp only at hs
   have hle:=hs.le
   have halt:=hs.alt
   obtain ⟨a,rfl⟩:∃k:Nat,a=k:=⟨a.toNat,by omega⟩
   obtain ⟨nb,hnb,hnm,hnf⟩:=hs.nxt
   obtain ⟨k2,hk2,hk2i,hk2v⟩:=Xry hnb
   have hal:a < l.length:=by omega
   have hpI:=XoK d (a:Int) (by omega)
   have hcF:=Xf5 (nds l a) (XgW b c l.length l.length (mks l (ord l))) 81 _ #[.pointer (some ⟨b,0,none⟩)] (fun j=>!(ord l).contains j) (by have:=Xp9 l a;omega) Tryz.func81 (by decide) rfl (fun j hj=>Xi7 l (ord l) b c j (Xm6 l a j hj))
   rw [hk2i] at hcF
   simp only [fiv] at hcF
   have hs':=Lib.hid hs
   have hnb':=Lib.hid hnb
   have hk2v':=Lib.hid hk2v
   clear hs hnb hnf hk2i hk2v
   simp only [wfr,XgW,XvE,XvD]
   cases hp:d.findIdx? (· == (a:Int)) with
   | some k=>
     rw [hp] at hpI
     simp only [fiv] at hpI
     have hpe:=hs'.out.end_ hp
     have hkl:=(List.findIdx?_eq_some_iff_getElem.1 hp).1
     have hpe':=Lib.hid hpe
     clear hpe hp
     (repeat' (first|refine Wkx.go ?_|refine XaJ ?_|refine XaG ?_|(refine XaE (fun h=>?_) (fun h=>?_)<;>first|(exact absurd h (by decide))|(exfalso;omega;done)|skip)|refine XaF ?_|refine Xai ?_ (h:=by first|exact fun _=>XeY rfl rfl Tryz.func83 (hS:=hpI)|fail)|refine Xai ?_|(refine Xaa rfl ?_;(first|refine Xax ?_|refine Xaw ?_|refine Xav (fun ad cap=>?_)|refine Xat (fun b=>?_)|refine Xas (fun b=>?_)|refine Xau (fun b=>?_)|fail))|fail))
     have hcl:XaM Tryz.prog 84 [] [.sq (d.length - k) (ia (d.drop k))] (Xoe (cyc l)):=by
      have:=XkR (d.drop k) (by simp;omega) (by simp;omega)
      rw [List.length_drop] at this
      rw [hpe'.out] at this ⊢
      exact this
     apply XdF;(case h=>(apply Xaq.mk' [_] [_,_] (XvG (l₁:=[_,_])) (Xap.refl _ _);(repeat' (first|exact VwL.nil|apply VwL.cons|exact Vw.row (List.Mem.head _) (VwL.refl _ _)|exact Vw.row (List.Mem.tail _ (List.Mem.head _)) (VwL.refl _ _)|exact Vw.refl _))))
     (have wx:=And.intro @XoF (And.intro @XoG @Xhm);(repeat' (first|refine Wkx.go ?_|refine XaJ ?_|refine XaG ?_|(refine XaE (fun h=>?_) (fun h=>?_)<;>first|(exact absurd h (by decide))|(exfalso;omega;done)|skip)|refine XaF ?_|refine Xai ?_|(refine Xaa rfl ?_;(first|((refine Xa5 Tryz.func84 ([]) rfl rfl (.refl _) (hcl) ?_;rintro _ _ ⟨ad3,cap3,rfl,rfl⟩);refine XaO ?_)|refine Xax ?_|refine Xaw ?_|refine Xav (fun ad cap=>?_)|refine Xat (fun b=>?_)|refine Xas (fun b=>?_)|refine Xau (fun b=>?_)|fail))|fail)))<;>(try clear wx)
     refine Xab _ _ (Xa0 rfl (RV.tmp _) (Xaq.mk' [_,_] [_] ((XvG (l₁:=[_,_]) (l₂:=[])).symm) (Xap.refl _ _) (VwL.refl _ _))) ?_
     exact ⟨ad3,cap3,rfl,rfl⟩
   | none=>
     rw [hp] at hpI
     simp only [fiv] at hpI
     have hna:(a:Int) ∉ d:=by
      rw [List.findIdx?_eq_none_iff] at hp
      intro hm;simpa using hp _ hm
     have hna':=Lib.hid hna
     clear hna hp
     (have wx:=@Xi8;(repeat' (first|refine Wkx.go ?_|refine XaJ ?_|refine XaG ?_|(refine XaE (fun h=>?_) (fun h=>?_)<;>first|(exact absurd h (by decide))|(exfalso;omega;done)|skip)|refine XaF ?_|refine Xai ?_ (h:=by first|exact fun _=>XeY rfl rfl Tryz.func83 (hS:=hpI)|fail)|refine Xai ?_|(refine Xaa rfl ?_;(first|refine Xax ?_|refine Xaw ?_|refine Xav (fun ad cap=>?_)|refine Xat (fun b=>?_)|refine Xas (fun b=>?_)|refine Xau (fun b=>?_)|fail))|fail)))<;>(try clear wx)
     refine Xaa rfl ?_
     refine Xaj 85 _ (XgW _ c l.length l.length (mks l (ord l))) [_,_] _ _ rfl rfl Tryz.func85 (by decide) rfl ((XvG (l₁:=[_,_])).symm) (VwL.refl _ _) hcF ?_
     rintro _ _ ⟨rfl,rfl⟩
     (try simp only [wtn,Xvx,Xvu,Xvv,Xvy,XvC,Nat.reduceAdd,Nat.reduceMul,Nat.reduceSub,↓reduceIte,Nat.reduceEqDiff])
     (have wx:=And.intro @Xi8 @Xe2;(repeat' (first|refine Wkx.go ?_|refine XaJ ?_|refine XaG ?_|(refine XaE (fun h=>?_) (fun h=>?_)<;>first|(exact absurd h (by decide))|(exfalso;omega;done)|skip)|refine XaF ?_|refine Xai ?_|(refine Xaa rfl ?_;(first|refine Xax ?_|refine Xaw ?_|refine Xav (fun ad cap=>?_)|refine Xat (fun b=>?_)|refine Xas (fun b=>?_)|refine Xau (fun b=>?_)|fail))|fail)))<;>(try clear wx)
     have hnx:nb=(nds l a)[k2]:=hk2v'.out.symm
     refine ⟨(d++[(a:Int)],nb,ad,cap),by simp only [XvF,Xvw,Xvz];omega,hs'.out.step hna'.out hnb'.out,?_⟩
     simp only [XmH,XvF,Xvw,Xvz,hnx]
     refine Xaq.mk' [_] [_,_,_] (XvG (l₁:=[_,_])) (Xap.refl _ _) ?_
     (repeat' (first|exact VwL.nil|(refine VwL.cons ?_ ?_)|exact Vw.refl _|exact Vw.top _|exact Vw.nil|(refine Vw.eq ?_;first|rfl|(simp;done)|(congr 3;omega)|(congr 2;omega))))
def XdB (l:List JF):Nat→List JF→Option (Nat × JF)
 | _,[]=>none
 | i,j :: t=>match XmR l i j with
   | some e=>some (e,j)
   | none=>XdB l (i+1) t
def Xe6 (l:List JF):Option (Nat × JF)→Option (Nat × JF)
 | some x=>some x
 | none=>match cyc (l.map JF.toJA) with
   | []=>none
   | c :: _=>(l[c.toNat]?).map fun j=>(6,j)
def Xe5 (l:List JF):Option (Nat × JF):=Xe6 l (XdB l 0 l)
structure Xt1 (j:JF):Prop where
 needs:j.needs.length≤8796093022208
 ladder:j.ladder.length≤1000000
 ready:j.ready.length≤100000000
def Xqw (ad:Nat→Addr) (x:Option (Nat × JF)) (r:AV) (H':List Hp):Prop:=match x with
 | none=>r=.x .nilIface∧H'=[.sen ad]
 | some (i,j)=>∃b,r=.x (.iface 58 (.pointer (some ⟨b,0,none⟩)))∧H'=[.box b [.x (.int .i64 j.line),.x (.int .i64 j.col),.x (Xhg ad i)],.sen ad]
theorem XrO (s:List UInt8) (i:Nat) (h:Xqb s=some i):i < 7:=by
 unfold Xqb at h
 split at h
 ·cases h;decide
 split at h
 ·cases h;decide
 split at h
 ·cases h;decide
 ·cases h
theorem Xrc {l:List JF} {i:Nat} {j:JF} {e:Nat} (h:XmR l i j=some e):e < 7:=by
 unfold XmR at h
 split at h
 ·cases h;decide
 split at h
 ·cases h;decide
 split at h
 ·cases h;decide
 split at h
 ·exact XrO _ _ h
 ·cases h
theorem Xth (ad:Nat→Addr) (l:List JF) (hl:l.length≤32) (hj:∀j∈l,Xt1 j):XaM Tryz.prog 16 [.sen ad] [.sq l.length (jfa l)] (Xqw ad (Xe5 l)):=by
 have hj:=Lib.hid hj
 generalize hR0:XdB l 0 l=R0
 have hE:Xe5 l=Xe6 l R0:=by unfold Xe5;rw [hR0]
 have hE:=Lib.hid hE
 have hR0:=Lib.hid hR0
 refine Xbs Tryz.func16 Tryz.ntmps16 ?_
 (repeat' (first|refine Wkx.go ?_|refine XaJ ?_|refine XaG ?_|(refine XaE (fun h=>?_) (fun h=>?_)<;>first|(exact absurd h (by decide))|(exfalso;omega;done)|skip)|refine XaF ?_|refine Xai ?_|(refine Xaa rfl ?_;(first|refine Xax ?_|refine Xaw ?_|refine Xav (fun ad cap=>?_)|refine Xat (fun b=>?_)|refine Xas (fun b=>?_)|refine Xau (fun b=>?_)|fail))|fail))
 refine XaA (S:=Nat) (fun s=>frm 40 [(0,.sq l.length (jfa l)),(11,.x (.int .i64 l.length)),(12,.x (.int .i64 s))]) (fun _=>[.sen ad]) (fun i=>i≤l.length∧XdB l i (l.drop i)=R0) (fun i=>l.length - i) 0 (XbQ (D:=[])) ⟨Nat.zero_le _,by simpa using hR0.out⟩ fun i hi=>?_
 clear hR0
 obtain ⟨hi,hg⟩:=hi
 simp only [wfr]
 by_cases hlt:i < l.length
 ·rw [List.drop_eq_getElem_cons hlt,XdB] at hg
  have hok:=hj.out _ (List.getElem_mem hlt)
  have hb:=XuD ad l i hlt (by omega) (by have:=hok.needs;omega) hok.ladder hok.ready
  have hd1:=Lib.hid (XeB l i hlt)
  cases he:XmR l i l[i] with
  | none=>
    rw [he] at hg hb
    simp only at hg
    have hb:=Lib.hid hb
    unfold Xt7 at hb
    have hg:=Lib.hid hg
    (repeat' (first|refine Wkx.go ?_|refine XaJ ?_|refine XaG ?_|(refine XaE (fun h=>?_) (fun h=>?_)<;>first|(exact absurd h (by decide))|(exfalso;omega;done)|skip)|refine XaF ?_|refine Xai ?_|(refine Xaa rfl ?_;(first|((refine Xa5 Tryz.func41 [_] rfl rfl (Xvt _) hb.out ?_;rintro _ _ ⟨rfl,rfl⟩);refine XaO ?_)|refine Xax ?_|refine Xaw ?_|refine Xav (fun ad cap=>?_)|refine Xat (fun b=>?_)|refine Xas (fun b=>?_)|refine Xau (fun b=>?_)|fail))|fail))
    exact ⟨i+1,by omega,⟨by omega,hg.out⟩,(XbQ (D:=[]))⟩
  | some e=>
    rw [he] at hg hb
    simp only at hg
    subst hg
    have hE:=hE.out
    rw [hE]
    unfold Xe6
    simp only
    generalize l[i]=j at *
    unfold Xt7 Xhg at hb
    have hb:=Lib.hid hb
    (have wx:=And.intro @hd1.out @JF.cells.eq_1;(repeat' (first|refine Wkx.go ?_|refine XaJ ?_|refine XaG ?_|(refine XaE (fun h=>?_) (fun h=>?_)<;>first|(exact absurd h (by decide))|(exfalso;omega;done)|skip)|refine XaF ?_|refine Xai ?_|(refine Xaa rfl ?_;(first|((refine Xa5 Tryz.func41 [_] rfl rfl (Xvt _) hb.out ?_;rintro _ _ ⟨rfl,rfl⟩);refine XaO ?_)|((refine Xa5 Tryz.func42 [] rfl rfl (Xvt _) (Xu3 j XrV (some (ad e))) ?_;rintro _ _ ⟨b,rfl,rfl⟩);refine XaO ?_)|refine Xax ?_|refine Xaw ?_|refine Xav (fun ad cap=>?_)|refine Xat (fun b=>?_)|refine Xas (fun b=>?_)|refine Xau (fun b=>?_)|fail))|fail)))<;>(try clear wx)
    refine Xab _ _ (Xa0 rfl (RV.tmp _) (Xaq.mk' [] [.box b _,.sen ad] (by (repeat' (first|exact Xvt _|exact List.Perm.nil|refine XvJ _ ?_|refine (XvG (l₁:=[_])).trans (XvJ _ ?_)|refine (XvG (l₁:=[_,_])).trans (XvJ _ ?_)|refine (XvG (l₁:=[_,_,_])).trans (XvJ _ ?_)|refine (XvG (l₁:=[_,_,_,_])).trans (XvJ _ ?_)|refine (XvG (l₁:=[_,_,_,_,_])).trans (XvJ _ ?_)|refine (XvG (l₁:=[_,_,_,_,_,_])).trans (XvJ _ ?_)|refine (XvG (l₁:=[_,_,_,_,_,_,_])).trans (XvJ _ ?_)|refine (XvG (l₁:=[_,_,_,_,_,_,_,_])).trans (XvJ _ ?_)))) (Xap.refl _ _) (VwL.refl _ _))) ⟨b,rfl,rfl⟩
 ·rw [List.drop_of_length_le (by omega),XdB] at hg
  subst hg
  rw [hE.out]
  unfold Xe6
  simp only
  have hC:=XkW (l.map JF.toJA) (by simp;omega) (fun j h=>by obtain ⟨x,hx,rfl⟩:=List.mem_map.1 h;exact (hj.out x hx).needs)
  rw [←XmQ,List.length_map] at hC
  have hlt2:=XpT (l.map JF.toJA)
  generalize cyc (l.map JF.toJA)=cy at *
  have hC:=Lib.hid hC
  match cy,hC,hlt2 with
  | [],hC,_=>
    (repeat' (first|refine Wkx.go ?_|refine XaJ ?_|refine XaG ?_|(refine XaE (fun h=>?_) (fun h=>?_)<;>first|(exact absurd h (by decide))|(exfalso;omega;done)|skip)|refine XaF ?_|refine Xai ?_|(refine Xaa rfl ?_;(first|((refine Xa5 Tryz.func43 [] rfl rfl (Xvt _) hC.out ?_;rintro _ _ ⟨ad',cap',rfl,rfl⟩);refine XaO ?_)|refine Xax ?_|refine Xaw ?_|refine Xav (fun ad cap=>?_)|refine Xat (fun b=>?_)|refine Xas (fun b=>?_)|refine Xau (fun b=>?_)|fail))|fail))
    refine Xab _ _ (Xa0 rfl (RV.tmp _) (Xaq.mk' [.row _ _ _ _ _ _] [.sen ad] (by (repeat' (first|exact Xvt _|exact List.Perm.nil|refine XvJ _ ?_|refine (XvG (l₁:=[_])).trans (XvJ _ ?_)|refine (XvG (l₁:=[_,_])).trans (XvJ _ ?_)|refine (XvG (l₁:=[_,_,_])).trans (XvJ _ ?_)|refine (XvG (l₁:=[_,_,_,_])).trans (XvJ _ ?_)|refine (XvG (l₁:=[_,_,_,_,_])).trans (XvJ _ ?_)|refine (XvG (l₁:=[_,_,_,_,_,_])).trans (XvJ _ ?_)|refine (XvG (l₁:=[_,_,_,_,_,_,_])).trans (XvJ _ ?_)|refine (XvG (l₁:=[_,_,_,_,_,_,_,_])).trans (XvJ _ ?_)))) (Xap.refl _ _) (VwL.refl _ _))) ⟨rfl,rfl⟩
  | c :: t,hC,hlt2=>
    have hc:=hlt2 c (List.mem_cons_self ..)
    rw [List.length_map] at hc
    obtain ⟨k,rfl⟩:∃k:Nat,c=k:=⟨c.toNat,by omega⟩
    have hk:k < l.length:=by omega
    have hd1:=Lib.hid (XeB l k hk)
    simp only [Int.toNat_natCast,List.getElem?_eq_getElem hk,Option.map_some]
    generalize l[k]=j at *
    clear hlt2 hE
    have h6:Xhg ad 6=.iface XrV (.pointer (some (ad 6))):=rfl
    have h6:=Lib.hid h6
    have hia:ia ((k:Int) :: t)=.x (.int .i64 (k:Nat)) :: ia t:=by simp [ia]
    have hia:=Lib.hid hia
    have hln:((k:Int) :: t).length=t.length+1:=rfl
    (have wx:=@hia.out;(repeat' (first|refine Wkx.go ?_|refine XaG ?_|(refine XaE (fun h=>?_) (fun h=>?_)<;>first|(exact absurd h (by decide))|(exfalso;omega;done)|skip)|refine XaF ?_|refine Xai ?_|(refine Xaa rfl ?_;(first|((refine Xa5 Tryz.func43 [] rfl rfl (Xvt _) hC.out ?_;rintro _ _ ⟨ad',cap',rfl,rfl⟩);refine XaO ?_)|refine Xax ?_|refine Xaw ?_|refine Xav (fun ad cap=>?_)|refine Xat (fun b=>?_)|refine Xas (fun b=>?_)|refine Xau (fun b=>?_)|fail))|fail)))<;>(try clear wx)
    refine XdG 0 rfl fun _ _ hd=>?_
    rcases hd with ⟨_,h0,_⟩|⟨g,rfl⟩
    ·cases h0
    refine Xcx (B:=[_,_]) (R:=[]) mixed [0,1,2,3,4,5,6,7] [7] [8] none [] 1 (Xvt _) (by decide +kernel) rfl (fun i o h=>by cases h) (by decide) ?_
    (have wx:=And.intro @hia.out (And.intro @hd1.out (And.intro @JF.cells.eq_1 @h6.out));(repeat' (first|refine XiQ ?_ (h:=by first|((first|(refine fun (_:True)=>?_)|(intro hp;(try simp only [wgp] at hp);(try simp only [hp,wte]);(try simp only [whn] at hp)));((try simp only [XvE,XvD]);exact XfW))|fail)|refine XiQ ?_|(refine Xmk ?_;(first|((refine Xa5 Tryz.func42 [] rfl rfl (Xvt _) (Xu3 j XrV (some (ad 6))) ?_;rintro _ _ ⟨b,rfl,rfl⟩);refine ⟨_,rfl,?_⟩;refine XlA ?_)|refine XlB (fun ad cap=>?_)|refine Xml (fun b=>?_)))|fail)))<;>(try clear wx)
    (first|(refine XfS (fun b=>?_))|refine XfT ?_);(refine Xdn 8 ?_;(first|refine Xcb ?_|refine Xax ?_|refine Xaw ?_|refine Xav (fun ad cap=>?_)|refine Xat (fun b=>?_)|refine Xas (fun b=>?_)|refine Xau (fun b=>?_)|fail));refine Xar (by decide +kernel) ?_
    (repeat' (first|refine Wkx.go ?_|refine XaJ ?_|refine XaG ?_|(refine XaE (fun h=>?_) (fun h=>?_)<;>first|(exact absurd h (by decide))|(exfalso;omega;done)|skip)|refine XaF ?_|refine Xai ?_|(refine Xaa rfl ?_;(first|refine Xax ?_|refine Xaw ?_|refine Xav (fun ad cap=>?_)|refine Xat (fun b=>?_)|refine Xas (fun b=>?_)|refine Xau (fun b=>?_)|fail))|fail))
    refine Xab _ _ (Xa0 rfl (RV.tmp _) (Xaq.mk' [.row _ _ _ _ _ _] [.box b _,.sen ad] (by (repeat' (first|exact Xvt _|exact List.Perm.nil|refine XvJ _ ?_|refine (XvG (l₁:=[_])).trans (XvJ _ ?_)|refine (XvG (l₁:=[_,_])).trans (XvJ _ ?_)|refine (XvG (l₁:=[_,_,_])).trans (XvJ _ ?_)|refine (XvG (l₁:=[_,_,_,_])).trans (XvJ _ ?_)|refine (XvG (l₁:=[_,_,_,_,_])).trans (XvJ _ ?_)|refine (XvG (l₁:=[_,_,_,_,_,_])).trans (XvJ _ ?_)|refine (XvG (l₁:=[_,_,_,_,_,_,_])).trans (XvJ _ ?_)|refine (XvG (l₁:=[_,_,_,_,_,_,_,_])).trans (XvJ _ ?_)))) (Xap.refl _ _) (VwL.refl _ _))) ⟨b,rfl,rfl⟩
open Go.RowKit Go.Extern.Stop Go.Stop Go.Extern
theorem XhO (v:Value) (w:World):(Extern.ReflectliteType.typeOf #[.iface 293 v]).run Tryz.prog w=.ok (.iface 167 (.agg #[.pointer (some ⟨14,293,none⟩)])) w:=by kernel_rfl
theorem Xd4 (w:World):((Extern.ReflectliteType.method fun t=>do Rtype.noPackHeld "Comparable" t;pure (.bool (←typeInfo t).comparable)) #[.agg #[.pointer (some ⟨14,293,none⟩)]]).run Tryz.prog w=.ok (.bool true) w:=by kernel_rfl
theorem Xes (w:World):((Extern.ReflectliteType.method fun t=>do Rtype.noPackHeld "Comparable" t;(fun a=>Value.bool a.comparable) <$> typeInfo t) #[.agg #[.pointer (some ⟨14,293,none⟩)]]).run Tryz.prog w=.ok (.bool true) w:=by kernel_rfl
theorem XcX (v:Value) (w:World):(Go.method 432 167 v "Comparable").run Tryz.prog w=.ok (242,v) w:=by kernel_rfl
theorem Xmn:(Tryz.prog.info? 293).map (·.comparable)=some true:=by kernel_rfl
theorem Xmo:(Tryz.prog.info? 295).map (·.size)=some 1:=by kernel_rfl
theorem XjT (v:Value) (xT:TypeId) (w:World):(Instr.typeAssert (.iface 293 v) xT 202 true).run Tryz.prog w=.ok (.tuple #[.nilIface,.bool false]) w:=run_typeAssert_lacksB Tryz.underlying202 (by kernel_rfl) (by kernel_rfl) v xT w
theorem Xfj (v:Value) (xT:TypeId) (w:World):(Instr.typeAssert (.iface 293 v) xT 174 true).run Tryz.prog w=.ok (.tuple #[.nilIface,.bool false]) w:=run_typeAssert_lacksB Tryz.underlying174 (by kernel_rfl) (by kernel_rfl) v xT w
theorem Xeu (v:Value) (xT:TypeId) (w:World):(Instr.typeAssert (.iface 293 v) xT 176 true).run Tryz.prog w=.ok (.tuple #[.nilIface,.bool false]) w:=run_typeAssert_lacksB Tryz.underlying176 (by kernel_rfl) (by kernel_rfl) v xT w
theorem XjU (v:Value) (xT:TypeId) (w:World):(Instr.typeAssert (.iface 58 v) xT 202 true).run Tryz.prog w=.ok (.tuple #[.nilIface,.bool false]) w:=run_typeAssert_lacksB Tryz.underlying202 (by kernel_rfl) (by kernel_rfl) v xT w
theorem Xet (v:Value) (xT:TypeId) (w:World):(Instr.typeAssert (.iface 58 v) xT 174 true).run Tryz.prog w=.ok (.tuple #[.iface 58 v,.bool true]) w:=run_typeAssert_hasB Tryz.underlying174 (by kernel_rfl) v xT w
theorem XdH (v:Value) (w:World):(Go.method 432 58 v "Unwrap").run Tryz.prog w=.ok (236,v) w:=by kernel_rfl
theorem XhP (pb:Nat) (b:Addr) (w:World) (h1:w.cell? ⟨pb,2,none⟩=some (.iface 293 (.pointer (some b)))) :
  Calls Tryz.prog 44 #[.iface 58 (.pointer (some ⟨pb,0,none⟩)),.iface 293 (.pointer (some b))] w fun e w'=>e=.returned (.bool true)∧w'=w:=by
 (obtain ⟨i,hi,hcmp⟩:=Option.map_eq_some_iff.1 Xmn;obtain ⟨j,hj,hjs⟩:=Option.map_eq_some_iff.1 Xmo;have h8:=@run_callFunc_extern Tryz.prog 86 _ Extern.ReflectliteType.typeOf Tryz.func86 (by kernel_rfl) (by kernel_rfl) (by kernel_rfl) (by kernel_rfl);have h32:=@run_callFunc_extern Tryz.prog 242 _ (Extern.ReflectliteType.method fun t=>do Rtype.noPackHeld "Comparable" t;pure (.bool (←typeInfo t).comparable)) Tryz.func242 (by kernel_rfl) (by kernel_rfl) (by kernel_rfl) (by kernel_rfl);have tT:=XhO;have cT:=Xes;have cT0:=Xd4;have mR:=XcX;have nE:=XjT;have uE:=Xfj;have vE:=Xeu;have nW:=XjU;have uW:=Xet;have mU:=XdH)
 have heq:=run_eql_iface_ptr_same (P:=Tryz.prog) w b Tryz.underlying55 Tryz.underlying293 hi hcmp hj
 have hty:=run_eql_iface_types (P:=Tryz.prog) 58 293 (.pointer (some ⟨pb,0,none⟩)) (.pointer (some b)) Tryz.underlying55 (by decide) w
 go_enter Tryz.func44,Tryz.ntmps44
 go_wp2
 refine wp_loop_rounds 2 ?_
 rw [rounds_succ]
 go_wp2
 rw [rounds_succ]
 go_wp2
 go_ret
 exact ⟨rfl,rfl⟩
theorem Xg1 (pb:Nat) (b a:Addr) (ca cb:Array Value) (ta tb:TypeId) (w:World) (h1:w.cell? ⟨pb,2,none⟩=some (.iface 293 (.pointer (some a)))) (hne:a≠b) (ha:w.heap[a.block]?=some (.cells ca ta (0,0))) (hb:w.heap[b.block]?=some (.cells cb tb (0,0))) :
  Calls Tryz.prog 44 #[.iface 58 (.pointer (some ⟨pb,0,none⟩)),.iface 293 (.pointer (some b))] w fun e w'=>e=.returned (.bool false)∧w'=w:=by
 (obtain ⟨i,hi,hcmp⟩:=Option.map_eq_some_iff.1 Xmn;obtain ⟨j,hj,hjs⟩:=Option.map_eq_some_iff.1 Xmo;have h8:=@run_callFunc_extern Tryz.prog 86 _ Extern.ReflectliteType.typeOf Tryz.func86 (by kernel_rfl) (by kernel_rfl) (by kernel_rfl) (by kernel_rfl);have h32:=@run_callFunc_extern Tryz.prog 242 _ (Extern.ReflectliteType.method fun t=>do Rtype.noPackHeld "Comparable" t;pure (.bool (←typeInfo t).comparable)) Tryz.func242 (by kernel_rfl) (by kernel_rfl) (by kernel_rfl) (by kernel_rfl);have tT:=XhO;have cT:=Xes;have cT0:=Xd4;have mR:=XcX;have nE:=XjT;have uE:=Xfj;have vE:=Xeu;have nW:=XjU;have uW:=Xet;have mU:=XdH)
 have heq:=run_eql_iface_ptr_other (P:=Tryz.prog) w Tryz.underlying55 Tryz.underlying293 hi hcmp hj (by rw [hjs];decide) hne ha hb
 have hty:=run_eql_iface_types (P:=Tryz.prog) 58 293 (.pointer (some ⟨pb,0,none⟩)) (.pointer (some b)) Tryz.underlying55 (by decide) w
 go_enter Tryz.func44,Tryz.ntmps44
 go_wp2
 refine wp_loop_rounds 2 ?_
 rw [rounds_succ]
 go_wp2
 rw [rounds_succ]
 go_wp2
 go_ret
 exact ⟨rfl,rfl⟩
theorem Xkj:Xpk.length=7:=rfl
theorem XmN (ad:Nat→Addr) (hinj:Xfg ad) (i j pb:Nat) (v0 v1:Value) (hi:i < 7) (hj:j < 7) (R:List Hp):XaM Tryz.prog 44 (.box pb [.x v0,.x v1,.x (Xhg ad i)] :: .sen ad :: R) [.x (.iface 58 (.pointer (some ⟨pb,0,none⟩))),.x (Xhg ad j)] fun r H'=>r=.x (.bool (decide (i=j)))∧H'=.box pb [.x v0,.x v1,.x (Xhg ad i)] :: .sen ad :: R:=by
 refine XlJ (args:=[_,_]) fun w hb hs=>?_
 have hs:=hs ad (List.mem_cons_of_mem _ (List.mem_cons_self ..))
 have h1:=hb pb [v0,v1,Xhg ad i] (List.mem_cons_self ..) 2 _ rfl
 by_cases h:i=j
 ·subst h
  rw [decide_eq_true rfl]
  exact XhP pb _ w h1
 ·rw [decide_eq_false h]
  obtain ⟨c,t,e⟩:=hs.blk i (by rw [Xkj];exact hi)
  obtain ⟨c2,t2,e2⟩:=hs.blk j (by rw [Xkj];exact hj)
  exact Xg1 pb _ _ c c2 t t2 w h1 (fun e=>h (hinj i j hi hj e)) e e2
section
variable {P:Program} {Δ:List Deferred} {V O:Nat→Prop} {w0 w w':World} {H H':List Hp} {T:List AV} {a:Act}
theorem XfG {f:FuncId} {args:List Value} {t:Nat} {old new res:Value} {R:List Hp} (h1:new.oneCell'=true)
  (h:∀w,Gw w→(∀b (cells:List Value),Hp.box b (cells.map .x)∈R→∀j u,cells[j]?=some u→w.cell? ⟨b,j,none⟩=some u)→w.cell? ⟨t,0,none⟩=some old→w.frozen? ⟨t,0,none⟩=false →
   Calls P f args.toArray w fun e w'=>e=.returned res∧∃w1,Ext w w1∧w'=w1.setCell ⟨t,0,none⟩ new) :
  XaM P f (.box t [.x old] :: R) (args.map .x) fun r H'=>r=.x res∧H'=.box t [.x new] :: R:=by
 intro V w vs hV hH hd hgl
 rw [hd.exact']
 have r:Rel [] V (Xcm (.box t [.x old] :: R)) w (.box t [.x old] :: R) [] { tmps:=#[],defers:=[] } w:=⟨DenL.nil',hH,Fr.refl _ _,fun x hx k hk=>.inl ⟨x,hx,hk⟩,rfl,hV,hgl⟩
 have hbox:∀(b:Nat) (cells:List Value),Hp.box b (cells.map .x)∈(Hp.box t [.x old] :: R)→∀j u,cells[j]?=some u→w.cell? ⟨b,j,none⟩=some u∧w.frozen? ⟨b,j,none⟩=false:=fun b cells hm j u hj=>by
  obtain ⟨vals,hd,hl,hc⟩:=hH.ok _ hm
  rw [hd.exact'] at hc
  exact ⟨(hc j u hj).1,(hc j u hj).2.2⟩
 have ht:=hbox t [old] (List.mem_cons_self ..) 0 old rfl
 refine (h w hgl.2 (fun b cells hm j u hj=>(hbox b cells (List.mem_cons_of_mem _ hm) j u hj).1) ht.1 ht.2).mono ?_
 rintro e w' ⟨rfl,w1,hE,rfl⟩
 have hlt:t < w.heap.size:=(hH.lt _ (List.mem_cons_self ..) t rfl).1
 have hlt1:t < w1.heap.size:=Nat.lt_of_lt_of_le hlt hE.size
 have hc1:w1.cell? ⟨t,0,none⟩=some old:=by rw [World.cell?_of_block (a:=⟨t,0,none⟩) (hE.block t hlt)];exact ht.1
 have hf1:w1.frozen? ⟨t,0,none⟩=false:=by rw [World.frozen?_of_block (a:=⟨t,0,none⟩) (hE.block t hlt)];exact ht.2
 have r2:Rel [] V (Xcm (.box t [.x old] :: R)) w (.box t [.x new] :: R) [] { tmps:=#[],defers:=[] } (w1.setCell ⟨t,0,none⟩ new):=by
  refine Rel.turn (r.quiet hE) rfl rfl rfl (by simp) (fun k _ hk=>?_) (fun k hk=>?_) ?_ (fun _ _ _=>trivial)
  ·simp only [Hp.blk] at hk
   have:t≠k:=fun e=>hk (by rw [e])
   simp [World.setCell,Array.getElem?_modify,this]
  ·cases hk;exact ⟨by simpa using hlt1,.inl rfl⟩
  ·refine ⟨[new],DenL.cons' (Xov _) DenL.nil',by simpa using hlt1,fun j u hj=>?_⟩
   cases j with
   | succ j=>simp at hj
   | zero=>
     cases hj
     exact ⟨(by first|exact World.cell?_setCell_same _ hc1|exact World.cell?_setCell_same _ _ hc1|exact World.cell?_setCell_same _ _ _ hc1),h1,by rw [World.frozen?_setCell];exact hf1⟩
 exact ⟨.x res,_,res,⟨rfl,rfl⟩,rfl,Xov _,r2.hok,r2.fr,r2.own⟩
end
end Go.Proofs.YtdlblokjfoggpaaGreatDoor

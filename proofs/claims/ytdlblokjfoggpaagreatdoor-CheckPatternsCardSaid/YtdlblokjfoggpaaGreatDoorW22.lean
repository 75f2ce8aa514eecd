import Derived.Test.YtdlblokjfoggpaaGreatDoorW7
import Derived.Test.YtdlblokjfoggpaaGreatDoorW21
/- The graph: Cycle. -/
set_option linter.unusedSimpArgs false
set_option linter.unusedVariables false
set_option maxRecDepth 100000
set_option maxHeartbeats 8000000
namespace Go.Proofs.YtdlblokjfoggpaaGreatDoor
open Go.RowKit
theorem Xj6 (l:List JA) (d:List Int) (b c:Nat) (j:Int) (hj:0≤j∧j < (l.length:Int)):Xay Tryz.prog 81 (XhC b c l.length l.length (mks l d)) [.x (.int .i64 j),.x (.pointer (some ⟨b,0,none⟩))] (fun r H'=>r=.x (.bool (!d.contains j))∧H'=XhC b c l.length l.length (mks l d)):=by
 obtain ⟨k,rfl⟩:∃k:Nat,j=k:=⟨j.toNat,by omega⟩
 have hk:k < (mks l d).length:=by rw [XdA];omega
 have:=XjP b c l.length l.length (mks l d) k (XdA l d).symm hk
 rwa [Xfm] at this
theorem XqB (l:List Int) (k:Nat):(ia l).drop k=ia (l.drop k):=by simp [ia,List.map_drop]
theorem XqC (l:List Int) (k:Nat):(ia l).take k=ia (l.take k):=by simp [ia,List.map_take]
theorem Xib {α:Type} (l:List α) (k:Nat):(l.drop k).take (l.length - k)=l.drop k:=List.take_of_length_le (by simp)
theorem Xt4 {l:List JA} {a b:Int} (h:nxt l a=some b):∃k,∃hk:k < (nds l a).length,(nds l a).findIdx? (fun k=>!(ord l).contains k)=some k∧(nds l a)[k]=b:=by
 unfold nxt at h
 cases hi:(nds l a).findIdx? (fun k=>!(ord l).contains k) with
 | none=>
   rw [List.findIdx?_eq_none_iff] at hi
   have:=List.find?_some h
   rw [hi b (List.mem_of_find?_eq_some h)] at this
   cases this
 | some k=>
   obtain ⟨h1,h2,h3⟩:=List.findIdx?_eq_some_iff_getElem.1 hi
   refine ⟨k,h1,rfl,?_⟩
   have:(nds l a).find? (fun k=>!(ord l).contains k)=some (nds l a)[k]:=by
    rw [List.find?_eq_some_iff_getElem]
    exact ⟨h2,k,h1,rfl,fun j hj=>by simpa using h3 j hj⟩
   rw [this] at h;cases h;rfl
theorem Xmk (l:List JA) (hl:l.length≤1000000) (hm:∀j∈l,j.needs.length≤8796093022208):Xay Tryz.prog 43 [] [.sq l.length (ja l)] (XsY (cyc l)):=by
 have hIb:=XqF (mks l (ord l)) false (by simpa using hl)
 rw [XdA,show List.findIdx? (fun x=>x == false) (mks l (ord l))=at0 l from rfl] at hIb
 refine XaV Tryz.func43 Tryz.ntmps43 ?_
 refine Xa3 3 1 ?_
 cases h0:at0 l with
 | none=>
   rw [h0] at hIb
   simp only [fiv] at hIb
   have hc:cyc l=[]:=by unfold cyc;rw [h0]
   (repeat' (first|refine Wkx.go ?_|(refine Xaz (fun h=>?_) (fun h=>?_)<;>first|(exact absurd h (by decide))|skip)|refine Xad ?_ (h:=by exact fun _=>Xbb rfl rfl Tryz.func37 (XkN l hl hm))|refine Xad ?_ (h:=by exact fun _=>XdD rfl rfl Tryz.func82 (hS:=hIb))|refine Xad ?_|(refine Xab rfl ?_;(first|((refine Xa7 Tryz.func36 ([]) rfl rfl (.refl _) (Xhh l hl) ?_;rintro _ _ ⟨ad,cap,b,c,rfl,rfl⟩);refine XaJ ?_)|refine Xbh ?_|refine Xb8 (fun b=>?_)))|fail))
   refine Xaa _ _ (XaF rfl (RV.tmp _) (XcS (D:=[_,_,_,_]) (R:=[_]))) ?_
   rw [hc]
   exact ⟨none,0,rfl,rfl⟩
 | some a0=>
   rw [h0] at hIb
   simp only [fiv] at hIb
   have hw0:=Way.first h0
   have ha0:=(XfN h0).1
   (repeat' (first|refine Wkx.go ?_|(refine Xaz (fun h=>?_) (fun h=>?_)<;>first|(exfalso;omega;done)|skip)|refine Xad ?_ (h:=by exact fun _=>Xbb rfl rfl Tryz.func37 (XkN l hl hm))|refine Xad ?_ (h:=by exact fun _=>XdD rfl rfl Tryz.func82 (hS:=hIb))|refine Xad ?_|(refine Xab rfl ?_;(first|((refine Xa7 Tryz.func36 ([]) rfl rfl (.refl _) (Xhh l hl) ?_;rintro _ _ ⟨ad,cap,b,c,rfl,rfl⟩);refine XaJ ?_)|refine Xbh ?_|refine Xb8 (fun b=>?_)))|fail))
   refine Xah (S:=List Int × Int × Option Addr × Nat) (fun s=>frm 51 [(3,.sq l.length (na l)),(5,.x (.pointer (some ⟨b,0,none⟩))),(6,.x (.func (.func 81) #[] #[.pointer (some ⟨b,0,none⟩)])),(7,.x (.int .i64 s.2.1)),(8,.x (.slice s.2.2.1 s.1.length s.2.2.2))])
    (fun s=>XhC b c l.length l.length (mks l (ord l))++[.row s.2.2.1 s.1.length s.2.2.2 3 1 (ia s.1)]) (fun s=>Way l s.1 s.2.1) (fun s=>l.length+1 - s.1.length) ([],(a0:Int),none,0) ?a hw0 fun s hs=>?_
   case a=>
    refine Xaj.mk' [_,_] [_,_,_] ((XyB (l₁:=[_])).trans (.cons _ (XyB (l₁:=[_,_])))) (Xak.refl _ _) ?_
    (repeat' (first|exact VwL.nil|(refine VwL.cons ?_ ?_)|exact Vw.refl _|exact Vw.top _|fail))
   clear hIb hw0 h
   obtain ⟨d,a,ad2,cap2⟩:=s
   simp only at hs
   have hle:=hs.le
   have halt:=hs.alt
   obtain ⟨a,rfl⟩:∃k:Nat,a=k:=⟨a.toNat,by omega⟩
   obtain ⟨nb,hnb,hnm,hnf⟩:=hs.nxt
   obtain ⟨k2,hk2,hk2i,hk2v⟩:=Xt4 hnb
   have hal:a < l.length:=by omega
   have hpI:=XqG d (a:Int) (by omega)
   have hcF:=Xgq (nds l a) (XhC b c l.length l.length (mks l (ord l))) 81 _ #[.pointer (some ⟨b,0,none⟩)] (fun j=>!(ord l).contains j) (by have:=Xsh l a;omega) Tryz.func81 (by decide) rfl (fun j hj=>Xj6 l (ord l) b c j (XoC l a j hj))
   rw [hk2i] at hcF
   simp only [fiv] at hcF
   have hs':=Lib.hid hs
   have hnb':=Lib.hid hnb
   have hk2v':=Lib.hid hk2v
   clear hs hnb hnf hk2i hk2v
   simp only [wfr,XhC,Xyz,Xyy]
   cases hp:d.findIdx? (· == (a:Int)) with
   | some k=>
     rw [hp] at hpI
     simp only [fiv] at hpI
     have hpe:=hs'.out.end_ hp
     have hkl:=(List.findIdx?_eq_some_iff_getElem.1 hp).1
     have hpe':=Lib.hid hpe
     clear hpe hp
     (repeat' (first|refine Wkx.go ?_|(refine Xaz (fun h=>?_) (fun h=>?_)<;>first|(exact absurd h (by decide))|skip)|refine Xad ?_ (h:=by exact fun _=>XdD rfl rfl Tryz.func83 (hS:=hpI))|refine Xad ?_|fail))
     have hcl:Xay Tryz.prog 84 [] [.sq (d.length - k) (ia (d.drop k))] (XsY (cyc l)):=by
      have:=Xme (d.drop k) (by simp;omega) (by simp;omega)
      rw [List.length_drop] at this
      rw [hpe'.out] at this ⊢
      exact this
     apply XeI;(case h=>(apply Xaj.mk' [_] [_,_] (XyB (l₁:=[_,_])) (Xak.refl _ _);(repeat' (first|exact VwL.nil|apply VwL.cons|exact Vw.row (List.Mem.head _) (VwL.refl _ _)|exact Vw.refl _|fail))))
     (have wx:=And.intro @XqB (And.intro @XqC @Xib);(repeat' (first|refine Wkx.go ?_|refine Xad ?_|(refine Xab rfl ?_;((refine Xa7 Tryz.func84 ([]) rfl rfl (.refl _) (hcl) ?_;rintro _ _ ⟨ad3,cap3,rfl,rfl⟩);refine XaJ ?_))|fail)))<;>(try clear wx)
     refine Xaa _ _ (XaF rfl (RV.tmp _) (Xaj.mk' [_,_] [_] ((XyB (l₁:=[_,_]) (l₂:=[])).symm) (Xak.refl _ _) (VwL.refl _ _))) ?_
     exact ⟨ad3,cap3,rfl,rfl⟩
   | none=>
     rw [hp] at hpI
     simp only [fiv] at hpI
     have hna:(a:Int) ∉ d:=by
      rw [List.findIdx?_eq_none_iff] at hp
      intro hm;simpa using hp _ hm
     have hna':=Lib.hid hna
     clear hna hp
     (have wx:=@Xj7;(repeat' (first|refine Wkx.go ?_|(refine Xaz (fun h=>?_) (fun h=>?_)<;>first|(exact absurd h (by decide))|skip)|refine Xad ?_ (h:=by exact fun _=>XdD rfl rfl Tryz.func83 (hS:=hpI))|refine Xad ?_|(refine Xab rfl ?_;(first|refine XfK (fun ad cap=>?_)|refine Xfr (fun b=>?_)))|fail)))<;>(try clear wx)
     refine Xab rfl ?_
     refine Xau 85 _ (XhC _ c l.length l.length (mks l (ord l))) [_,_] _ _ rfl rfl Tryz.func85 (by decide) rfl ((XyB (l₁:=[_,_])).symm) (VwL.refl _ _) hcF ?_
     rintro _ _ ⟨rfl,rfl⟩
     (try simp only [wtn,Xys,Xyp,Xyq,Xyt,Xyx,Nat.reduceAdd,Nat.reduceMul,Nat.reduceSub,↓reduceIte,Nat.reduceEqDiff])
     (have wx:=And.intro @Xj7 @Xgp;(repeat' (first|refine Wkx.go ?_|(refine Xaz (fun h=>?_) (fun h=>?_)<;>first|(exfalso;omega;done)|skip)|refine Xad ?_|fail)))<;>(try clear wx)
     have hnx:nb=(nds l a)[k2]:=hk2v'.out.symm
     refine ⟨(d++[(a:Int)],nb,ad,cap),by simp only [XyA,Xyr,Xyu];omega,hs'.out.step hna'.out hnb'.out,?_⟩
     simp only [Xoa,XyA,Xyr,Xyu,hnx]
     refine Xaj.mk' [_] [_,_,_] (XyB (l₁:=[_,_])) (Xak.refl _ _) ?_
     (repeat' (first|exact VwL.nil|(refine VwL.cons ?_ ?_)|exact Vw.refl _|exact Vw.top _|fail))
end Go.Proofs.YtdlblokjfoggpaaGreatDoor

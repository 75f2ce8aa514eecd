import Derived.Test.YtdpobjakdplljaaGreatDoorV42
import Derived.Test.YtdpobjakdplljaaGreatDoorV40
import Derived.Test.YtdpobjakdplljaaGreatDoorV29
/- The program's scripts: Format. -/
set_option linter.unusedSimpArgs false
set_option linter.unusedVariables false
set_option maxRecDepth 100000
set_option maxHeartbeats 8000000
namespace Go.Proofs.YtdpobjakdplljaaGreatDoor
open Go.RowKit
theorem XiG {P:Program} {Δ:List Deferred} {Θ:List (Nat × Obj)} {c:Operand} {x y:Code} {Q:Xfg} {T:List AV} {H:List Hp} (b:Bool) (hc:ev T c=.x (.bool b)) (h1:b=true→Xd8 P Δ Θ x Q T H) (h2:b=false→Xd8 P Δ Θ y Q T H):Xd8 P Δ Θ (.cond c x y) Q T H:=
 fun V O w0 a w r t=>wp_cond_split (r.evx hc) (fun hb=>h1 hb V O w0 a w r t) (fun hb=>h2 hb V O w0 a w r t)
theorem Xnf {P:Program} {Δ:List Deferred} {Θ:List (Nat × Obj)} {c:Code} {Q Q':Xfg} {T:List AV} {H:List Hp} (h:Xd8 P Δ Θ c Q T H) (hQ:∀Δ Θ e T H,Q Δ Θ e T H→Q' Δ Θ e T H):Xd8 P Δ Θ c Q' T H:=
 fun V O w0 a w r t=>wp_mono (h V O w0 a w r t) fun _ _ _ ⟨Δ,Θ,T,H,r,t,q⟩=>⟨Δ,Θ,T,H,r,t,hQ _ _ _ _ _ q⟩
theorem XkW {P:Program} {Δ:List Deferred} {Θ:List (Nat × Obj)} {x y:Code} {Q:Xfg} {T:List AV} {H:List Hp} (M:List AV→List Hp→Prop) (h1:Xd8 P Δ Θ x (fun Δ' _ e T' H'=>e=.normal∧Δ'=Δ∧M T' H') T H) (h2:∀T' H',M T' H'→Xd8 P Δ [] y Q T' H'):Xd8 P Δ Θ (.seq x y) Q T H:=
 XbC (Xnf h1 fun _ _ _ T' H' ⟨he,hd,hm⟩=>by subst he hd;exact Xne (h2 T' H' hm))
theorem XtI (pre wd fs:List UInt8) (e:EF) (he:EOk e) (h1:pre.length≤65536) (h2:wd.length≤8):∃fY:Nat→List UInt8,fY 0=pre++wd∧(∀j (h:j < fs.length),fY (j+1)=fY j++[32]++Xcs e (XbA (fs[j].toNat:Nat)))∧fY fs.length=pre++(wd++XbP e (fs.map fun c=>XbA c.toNat))∧∀j,j≤fs.length→(fY j).length≤65544+j*4500000:=by
 refine ⟨fun j=>pre++(wd++XbP e ((fs.take j).map fun c=>XbA c.toNat)),by simp [XbP],fun j h=>?_,by simp,fun j hj=>?_⟩
 ·simp only [XaX fs j h,List.map_append,Xva,Xve,XbP,List.flatMap_append,List.flatMap_cons,List.flatMap_nil,List.append_nil,List.append_assoc,Xvg,Xvf]
 ·have:=Xnl e he ((fs.take j).map fun c=>XbA c.toNat)
  simp only [Xvh,List.length_map,List.length_take,Nat.min_eq_left hj] at this ⊢
  omega
theorem Xns (l:List EF) (i:Nat):(Xbr (l.take i)).length≤(Xbr l).length:=by
 have:=congrArg (fun z=>(Xbr z).length) (List.take_append_drop i l)
 simp only [Xbr,List.flatMap_append,Xvh] at this ⊢
 omega
theorem Xnr {l:List EF} (h:Xbr l=[]):l=[]:=by
 cases l with
 | nil=>rfl
 | cons e r=>simp [Xbr] at h
theorem XiO {l:List EF} (h0:¬1000 < l.length) (h:65536 < (Xbr l).length):Xdj l=([],1):=by
 unfold Xdj
 rw [if_neg h0,if_pos h]
theorem XpM {l:List EF} (h0:¬1000 < l.length) (h:¬65536 < (Xbr l).length) (h2:¬((XbS (Xbr l)).2.2=0∧XeC l (XbS (Xbr l)).1=true)):Xdj l=([],320):=by
 unfold Xdj
 rw [if_neg h0,if_neg h,if_neg h2]
theorem XrF {l:List EF} (h0:¬1000 < l.length) (h:¬65536 < (Xbr l).length) (h1:(XbS (Xbr l)).2.2=0) (h2:XeC l (XbS (Xbr l)).1=true):Xdj l=(Xbr l,0):=by
 unfold Xdj
 rw [if_neg h0,if_neg h,if_pos ⟨h1,h2⟩]
theorem Xo7 {a b:List EF} (h:XeC a b=true):a.length=b.length:=by
 unfold XeC at h
 rw [Bool.and_eq_true,decide_eq_true_eq] at h
 exact h.1
theorem Xlb (l:List EF) (hl:∀e∈l,EOk e) (hn:l.length≤1000000):Xa8 Tryz.prog 14 [] [.sq l.length (va l)] (fun r H'=>r=Xuv (Xdj l)∧H'=[]):=by
 have hl':=Lib.hid hl
 clear hl
 refine XhF Tryz.func14 rfl ?_
 simp only [Tryz.ntmps14,Xu8,Xvb,Xvc,Xvd,Xvg,Xvf,Nat.reduceAdd,Nat.reduceSub]
 refine Xa1 ?_
 (repeat' (first|with_reducible (first|refine Xac ?_|refine Xae ?_|refine Xaa ?_)|((apply Xad rfl);(case h=>((try (intro (hp:(_:Bool)=true);((try simp only [Bool.and_eq_true,Bool.not_eq_true',Bool.not_eq_true] at hp);(try simp only [hp,wte]);(try simp only [whn] at hp))));(apply Xab 0 rfl;(exact Xap _ rfl))));(case hT=>((try simp only [wtn,Xu9,Xu6,Xu7,Xva,Xve,Nat.reduceAdd,Nat.reduceMul,Nat.reduceSub,↓reduceIte,Nat.reduceEqDiff]);rfl)))|fail))
 refine Xa1 ?_
 (repeat' (first|with_reducible (first|refine Xai ?_|refine Xac ?_|refine Xas ?_|refine Xaw ?_|refine Xae ?_|refine Xaa ?_|refine Xay ?_)|(refine Xal _ rfl (fun h=>?_) (fun h=>?_)<;>((try (simp only [whn] at h));skip))|((apply Xad rfl);(case h=>((try (intro (hp:(_:Bool)=true);((try simp only [Bool.and_eq_true,Bool.not_eq_true',Bool.not_eq_true] at hp);(try simp only [hp,wte]);(try simp only [whn] at hp))));(first|(apply Xab 0 rfl;(first|exact Xar _ rfl|exact Xap _ rfl))|(apply Xab 3 rfl;(exact Xa2 _ _ _ _ _ _ HEl.out rfl rfl))|(apply XaD;(case hs=>(intro _ _ h;cases h));(case hx=>rfl);(case hrun=>(intro w;simp [wtb,AV.val,go_sem];(try go_bits);rfl))))));(case hT=>((try simp only [wtn,Xu9,Xu6,Xu7,Xva,Xve,Nat.reduceAdd,Nat.reduceMul,Nat.reduceSub,↓reduceIte,Nat.reduceEqDiff]);rfl)))|fail))
 ·refine Xb8 (Xaf _ _ (Xc7 rfl (RV.tmp _) (RV.tmp _) (XaH.mk' [] _ (Xu5 _) (XaB.refl _ _) (VwL.refl _ _))) ?_)
  refine ⟨?_,rfl⟩
  unfold Xdj
  rw [if_pos (by omega)]
  rfl
 have h1000:¬1000 < l.length:=by omega
 clear h
 refine Xa1 ?_
 refine Xbw 5 1 ?_
 refine Xac ?_
 refine Xah rfl ?_
 (refine XlP 74 _ 2 rfl Xbl.out rfl (by rfl) (fun b0=>?_))
 apply Xag
 case hT=>((try simp only [wtn,Xu9,Xu6,Xu7,Xva,Xve,Nat.reduceAdd,Nat.reduceMul,Nat.reduceSub,↓reduceIte,Nat.reduceEqDiff]);rfl)
 case hH=>rfl
 (repeat' (first|with_reducible (first|refine Xae ?_|refine Xaa ?_)|fail))
 refine XbC (Xa1 ?_)
 (repeat' (first|with_reducible (first|refine Xac ?_|refine Xae ?_|refine Xaa ?_)|((apply Xad rfl);(case h=>((try (intro (hp:(_:Bool)=true);((try simp only [Bool.and_eq_true,Bool.not_eq_true',Bool.not_eq_true] at hp);(try simp only [hp,wte]);(try simp only [whn] at hp))));(first|(apply Xab 0 rfl;(exact Xar _ rfl))|(apply Xab 3 rfl;(exact Xa2 _ _ _ _ _ _ HEl.out rfl rfl)))));(case hT=>((try simp only [wtn,Xu9,Xu6,Xu7,Xva,Xve,Nat.reduceAdd,Nat.reduceMul,Nat.reduceSub,↓reduceIte,Nat.reduceEqDiff]);rfl)))|fail))
 refine Xcn ?_
 apply Xdr (S:=Nat × Option Addr × Option Addr × Nat) (fun q=>frm 80 [(0,.sq l.length (va l)),(4,.x (.pointer (some ⟨b0,0,none⟩))),(19,.sq l.length (va l)),(20,.x (.int .i64 l.length)),(21,.x (.int .i64 q.1))])
  (fun q=>[.row (some ⟨b0,0,none⟩) 1 1 74 2 [.x (.pointer q.2.1),.x (.slice q.2.2.1 (Xbr (l.take q.1)).length q.2.2.2)],.row q.2.2.1 (Xbr (l.take q.1)).length q.2.2.2 5 1 (u8a (Xbr (l.take q.1)))]) (fun _=>[])
  (fun q=>q.1≤l.length∧(q.2.1=none∨q.2.1=some ⟨b0,0,none⟩)∧(Xbr (l.take q.1)).length≤65536∧(q.1=0→q.2.2.1=none)) (fun q=>l.length - q.1) (0,none,none,0)
 case h0=>exact XaH.mk' [] [.row (some _) _ _ _ _ _,.row none _ _ _ _ _] (by (repeat' (first|exact Xu5 _|fail))) (XaB.refl _ _) (by (repeat' (first|exact VwL.nil|(refine VwL.cons ?_ ?_)|exact Vw.refl _|exact Vw.top _|fail)))
 case hΘ=>rfl
 case hi=>exact ⟨Nat.zero_le _,.inl rfl,by simp [Xbr],fun _=>rfl⟩
 rintro ⟨i,p,ad,cap⟩ ⟨g1,g2,g3,g4⟩
 simp only at g1 g2 g3 g4
 simp only [frm,Xvc,Xvd,Xu6,Xu7,Xvj,Xvk]
 by_cases hlt:i < l.length
 ·have hdr:=Xeg l i hlt
  have hok:=hl'.out _ (List.getElem_mem hlt)
  have htk:=Xl6 l i hlt
  have hpre:=Xns l (i+1)
  rw [htk] at hpre
  have htk':=Lib.hid htk
  clear htk g4
  refine Xa1 ?_
  (repeat' (first|with_reducible (first|refine Xac ?_|refine Xae ?_|refine Xaa ?_)|((apply Xad rfl);(case h=>((try (intro (hp:(_:Bool)=true);((try simp only [Bool.and_eq_true,Bool.not_eq_true',Bool.not_eq_true] at hp);(try simp only [hp,wte]);(try simp only [whn] at hp))));(apply XaD;(case hs=>(intro _ _ h;cases h));(case hx=>rfl);(case hrun=>(intro w;simp [wtb,AV.val,go_sem];(try go_bits);rfl)))));(case hT=>((try simp only [wtn,Xu9,Xu6,Xu7,Xva,Xve,Nat.reduceAdd,Nat.reduceMul,Nat.reduceSub,↓reduceIte,Nat.reduceEqDiff]);rfl)))|fail))
  refine Xa1 ?_
  (repeat' (first|with_reducible (first|refine Xaw ?_|refine Xaa ?_)|(refine Xal _ rfl (fun h=>?_) (fun h=>?_)<;>((try (simp only [whn] at h));first|(exfalso;omega;done)|skip))|fail))
  refine XbC (Xcn ?_)
  refine Xa1 ?_
  (repeat' (first|with_reducible (first|refine Xac ?_|refine Xae ?_|refine Xaa ?_)|((apply Xad rfl);(case h=>((try (intro (hp:(_:Bool)=true);((try simp only [Bool.and_eq_true,Bool.not_eq_true',Bool.not_eq_true] at hp);(try simp only [hp,wte]);(try simp only [whn] at hp))));(first|(apply Xab 6 rfl;(exact XaG _ _ _ _ _ rfl rfl XaM.out (by first|exact Xu4 rfl|fail) (by first|exact Xu4 rfl|fail)))|(apply Xab 7 rfl;(exact XaI _ _ _ _ _ _ _ _ _ _ rfl rfl rfl HEl.out rfl (by first|omega|fail) (by simp;first|omega|fail))))));(case hT=>((try simp (disch:=omega) only [wtn,hdr,Xu9,Xu6,Xu7,Xva,Xve,Nat.reduceAdd,Nat.reduceMul,Nat.reduceSub,↓reduceIte,Nat.reduceEqDiff]);rfl)))|(refine Xah rfl ?_;((first|(refine Xaq 14 rfl ?_;(refine XaJ _ _ rfl Xbl.out rfl (fun b=>?_)))|(refine Xaq 16 rfl ?_;(refine Xau _ _ _ _ _ _ _ rfl rfl XaU.out XaS.out (by first|rfl|fail) (by first|exact Xu4 rfl|fail) ?_)));apply Xag;(case hT=>((try simp (disch:=omega) only [wtn,hdr,Xu9,Xu6,Xu7,Xva,Xve,Nat.reduceAdd,Nat.reduceMul,Nat.reduceSub,↓reduceIte,Nat.reduceEqDiff]);rfl));(case hH=>((try simp (disch:=omega) only [wtn,hdr,Xu9,Xu6,Xu7,Xva,Xve,Nat.reduceAdd,Nat.reduceMul,Nat.reduceSub,↓reduceIte,Nat.reduceEqDiff]);rfl))))|fail))
  revert b
  intro be
  have hfk:=Xts be l[i]
  unfold EF.cells at hfk
  refine Xa1 ?_
  (repeat' (first|with_reducible (refine Xac ?_)|((apply Xad rfl);(case h=>((try (intro (hp:(_:Bool)=true);((try simp only [Bool.and_eq_true,Bool.not_eq_true',Bool.not_eq_true] at hp);(try simp only [hp,wte]);(try simp only [whn] at hp))));(first|(apply Xab 0 rfl;(exact Xar _ rfl))|(apply XaD;(case hs=>(intro _ _ h;cases h));(case hx=>rfl);(case hrun=>(intro w;simp [wtb,AV.val,go_sem];(try go_bits);rfl))))));(case hT=>((try simp only [wtn,Xu9,Xu6,Xu7,Xva,Xve,Nat.reduceAdd,Nat.reduceMul,Nat.reduceSub,↓reduceIte,Nat.reduceEqDiff]);rfl)))|(refine Xah rfl ?_;((refine Xaq 11 rfl ?_;(refine Xak 31 Tryz.f31 [_] _ _ _ rfl rfl Tryz.func31 (by decide) rfl (Xu5 _) (VwL.refl _ _) (hfk) ?_;rintro _ _ ⟨rfl,hres⟩));apply Xag;(case hT=>((try simp only [wtn,Xu9,Xu6,Xu7,Xva,Xve,Nat.reduceAdd,Nat.reduceMul,Nat.reduceSub,↓reduceIte,Nat.reduceEqDiff]);rfl));(case hH=>((try simp only [wtn,Xu9,Xu6,Xu7,Xva,Xve,Nat.reduceAdd,Nat.reduceMul,Nat.reduceSub,↓reduceIte,Nat.reduceEqDiff]);rfl))))|fail))
  obtain ⟨X,hX⟩:∃X,X=Xbr (l.take i)++Xcr l[i]:=⟨_,rfl⟩
  rcases hres with ⟨k,wd,kd,fs,hk,hf,he,rfl⟩|⟨hno,rfl⟩
  ·obtain ⟨c1,c2,c3⟩:=XpW hk hf he
   have hc3:=Lib.hid c3
   have hwl:=XpI l[i].kind
   rw [c1] at hwl
   obtain ⟨fY,y0,ys,yn,yl⟩:=XtI (Xbr (l.take i)) wd fs l[i] hok g3 hwl
   rw [←c1,←c2,←Xk0,←hX] at yn
   have hfl:fs.length≤2:=by have:=XpG l[i].kind;rw [c2] at this;simpa using this
   have hXl:X.length≤9500000:=by
    have h5:=yl fs.length (Nat.le_refl _)
    rw [yn] at h5
    omega
   have y0':=Lib.hid y0
   have yn':=Lib.hid yn
   have ys':=Lib.hid ys
   have yl':=Lib.hid yl
   have hX':=Lib.hid hX
   clear hf c1 c2 c3 ys yl y0 yn hX
   (repeat' (first|with_reducible (first|refine Xae ?_|refine Xaa ?_)|((apply Xad rfl);(case h=>((try (intro (hp:(_:Bool)=true);((try simp only [Bool.and_eq_true,Bool.not_eq_true',Bool.not_eq_true] at hp);(try simp only [hp,wte]);(try simp only [whn] at hp))));(first|(apply Xab 0 rfl;(exact Xap _ rfl))|(apply Xab 2 rfl;(exact XaO _ _ _ _ rfl rfl rfl)))));(case hT=>((try simp only [wtn,Xu9,Xu6,Xu7,Xva,Xve,Nat.reduceAdd,Nat.reduceMul,Nat.reduceSub,↓reduceIte,Nat.reduceEqDiff]);rfl)))|(refine Xah rfl ?_;((first|(refine Xaq 14 rfl ?_;(refine XaJ _ _ rfl Xbl.out rfl (fun b=>?_)))|(refine Xaq 16 rfl ?_;(refine Xau _ _ _ _ _ _ _ rfl rfl XaU.out XaS.out (by first|rfl|fail) (by first|exact Xu4 rfl|fail) ?_)));apply Xag;(case hT=>((try simp only [wtn,Xu9,Xu6,Xu7,Xva,Xve,Nat.reduceAdd,Nat.reduceMul,Nat.reduceSub,↓reduceIte,Nat.reduceEqDiff]);rfl));(case hH=>((try simp only [wtn,Xu9,Xu6,Xu7,Xva,Xve,Nat.reduceAdd,Nat.reduceMul,Nat.reduceSub,↓reduceIte,Nat.reduceEqDiff]);rfl))))|fail))
   revert b
   intro bf
   refine XkW (fun T' H'=>∃p ad cap,(p=none∨p=some ⟨b0,0,none⟩)∧XaH H' T' [.row (some ⟨b0,0,none⟩) 1 1 74 2 [.x (.pointer p),.x (.slice ad (X).length cap)],.row ad (X).length cap 5 1 (u8a (X))] (frm 80 [(0,.sq l.length (va l)),(4,.x (.pointer (some ⟨b0,0,none⟩))),(19,.sq l.length (va l)),(20,.x (.int .i64 l.length)),(21,.x (.int .i64 i))])) (Xa1 ?_) ?_
   ·(repeat' (first|with_reducible (first|refine Xac ?_|refine Xae ?_|refine Xaa ?_)|((apply Xad rfl);(case h=>((try (intro (hp:(_:Bool)=true);((try simp only [Bool.and_eq_true,Bool.not_eq_true',Bool.not_eq_true] at hp);(try simp only [hp,wte]);(try simp only [whn] at hp))));(apply Xab 0 rfl;(exact Xar _ rfl))));(case hT=>((try simp only [wtn,Xu9,Xu6,Xu7,Xva,Xve,Nat.reduceAdd,Nat.reduceMul,Nat.reduceSub,↓reduceIte,Nat.reduceEqDiff]);rfl)))|fail))
    refine XiG true rfl (fun _=>?_) (fun h=>by cases h)
    refine Xa1 ?_
    (repeat' (first|with_reducible (first|refine Xac ?_|refine Xae ?_|refine Xaa ?_)|((apply Xad rfl);(case h=>((try (intro (hp:(_:Bool)=true);((try simp only [Bool.and_eq_true,Bool.not_eq_true',Bool.not_eq_true] at hp);(try simp only [hp,wte]);(try simp only [whn] at hp))));(first|(apply Xab 5 rfl;(exact Xam _ _ _ _ _ _ rfl rfl Xa3.out))|(apply Xab 6 rfl;(exact Xaz _ _ _ _ _ _ _ _ rfl rfl XaU.out XaM.out (by first|exact Xu4 rfl|fail) (by first|exact Xu4 rfl|fail))))));(case hT=>((try simp (disch:=omega) only [wtn,XjH,Xu9,Xu6,Xu7,Xva,Xve,Nat.reduceAdd,Nat.reduceMul,Nat.reduceSub,↓reduceIte,Nat.reduceEqDiff]);rfl)))|(refine Xah rfl ?_;((refine Xaq 11 rfl ?_;(refine Xak 33 Tryz.f33 [_,_] _ _ _ rfl rfl Tryz.func33 (by decide) rfl (List.perm_append_comm (l₁:=[_,_]) (l₂:=[_,_])) (VwL.refl _ _) (Xrr b0 p g2 ad cap (Xbr (l.take i)) wd (by omega)) ?_;rintro _ _ ⟨ad1,cap1,rfl,rfl⟩));apply Xag;(case hT=>((try simp (disch:=omega) only [wtn,XjH,Xu9,Xu6,Xu7,Xva,Xve,Nat.reduceAdd,Nat.reduceMul,Nat.reduceSub,↓reduceIte,Nat.reduceEqDiff]);rfl));(case hH=>((try simp (disch:=omega) only [wtn,XjH,Xu9,Xu6,Xu7,Xva,Xve,Nat.reduceAdd,Nat.reduceMul,Nat.reduceSub,↓reduceIte,Nat.reduceEqDiff]);rfl))))|fail))
    refine XbC (XbO ?_)
    (repeat' (first|(apply Xb0 rfl;(case h=>(first|(apply Xab 5 rfl;(exact Xam _ _ _ _ _ _ rfl rfl Xa3.out))|(apply Xab 6 rfl;(exact Xaz _ _ _ _ _ _ _ _ rfl rfl XaU.out XaM.out (by first|exact Xu4 rfl|fail) (by first|exact Xu4 rfl|fail)))));(case hT=>((try simp only [wtn,Xu9,Xu6,Xu7,Xva,Xve,Nat.reduceAdd,Nat.reduceMul,Nat.reduceSub,↓reduceIte,Nat.reduceEqDiff]);rfl)))|fail))
    refine Xgd rfl rfl rfl (by kernel_rfl) fun kk _=>?_
    refine Xcc ?_
    refine Xaa ?_
    refine Xcn ?_
    apply Xdr (S:=Nat × Option Addr × Nat) (fun q=>frm 80 [(0,.sq l.length (va l)),(4,.x (.pointer (some ⟨b0,0,none⟩))),(19,.sq l.length (va l)),(20,.x (.int .i64 l.length)),(21,.x (.int .i64 i)),(6,.x (.pointer (some ⟨be,0,none⟩))),(36,.x (.pointer (some ⟨kk,0,none⟩)))])
     (fun q=>[.row (some ⟨b0,0,none⟩) 1 1 74 2 [.x (.pointer (some ⟨b0,0,none⟩)),.x (.slice q.2.1 (fY q.1).length q.2.2)],.row q.2.1 (fY q.1).length q.2.2 5 1 (u8a (fY q.1)),.box be [.x (.int .i64 l[i].kind),.x (.string (bs l[i].job)),.x (.bool l[i].ok),.x (.int .i64 l[i].code),.sq l[i].data.length (u8a l[i].data),.x (.int .u64 l[i].time),.x (.int .i64 l[i].client),.x (.int .i64 l[i].num)]]) (fun q=>[(kk,.stringIter (bs fs) q.1)])
     (fun q=>q.1≤fs.length) (fun q=>fs.length - q.1) (0,ad1,cap1)
    case h0=>
     simp only
     rw [y0'.out]
     exact XaH.mk' [.box bf _] [.row (some _) _ _ _ _ _,.row ad1 _ _ _ _ _,.box be _] (by (repeat' (first|exact Xu5 _|refine (Xvi (l₁:=[_,_])).trans (Xvl _ ?_)|fail))) (XaB.refl _ _) (by (repeat' (first|exact VwL.nil|(refine VwL.cons ?_ ?_)|exact Vw.refl _|exact Vw.top _|fail)))
    case hΘ=>rfl
    case hi=>exact Nat.zero_le _
    rintro ⟨j,ad2,cap2⟩ q1
    simp only at q1
    have hyl:=yl'.out j q1
    simp only [frm,Xvc,Xvd,Xu6,Xu7,Xvj,Xvk]
    by_cases hj:j < fs.length
    ·obtain ⟨q128,qlet⟩:=hc3.out fs[j] (List.getElem_mem _)
     have hT:=XsP Xu2 l[i] hok (fs[j].toNat:Nat) qlet
     unfold EF.cells at hT
     have htl:=Xk1 l[i] hok (XbA (fs[j].toNat:Nat))
     have hys:=ys'.out j hj
     have hys':=Lib.hid hys
     clear hys
     refine XbC (XbO ?_)
     refine Xg9 rfl rfl rfl hj q128 (fun p hp=>by cases hp) ?_
     (repeat' (first|(apply Xb0 rfl;(case h=>(apply XaD;(case hs=>(intro _ _ h;cases h));(case hx=>rfl);(case hrun=>(intro w;simp [wtb,AV.val,go_sem];(try go_bits);rfl))));(case hT=>((try simp only [wtn,Xu9,Xu6,Xu7,Xva,Xve,Nat.reduceAdd,Nat.reduceMul,Nat.reduceSub,↓reduceIte,Nat.reduceEqDiff]);rfl)))|fail))
     refine Xcc ?_
     refine Xaa ?_
     refine XbN ?_
     (repeat' (first|with_reducible (first|refine Xai ?_|refine Xac ?_|refine Xat ?_|refine Xaw ?_|refine Xae ?_|refine Xaa ?_|refine Xaj ?_)|(refine Xal _ rfl (fun h=>?_) (fun h=>?_)<;>first|(exact absurd h (by decide))|((try (simp only [whn] at h));skip))|((apply Xad rfl);(case h=>((try (intro (hp:(_:Bool)=true);((try simp only [Bool.and_eq_true,Bool.not_eq_true',Bool.not_eq_true] at hp);(try simp only [hp,wte]);(try simp only [whn] at hp))));(first|(apply Xab 0 rfl;(first|exact Xar _ rfl|exact Xap _ rfl))|(apply Xab 6 rfl;(exact Xaz _ _ _ _ _ _ _ _ rfl rfl XaU.out XaM.out (by first|exact Xu4 rfl|fail) (by first|exact Xu4 rfl|fail)))|(apply Xab 11 rfl;(exact XaA 35 Tryz.f35 _ _ rfl rfl Tryz.func35 (by decide) rfl (VwL.refl _ _) (hT)))|(apply XaD;(case hs=>(intro _ _ h;cases h));(case hx=>rfl);(case hrun=>(intro w;simp [wtb,AV.val,go_sem];(try go_bits);rfl))))));(case hT=>((try simp (disch:=omega) only [wtn,XjH,XbX,Xu9,Xu6,Xu7,Xva,Xve,Nat.reduceAdd,Nat.reduceMul,Nat.reduceSub,↓reduceIte,Nat.reduceEqDiff]);rfl)))|(refine Xah rfl ?_;((refine Xaq 11 rfl ?_;(first|(refine Xak 34 Tryz.f34 [_,_] _ _ _ rfl rfl Tryz.func34 (by decide) rfl (Xu5 _) (VwL.refl _ _) (XkT b0 _ (.inr rfl) ad2 cap2 (fY j) 32 (by omega)) ?_;rintro _ _ ⟨ad3,cap3,rfl,rfl⟩)|(refine Xak 33 Tryz.f33 [_,_] _ _ _ rfl rfl Tryz.func33 (by decide) rfl (Xu5 _) (VwL.refl _ _) (Xrr b0 _ (.inr rfl) ad3 cap3 (fY j++[32]) (Xcs l[i] (XbA (fs[j].toNat:Nat))) (by simp only [Xvh,Xu8,Xvb];omega)) ?_;rintro _ _ ⟨ad4,cap4,rfl,rfl⟩)));apply Xag;(case hT=>((try simp (disch:=omega) only [wtn,XjH,XbX,Xu9,Xu6,Xu7,Xva,Xve,Nat.reduceAdd,Nat.reduceMul,Nat.reduceSub,↓reduceIte,Nat.reduceEqDiff]);rfl));(case hH=>((try simp (disch:=omega) only [wtn,XjH,XbX,Xu9,Xu6,Xu7,Xva,Xve,Nat.reduceAdd,Nat.reduceMul,Nat.reduceSub,↓reduceIte,Nat.reduceEqDiff]);rfl))))|fail))
     refine ⟨rfl,(j+1,ad4,cap4),by simp only;omega,by simp only;omega,rfl,?_⟩
     simp only
     rw [hys'.out]
     exact (XaH.mk' [] _ (Xu5 _) (XaB.refl _ _) (by (repeat' (first|exact VwL.nil|(refine VwL.cons ?_ ?_)|exact Vw.refl _|exact Vw.top _|fail))))
    ·refine XbC (XbO ?_)
     refine Xha rfl rfl rfl hj ?_
     (repeat' (first|(apply Xb0 rfl;(case h=>(apply XaD;(case hs=>(intro _ _ h;cases h));(case hx=>rfl);(case hrun=>(intro w;simp [wtb,AV.val,go_sem];(try go_bits);rfl))));(case hT=>((try simp only [wtn,Xu9,Xu6,Xu7,Xva,Xve,Nat.reduceAdd,Nat.reduceMul,Nat.reduceSub,↓reduceIte,Nat.reduceEqDiff]);rfl)))|fail))
     refine Xcc ?_
     refine Xaa ?_
     refine XbN ?_
     (repeat' (first|with_reducible (first|refine Xai ?_|refine Xa4 ?_|refine XaN ?_|refine XaK ?_)|(refine Xal _ rfl (fun h=>?_) (fun h=>?_)<;>first|(exact absurd h (by decide))|((try (simp only [whn] at h));skip))|fail))
     obtain rfl:j=fs.length:=by omega
     rw [yn'.out]
     exact ⟨rfl,rfl,_,ad2,cap2,.inr rfl,XaH.mk' [.box be _] [.row (some _) _ _ _ _ _,.row ad2 _ _ _ _ _] (by (repeat' (first|exact Xu5 _|refine (Xvi (l₁:=[_,_])).trans (Xvl _ ?_)|fail))) (XaB.refl _ _) (by (repeat' (first|exact VwL.nil|(refine VwL.cons ?_ ?_)|exact Vw.refl _|exact Vw.top _|fail)))⟩
   ·rintro T' H' ⟨p1,ad1,cap1,hp1,hw⟩
    refine XeT hw ?_
    simp only [frm,Xvc,Xvd,Xu6,Xu7,Xvj,Xvk]
    refine XbN ?_
    (repeat' (first|with_reducible (first|refine Xai ?_|refine Xac ?_|refine Xas ?_|refine Xaw ?_|refine Xae ?_|refine Xaa ?_|refine Xay ?_|refine Xaj ?_|refine Xax ?_)|(refine Xal _ rfl (fun h=>?_) (fun h=>?_)<;>((try (simp only [whn] at h));skip))|((apply Xad rfl);(case h=>((try (intro (hp:(_:Bool)=true);((try simp only [Bool.and_eq_true,Bool.not_eq_true',Bool.not_eq_true] at hp);(try simp only [hp,wte]);(try simp only [whn] at hp))));(first|(apply Xab 0 rfl;(exact Xap _ rfl))|(apply XaD;(case hs=>(intro _ _ h;cases h));(case hx=>rfl);(case hrun=>(intro w;simp [wtb,AV.val,go_sem];(try go_bits);rfl))))));(case hT=>((try simp (disch:=omega) only [wtn,XjH,Xu9,Xu6,Xu7,Xva,Xve,Nat.reduceAdd,Nat.reduceMul,Nat.reduceSub,↓reduceIte,Nat.reduceEqDiff]);rfl)))|(refine Xah rfl ?_;((refine Xaq 11 rfl ?_;(first|(refine Xak 34 Tryz.f34 [_,_] _ _ _ rfl rfl Tryz.func34 (by decide) rfl (Xu5 _) (VwL.refl _ _) (XkT b0 p1 hp1 ad1 cap1 X 10 (by omega)) ?_;rintro _ _ ⟨ad2,cap2,rfl,rfl⟩)|(refine Xak 36 Tryz.f36 [_] _ _ _ rfl rfl Tryz.func36 (by decide) rfl (Xu5 _) (VwL.refl _ _) (Xq5 b0 _ _ _ _) ?_;rintro _ _ ⟨rfl,rfl⟩)));apply Xag;(case hT=>((try simp (disch:=omega) only [wtn,XjH,Xu9,Xu6,Xu7,Xva,Xve,Nat.reduceAdd,Nat.reduceMul,Nat.reduceSub,↓reduceIte,Nat.reduceEqDiff]);rfl));(case hH=>((try simp (disch:=omega) only [wtn,XjH,Xu9,Xu6,Xu7,Xva,Xve,Nat.reduceAdd,Nat.reduceMul,Nat.reduceSub,↓reduceIte,Nat.reduceEqDiff]);rfl))))|fail))
    ·refine Xb8 (Xaf _ _ (Xc7 rfl (RV.tmp _) (RV.tmp _) (XaH.mk' [_,_] [] (Xu5 _) XaB.nil (VwL.refl _ _))) ?_)
     refine ⟨?_,rfl⟩
     have hX:=hX'.out
     rw [XiO h1000 (by have h6:=congrArg List.length hX;simp only [Xvh,Xu8,Xvb] at h6 hpre;omega)]
     rfl
    ·refine XbN ?_
     (repeat' (first|with_reducible (first|refine Xac ?_|refine Xae ?_|refine Xaa ?_)|((apply Xad rfl);(case h=>((try (intro (hp:(_:Bool)=true);((try simp only [Bool.and_eq_true,Bool.not_eq_true',Bool.not_eq_true] at hp);(try simp only [hp,wte]);(try simp only [whn] at hp))));(first|(apply Xab 0 rfl;(exact Xar _ rfl))|(apply XaD;(case hs=>(intro _ _ h;cases h));(case hx=>rfl);(case hrun=>(intro w;simp [wtb,AV.val,go_sem];(try go_bits);rfl))))));(case hT=>((try simp only [wtn,Xu9,Xu6,Xu7,Xva,Xve,Nat.reduceAdd,Nat.reduceMul,Nat.reduceSub,↓reduceIte,Nat.reduceEqDiff]);rfl)))|fail))
     have hX:=hX'.out
     have hXt:Xbr (l.take (i+1))=X++[10]:=by rw [htk'.out,hX,List.append_assoc]
     refine ⟨rfl,(i+1,some ⟨b0,0,none⟩,ad2,cap2),by simp only;omega,⟨by simp only;omega,.inr rfl,by simp only;rw [hXt];simp;omega,fun h0=>absurd h0 (by simp)⟩,rfl,?_⟩
     simp only
     rw [hXt]
     exact (XaH.mk' [] _ (Xu5 _) (XaB.refl _ _) (by (repeat' (first|exact VwL.nil|(refine VwL.cons ?_ ?_)|exact Vw.refl _|exact Vw.top _|fail))))
  ·obtain ⟨c1,c2⟩:=Xn2 hno
   have hX0:X=Xbr (l.take i):=by rw [hX,Xk0,c1,c2];simp [XbP]
   have hXl:X.length≤9500000:=by rw [hX0];omega
   have hX':=Lib.hid hX
   have hX0':=Lib.hid hX0
   clear hX hX0 c1 c2 hno
   unfold Xlm
   (repeat' (first|with_reducible (first|refine Xae ?_|refine Xaa ?_)|((apply Xad rfl);(case h=>((try (intro (hp:(_:Bool)=true);((try simp only [Bool.and_eq_true,Bool.not_eq_true',Bool.not_eq_true] at hp);(try simp only [hp,wte]);(try simp only [whn] at hp))));(first|(apply Xab 0 rfl;(exact Xap _ rfl))|(apply Xab 2 rfl;(exact XaO _ _ _ _ rfl rfl rfl)))));(case hT=>((try simp only [wtn,Xu9,Xu6,Xu7,Xva,Xve,Nat.reduceAdd,Nat.reduceMul,Nat.reduceSub,↓reduceIte,Nat.reduceEqDiff]);rfl)))|(refine Xah rfl ?_;((first|(refine Xaq 14 rfl ?_;(refine XaJ _ _ rfl Xbl.out rfl (fun b=>?_)))|(refine Xaq 16 rfl ?_;(refine Xau _ _ _ _ _ _ _ rfl rfl XaU.out XaS.out (by first|rfl|fail) (by first|exact Xu4 rfl|fail) ?_)));apply Xag;(case hT=>((try simp only [wtn,Xu9,Xu6,Xu7,Xva,Xve,Nat.reduceAdd,Nat.reduceMul,Nat.reduceSub,↓reduceIte,Nat.reduceEqDiff]);rfl));(case hH=>((try simp only [wtn,Xu9,Xu6,Xu7,Xva,Xve,Nat.reduceAdd,Nat.reduceMul,Nat.reduceSub,↓reduceIte,Nat.reduceEqDiff]);rfl))))|fail))
   revert b
   intro bf
   refine XkW (fun T' H'=>∃p ad cap,(p=none∨p=some ⟨b0,0,none⟩)∧XaH H' T' [.row (some ⟨b0,0,none⟩) 1 1 74 2 [.x (.pointer p),.x (.slice ad (X).length cap)],.row ad (X).length cap 5 1 (u8a (X))] (frm 80 [(0,.sq l.length (va l)),(4,.x (.pointer (some ⟨b0,0,none⟩))),(19,.sq l.length (va l)),(20,.x (.int .i64 l.length)),(21,.x (.int .i64 i))])) (Xa1 ?_) ?_
   ·(repeat' (first|with_reducible (first|refine Xac ?_|refine Xae ?_|refine Xaa ?_)|((apply Xad rfl);(case h=>((try (intro (hp:(_:Bool)=true);((try simp only [Bool.and_eq_true,Bool.not_eq_true',Bool.not_eq_true] at hp);(try simp only [hp,wte]);(try simp only [whn] at hp))));(apply Xab 0 rfl;(exact Xar _ rfl))));(case hT=>((try simp only [wtn,Xu9,Xu6,Xu7,Xva,Xve,Nat.reduceAdd,Nat.reduceMul,Nat.reduceSub,↓reduceIte,Nat.reduceEqDiff]);rfl)))|fail))
    refine XiG false rfl (fun h=>by cases h) (fun _=>?_)
    refine XbN ?_
    (repeat' (first|with_reducible (refine Xaw ?_)|fail))
    rw [hX0'.out]
    exact ⟨rfl,rfl,p,ad,cap,g2,XaH.mk' [.box bf _,.box be _] [.row (some _) _ _ _ _ _,.row ad _ _ _ _ _] (by (repeat' (first|exact Xu5 _|fail))) (XaB.refl _ _) (by (repeat' (first|exact VwL.nil|(refine VwL.cons ?_ ?_)|exact Vw.refl _|exact Vw.top _|fail)))⟩
   ·rintro T' H' ⟨p1,ad1,cap1,hp1,hw⟩
    refine XeT hw ?_
    simp only [frm,Xvc,Xvd,Xu6,Xu7,Xvj,Xvk]
    refine XbN ?_
    (repeat' (first|with_reducible (first|refine Xai ?_|refine Xac ?_|refine Xas ?_|refine Xaw ?_|refine Xae ?_|refine Xaa ?_|refine Xay ?_|refine Xaj ?_|refine Xax ?_)|(refine Xal _ rfl (fun h=>?_) (fun h=>?_)<;>((try (simp only [whn] at h));skip))|((apply Xad rfl);(case h=>((try (intro (hp:(_:Bool)=true);((try simp only [Bool.and_eq_true,Bool.not_eq_true',Bool.not_eq_true] at hp);(try simp only [hp,wte]);(try simp only [whn] at hp))));(first|(apply Xab 0 rfl;(exact Xap _ rfl))|(apply XaD;(case hs=>(intro _ _ h;cases h));(case hx=>rfl);(case hrun=>(intro w;simp [wtb,AV.val,go_sem];(try go_bits);rfl))))));(case hT=>((try simp (disch:=omega) only [wtn,XjH,Xu9,Xu6,Xu7,Xva,Xve,Nat.reduceAdd,Nat.reduceMul,Nat.reduceSub,↓reduceIte,Nat.reduceEqDiff]);rfl)))|(refine Xah rfl ?_;((refine Xaq 11 rfl ?_;(first|(refine Xak 34 Tryz.f34 [_,_] _ _ _ rfl rfl Tryz.func34 (by decide) rfl (Xu5 _) (VwL.refl _ _) (XkT b0 p1 hp1 ad1 cap1 X 10 (by omega)) ?_;rintro _ _ ⟨ad2,cap2,rfl,rfl⟩)|(refine Xak 36 Tryz.f36 [_] _ _ _ rfl rfl Tryz.func36 (by decide) rfl (Xu5 _) (VwL.refl _ _) (Xq5 b0 _ _ _ _) ?_;rintro _ _ ⟨rfl,rfl⟩)));apply Xag;(case hT=>((try simp (disch:=omega) only [wtn,XjH,Xu9,Xu6,Xu7,Xva,Xve,Nat.reduceAdd,Nat.reduceMul,Nat.reduceSub,↓reduceIte,Nat.reduceEqDiff]);rfl));(case hH=>((try simp (disch:=omega) only [wtn,XjH,Xu9,Xu6,Xu7,Xva,Xve,Nat.reduceAdd,Nat.reduceMul,Nat.reduceSub,↓reduceIte,Nat.reduceEqDiff]);rfl))))|fail))
    ·refine Xb8 (Xaf _ _ (Xc7 rfl (RV.tmp _) (RV.tmp _) (XaH.mk' [_,_] [] (Xu5 _) XaB.nil (VwL.refl _ _))) ?_)
     refine ⟨?_,rfl⟩
     have hX:=hX'.out
     rw [XiO h1000 (by have h6:=congrArg List.length hX;simp only [Xvh,Xu8,Xvb] at h6 hpre;omega)]
     rfl
    ·refine XbN ?_
     (repeat' (first|with_reducible (first|refine Xac ?_|refine Xae ?_|refine Xaa ?_)|((apply Xad rfl);(case h=>((try (intro (hp:(_:Bool)=true);((try simp only [Bool.and_eq_true,Bool.not_eq_true',Bool.not_eq_true] at hp);(try simp only [hp,wte]);(try simp only [whn] at hp))));(first|(apply Xab 0 rfl;(exact Xar _ rfl))|(apply XaD;(case hs=>(intro _ _ h;cases h));(case hx=>rfl);(case hrun=>(intro w;simp [wtb,AV.val,go_sem];(try go_bits);rfl))))));(case hT=>((try simp only [wtn,Xu9,Xu6,Xu7,Xva,Xve,Nat.reduceAdd,Nat.reduceMul,Nat.reduceSub,↓reduceIte,Nat.reduceEqDiff]);rfl)))|fail))
     have hX:=hX'.out
     have hXt:Xbr (l.take (i+1))=X++[10]:=by rw [htk'.out,hX,List.append_assoc]
     refine ⟨rfl,(i+1,some ⟨b0,0,none⟩,ad2,cap2),by simp only;omega,⟨by simp only;omega,.inr rfl,by simp only;rw [hXt];simp;omega,fun h0=>absurd h0 (by simp)⟩,rfl,?_⟩
     simp only
     rw [hXt]
     exact (XaH.mk' [] _ (Xu5 _) (XaB.refl _ _) (by (repeat' (first|exact VwL.nil|(refine VwL.cons ?_ ?_)|exact Vw.refl _|exact Vw.top _|fail))))
 ·obtain rfl:i=l.length:=by omega
  rw [List.take_length] at g3
  rw [List.take_length]
  have h0:Xbr l=[]→ad=none:=fun e=>g4 (by rw [Xnr e];rfl)
  have h0':=Lib.hid h0
  clear h0 g4
  refine Xa1 ?_
  (repeat' (first|with_reducible (first|refine Xac ?_|refine Xae ?_|refine Xaa ?_)|((apply Xad rfl);(case h=>((try (intro (hp:(_:Bool)=true);((try simp only [Bool.and_eq_true,Bool.not_eq_true',Bool.not_eq_true] at hp);(try simp only [hp,wte]);(try simp only [whn] at hp))));(apply XaD;(case hs=>(intro _ _ h;cases h));(case hx=>rfl);(case hrun=>(intro w;simp [wtb,AV.val,go_sem];(try go_bits);rfl)))));(case hT=>((try simp only [wtn,Xu9,Xu6,Xu7,Xva,Xve,Nat.reduceAdd,Nat.reduceMul,Nat.reduceSub,↓reduceIte,Nat.reduceEqDiff]);rfl)))|fail))
  refine Xa1 ?_
  (repeat' (first|with_reducible (first|refine Xa4 ?_|refine Xaa ?_|refine XaN ?_|refine XaK ?_)|(refine Xal _ rfl (fun h=>?_) (fun h=>?_)<;>first|(exact absurd h (by decide))|((try (simp only [whn] at h));skip))|fail))
  refine XbC (XbO ?_)
  refine Xnd rfl rfl rfl rfl h0'.out (by omega) fun Θ' hTk=>?_
  have hP:=Xfs (Xbr l) (by omega)
  have hok1:=Lib.hid (XrF h1000 (by omega))
  have hbad:=Lib.hid (XpM h1000 (by omega))
  unfold Xuf at hP
  generalize XbS (Xbr l)=q at hP hok1 hbad
  (repeat' (first|(apply Xb0 rfl;(case h=>(first|(apply Xab 0 rfl;(first|exact Xar _ rfl|exact Xap _ rfl))|(apply Xab 2 rfl;(exact XaO _ _ _ _ rfl rfl rfl))|(apply Xab 11 rfl;(exact XaA 10 Tryz.f10 _ _ rfl rfl Tryz.func10 (by decide) rfl (VwL.refl _ _) (hP)))));(case hT=>((try simp only [wtn,Xu9,Xu6,Xu7,Xva,Xve,Nat.reduceAdd,Nat.reduceMul,Nat.reduceSub,↓reduceIte,Nat.reduceEqDiff]);rfl)))|fail))
  refine Xcc ?_
  refine Xaa ?_
  refine Xa1 ?_
  (repeat' (first|with_reducible (first|refine Xai ?_|refine Xac ?_|refine Xas ?_|refine Xaw ?_|refine Xae ?_|refine Xaa ?_|refine Xay ?_)|(refine Xal _ rfl (fun h=>?_) (fun h=>?_)<;>((try (simp only [whn] at h));skip))|((first|apply Xad rfl|apply Xbe _ _ rfl rfl rfl);(case h=>((try (intro (hp:(_:Bool)=true);((try simp only [Bool.and_eq_true,Bool.not_eq_true',Bool.not_eq_true] at hp);(try simp only [hp,wte]);(try simp only [whn] at hp))));(first|(apply Xab 0 rfl;(first|exact Xar _ rfl|exact Xap _ rfl))|(apply Xab 1 rfl;(exact XeK _ _ _ _ _ rfl rfl rfl rfl))|(apply Xab 3 rfl;(exact Xa2 _ _ _ _ _ _ HEl.out rfl rfl))|(apply XaD;(case hs=>(intro _ _ h;cases h));(case hx=>rfl);(case hrun=>(intro w;simp [wtb,AV.val,go_sem];(try go_bits);rfl))))));(case hT=>((try simp only [wtn,Xu9,Xu6,Xu7,Xva,Xve,Nat.reduceAdd,Nat.reduceMul,Nat.reduceSub,↓reduceIte,Nat.reduceEqDiff]);rfl)))|fail))
  ·refine Xb8 (Xaf _ _ (Xc7 rfl (RV.tmp _) (RV.tmp _) (XaH.mk' [_] [] (Xu5 _) XaB.nil (VwL.refl _ _))) ?_)
   refine ⟨?_,rfl⟩
   rw [hbad.out (by rintro ⟨e1,e2⟩;have e3:=Xo7 e2;rcases h with h|h<;>simp_all)]
   rfl
  have hc0:q.2.2=0:=by omega
  have hlen:q.1.length=l.length:=by omega
  refine XbC (Xa1 ?_)
  (repeat' (first|with_reducible (first|refine Xac ?_|refine Xae ?_|refine Xaa ?_)|((apply Xad rfl);(case h=>((try (intro (hp:(_:Bool)=true);((try simp only [Bool.and_eq_true,Bool.not_eq_true',Bool.not_eq_true] at hp);(try simp only [hp,wte]);(try simp only [whn] at hp))));(first|(apply Xab 0 rfl;(exact Xar _ rfl))|(apply Xab 3 rfl;(exact Xa2 _ _ _ _ _ _ HEl.out rfl rfl)))));(case hT=>((try simp only [wtn,Xu9,Xu6,Xu7,Xva,Xve,Nat.reduceAdd,Nat.reduceMul,Nat.reduceSub,↓reduceIte,Nat.reduceEqDiff]);rfl)))|fail))
  refine Xcn ?_
  apply Xdr (S:=Nat) (fun k=>frm 80 [(0,.sq l.length (va l)),(4,.x (.pointer (some ⟨b0,0,none⟩))),(11,.sq q.1.length (va q.1)),(64,.sq l.length (va l)),(65,.x (.int .i64 l.length)),(66,.x (.int .i64 k))]) (fun _=>[.row (some ⟨b0,0,none⟩) 1 1 74 2 [.x (.pointer p),.x (.slice ad (Xbr l).length cap)]]) (fun _=>Θ') (fun k=>k≤l.length∧(((l.take k).zip (q.1.take k)).all fun z=>Xek z.1 z.2)=true) (fun k=>l.length - k) 0
  case h0=>exact (XaH.mk' [] _ (Xu5 _) (XaB.refl _ _) (by (repeat' (first|exact VwL.nil|(refine VwL.cons ?_ ?_)|exact Vw.refl _|exact Vw.top _|fail))))
  case hΘ=>rfl
  case hi=>exact ⟨Nat.zero_le _,by simp⟩
  rintro k ⟨k1,k2⟩
  have k2':=Lib.hid k2
  clear k2
  simp only [frm,Xvc,Xvd,Xu6,Xu7,Xvj,Xvk]
  by_cases hk:k < l.length
  ·have hdr:=Xeg l k hk
   have hk2:k < q.1.length:=by omega
   have hdq:=Xeg q.1 k hk2
   have hS:=XtQ l[k] q.1[k]
   unfold EF.cells at hS
   refine XbN ?_
   (repeat' (first|with_reducible (first|refine Xai ?_|refine Xac ?_|refine Xat ?_|refine Xas ?_|refine Xaw ?_|refine Xae ?_|refine Xcd ?_|refine Xaa ?_|refine Xay ?_|refine Xaj ?_|refine Xax ?_)|(with_reducible refine Xbc mixed ?_ ?_;(decide +kernel))|(refine Xal _ rfl (fun h=>?_) (fun h=>?_)<;>((try (simp only [whn] at h));first|(exfalso;omega;done)|skip))|((first|apply Xad rfl|apply XbG rfl);(case h=>((try (intro (hp:(_:Bool)=true);((try simp only [Bool.and_eq_true,Bool.not_eq_true',Bool.not_eq_true] at hp);(try simp only [hp,wte]);(try simp only [whn] at hp))));(first|(apply Xab 0 rfl;(first|exact Xar _ rfl|exact Xap _ rfl))|(apply Xab 6 rfl;(first|exact XaG _ _ _ _ _ rfl rfl XaM.out (by first|exact Xu4 rfl|fail) (by first|exact Xu4 rfl|fail)|exact Xaz _ _ _ _ _ _ _ _ rfl rfl XaU.out XaM.out (by first|exact Xu4 rfl|fail) (by first|exact Xu4 rfl|fail)))|(apply Xab 7 rfl;(exact XaI _ _ _ _ _ _ _ _ _ _ rfl rfl rfl HEl.out rfl (by first|omega|fail) (by simp;first|omega|fail)))|(apply Xab 11 rfl;(exact XaA 38 Tryz.f38 _ _ rfl rfl Tryz.func38 (by decide) rfl (VwL.refl _ _) (hS)))|(apply XaD;(case hs=>(intro _ _ h;cases h));(case hx=>rfl);(case hrun=>(intro w;simp [wtb,AV.val,go_sem];(try go_bits);rfl))))));(case hT=>((try simp (disch:=omega) only [wtn,hdr,hdq,Xu9,Xu6,Xu7,Xva,Xve,Nat.reduceAdd,Nat.reduceMul,Nat.reduceSub,↓reduceIte,Nat.reduceEqDiff]);rfl)))|(refine Xah rfl ?_;((first|(refine Xaq 14 rfl ?_;(refine XaJ _ _ rfl Xbl.out rfl (fun b=>?_)))|(refine Xaq 16 rfl ?_;(refine Xau _ _ _ _ _ _ _ rfl rfl XaU.out XaS.out (by first|rfl|fail) (by first|exact Xu4 rfl|fail) ?_)));apply Xag;(case hT=>((try simp (disch:=omega) only [wtn,hdr,hdq,Xu9,Xu6,Xu7,Xva,Xve,Nat.reduceAdd,Nat.reduceMul,Nat.reduceSub,↓reduceIte,Nat.reduceEqDiff]);rfl));(case hH=>((try simp (disch:=omega) only [wtn,hdr,hdq,Xu9,Xu6,Xu7,Xva,Xve,Nat.reduceAdd,Nat.reduceMul,Nat.reduceSub,↓reduceIte,Nat.reduceEqDiff]);rfl))))|fail))
   ·refine Xb8 (Xaf _ _ (Xc7 rfl (RV.tmp _) (RV.tmp _) (XaH.mk' [_,_] [] (Xu5 _) XaB.nil (VwL.refl _ _))) ?_)
    refine ⟨?_,rfl⟩
    rw [hbad.out (fun e=>by rw [Xlz hk hk2 h] at e;cases e.2)]
    rfl
   ·exact ⟨rfl,k+1,by omega,⟨by omega,Xhu hk hk2 k2'.out (by assumption)⟩,rfl,XaH.mk' [.box b _] [_] (Xu5 _) (XaB.refl _ _) (by (repeat' (first|exact VwL.nil|(refine VwL.cons ?_ ?_)|exact Vw.refl _|exact Vw.top _|fail)))⟩
  ·obtain rfl:k=l.length:=by omega
   refine XbN ?_
   (repeat' (first|with_reducible (first|refine Xai ?_|refine Xac ?_|refine Xa4 ?_|refine Xae ?_|refine Xaa ?_|refine XaN ?_|refine XaK ?_)|(refine Xal _ rfl (fun h=>?_) (fun h=>?_)<;>first|(exact absurd h (by decide))|((try (simp only [whn] at h));skip))|((apply Xad rfl);(case h=>((try (intro (hp:(_:Bool)=true);((try simp only [Bool.and_eq_true,Bool.not_eq_true',Bool.not_eq_true] at hp);(try simp only [hp,wte]);(try simp only [whn] at hp))));(apply XaD;(case hs=>(intro _ _ h;cases h));(case hx=>rfl);(case hrun=>(intro w;simp [wtb,AV.val,go_sem];(try go_bits);rfl)))));(case hT=>((try simp only [wtn,Xu9,Xu6,Xu7,Xva,Xve,Nat.reduceAdd,Nat.reduceMul,Nat.reduceSub,↓reduceIte,Nat.reduceEqDiff]);rfl)))|fail))
   refine XbC (XbO ?_)
   refine XlZ rfl rfl rfl rfl hTk (by omega) ?_
   (repeat' (first|(apply Xb0 rfl;(case h=>(apply Xab 0 rfl;(exact Xap _ rfl)));(case hT=>((try simp only [wtn,Xu9,Xu6,Xu7,Xva,Xve,Nat.reduceAdd,Nat.reduceMul,Nat.reduceSub,↓reduceIte,Nat.reduceEqDiff]);rfl)))|fail))
   refine Xcc ?_
   refine Xaa ?_
   refine XbN ?_
   (repeat' (first|with_reducible (refine Xas ?_)|fail))
   refine Xb8 (Xaf _ _ (Xc7 rfl (RV.tmp _) (RV.tmp _) (XaH.mk' [_] [] (Xu5 _) XaB.nil (VwL.refl _ _))) ?_)
   refine ⟨?_,rfl⟩
   have k2:=k2'.out
   rw [List.take_of_length_le (by omega),List.take_of_length_le (by omega)] at k2
   rw [hok1.out hc0 (by unfold XeC;rw [decide_eq_true hlen.symm,k2];rfl)]
   rfl
end Go.Proofs.YtdpobjakdplljaaGreatDoor

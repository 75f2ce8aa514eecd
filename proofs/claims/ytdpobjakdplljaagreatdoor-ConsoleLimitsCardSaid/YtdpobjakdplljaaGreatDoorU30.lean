import Derived.Test.YtdpobjakdplljaaGreatDoorU28
import Derived.Test.YtdpobjakdplljaaGreatDoorU25
import Derived.Test.YtdpobjakdplljaaGreatDoorU29
/- The program's scripts: Format. -/
set_option linter.unusedSimpArgs false
set_option linter.unusedVariables false
set_option maxRecDepth 100000
set_option maxHeartbeats 8000000
namespace Go.Proofs.YtdpobjakdplljaaGreatDoor
open Go.RowKit
theorem XgG {P:Program} {Δ:List Deferred} {Θ:List (Nat × Obj)} {c:Operand} {x y:Code} {Q:Xd8} {T:List AV} {H:List Hp} (b:Bool) (hc:ev T c=.x (.bool b)) (h1:b=true→Xdo P Δ Θ x Q T H) (h2:b=false→Xdo P Δ Θ y Q T H):Xdo P Δ Θ (.cond c x y) Q T H:=
 fun V O w0 a w r t=>wp_cond_split (r.evx hc) (fun hb=>h1 hb V O w0 a w r t) (fun hb=>h2 hb V O w0 a w r t)
theorem XjY {P:Program} {Δ:List Deferred} {Θ:List (Nat × Obj)} {c:Code} {Q Q':Xd8} {T:List AV} {H:List Hp} (h:Xdo P Δ Θ c Q T H) (hQ:∀Δ Θ e T H,Q Δ Θ e T H→Q' Δ Θ e T H):Xdo P Δ Θ c Q' T H:=
 fun V O w0 a w r t=>wp_mono (h V O w0 a w r t) fun _ _ _ ⟨Δ,Θ,T,H,r,t,q⟩=>⟨Δ,Θ,T,H,r,t,hQ _ _ _ _ _ q⟩
theorem Xih {P:Program} {Δ:List Deferred} {Θ:List (Nat × Obj)} {x y:Code} {Q:Xd8} {T:List AV} {H:List Hp} (M:List AV→List Hp→Prop) (h1:Xdo P Δ Θ x (fun Δ' _ e T' H'=>e=.normal∧Δ'=Δ∧M T' H') T H) (h2:∀T' H',M T' H'→Xdo P Δ [] y Q T' H'):Xdo P Δ Θ (.seq x y) Q T H:=
 Xbt (XjY h1 fun _ _ _ T' H' ⟨he,hd,hm⟩=>by subst he hd;exact XjX (h2 T' H' hm))
theorem Xpd (pre wd fs:List UInt8) (e:EF) (he:EOk e) (h1:pre.length≤65536) (h2:wd.length≤8):∃fY:Nat→List UInt8,fY 0=pre++wd∧(∀j (h:j < fs.length),fY (j+1)=fY j++[32]++Xfq e (Xbs (fs[j].toNat:Nat)))∧fY fs.length=pre++(wd++Xc3 e (fs.map fun c=>Xbs c.toNat))∧∀j,j≤fs.length→(fY j).length≤65544+j*4500000:=by
 refine ⟨fun j=>pre++(wd++Xc3 e ((fs.take j).map fun c=>Xbs c.toNat)),by simp [Xc3],fun j h=>?_,by simp,fun j hj=>?_⟩
 ·simp only [Xce fs j h,List.map_append,XqA,XqE,Xc3,List.flatMap_append,List.flatMap_cons,List.flatMap_nil,List.append_nil,List.append_assoc,XqG,XqF]
 ·have:=Xj4 e he ((fs.take j).map fun c=>Xbs c.toNat)
  simp only [XqH,List.length_map,List.length_take,Nat.min_eq_left hj] at this ⊢
  omega
theorem Xkd (l:List EF) (i:Nat):(Xbc (l.take i)).length≤(Xbc l).length:=by
 have:=congrArg (fun z=>(Xbc z).length) (List.take_append_drop i l)
 simp only [Xbc,List.flatMap_append,XqH] at this ⊢
 omega
theorem Xkc {l:List EF} (h:Xbc l=[]):l=[]:=by
 cases l with
 | nil=>rfl
 | cons e r=>simp [Xbc] at h
theorem XgL {l:List EF} (h0:¬1000 < l.length) (h:65536 < (Xbc l).length):XbD l=([],1):=by
 unfold XbD
 rw [if_neg h0,if_pos h]
theorem XlO {l:List EF} (h0:¬1000 < l.length) (h:¬65536 < (Xbc l).length) (h2:¬((XbQ (Xbc l)).2.2=0∧XdF l (XbQ (Xbc l)).1=true)):XbD l=([],320):=by
 unfold XbD
 rw [if_neg h0,if_neg h,if_neg h2]
theorem Xns {l:List EF} (h0:¬1000 < l.length) (h:¬65536 < (Xbc l).length) (h1:(XbQ (Xbc l)).2.2=0) (h2:XdF l (XbQ (Xbc l)).1=true):XbD l=(Xbc l,0):=by
 unfold XbD
 rw [if_neg h0,if_neg h,if_pos ⟨h1,h2⟩]
theorem Xlk {a b:List EF} (h:XdF a b=true):a.length=b.length:=by
 unfold XdF at h
 rw [Bool.and_eq_true,decide_eq_true_eq] at h
 exact h.1
theorem Xl7 (l:List EF) (hl:∀e∈l,EOk e) (hn:l.length≤1000000):Xbb Tryz.prog 14 [] [.sq l.length (va l)] (fun r H'=>r=XpP (XbD l)∧H'=[]):=by
 have hl':=Lib.hid hl
 clear hl
 refine XfW Tryz.func14 rfl ?_
 simp only [Tryz.ntmps14,Xqy,XqB,XqC,XqD,XqG,XqF,Nat.reduceAdd,Nat.reduceSub]
 refine XaR ?_
 (repeat' (first|with_reducible (first|refine Xac ?_|refine Xae ?_|refine Xaa ?_)|((apply Xad rfl);(case h=>((try (intro (hp:(_:Bool)=true);((try simp only [Bool.and_eq_true,Bool.not_eq_true',Bool.not_eq_true] at hp);(try simp only [hp,wte]);(try simp only [whn] at hp))));(apply Xab 0 rfl;(exact Xao _ rfl))));(case hT=>((try simp only [wtn,Xqz,Xqw,Xqx,XqA,XqE,Nat.reduceAdd,Nat.reduceMul,Nat.reduceSub,↓reduceIte,Nat.reduceEqDiff]);rfl)))|fail))
 refine XaR ?_
 (repeat' (first|with_reducible (first|refine Xal ?_|refine Xac ?_|refine Xaq ?_|refine Xaw ?_|refine Xae ?_|refine Xaa ?_|refine Xam ?_)|(refine Xai _ rfl (fun h=>?_) (fun h=>?_)<;>((try (simp only [whn] at h));skip))|((apply Xad rfl);(case h=>((try (intro (hp:(_:Bool)=true);((try simp only [Bool.and_eq_true,Bool.not_eq_true',Bool.not_eq_true] at hp);(try simp only [hp,wte]);(try simp only [whn] at hp))));(first|(apply Xab 0 rfl;(first|exact Xas _ rfl|exact Xao _ rfl))|(apply Xab 3 rfl;(exact Xa2 _ _ _ _ _ _ HEl.out rfl rfl))|(apply XaB;(case hs=>(intro _ _ h;cases h));(case hx=>rfl);(case hrun=>(intro w;simp [wtb,AV.val,go_sem];(try go_bits);rfl))))));(case hT=>((try simp only [wtn,Xqz,Xqw,Xqx,XqA,XqE,Nat.reduceAdd,Nat.reduceMul,Nat.reduceSub,↓reduceIte,Nat.reduceEqDiff]);rfl)))|fail))
 ·refine Xb0 (Xaf _ _ (XcA rfl (RV.tmp _) (RV.tmp _) (XaH.mk' [] _ (Xqv _) (XaF.refl _ _) (VwL.refl _ _))) ?_)
  refine ⟨?_,rfl⟩
  unfold XbD
  rw [if_pos (by omega)]
  rfl
 have h1000:¬1000 < l.length:=by omega
 clear h
 refine XaR ?_
 refine Xcm 5 1 ?_
 refine Xac ?_
 refine Xah rfl ?_
 (refine XiX 74 _ 2 rfl Xbu.out rfl (by rfl) (fun b0=>?_))
 apply Xag
 case hT=>((try simp only [wtn,Xqz,Xqw,Xqx,XqA,XqE,Nat.reduceAdd,Nat.reduceMul,Nat.reduceSub,↓reduceIte,Nat.reduceEqDiff]);rfl)
 case hH=>rfl
 (repeat' (first|with_reducible (first|refine Xae ?_|refine Xaa ?_)|fail))
 refine Xbt (XaR ?_)
 (repeat' (first|with_reducible (first|refine Xac ?_|refine Xae ?_|refine Xaa ?_)|((apply Xad rfl);(case h=>((try (intro (hp:(_:Bool)=true);((try simp only [Bool.and_eq_true,Bool.not_eq_true',Bool.not_eq_true] at hp);(try simp only [hp,wte]);(try simp only [whn] at hp))));(first|(apply Xab 0 rfl;(exact Xas _ rfl))|(apply Xab 3 rfl;(exact Xa2 _ _ _ _ _ _ HEl.out rfl rfl)))));(case hT=>((try simp only [wtn,Xqz,Xqw,Xqx,XqA,XqE,Nat.reduceAdd,Nat.reduceMul,Nat.reduceSub,↓reduceIte,Nat.reduceEqDiff]);rfl)))|fail))
 refine Xca ?_
 apply XcU (S:=Nat × Option Addr × Option Addr × Nat) (fun q=>frm 80 [(0,.sq l.length (va l)),(4,.x (.pointer (some ⟨b0,0,none⟩))),(19,.sq l.length (va l)),(20,.x (.int .i64 l.length)),(21,.x (.int .i64 q.1))])
  (fun q=>[.row (some ⟨b0,0,none⟩) 1 1 74 2 [.x (.pointer q.2.1),.x (.slice q.2.2.1 (Xbc (l.take q.1)).length q.2.2.2)],.row q.2.2.1 (Xbc (l.take q.1)).length q.2.2.2 5 1 (u8a (Xbc (l.take q.1)))]) (fun _=>[])
  (fun q=>q.1≤l.length∧(q.2.1=none∨q.2.1=some ⟨b0,0,none⟩)∧(Xbc (l.take q.1)).length≤65536∧(q.1=0→q.2.2.1=none)) (fun q=>l.length - q.1) (0,none,none,0)
 case h0=>exact XaH.mk' [] [.row (some _) _ _ _ _ _,.row none _ _ _ _ _] (by (repeat' (first|exact Xqv _|fail))) (XaF.refl _ _) (by (repeat' (first|exact VwL.nil|(refine VwL.cons ?_ ?_)|exact Vw.refl _|exact Vw.top _|fail)))
 case hΘ=>rfl
 case hi=>exact ⟨Nat.zero_le _,.inl rfl,by simp [Xbc],fun _=>rfl⟩
 rintro ⟨i,p,ad,cap⟩ ⟨g1,g2,g3,g4⟩
 simp only at g1 g2 g3 g4
 simp only [frm,XqC,XqD,Xqw,Xqx,XqJ,XqK]
 by_cases hlt:i < l.length
 ·have hdr:=Xds l i hlt
  have hok:=hl'.out _ (List.getElem_mem hlt)
  have htk:=XfI l i hlt
  have hpre:=Xkd l (i+1)
  rw [htk] at hpre
  have htk':=Lib.hid htk
  clear htk g4
  refine XaR ?_
  (repeat' (first|with_reducible (first|refine Xac ?_|refine Xae ?_|refine Xaa ?_)|((apply Xad rfl);(case h=>((try (intro (hp:(_:Bool)=true);((try simp only [Bool.and_eq_true,Bool.not_eq_true',Bool.not_eq_true] at hp);(try simp only [hp,wte]);(try simp only [whn] at hp))));(apply XaB;(case hs=>(intro _ _ h;cases h));(case hx=>rfl);(case hrun=>(intro w;simp [wtb,AV.val,go_sem];(try go_bits);rfl)))));(case hT=>((try simp only [wtn,Xqz,Xqw,Xqx,XqA,XqE,Nat.reduceAdd,Nat.reduceMul,Nat.reduceSub,↓reduceIte,Nat.reduceEqDiff]);rfl)))|fail))
  refine XaR ?_
  (repeat' (first|with_reducible (first|refine Xaw ?_|refine Xaa ?_)|(refine Xai _ rfl (fun h=>?_) (fun h=>?_)<;>((try (simp only [whn] at h));first|(exfalso;omega;done)|skip))|fail))
  refine Xbt (Xca ?_)
  refine XaR ?_
  (repeat' (first|with_reducible (first|refine Xac ?_|refine Xae ?_|refine Xaa ?_)|((apply Xad rfl);(case h=>((try (intro (hp:(_:Bool)=true);((try simp only [Bool.and_eq_true,Bool.not_eq_true',Bool.not_eq_true] at hp);(try simp only [hp,wte]);(try simp only [whn] at hp))));(first|(apply Xab 6 rfl;(exact XaP _ _ _ _ _ rfl rfl XaZ.out (by first|exact Xqu rfl|fail) (by first|exact Xqu rfl|fail)))|(apply Xab 7 rfl;(exact XaL _ _ _ _ _ _ _ _ _ _ rfl rfl rfl HEl.out rfl (by first|omega|fail) (by simp;first|omega|fail))))));(case hT=>((try simp (disch:=omega) only [wtn,hdr,Xqz,Xqw,Xqx,XqA,XqE,Nat.reduceAdd,Nat.reduceMul,Nat.reduceSub,↓reduceIte,Nat.reduceEqDiff]);rfl)))|(refine Xah rfl ?_;((first|(refine Xav 14 rfl ?_;(refine XaE _ _ rfl Xbu.out rfl (fun b=>?_)))|(refine Xav 16 rfl ?_;(refine Xax _ _ _ _ _ _ _ rfl rfl Xa3.out XaX.out (by first|rfl|fail) (by first|exact Xqu rfl|fail) ?_)));apply Xag;(case hT=>((try simp (disch:=omega) only [wtn,hdr,Xqz,Xqw,Xqx,XqA,XqE,Nat.reduceAdd,Nat.reduceMul,Nat.reduceSub,↓reduceIte,Nat.reduceEqDiff]);rfl));(case hH=>((try simp (disch:=omega) only [wtn,hdr,Xqz,Xqw,Xqx,XqA,XqE,Nat.reduceAdd,Nat.reduceMul,Nat.reduceSub,↓reduceIte,Nat.reduceEqDiff]);rfl))))|fail))
  revert b
  intro be
  have hfk:=Xo1 be l[i]
  unfold EF.cells at hfk
  refine XaR ?_
  (repeat' (first|with_reducible (refine Xac ?_)|((apply Xad rfl);(case h=>((try (intro (hp:(_:Bool)=true);((try simp only [Bool.and_eq_true,Bool.not_eq_true',Bool.not_eq_true] at hp);(try simp only [hp,wte]);(try simp only [whn] at hp))));(first|(apply Xab 0 rfl;(exact Xas _ rfl))|(apply XaB;(case hs=>(intro _ _ h;cases h));(case hx=>rfl);(case hrun=>(intro w;simp [wtb,AV.val,go_sem];(try go_bits);rfl))))));(case hT=>((try simp only [wtn,Xqz,Xqw,Xqx,XqA,XqE,Nat.reduceAdd,Nat.reduceMul,Nat.reduceSub,↓reduceIte,Nat.reduceEqDiff]);rfl)))|(refine Xah rfl ?_;((refine Xav 11 rfl ?_;(refine XaW 31 Tryz.f31 [_] _ _ _ rfl rfl Tryz.func31 (by decide) rfl (Xqv _) (VwL.refl _ _) (hfk) ?_;rintro _ _ ⟨rfl,hres⟩));apply Xag;(case hT=>((try simp only [wtn,Xqz,Xqw,Xqx,XqA,XqE,Nat.reduceAdd,Nat.reduceMul,Nat.reduceSub,↓reduceIte,Nat.reduceEqDiff]);rfl));(case hH=>((try simp only [wtn,Xqz,Xqw,Xqx,XqA,XqE,Nat.reduceAdd,Nat.reduceMul,Nat.reduceSub,↓reduceIte,Nat.reduceEqDiff]);rfl))))|fail))
  obtain ⟨X,hX⟩:∃X,X=Xbc (l.take i)++XcW l[i]:=⟨_,rfl⟩
  rcases hres with ⟨k,wd,kd,fs,hk,hf,he,rfl⟩|⟨hno,rfl⟩
  ·obtain ⟨c1,c2,c3⟩:=Xl6 hk hf he
   have hc3:=Lib.hid c3
   have hwl:=Xin l[i].kind
   rw [c1] at hwl
   obtain ⟨fY,y0,ys,yn,yl⟩:=Xpd (Xbc (l.take i)) wd fs l[i] hok g3 hwl
   rw [←c1,←c2,←XfY,←hX] at yn
   have hfl:fs.length≤2:=by have:=Xij l[i].kind;rw [c2] at this;simpa using this
   have hXl:X.length≤9500000:=by
    have h5:=yl fs.length (Nat.le_refl _)
    rw [yn] at h5
    omega
   have y0':=Lib.hid y0
   have yn':=Lib.hid yn
   have ys':=Lib.hid ys
   have yl':=Lib.hid yl
   have hX':=Lib.hid hX
   clear hf c1 c2 c3 ys yl y0 yn hX
   (repeat' (first|with_reducible (first|refine Xae ?_|refine Xaa ?_)|((apply Xad rfl);(case h=>((try (intro (hp:(_:Bool)=true);((try simp only [Bool.and_eq_true,Bool.not_eq_true',Bool.not_eq_true] at hp);(try simp only [hp,wte]);(try simp only [whn] at hp))));(first|(apply Xab 0 rfl;(exact Xao _ rfl))|(apply Xab 2 rfl;(exact Xay _ _ _ _ rfl rfl rfl)))));(case hT=>((try simp only [wtn,Xqz,Xqw,Xqx,XqA,XqE,Nat.reduceAdd,Nat.reduceMul,Nat.reduceSub,↓reduceIte,Nat.reduceEqDiff]);rfl)))|(refine Xah rfl ?_;((first|(refine Xav 14 rfl ?_;(refine XaE _ _ rfl Xbu.out rfl (fun b=>?_)))|(refine Xav 16 rfl ?_;(refine Xax _ _ _ _ _ _ _ rfl rfl Xa3.out XaX.out (by first|rfl|fail) (by first|exact Xqu rfl|fail) ?_)));apply Xag;(case hT=>((try simp only [wtn,Xqz,Xqw,Xqx,XqA,XqE,Nat.reduceAdd,Nat.reduceMul,Nat.reduceSub,↓reduceIte,Nat.reduceEqDiff]);rfl));(case hH=>((try simp only [wtn,Xqz,Xqw,Xqx,XqA,XqE,Nat.reduceAdd,Nat.reduceMul,Nat.reduceSub,↓reduceIte,Nat.reduceEqDiff]);rfl))))|fail))
   revert b
   intro bf
   refine Xih (fun T' H'=>∃p ad cap,(p=none∨p=some ⟨b0,0,none⟩)∧XaH H' T' [.row (some ⟨b0,0,none⟩) 1 1 74 2 [.x (.pointer p),.x (.slice ad (X).length cap)],.row ad (X).length cap 5 1 (u8a (X))] (frm 80 [(0,.sq l.length (va l)),(4,.x (.pointer (some ⟨b0,0,none⟩))),(19,.sq l.length (va l)),(20,.x (.int .i64 l.length)),(21,.x (.int .i64 i))])) (XaR ?_) ?_
   ·(repeat' (first|with_reducible (first|refine Xac ?_|refine Xae ?_|refine Xaa ?_)|((apply Xad rfl);(case h=>((try (intro (hp:(_:Bool)=true);((try simp only [Bool.and_eq_true,Bool.not_eq_true',Bool.not_eq_true] at hp);(try simp only [hp,wte]);(try simp only [whn] at hp))));(apply Xab 0 rfl;(exact Xas _ rfl))));(case hT=>((try simp only [wtn,Xqz,Xqw,Xqx,XqA,XqE,Nat.reduceAdd,Nat.reduceMul,Nat.reduceSub,↓reduceIte,Nat.reduceEqDiff]);rfl)))|fail))
    refine XgG true rfl (fun _=>?_) (fun h=>by cases h)
    refine XaR ?_
    (repeat' (first|with_reducible (first|refine Xac ?_|refine Xae ?_|refine Xaa ?_)|((apply Xad rfl);(case h=>((try (intro (hp:(_:Bool)=true);((try simp only [Bool.and_eq_true,Bool.not_eq_true',Bool.not_eq_true] at hp);(try simp only [hp,wte]);(try simp only [whn] at hp))));(first|(apply Xab 5 rfl;(exact Xau _ _ _ _ _ _ rfl rfl Xbv.out))|(apply Xab 6 rfl;(exact Xaz _ _ _ _ _ _ _ _ rfl rfl Xa3.out XaZ.out (by first|exact Xqu rfl|fail) (by first|exact Xqu rfl|fail))))));(case hT=>((try simp (disch:=omega) only [wtn,Xhj,Xqz,Xqw,Xqx,XqA,XqE,Nat.reduceAdd,Nat.reduceMul,Nat.reduceSub,↓reduceIte,Nat.reduceEqDiff]);rfl)))|(refine Xah rfl ?_;((refine Xav 11 rfl ?_;(refine XaW 33 Tryz.f33 [_,_] _ _ _ rfl rfl Tryz.func33 (by decide) rfl (List.perm_append_comm (l₁:=[_,_]) (l₂:=[_,_])) (VwL.refl _ _) (Xna b0 p g2 ad cap (Xbc (l.take i)) wd (by omega)) ?_;rintro _ _ ⟨ad1,cap1,rfl,rfl⟩));apply Xag;(case hT=>((try simp (disch:=omega) only [wtn,Xhj,Xqz,Xqw,Xqx,XqA,XqE,Nat.reduceAdd,Nat.reduceMul,Nat.reduceSub,↓reduceIte,Nat.reduceEqDiff]);rfl));(case hH=>((try simp (disch:=omega) only [wtn,Xhj,Xqz,Xqw,Xqx,XqA,XqE,Nat.reduceAdd,Nat.reduceMul,Nat.reduceSub,↓reduceIte,Nat.reduceEqDiff]);rfl))))|fail))
    refine Xbt (XbJ ?_)
    (repeat' (first|(apply XbT rfl;(case h=>(first|(apply Xab 5 rfl;(exact Xau _ _ _ _ _ _ rfl rfl Xbv.out))|(apply Xab 6 rfl;(exact Xaz _ _ _ _ _ _ _ _ rfl rfl Xa3.out XaZ.out (by first|exact Xqu rfl|fail) (by first|exact Xqu rfl|fail)))));(case hT=>((try simp only [wtn,Xqz,Xqw,Xqx,XqA,XqE,Nat.reduceAdd,Nat.reduceMul,Nat.reduceSub,↓reduceIte,Nat.reduceEqDiff]);rfl)))|fail))
    refine XeQ rfl rfl rfl (by kernel_rfl) fun kk _=>?_
    refine Xb5 ?_
    refine Xaa ?_
    refine Xca ?_
    apply XcU (S:=Nat × Option Addr × Nat) (fun q=>frm 80 [(0,.sq l.length (va l)),(4,.x (.pointer (some ⟨b0,0,none⟩))),(19,.sq l.length (va l)),(20,.x (.int .i64 l.length)),(21,.x (.int .i64 i)),(6,.x (.pointer (some ⟨be,0,none⟩))),(36,.x (.pointer (some ⟨kk,0,none⟩)))])
     (fun q=>[.row (some ⟨b0,0,none⟩) 1 1 74 2 [.x (.pointer (some ⟨b0,0,none⟩)),.x (.slice q.2.1 (fY q.1).length q.2.2)],.row q.2.1 (fY q.1).length q.2.2 5 1 (u8a (fY q.1)),.box be [.x (.int .i64 l[i].kind),.x (.string (bs l[i].job)),.x (.bool l[i].ok),.x (.int .i64 l[i].code),.sq l[i].data.length (u8a l[i].data),.x (.int .u64 l[i].time),.x (.int .i64 l[i].client),.x (.int .i64 l[i].num)]]) (fun q=>[(kk,.stringIter (bs fs) q.1)])
     (fun q=>q.1≤fs.length) (fun q=>fs.length - q.1) (0,ad1,cap1)
    case h0=>
     simp only
     rw [y0'.out]
     exact XaH.mk' [.box bf _] [.row (some _) _ _ _ _ _,.row ad1 _ _ _ _ _,.box be _] (by (repeat' (first|exact Xqv _|refine (XqI (l₁:=[_,_])).trans (XqL _ ?_)|fail))) (XaF.refl _ _) (by (repeat' (first|exact VwL.nil|(refine VwL.cons ?_ ?_)|exact Vw.refl _|exact Vw.top _|fail)))
    case hΘ=>rfl
    case hi=>exact Nat.zero_le _
    rintro ⟨j,ad2,cap2⟩ q1
    simp only at q1
    have hyl:=yl'.out j q1
    simp only [frm,XqC,XqD,Xqw,Xqx,XqJ,XqK]
    by_cases hj:j < fs.length
    ·obtain ⟨q128,qlet⟩:=hc3.out fs[j] (List.getElem_mem _)
     have hT:=Xoz Xqq l[i] hok (fs[j].toNat:Nat) qlet
     unfold EF.cells at hT
     have htl:=Xim l[i] hok (Xbs (fs[j].toNat:Nat))
     have hys:=ys'.out j hj
     have hys':=Lib.hid hys
     clear hys
     refine Xbt (XbJ ?_)
     refine XfC rfl rfl rfl hj q128 (fun p hp=>by cases hp) ?_
     (repeat' (first|(apply XbT rfl;(case h=>(apply XaB;(case hs=>(intro _ _ h;cases h));(case hx=>rfl);(case hrun=>(intro w;simp [wtb,AV.val,go_sem];(try go_bits);rfl))));(case hT=>((try simp only [wtn,Xqz,Xqw,Xqx,XqA,XqE,Nat.reduceAdd,Nat.reduceMul,Nat.reduceSub,↓reduceIte,Nat.reduceEqDiff]);rfl)))|fail))
     refine Xb5 ?_
     refine Xaa ?_
     refine XbI ?_
     (repeat' (first|with_reducible (first|refine Xal ?_|refine Xac ?_|refine Xat ?_|refine Xaw ?_|refine Xae ?_|refine Xaa ?_|refine Xaj ?_)|(refine Xai _ rfl (fun h=>?_) (fun h=>?_)<;>first|(exact absurd h (by decide))|((try (simp only [whn] at h));skip))|((apply Xad rfl);(case h=>((try (intro (hp:(_:Bool)=true);((try simp only [Bool.and_eq_true,Bool.not_eq_true',Bool.not_eq_true] at hp);(try simp only [hp,wte]);(try simp only [whn] at hp))));(first|(apply Xab 0 rfl;(first|exact Xas _ rfl|exact Xao _ rfl))|(apply Xab 6 rfl;(exact Xaz _ _ _ _ _ _ _ _ rfl rfl Xa3.out XaZ.out (by first|exact Xqu rfl|fail) (by first|exact Xqu rfl|fail)))|(apply Xab 11 rfl;(exact Xan 35 Tryz.f35 _ _ rfl rfl Tryz.func35 (by decide) rfl (VwL.refl _ _) (hT)))|(apply XaB;(case hs=>(intro _ _ h;cases h));(case hx=>rfl);(case hrun=>(intro w;simp [wtb,AV.val,go_sem];(try go_bits);rfl))))));(case hT=>((try simp (disch:=omega) only [wtn,Xhj,XbO,Xqz,Xqw,Xqx,XqA,XqE,Nat.reduceAdd,Nat.reduceMul,Nat.reduceSub,↓reduceIte,Nat.reduceEqDiff]);rfl)))|(refine Xah rfl ?_;((refine Xav 11 rfl ?_;(first|(refine XaW 34 Tryz.f34 [_,_] _ _ _ rfl rfl Tryz.func34 (by decide) rfl (Xqv _) (VwL.refl _ _) (Xif b0 _ (.inr rfl) ad2 cap2 (fY j) 32 (by omega)) ?_;rintro _ _ ⟨ad3,cap3,rfl,rfl⟩)|(refine XaW 33 Tryz.f33 [_,_] _ _ _ rfl rfl Tryz.func33 (by decide) rfl (Xqv _) (VwL.refl _ _) (Xna b0 _ (.inr rfl) ad3 cap3 (fY j++[32]) (Xfq l[i] (Xbs (fs[j].toNat:Nat))) (by simp only [XqH,Xqy,XqB];omega)) ?_;rintro _ _ ⟨ad4,cap4,rfl,rfl⟩)));apply Xag;(case hT=>((try simp (disch:=omega) only [wtn,Xhj,XbO,Xqz,Xqw,Xqx,XqA,XqE,Nat.reduceAdd,Nat.reduceMul,Nat.reduceSub,↓reduceIte,Nat.reduceEqDiff]);rfl));(case hH=>((try simp (disch:=omega) only [wtn,Xhj,XbO,Xqz,Xqw,Xqx,XqA,XqE,Nat.reduceAdd,Nat.reduceMul,Nat.reduceSub,↓reduceIte,Nat.reduceEqDiff]);rfl))))|fail))
     refine ⟨rfl,(j+1,ad4,cap4),by simp only;omega,by simp only;omega,rfl,?_⟩
     simp only
     rw [hys'.out]
     exact (XaH.mk' [] _ (Xqv _) (XaF.refl _ _) (by (repeat' (first|exact VwL.nil|(refine VwL.cons ?_ ?_)|exact Vw.refl _|exact Vw.top _|fail))))
    ·refine Xbt (XbJ ?_)
     refine XfD rfl rfl rfl hj ?_
     (repeat' (first|(apply XbT rfl;(case h=>(apply XaB;(case hs=>(intro _ _ h;cases h));(case hx=>rfl);(case hrun=>(intro w;simp [wtb,AV.val,go_sem];(try go_bits);rfl))));(case hT=>((try simp only [wtn,Xqz,Xqw,Xqx,XqA,XqE,Nat.reduceAdd,Nat.reduceMul,Nat.reduceSub,↓reduceIte,Nat.reduceEqDiff]);rfl)))|fail))
     refine Xb5 ?_
     refine Xaa ?_
     refine XbI ?_
     (repeat' (first|with_reducible (first|refine Xal ?_|refine XaY ?_|refine XaG ?_|refine XaC ?_)|(refine Xai _ rfl (fun h=>?_) (fun h=>?_)<;>first|(exact absurd h (by decide))|((try (simp only [whn] at h));skip))|fail))
     obtain rfl:j=fs.length:=by omega
     rw [yn'.out]
     exact ⟨rfl,rfl,_,ad2,cap2,.inr rfl,XaH.mk' [.box be _] [.row (some _) _ _ _ _ _,.row ad2 _ _ _ _ _] (by (repeat' (first|exact Xqv _|refine (XqI (l₁:=[_,_])).trans (XqL _ ?_)|fail))) (XaF.refl _ _) (by (repeat' (first|exact VwL.nil|(refine VwL.cons ?_ ?_)|exact Vw.refl _|exact Vw.top _|fail)))⟩
   ·rintro T' H' ⟨p1,ad1,cap1,hp1,hw⟩
    refine XdR hw ?_
    simp only [frm,XqC,XqD,Xqw,Xqx,XqJ,XqK]
    refine XbI ?_
    (repeat' (first|with_reducible (first|refine Xal ?_|refine Xac ?_|refine Xaq ?_|refine Xaw ?_|refine Xae ?_|refine Xaa ?_|refine Xam ?_|refine Xaj ?_|refine Xak ?_)|(refine Xai _ rfl (fun h=>?_) (fun h=>?_)<;>((try (simp only [whn] at h));skip))|((apply Xad rfl);(case h=>((try (intro (hp:(_:Bool)=true);((try simp only [Bool.and_eq_true,Bool.not_eq_true',Bool.not_eq_true] at hp);(try simp only [hp,wte]);(try simp only [whn] at hp))));(first|(apply Xab 0 rfl;(exact Xao _ rfl))|(apply XaB;(case hs=>(intro _ _ h;cases h));(case hx=>rfl);(case hrun=>(intro w;simp [wtb,AV.val,go_sem];(try go_bits);rfl))))));(case hT=>((try simp (disch:=omega) only [wtn,Xhj,Xqz,Xqw,Xqx,XqA,XqE,Nat.reduceAdd,Nat.reduceMul,Nat.reduceSub,↓reduceIte,Nat.reduceEqDiff]);rfl)))|(refine Xah rfl ?_;((refine Xav 11 rfl ?_;(first|(refine XaW 34 Tryz.f34 [_,_] _ _ _ rfl rfl Tryz.func34 (by decide) rfl (Xqv _) (VwL.refl _ _) (Xif b0 p1 hp1 ad1 cap1 X 10 (by omega)) ?_;rintro _ _ ⟨ad2,cap2,rfl,rfl⟩)|(refine XaW 36 Tryz.f36 [_] _ _ _ rfl rfl Tryz.func36 (by decide) rfl (Xqv _) (VwL.refl _ _) (XmR b0 _ _ _ _) ?_;rintro _ _ ⟨rfl,rfl⟩)));apply Xag;(case hT=>((try simp (disch:=omega) only [wtn,Xhj,Xqz,Xqw,Xqx,XqA,XqE,Nat.reduceAdd,Nat.reduceMul,Nat.reduceSub,↓reduceIte,Nat.reduceEqDiff]);rfl));(case hH=>((try simp (disch:=omega) only [wtn,Xhj,Xqz,Xqw,Xqx,XqA,XqE,Nat.reduceAdd,Nat.reduceMul,Nat.reduceSub,↓reduceIte,Nat.reduceEqDiff]);rfl))))|fail))
    ·refine Xb0 (Xaf _ _ (XcA rfl (RV.tmp _) (RV.tmp _) (XaH.mk' [_,_] [] (Xqv _) XaF.nil (VwL.refl _ _))) ?_)
     refine ⟨?_,rfl⟩
     have hX:=hX'.out
     rw [XgL h1000 (by have h6:=congrArg List.length hX;simp only [XqH,Xqy,XqB] at h6 hpre;omega)]
     rfl
    ·refine XbI ?_
     (repeat' (first|with_reducible (first|refine Xac ?_|refine Xae ?_|refine Xaa ?_)|((apply Xad rfl);(case h=>((try (intro (hp:(_:Bool)=true);((try simp only [Bool.and_eq_true,Bool.not_eq_true',Bool.not_eq_true] at hp);(try simp only [hp,wte]);(try simp only [whn] at hp))));(first|(apply Xab 0 rfl;(exact Xas _ rfl))|(apply XaB;(case hs=>(intro _ _ h;cases h));(case hx=>rfl);(case hrun=>(intro w;simp [wtb,AV.val,go_sem];(try go_bits);rfl))))));(case hT=>((try simp only [wtn,Xqz,Xqw,Xqx,XqA,XqE,Nat.reduceAdd,Nat.reduceMul,Nat.reduceSub,↓reduceIte,Nat.reduceEqDiff]);rfl)))|fail))
     have hX:=hX'.out
     have hXt:Xbc (l.take (i+1))=X++[10]:=by rw [htk'.out,hX,List.append_assoc]
     refine ⟨rfl,(i+1,some ⟨b0,0,none⟩,ad2,cap2),by simp only;omega,⟨by simp only;omega,.inr rfl,by simp only;rw [hXt];simp;omega,fun h0=>absurd h0 (by simp)⟩,rfl,?_⟩
     simp only
     rw [hXt]
     exact (XaH.mk' [] _ (Xqv _) (XaF.refl _ _) (by (repeat' (first|exact VwL.nil|(refine VwL.cons ?_ ?_)|exact Vw.refl _|exact Vw.top _|fail))))
  ·obtain ⟨c1,c2⟩:=XkI hno
   have hX0:X=Xbc (l.take i):=by rw [hX,XfY,c1,c2];simp [Xc3]
   have hXl:X.length≤9500000:=by rw [hX0];omega
   have hX':=Lib.hid hX
   have hX0':=Lib.hid hX0
   clear hX hX0 c1 c2 hno
   unfold Xiz
   (repeat' (first|with_reducible (first|refine Xae ?_|refine Xaa ?_)|((apply Xad rfl);(case h=>((try (intro (hp:(_:Bool)=true);((try simp only [Bool.and_eq_true,Bool.not_eq_true',Bool.not_eq_true] at hp);(try simp only [hp,wte]);(try simp only [whn] at hp))));(first|(apply Xab 0 rfl;(exact Xao _ rfl))|(apply Xab 2 rfl;(exact Xay _ _ _ _ rfl rfl rfl)))));(case hT=>((try simp only [wtn,Xqz,Xqw,Xqx,XqA,XqE,Nat.reduceAdd,Nat.reduceMul,Nat.reduceSub,↓reduceIte,Nat.reduceEqDiff]);rfl)))|(refine Xah rfl ?_;((first|(refine Xav 14 rfl ?_;(refine XaE _ _ rfl Xbu.out rfl (fun b=>?_)))|(refine Xav 16 rfl ?_;(refine Xax _ _ _ _ _ _ _ rfl rfl Xa3.out XaX.out (by first|rfl|fail) (by first|exact Xqu rfl|fail) ?_)));apply Xag;(case hT=>((try simp only [wtn,Xqz,Xqw,Xqx,XqA,XqE,Nat.reduceAdd,Nat.reduceMul,Nat.reduceSub,↓reduceIte,Nat.reduceEqDiff]);rfl));(case hH=>((try simp only [wtn,Xqz,Xqw,Xqx,XqA,XqE,Nat.reduceAdd,Nat.reduceMul,Nat.reduceSub,↓reduceIte,Nat.reduceEqDiff]);rfl))))|fail))
   revert b
   intro bf
   refine Xih (fun T' H'=>∃p ad cap,(p=none∨p=some ⟨b0,0,none⟩)∧XaH H' T' [.row (some ⟨b0,0,none⟩) 1 1 74 2 [.x (.pointer p),.x (.slice ad (X).length cap)],.row ad (X).length cap 5 1 (u8a (X))] (frm 80 [(0,.sq l.length (va l)),(4,.x (.pointer (some ⟨b0,0,none⟩))),(19,.sq l.length (va l)),(20,.x (.int .i64 l.length)),(21,.x (.int .i64 i))])) (XaR ?_) ?_
   ·(repeat' (first|with_reducible (first|refine Xac ?_|refine Xae ?_|refine Xaa ?_)|((apply Xad rfl);(case h=>((try (intro (hp:(_:Bool)=true);((try simp only [Bool.and_eq_true,Bool.not_eq_true',Bool.not_eq_true] at hp);(try simp only [hp,wte]);(try simp only [whn] at hp))));(apply Xab 0 rfl;(exact Xas _ rfl))));(case hT=>((try simp only [wtn,Xqz,Xqw,Xqx,XqA,XqE,Nat.reduceAdd,Nat.reduceMul,Nat.reduceSub,↓reduceIte,Nat.reduceEqDiff]);rfl)))|fail))
    refine XgG false rfl (fun h=>by cases h) (fun _=>?_)
    refine XbI ?_
    (repeat' (first|with_reducible (refine Xaw ?_)|fail))
    rw [hX0'.out]
    exact ⟨rfl,rfl,p,ad,cap,g2,XaH.mk' [.box bf _,.box be _] [.row (some _) _ _ _ _ _,.row ad _ _ _ _ _] (by (repeat' (first|exact Xqv _|fail))) (XaF.refl _ _) (by (repeat' (first|exact VwL.nil|(refine VwL.cons ?_ ?_)|exact Vw.refl _|exact Vw.top _|fail)))⟩
   ·rintro T' H' ⟨p1,ad1,cap1,hp1,hw⟩
    refine XdR hw ?_
    simp only [frm,XqC,XqD,Xqw,Xqx,XqJ,XqK]
    refine XbI ?_
    (repeat' (first|with_reducible (first|refine Xal ?_|refine Xac ?_|refine Xaq ?_|refine Xaw ?_|refine Xae ?_|refine Xaa ?_|refine Xam ?_|refine Xaj ?_|refine Xak ?_)|(refine Xai _ rfl (fun h=>?_) (fun h=>?_)<;>((try (simp only [whn] at h));skip))|((apply Xad rfl);(case h=>((try (intro (hp:(_:Bool)=true);((try simp only [Bool.and_eq_true,Bool.not_eq_true',Bool.not_eq_true] at hp);(try simp only [hp,wte]);(try simp only [whn] at hp))));(first|(apply Xab 0 rfl;(exact Xao _ rfl))|(apply XaB;(case hs=>(intro _ _ h;cases h));(case hx=>rfl);(case hrun=>(intro w;simp [wtb,AV.val,go_sem];(try go_bits);rfl))))));(case hT=>((try simp (disch:=omega) only [wtn,Xhj,Xqz,Xqw,Xqx,XqA,XqE,Nat.reduceAdd,Nat.reduceMul,Nat.reduceSub,↓reduceIte,Nat.reduceEqDiff]);rfl)))|(refine Xah rfl ?_;((refine Xav 11 rfl ?_;(first|(refine XaW 34 Tryz.f34 [_,_] _ _ _ rfl rfl Tryz.func34 (by decide) rfl (Xqv _) (VwL.refl _ _) (Xif b0 p1 hp1 ad1 cap1 X 10 (by omega)) ?_;rintro _ _ ⟨ad2,cap2,rfl,rfl⟩)|(refine XaW 36 Tryz.f36 [_] _ _ _ rfl rfl Tryz.func36 (by decide) rfl (Xqv _) (VwL.refl _ _) (XmR b0 _ _ _ _) ?_;rintro _ _ ⟨rfl,rfl⟩)));apply Xag;(case hT=>((try simp (disch:=omega) only [wtn,Xhj,Xqz,Xqw,Xqx,XqA,XqE,Nat.reduceAdd,Nat.reduceMul,Nat.reduceSub,↓reduceIte,Nat.reduceEqDiff]);rfl));(case hH=>((try simp (disch:=omega) only [wtn,Xhj,Xqz,Xqw,Xqx,XqA,XqE,Nat.reduceAdd,Nat.reduceMul,Nat.reduceSub,↓reduceIte,Nat.reduceEqDiff]);rfl))))|fail))
    ·refine Xb0 (Xaf _ _ (XcA rfl (RV.tmp _) (RV.tmp _) (XaH.mk' [_,_] [] (Xqv _) XaF.nil (VwL.refl _ _))) ?_)
     refine ⟨?_,rfl⟩
     have hX:=hX'.out
     rw [XgL h1000 (by have h6:=congrArg List.length hX;simp only [XqH,Xqy,XqB] at h6 hpre;omega)]
     rfl
    ·refine XbI ?_
     (repeat' (first|with_reducible (first|refine Xac ?_|refine Xae ?_|refine Xaa ?_)|((apply Xad rfl);(case h=>((try (intro (hp:(_:Bool)=true);((try simp only [Bool.and_eq_true,Bool.not_eq_true',Bool.not_eq_true] at hp);(try simp only [hp,wte]);(try simp only [whn] at hp))));(first|(apply Xab 0 rfl;(exact Xas _ rfl))|(apply XaB;(case hs=>(intro _ _ h;cases h));(case hx=>rfl);(case hrun=>(intro w;simp [wtb,AV.val,go_sem];(try go_bits);rfl))))));(case hT=>((try simp only [wtn,Xqz,Xqw,Xqx,XqA,XqE,Nat.reduceAdd,Nat.reduceMul,Nat.reduceSub,↓reduceIte,Nat.reduceEqDiff]);rfl)))|fail))
     have hX:=hX'.out
     have hXt:Xbc (l.take (i+1))=X++[10]:=by rw [htk'.out,hX,List.append_assoc]
     refine ⟨rfl,(i+1,some ⟨b0,0,none⟩,ad2,cap2),by simp only;omega,⟨by simp only;omega,.inr rfl,by simp only;rw [hXt];simp;omega,fun h0=>absurd h0 (by simp)⟩,rfl,?_⟩
     simp only
     rw [hXt]
     exact (XaH.mk' [] _ (Xqv _) (XaF.refl _ _) (by (repeat' (first|exact VwL.nil|(refine VwL.cons ?_ ?_)|exact Vw.refl _|exact Vw.top _|fail))))
 ·obtain rfl:i=l.length:=by omega
  rw [List.take_length] at g3
  rw [List.take_length]
  have h0:Xbc l=[]→ad=none:=fun e=>g4 (by rw [Xkc e];rfl)
  have h0':=Lib.hid h0
  clear h0 g4
  refine XaR ?_
  (repeat' (first|with_reducible (first|refine Xac ?_|refine Xae ?_|refine Xaa ?_)|((apply Xad rfl);(case h=>((try (intro (hp:(_:Bool)=true);((try simp only [Bool.and_eq_true,Bool.not_eq_true',Bool.not_eq_true] at hp);(try simp only [hp,wte]);(try simp only [whn] at hp))));(apply XaB;(case hs=>(intro _ _ h;cases h));(case hx=>rfl);(case hrun=>(intro w;simp [wtb,AV.val,go_sem];(try go_bits);rfl)))));(case hT=>((try simp only [wtn,Xqz,Xqw,Xqx,XqA,XqE,Nat.reduceAdd,Nat.reduceMul,Nat.reduceSub,↓reduceIte,Nat.reduceEqDiff]);rfl)))|fail))
  refine XaR ?_
  (repeat' (first|with_reducible (first|refine XaY ?_|refine Xaa ?_|refine XaG ?_|refine XaC ?_)|(refine Xai _ rfl (fun h=>?_) (fun h=>?_)<;>first|(exact absurd h (by decide))|((try (simp only [whn] at h));skip))|fail))
  refine Xbt (XbJ ?_)
  refine XjW rfl rfl rfl rfl h0'.out (by omega) fun Θ' hTk=>?_
  have hP:=Xge (Xbc l) (by omega)
  have hok1:=Lib.hid (Xns h1000 (by omega))
  have hbad:=Lib.hid (XlO h1000 (by omega))
  unfold XoF at hP
  generalize XbQ (Xbc l)=q at hP hok1 hbad
  (repeat' (first|(apply XbT rfl;(case h=>(first|(apply Xab 0 rfl;(first|exact Xas _ rfl|exact Xao _ rfl))|(apply Xab 2 rfl;(exact Xay _ _ _ _ rfl rfl rfl))|(apply Xab 11 rfl;(exact Xan 10 Tryz.f10 _ _ rfl rfl Tryz.func10 (by decide) rfl (VwL.refl _ _) (hP)))));(case hT=>((try simp only [wtn,Xqz,Xqw,Xqx,XqA,XqE,Nat.reduceAdd,Nat.reduceMul,Nat.reduceSub,↓reduceIte,Nat.reduceEqDiff]);rfl)))|fail))
  refine Xb5 ?_
  refine Xaa ?_
  refine XaR ?_
  (repeat' (first|with_reducible (first|refine Xal ?_|refine Xac ?_|refine Xaq ?_|refine Xaw ?_|refine Xae ?_|refine Xaa ?_|refine Xam ?_)|(refine Xai _ rfl (fun h=>?_) (fun h=>?_)<;>((try (simp only [whn] at h));skip))|((first|apply Xad rfl|apply XaV _ _ rfl rfl rfl);(case h=>((try (intro (hp:(_:Bool)=true);((try simp only [Bool.and_eq_true,Bool.not_eq_true',Bool.not_eq_true] at hp);(try simp only [hp,wte]);(try simp only [whn] at hp))));(first|(apply Xab 0 rfl;(first|exact Xas _ rfl|exact Xao _ rfl))|(apply Xab 1 rfl;(exact Xcv _ _ _ _ _ rfl rfl rfl rfl))|(apply Xab 3 rfl;(exact Xa2 _ _ _ _ _ _ HEl.out rfl rfl))|(apply XaB;(case hs=>(intro _ _ h;cases h));(case hx=>rfl);(case hrun=>(intro w;simp [wtb,AV.val,go_sem];(try go_bits);rfl))))));(case hT=>((try simp only [wtn,Xqz,Xqw,Xqx,XqA,XqE,Nat.reduceAdd,Nat.reduceMul,Nat.reduceSub,↓reduceIte,Nat.reduceEqDiff]);rfl)))|fail))
  ·refine Xb0 (Xaf _ _ (XcA rfl (RV.tmp _) (RV.tmp _) (XaH.mk' [_] [] (Xqv _) XaF.nil (VwL.refl _ _))) ?_)
   refine ⟨?_,rfl⟩
   rw [hbad.out (by rintro ⟨e1,e2⟩;have e3:=Xlk e2;rcases h with h|h<;>simp_all)]
   rfl
  have hc0:q.2.2=0:=by omega
  have hlen:q.1.length=l.length:=by omega
  refine Xbt (XaR ?_)
  (repeat' (first|with_reducible (first|refine Xac ?_|refine Xae ?_|refine Xaa ?_)|((apply Xad rfl);(case h=>((try (intro (hp:(_:Bool)=true);((try simp only [Bool.and_eq_true,Bool.not_eq_true',Bool.not_eq_true] at hp);(try simp only [hp,wte]);(try simp only [whn] at hp))));(first|(apply Xab 0 rfl;(exact Xas _ rfl))|(apply Xab 3 rfl;(exact Xa2 _ _ _ _ _ _ HEl.out rfl rfl)))));(case hT=>((try simp only [wtn,Xqz,Xqw,Xqx,XqA,XqE,Nat.reduceAdd,Nat.reduceMul,Nat.reduceSub,↓reduceIte,Nat.reduceEqDiff]);rfl)))|fail))
  refine Xca ?_
  apply XcU (S:=Nat) (fun k=>frm 80 [(0,.sq l.length (va l)),(4,.x (.pointer (some ⟨b0,0,none⟩))),(11,.sq q.1.length (va q.1)),(64,.sq l.length (va l)),(65,.x (.int .i64 l.length)),(66,.x (.int .i64 k))]) (fun _=>[.row (some ⟨b0,0,none⟩) 1 1 74 2 [.x (.pointer p),.x (.slice ad (Xbc l).length cap)]]) (fun _=>Θ') (fun k=>k≤l.length∧(((l.take k).zip (q.1.take k)).all fun z=>Xdw z.1 z.2)=true) (fun k=>l.length - k) 0
  case h0=>exact (XaH.mk' [] _ (Xqv _) (XaF.refl _ _) (by (repeat' (first|exact VwL.nil|(refine VwL.cons ?_ ?_)|exact Vw.refl _|exact Vw.top _|fail))))
  case hΘ=>rfl
  case hi=>exact ⟨Nat.zero_le _,by simp⟩
  rintro k ⟨k1,k2⟩
  have k2':=Lib.hid k2
  clear k2
  simp only [frm,XqC,XqD,Xqw,Xqx,XqJ,XqK]
  by_cases hk:k < l.length
  ·have hdr:=Xds l k hk
   have hk2:k < q.1.length:=by omega
   have hdq:=Xds q.1 k hk2
   have hS:=Xpg l[k] q.1[k]
   unfold EF.cells at hS
   refine XbI ?_
   (repeat' (first|with_reducible (first|refine Xal ?_|refine Xac ?_|refine Xat ?_|refine Xaq ?_|refine Xaw ?_|refine Xae ?_|refine XcH ?_|refine Xaa ?_|refine Xam ?_|refine Xaj ?_|refine Xak ?_)|(with_reducible refine Xbi mixed ?_ ?_;(decide +kernel))|(refine Xai _ rfl (fun h=>?_) (fun h=>?_)<;>((try (simp only [whn] at h));first|(exfalso;omega;done)|skip))|((first|apply Xad rfl|apply Xb8 rfl);(case h=>((try (intro (hp:(_:Bool)=true);((try simp only [Bool.and_eq_true,Bool.not_eq_true',Bool.not_eq_true] at hp);(try simp only [hp,wte]);(try simp only [whn] at hp))));(first|(apply Xab 0 rfl;(first|exact Xas _ rfl|exact Xao _ rfl))|(apply Xab 6 rfl;(first|exact XaP _ _ _ _ _ rfl rfl XaZ.out (by first|exact Xqu rfl|fail) (by first|exact Xqu rfl|fail)|exact Xaz _ _ _ _ _ _ _ _ rfl rfl Xa3.out XaZ.out (by first|exact Xqu rfl|fail) (by first|exact Xqu rfl|fail)))|(apply Xab 7 rfl;(exact XaL _ _ _ _ _ _ _ _ _ _ rfl rfl rfl HEl.out rfl (by first|omega|fail) (by simp;first|omega|fail)))|(apply Xab 11 rfl;(exact Xan 38 Tryz.f38 _ _ rfl rfl Tryz.func38 (by decide) rfl (VwL.refl _ _) (hS)))|(apply XaB;(case hs=>(intro _ _ h;cases h));(case hx=>rfl);(case hrun=>(intro w;simp [wtb,AV.val,go_sem];(try go_bits);rfl))))));(case hT=>((try simp (disch:=omega) only [wtn,hdr,hdq,Xqz,Xqw,Xqx,XqA,XqE,Nat.reduceAdd,Nat.reduceMul,Nat.reduceSub,↓reduceIte,Nat.reduceEqDiff]);rfl)))|(refine Xah rfl ?_;((first|(refine Xav 14 rfl ?_;(refine XaE _ _ rfl Xbu.out rfl (fun b=>?_)))|(refine Xav 16 rfl ?_;(refine Xax _ _ _ _ _ _ _ rfl rfl Xa3.out XaX.out (by first|rfl|fail) (by first|exact Xqu rfl|fail) ?_)));apply Xag;(case hT=>((try simp (disch:=omega) only [wtn,hdr,hdq,Xqz,Xqw,Xqx,XqA,XqE,Nat.reduceAdd,Nat.reduceMul,Nat.reduceSub,↓reduceIte,Nat.reduceEqDiff]);rfl));(case hH=>((try simp (disch:=omega) only [wtn,hdr,hdq,Xqz,Xqw,Xqx,XqA,XqE,Nat.reduceAdd,Nat.reduceMul,Nat.reduceSub,↓reduceIte,Nat.reduceEqDiff]);rfl))))|fail))
   ·refine Xb0 (Xaf _ _ (XcA rfl (RV.tmp _) (RV.tmp _) (XaH.mk' [_,_] [] (Xqv _) XaF.nil (VwL.refl _ _))) ?_)
    refine ⟨?_,rfl⟩
    rw [hbad.out (fun e=>by rw [XiM hk hk2 h] at e;cases e.2)]
    rfl
   ·exact ⟨rfl,k+1,by omega,⟨by omega,XfR hk hk2 k2'.out (by assumption)⟩,rfl,XaH.mk' [.box b _] [_] (Xqv _) (XaF.refl _ _) (by (repeat' (first|exact VwL.nil|(refine VwL.cons ?_ ?_)|exact Vw.refl _|exact Vw.top _|fail)))⟩
  ·obtain rfl:k=l.length:=by omega
   refine XbI ?_
   (repeat' (first|with_reducible (first|refine Xal ?_|refine Xac ?_|refine XaY ?_|refine Xae ?_|refine Xaa ?_|refine XaG ?_|refine XaC ?_)|(refine Xai _ rfl (fun h=>?_) (fun h=>?_)<;>first|(exact absurd h (by decide))|((try (simp only [whn] at h));skip))|((apply Xad rfl);(case h=>((try (intro (hp:(_:Bool)=true);((try simp only [Bool.and_eq_true,Bool.not_eq_true',Bool.not_eq_true] at hp);(try simp only [hp,wte]);(try simp only [whn] at hp))));(apply XaB;(case hs=>(intro _ _ h;cases h));(case hx=>rfl);(case hrun=>(intro w;simp [wtb,AV.val,go_sem];(try go_bits);rfl)))));(case hT=>((try simp only [wtn,Xqz,Xqw,Xqx,XqA,XqE,Nat.reduceAdd,Nat.reduceMul,Nat.reduceSub,↓reduceIte,Nat.reduceEqDiff]);rfl)))|fail))
   refine Xbt (XbJ ?_)
   refine Xi6 rfl rfl rfl rfl hTk (by omega) ?_
   (repeat' (first|(apply XbT rfl;(case h=>(apply Xab 0 rfl;(exact Xao _ rfl)));(case hT=>((try simp only [wtn,Xqz,Xqw,Xqx,XqA,XqE,Nat.reduceAdd,Nat.reduceMul,Nat.reduceSub,↓reduceIte,Nat.reduceEqDiff]);rfl)))|fail))
   refine Xb5 ?_
   refine Xaa ?_
   refine XbI ?_
   (repeat' (first|with_reducible (refine Xaq ?_)|fail))
   refine Xb0 (Xaf _ _ (XcA rfl (RV.tmp _) (RV.tmp _) (XaH.mk' [_] [] (Xqv _) XaF.nil (VwL.refl _ _))) ?_)
   refine ⟨?_,rfl⟩
   have k2:=k2'.out
   rw [List.take_of_length_le (by omega),List.take_of_length_le (by omega)] at k2
   rw [hok1.out hc0 (by unfold XdF;rw [decide_eq_true hlen.symm,k2];rfl)]
   rfl
end Go.Proofs.YtdpobjakdplljaaGreatDoor

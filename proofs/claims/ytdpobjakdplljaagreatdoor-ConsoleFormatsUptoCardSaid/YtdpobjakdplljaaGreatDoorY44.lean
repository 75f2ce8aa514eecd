import Derived.Test.YtdpobjakdplljaaGreatDoorY43
import Derived.Test.YtdpobjakdplljaaGreatDoorY41
import Derived.Test.YtdpobjakdplljaaGreatDoorY32
/- The program's scripts: Format. -/
set_option linter.unusedSimpArgs false
set_option linter.unusedVariables false
set_option maxRecDepth 100000
set_option maxHeartbeats 8000000
namespace Go.Proofs.YtdpobjakdplljaaGreatDoor
open Go.RowKit
theorem XiN {P:Program} {Δ:List Deferred} {Θ:List (Nat × Obj)} {c:Operand} {x y:Code} {Q:Xfc} {T:List AV} {H:List Hp} (b:Bool) (hc:ev T c=.x (.bool b)) (h1:b=true→Xeb P Δ Θ x Q T H) (h2:b=false→Xeb P Δ Θ y Q T H):Xeb P Δ Θ (.cond c x y) Q T H:=
 fun V O w0 a w r t=>wp_cond_split (r.evx hc) (fun hb=>h1 hb V O w0 a w r t) (fun hb=>h2 hb V O w0 a w r t)
theorem Xnk {P:Program} {Δ:List Deferred} {Θ:List (Nat × Obj)} {c:Code} {Q Q':Xfc} {T:List AV} {H:List Hp} (h:Xeb P Δ Θ c Q T H) (hQ:∀Δ Θ e T H,Q Δ Θ e T H→Q' Δ Θ e T H):Xeb P Δ Θ c Q' T H:=
 fun V O w0 a w r t=>wp_mono (h V O w0 a w r t) fun _ _ _ ⟨Δ,Θ,T,H,r,t,q⟩=>⟨Δ,Θ,T,H,r,t,hQ _ _ _ _ _ q⟩
theorem Xk0 {P:Program} {Δ:List Deferred} {Θ:List (Nat × Obj)} {x y:Code} {Q:Xfc} {T:List AV} {H:List Hp} (M:List AV→List Hp→Prop) (h1:Xeb P Δ Θ x (fun Δ' _ e T' H'=>e=.normal∧Δ'=Δ∧M T' H') T H) (h2:∀T' H',M T' H'→Xeb P Δ [] y Q T' H'):Xeb P Δ Θ (.seq x y) Q T H:=
 XbG (Xnk h1 fun _ _ _ T' H' ⟨he,hd,hm⟩=>by subst he hd;exact Xnj (h2 T' H' hm))
theorem Xt9 (pre wd fs:List UInt8) (e:EF) (he:EOk e) (h1:pre.length≤65536) (h2:wd.length≤8):∃fY:Nat→List UInt8,fY 0=pre++wd∧(∀j (h:j < fs.length),fY (j+1)=fY j++[32]++Xcr e (XbE (fs[j].toNat:Nat)))∧fY fs.length=pre++(wd++XbQ e (fs.map fun c=>XbE c.toNat))∧∀j,j≤fs.length→(fY j).length≤65544+j*4500000:=by
 refine ⟨fun j=>pre++(wd++XbQ e ((fs.take j).map fun c=>XbE c.toNat)),by simp [XbQ],fun j h=>?_,by simp,fun j hj=>?_⟩
 ·simp only [Xa0 fs j h,List.map_append,XvA,XvE,XbQ,List.flatMap_append,List.flatMap_cons,List.flatMap_nil,List.append_nil,List.append_assoc,XvG,XvF]
 ·have:=XiP e he ((fs.take j).map fun c=>XbE c.toNat)
  simp only [XvH,List.length_map,List.length_take,Nat.min_eq_left hj] at this ⊢
  omega
theorem Xny (l:List EF) (i:Nat):(Xby (l.take i)).length≤(Xby l).length:=by
 have:=congrArg (fun z=>(Xby z).length) (List.take_append_drop i l)
 simp only [Xby,List.flatMap_append,XvH] at this ⊢
 omega
theorem Xnx {l:List EF} (h:Xby l=[]):l=[]:=by
 cases l with
 | nil=>rfl
 | cons e r=>simp [Xby] at h
theorem XiT {l:List EF} (h0:¬1000 < l.length) (h:65536 < (Xby l).length):Xcu l=([],1):=by
 unfold Xcu
 rw [if_neg h0,if_pos h]
theorem XpO {l:List EF} (h0:¬1000 < l.length) (h:¬65536 < (Xby l).length) (h2:¬((XcT (Xby l)).2.2=0∧Xft l (XcT (Xby l)).1=true)):Xcu l=([],320):=by
 unfold Xcu
 rw [if_neg h0,if_neg h,if_neg h2]
theorem XrS {l:List EF} (h0:¬1000 < l.length) (h:¬65536 < (Xby l).length) (h1:(XcT (Xby l)).2.2=0) (h2:Xft l (XcT (Xby l)).1=true):Xcu l=(Xby l,0):=by
 unfold Xcu
 rw [if_neg h0,if_neg h,if_pos ⟨h1,h2⟩]
theorem Xo8 {a b:List EF} (h:Xft a b=true):a.length=b.length:=by
 unfold Xft at h
 rw [Bool.and_eq_true,decide_eq_true_eq] at h
 exact h.1
theorem Xp8 (l:List EF) (hl:∀e∈l,EOk e) (hn:l.length≤1000000):Xa3 Tryz.prog 14 [] [.sq l.length (va l)] (fun r H'=>r=XuT (Xcu l)∧H'=[]):=by
 have hl':=Lib.hid hl
 clear hl
 refine XhK Tryz.func14 rfl ?_
 simp only [Tryz.ntmps14,Xvy,XvB,XvC,XvD,XvG,XvF,Nat.reduceAdd,Nat.reduceSub]
 refine Xa6 ?_
 (repeat' (first|with_reducible (first|refine Xac ?_|refine Xae ?_|refine Xaa ?_)|((apply Xad rfl);(case h=>((try (intro (hp:(_:Bool)=true);((try simp only [Bool.and_eq_true,Bool.not_eq_true',Bool.not_eq_true] at hp);(try simp only [hp,wte]);(try simp only [whn] at hp))));(apply Xab 0 rfl;(exact Xan _ rfl))));(case hT=>((try simp only [wtn,Xvz,Xvw,Xvx,XvA,XvE,Nat.reduceAdd,Nat.reduceMul,Nat.reduceSub,↓reduceIte,Nat.reduceEqDiff]);rfl)))|fail))
 refine Xa6 ?_
 (repeat' (first|with_reducible (first|refine Xag ?_|refine Xac ?_|refine Xar ?_|refine Xau ?_|refine Xae ?_|refine Xaa ?_|refine Xax ?_)|(refine Xak _ rfl (fun h=>?_) (fun h=>?_)<;>((try (simp only [whn] at h));skip))|((apply Xad rfl);(case h=>((try (intro (hp:(_:Bool)=true);((try simp only [Bool.and_eq_true,Bool.not_eq_true',Bool.not_eq_true] at hp);(try simp only [hp,wte]);(try simp only [whn] at hp))));(first|(apply Xab 0 rfl;(first|exact Xap _ rfl|exact Xan _ rfl))|(apply Xab 3 rfl;(exact XaX _ _ _ _ _ _ HEl.out rfl rfl))|(apply XaC;(case hs=>(intro _ _ h;cases h));(case hx=>rfl);(case hrun=>(intro w;simp [wtb,AV.val,go_sem];(try go_bits);rfl))))));(case hT=>((try simp only [wtn,Xvz,Xvw,Xvx,XvA,XvE,Nat.reduceAdd,Nat.reduceMul,Nat.reduceSub,↓reduceIte,Nat.reduceEqDiff]);rfl)))|fail))
 ·refine Xcb (Xaf _ _ (XcB rfl (RV.tmp _) (RV.tmp _) (XaH.mk' [] _ (Xvv _) (XaB.refl _ _) (VwL.refl _ _))) ?_)
  refine ⟨?_,rfl⟩
  unfold Xcu
  rw [if_pos (by omega)]
  rfl
 have h1000:¬1000 < l.length:=by omega
 clear h
 refine Xa6 ?_
 refine Xbt 5 1 ?_
 refine Xac ?_
 refine Xai rfl ?_
 (refine XlS 74 _ 2 rfl Xbk.out rfl (by rfl) (fun b0=>?_))
 apply Xah
 case hT=>((try simp only [wtn,Xvz,Xvw,Xvx,XvA,XvE,Nat.reduceAdd,Nat.reduceMul,Nat.reduceSub,↓reduceIte,Nat.reduceEqDiff]);rfl)
 case hH=>rfl
 (repeat' (first|with_reducible (first|refine Xae ?_|refine Xaa ?_)|fail))
 refine XbG (Xa6 ?_)
 (repeat' (first|with_reducible (first|refine Xac ?_|refine Xae ?_|refine Xaa ?_)|((apply Xad rfl);(case h=>((try (intro (hp:(_:Bool)=true);((try simp only [Bool.and_eq_true,Bool.not_eq_true',Bool.not_eq_true] at hp);(try simp only [hp,wte]);(try simp only [whn] at hp))));(first|(apply Xab 0 rfl;(exact Xap _ rfl))|(apply Xab 3 rfl;(exact XaX _ _ _ _ _ _ HEl.out rfl rfl)))));(case hT=>((try simp only [wtn,Xvz,Xvw,Xvx,XvA,XvE,Nat.reduceAdd,Nat.reduceMul,Nat.reduceSub,↓reduceIte,Nat.reduceEqDiff]);rfl)))|fail))
 refine Xcn ?_
 apply Xdq (S:=Nat × Option Addr × Option Addr × Nat) (fun q=>frm 80 [(0,.sq l.length (va l)),(4,.x (.pointer (some ⟨b0,0,none⟩))),(19,.sq l.length (va l)),(20,.x (.int .i64 l.length)),(21,.x (.int .i64 q.1))])
  (fun q=>[.row (some ⟨b0,0,none⟩) 1 1 74 2 [.x (.pointer q.2.1),.x (.slice q.2.2.1 (Xby (l.take q.1)).length q.2.2.2)],.row q.2.2.1 (Xby (l.take q.1)).length q.2.2.2 5 1 (u8a (Xby (l.take q.1)))]) (fun _=>[])
  (fun q=>q.1≤l.length∧(q.2.1=none∨q.2.1=some ⟨b0,0,none⟩)∧(Xby (l.take q.1)).length≤65536∧(q.1=0→q.2.2.1=none)) (fun q=>l.length - q.1) (0,none,none,0)
 case h0=>exact XaH.mk' [] [.row (some _) _ _ _ _ _,.row none _ _ _ _ _] (by (repeat' (first|exact Xvv _|fail))) (XaB.refl _ _) (by (repeat' (first|exact VwL.nil|(refine VwL.cons ?_ ?_)|exact Vw.refl _|exact Vw.top _|fail)))
 case hΘ=>rfl
 case hi=>exact ⟨Nat.zero_le _,.inl rfl,by simp [Xby],fun _=>rfl⟩
 rintro ⟨i,p,ad,cap⟩ ⟨g1,g2,g3,g4⟩
 simp only at g1 g2 g3 g4
 simp only [frm,XvC,XvD,Xvw,Xvx,XvJ,XvK]
 by_cases hlt:i < l.length
 ·have hdr:=XdH l i hlt
  have hok:=hl'.out _ (List.getElem_mem hlt)
  have htk:=Xhg l i hlt
  have hpre:=Xny l (i+1)
  rw [htk] at hpre
  have htk':=Lib.hid htk
  clear htk g4
  refine Xa6 ?_
  (repeat' (first|with_reducible (first|refine Xac ?_|refine Xae ?_|refine Xaa ?_)|((apply Xad rfl);(case h=>((try (intro (hp:(_:Bool)=true);((try simp only [Bool.and_eq_true,Bool.not_eq_true',Bool.not_eq_true] at hp);(try simp only [hp,wte]);(try simp only [whn] at hp))));(apply XaC;(case hs=>(intro _ _ h;cases h));(case hx=>rfl);(case hrun=>(intro w;simp [wtb,AV.val,go_sem];(try go_bits);rfl)))));(case hT=>((try simp only [wtn,Xvz,Xvw,Xvx,XvA,XvE,Nat.reduceAdd,Nat.reduceMul,Nat.reduceSub,↓reduceIte,Nat.reduceEqDiff]);rfl)))|fail))
  refine Xa6 ?_
  (repeat' (first|with_reducible (first|refine Xau ?_|refine Xaa ?_)|(refine Xak _ rfl (fun h=>?_) (fun h=>?_)<;>((try (simp only [whn] at h));first|(exfalso;omega;done)|skip))|fail))
  refine XbG (Xcn ?_)
  refine Xa6 ?_
  (repeat' (first|with_reducible (first|refine Xac ?_|refine Xae ?_|refine Xaa ?_)|((apply Xad rfl);(case h=>((try (intro (hp:(_:Bool)=true);((try simp only [Bool.and_eq_true,Bool.not_eq_true',Bool.not_eq_true] at hp);(try simp only [hp,wte]);(try simp only [whn] at hp))));(first|(apply Xab 6 rfl;(exact XaF _ _ _ _ _ rfl rfl XaN.out (by first|exact Xvu rfl|fail) (by first|exact Xvu rfl|fail)))|(apply Xab 7 rfl;(exact XaG _ _ _ _ _ _ _ _ _ _ rfl rfl rfl HEl.out rfl (by first|omega|fail) (by simp;first|omega|fail))))));(case hT=>((try simp (disch:=omega) only [wtn,hdr,Xvz,Xvw,Xvx,XvA,XvE,Nat.reduceAdd,Nat.reduceMul,Nat.reduceSub,↓reduceIte,Nat.reduceEqDiff]);rfl)))|(refine Xai rfl ?_;((first|(refine Xas 14 rfl ?_;(refine XaK _ _ rfl Xbk.out rfl (fun b=>?_)))|(refine Xas 16 rfl ?_;(refine Xaw _ _ _ _ _ _ _ rfl rfl XaS.out XaR.out (by first|rfl|fail) (by first|exact Xvu rfl|fail) ?_)));apply Xah;(case hT=>((try simp (disch:=omega) only [wtn,hdr,Xvz,Xvw,Xvx,XvA,XvE,Nat.reduceAdd,Nat.reduceMul,Nat.reduceSub,↓reduceIte,Nat.reduceEqDiff]);rfl));(case hH=>((try simp (disch:=omega) only [wtn,hdr,Xvz,Xvw,Xvx,XvA,XvE,Nat.reduceAdd,Nat.reduceMul,Nat.reduceSub,↓reduceIte,Nat.reduceEqDiff]);rfl))))|fail))
  revert b
  intro be
  have hfk:=XtR be l[i]
  unfold EF.cells at hfk
  refine Xa6 ?_
  (repeat' (first|with_reducible (refine Xac ?_)|((apply Xad rfl);(case h=>((try (intro (hp:(_:Bool)=true);((try simp only [Bool.and_eq_true,Bool.not_eq_true',Bool.not_eq_true] at hp);(try simp only [hp,wte]);(try simp only [whn] at hp))));(first|(apply Xab 0 rfl;(exact Xap _ rfl))|(apply XaC;(case hs=>(intro _ _ h;cases h));(case hx=>rfl);(case hrun=>(intro w;simp [wtb,AV.val,go_sem];(try go_bits);rfl))))));(case hT=>((try simp only [wtn,Xvz,Xvw,Xvx,XvA,XvE,Nat.reduceAdd,Nat.reduceMul,Nat.reduceSub,↓reduceIte,Nat.reduceEqDiff]);rfl)))|(refine Xai rfl ?_;((refine Xas 11 rfl ?_;(refine Xam 31 Tryz.f31 [_] _ _ _ rfl rfl Tryz.func31 (by decide) rfl (Xvv _) (VwL.refl _ _) (hfk) ?_;rintro _ _ ⟨rfl,hres⟩));apply Xah;(case hT=>((try simp only [wtn,Xvz,Xvw,Xvx,XvA,XvE,Nat.reduceAdd,Nat.reduceMul,Nat.reduceSub,↓reduceIte,Nat.reduceEqDiff]);rfl));(case hH=>((try simp only [wtn,Xvz,Xvw,Xvx,XvA,XvE,Nat.reduceAdd,Nat.reduceMul,Nat.reduceSub,↓reduceIte,Nat.reduceEqDiff]);rfl))))|fail))
  obtain ⟨X,hX⟩:∃X,X=Xby (l.take i)++XdO l[i]:=⟨_,rfl⟩
  rcases hres with ⟨k,wd,kd,fs,hk,hf,he,rfl⟩|⟨hno,rfl⟩
  ·obtain ⟨c1,c2,c3⟩:=Xp7 hk hf he
   have hc3:=Lib.hid c3
   have hwl:=XhP l[i].kind
   rw [c1] at hwl
   obtain ⟨fY,y0,ys,yn,yl⟩:=Xt9 (Xby (l.take i)) wd fs l[i] hok g3 hwl
   rw [←c1,←c2,←XfV,←hX] at yn
   have hfl:fs.length≤2:=by have:=XhO l[i].kind;rw [c2] at this;simpa using this
   have hXl:X.length≤9500000:=by
    have h5:=yl fs.length (Nat.le_refl _)
    rw [yn] at h5
    omega
   have y0':=Lib.hid y0
   have yn':=Lib.hid yn
   have ys':=Lib.hid ys
   have yl':=Lib.hid yl
   have hX':=Lib.hid hX
   clear hf c1 c2 c3 ys yl y0 yn hX
   (repeat' (first|with_reducible (first|refine Xae ?_|refine Xaa ?_)|((apply Xad rfl);(case h=>((try (intro (hp:(_:Bool)=true);((try simp only [Bool.and_eq_true,Bool.not_eq_true',Bool.not_eq_true] at hp);(try simp only [hp,wte]);(try simp only [whn] at hp))));(first|(apply Xab 0 rfl;(exact Xan _ rfl))|(apply Xab 2 rfl;(exact XaM _ _ _ _ rfl rfl rfl)))));(case hT=>((try simp only [wtn,Xvz,Xvw,Xvx,XvA,XvE,Nat.reduceAdd,Nat.reduceMul,Nat.reduceSub,↓reduceIte,Nat.reduceEqDiff]);rfl)))|(refine Xai rfl ?_;((first|(refine Xas 14 rfl ?_;(refine XaK _ _ rfl Xbk.out rfl (fun b=>?_)))|(refine Xas 16 rfl ?_;(refine Xaw _ _ _ _ _ _ _ rfl rfl XaS.out XaR.out (by first|rfl|fail) (by first|exact Xvu rfl|fail) ?_)));apply Xah;(case hT=>((try simp only [wtn,Xvz,Xvw,Xvx,XvA,XvE,Nat.reduceAdd,Nat.reduceMul,Nat.reduceSub,↓reduceIte,Nat.reduceEqDiff]);rfl));(case hH=>((try simp only [wtn,Xvz,Xvw,Xvx,XvA,XvE,Nat.reduceAdd,Nat.reduceMul,Nat.reduceSub,↓reduceIte,Nat.reduceEqDiff]);rfl))))|fail))
   revert b
   intro bf
   refine Xk0 (fun T' H'=>∃p ad cap,(p=none∨p=some ⟨b0,0,none⟩)∧XaH H' T' [.row (some ⟨b0,0,none⟩) 1 1 74 2 [.x (.pointer p),.x (.slice ad (X).length cap)],.row ad (X).length cap 5 1 (u8a (X))] (frm 80 [(0,.sq l.length (va l)),(4,.x (.pointer (some ⟨b0,0,none⟩))),(19,.sq l.length (va l)),(20,.x (.int .i64 l.length)),(21,.x (.int .i64 i))])) (Xa6 ?_) ?_
   ·(repeat' (first|with_reducible (first|refine Xac ?_|refine Xae ?_|refine Xaa ?_)|((apply Xad rfl);(case h=>((try (intro (hp:(_:Bool)=true);((try simp only [Bool.and_eq_true,Bool.not_eq_true',Bool.not_eq_true] at hp);(try simp only [hp,wte]);(try simp only [whn] at hp))));(apply Xab 0 rfl;(exact Xap _ rfl))));(case hT=>((try simp only [wtn,Xvz,Xvw,Xvx,XvA,XvE,Nat.reduceAdd,Nat.reduceMul,Nat.reduceSub,↓reduceIte,Nat.reduceEqDiff]);rfl)))|fail))
    refine XiN true rfl (fun _=>?_) (fun h=>by cases h)
    refine Xa6 ?_
    (repeat' (first|with_reducible (first|refine Xac ?_|refine Xae ?_|refine Xaa ?_)|((apply Xad rfl);(case h=>((try (intro (hp:(_:Bool)=true);((try simp only [Bool.and_eq_true,Bool.not_eq_true',Bool.not_eq_true] at hp);(try simp only [hp,wte]);(try simp only [whn] at hp))));(first|(apply Xab 5 rfl;(exact Xal _ _ _ _ _ _ rfl rfl Xa5.out))|(apply Xab 6 rfl;(exact Xaz _ _ _ _ _ _ _ _ rfl rfl XaS.out XaN.out (by first|exact Xvu rfl|fail) (by first|exact Xvu rfl|fail))))));(case hT=>((try simp (disch:=omega) only [wtn,XjL,Xvz,Xvw,Xvx,XvA,XvE,Nat.reduceAdd,Nat.reduceMul,Nat.reduceSub,↓reduceIte,Nat.reduceEqDiff]);rfl)))|(refine Xai rfl ?_;((refine Xas 11 rfl ?_;(refine Xam 33 Tryz.f33 [_,_] _ _ _ rfl rfl Tryz.func33 (by decide) rfl (List.perm_append_comm (l₁:=[_,_]) (l₂:=[_,_])) (VwL.refl _ _) (XrD b0 p g2 ad cap (Xby (l.take i)) wd (by omega)) ?_;rintro _ _ ⟨ad1,cap1,rfl,rfl⟩));apply Xah;(case hT=>((try simp (disch:=omega) only [wtn,XjL,Xvz,Xvw,Xvx,XvA,XvE,Nat.reduceAdd,Nat.reduceMul,Nat.reduceSub,↓reduceIte,Nat.reduceEqDiff]);rfl));(case hH=>((try simp (disch:=omega) only [wtn,XjL,Xvz,Xvw,Xvx,XvA,XvE,Nat.reduceAdd,Nat.reduceMul,Nat.reduceSub,↓reduceIte,Nat.reduceEqDiff]);rfl))))|fail))
    refine XbG (XbX ?_)
    (repeat' (first|(apply Xb4 rfl;(case h=>(first|(apply Xab 5 rfl;(exact Xal _ _ _ _ _ _ rfl rfl Xa5.out))|(apply Xab 6 rfl;(exact Xaz _ _ _ _ _ _ _ _ rfl rfl XaS.out XaN.out (by first|exact Xvu rfl|fail) (by first|exact Xvu rfl|fail)))));(case hT=>((try simp only [wtn,Xvz,Xvw,Xvx,XvA,XvE,Nat.reduceAdd,Nat.reduceMul,Nat.reduceSub,↓reduceIte,Nat.reduceEqDiff]);rfl)))|fail))
    refine Xgg rfl rfl rfl (by kernel_rfl) fun kk _=>?_
    refine Xce ?_
    refine Xaa ?_
    refine Xcn ?_
    apply Xdq (S:=Nat × Option Addr × Nat) (fun q=>frm 80 [(0,.sq l.length (va l)),(4,.x (.pointer (some ⟨b0,0,none⟩))),(19,.sq l.length (va l)),(20,.x (.int .i64 l.length)),(21,.x (.int .i64 i)),(6,.x (.pointer (some ⟨be,0,none⟩))),(36,.x (.pointer (some ⟨kk,0,none⟩)))])
     (fun q=>[.row (some ⟨b0,0,none⟩) 1 1 74 2 [.x (.pointer (some ⟨b0,0,none⟩)),.x (.slice q.2.1 (fY q.1).length q.2.2)],.row q.2.1 (fY q.1).length q.2.2 5 1 (u8a (fY q.1)),.box be [.x (.int .i64 l[i].kind),.x (.string (bs l[i].job)),.x (.bool l[i].ok),.x (.int .i64 l[i].code),.sq l[i].data.length (u8a l[i].data),.x (.int .u64 l[i].time),.x (.int .i64 l[i].client),.x (.int .i64 l[i].num)]]) (fun q=>[(kk,.stringIter (bs fs) q.1)])
     (fun q=>q.1≤fs.length) (fun q=>fs.length - q.1) (0,ad1,cap1)
    case h0=>
     simp only
     rw [y0'.out]
     exact XaH.mk' [.box bf _] [.row (some _) _ _ _ _ _,.row ad1 _ _ _ _ _,.box be _] (by (repeat' (first|exact Xvv _|refine (XvI (l₁:=[_,_])).trans (XvL _ ?_)|fail))) (XaB.refl _ _) (by (repeat' (first|exact VwL.nil|(refine VwL.cons ?_ ?_)|exact Vw.refl _|exact Vw.top _|fail)))
    case hΘ=>rfl
    case hi=>exact Nat.zero_le _
    rintro ⟨j,ad2,cap2⟩ q1
    simp only at q1
    have hyl:=yl'.out j q1
    simp only [frm,XvC,XvD,Xvw,Xvx,XvJ,XvK]
    by_cases hj:j < fs.length
    ·obtain ⟨q128,qlet⟩:=hc3.out fs[j] (List.getElem_mem _)
     have hT:=Xth Xvs l[i] hok (fs[j].toNat:Nat) qlet
     unfold EF.cells at hT
     have htl:=Xk4 l[i] hok (XbE (fs[j].toNat:Nat))
     have hys:=ys'.out j hj
     have hys':=Lib.hid hys
     clear hys
     refine XbG (XbX ?_)
     refine Xg9 rfl rfl rfl hj q128 (fun p hp=>by cases hp) ?_
     (repeat' (first|(apply Xb4 rfl;(case h=>(apply XaC;(case hs=>(intro _ _ h;cases h));(case hx=>rfl);(case hrun=>(intro w;simp [wtb,AV.val,go_sem];(try go_bits);rfl))));(case hT=>((try simp only [wtn,Xvz,Xvw,Xvx,XvA,XvE,Nat.reduceAdd,Nat.reduceMul,Nat.reduceSub,↓reduceIte,Nat.reduceEqDiff]);rfl)))|fail))
     refine Xce ?_
     refine Xaa ?_
     refine XbW ?_
     (repeat' (first|with_reducible (first|refine Xag ?_|refine Xac ?_|refine Xao ?_|refine Xau ?_|refine Xae ?_|refine Xaa ?_|refine Xaj ?_)|(refine Xak _ rfl (fun h=>?_) (fun h=>?_)<;>first|(exact absurd h (by decide))|((try (simp only [whn] at h));skip))|((apply Xad rfl);(case h=>((try (intro (hp:(_:Bool)=true);((try simp only [Bool.and_eq_true,Bool.not_eq_true',Bool.not_eq_true] at hp);(try simp only [hp,wte]);(try simp only [whn] at hp))));(first|(apply Xab 0 rfl;(first|exact Xap _ rfl|exact Xan _ rfl))|(apply Xab 6 rfl;(exact Xaz _ _ _ _ _ _ _ _ rfl rfl XaS.out XaN.out (by first|exact Xvu rfl|fail) (by first|exact Xvu rfl|fail)))|(apply Xab 11 rfl;(exact Xay 35 Tryz.f35 _ _ rfl rfl Tryz.func35 (by decide) rfl (VwL.refl _ _) (hT)))|(apply XaC;(case hs=>(intro _ _ h;cases h));(case hx=>rfl);(case hrun=>(intro w;simp [wtb,AV.val,go_sem];(try go_bits);rfl))))));(case hT=>((try simp (disch:=omega) only [wtn,XjL,XbP,Xvz,Xvw,Xvx,XvA,XvE,Nat.reduceAdd,Nat.reduceMul,Nat.reduceSub,↓reduceIte,Nat.reduceEqDiff]);rfl)))|(refine Xai rfl ?_;((refine Xas 11 rfl ?_;(first|(refine Xam 34 Tryz.f34 [_,_] _ _ _ rfl rfl Tryz.func34 (by decide) rfl (Xvv _) (VwL.refl _ _) (XkX b0 _ (.inr rfl) ad2 cap2 (fY j) 32 (by omega)) ?_;rintro _ _ ⟨ad3,cap3,rfl,rfl⟩)|(refine Xam 33 Tryz.f33 [_,_] _ _ _ rfl rfl Tryz.func33 (by decide) rfl (Xvv _) (VwL.refl _ _) (XrD b0 _ (.inr rfl) ad3 cap3 (fY j++[32]) (Xcr l[i] (XbE (fs[j].toNat:Nat))) (by simp only [XvH,Xvy,XvB];omega)) ?_;rintro _ _ ⟨ad4,cap4,rfl,rfl⟩)));apply Xah;(case hT=>((try simp (disch:=omega) only [wtn,XjL,XbP,Xvz,Xvw,Xvx,XvA,XvE,Nat.reduceAdd,Nat.reduceMul,Nat.reduceSub,↓reduceIte,Nat.reduceEqDiff]);rfl));(case hH=>((try simp (disch:=omega) only [wtn,XjL,XbP,Xvz,Xvw,Xvx,XvA,XvE,Nat.reduceAdd,Nat.reduceMul,Nat.reduceSub,↓reduceIte,Nat.reduceEqDiff]);rfl))))|fail))
     refine ⟨rfl,(j+1,ad4,cap4),by simp only;omega,by simp only;omega,rfl,?_⟩
     simp only
     rw [hys'.out]
     exact (XaH.mk' [] _ (Xvv _) (XaB.refl _ _) (by (repeat' (first|exact VwL.nil|(refine VwL.cons ?_ ?_)|exact Vw.refl _|exact Vw.top _|fail))))
    ·refine XbG (XbX ?_)
     refine Xha rfl rfl rfl hj ?_
     (repeat' (first|(apply Xb4 rfl;(case h=>(apply XaC;(case hs=>(intro _ _ h;cases h));(case hx=>rfl);(case hrun=>(intro w;simp [wtb,AV.val,go_sem];(try go_bits);rfl))));(case hT=>((try simp only [wtn,Xvz,Xvw,Xvx,XvA,XvE,Nat.reduceAdd,Nat.reduceMul,Nat.reduceSub,↓reduceIte,Nat.reduceEqDiff]);rfl)))|fail))
     refine Xce ?_
     refine Xaa ?_
     refine XbW ?_
     (repeat' (first|with_reducible (first|refine Xag ?_|refine XaW ?_|refine XaL ?_|refine XaJ ?_)|(refine Xak _ rfl (fun h=>?_) (fun h=>?_)<;>first|(exact absurd h (by decide))|((try (simp only [whn] at h));skip))|fail))
     obtain rfl:j=fs.length:=by omega
     rw [yn'.out]
     exact ⟨rfl,rfl,_,ad2,cap2,.inr rfl,XaH.mk' [.box be _] [.row (some _) _ _ _ _ _,.row ad2 _ _ _ _ _] (by (repeat' (first|exact Xvv _|refine (XvI (l₁:=[_,_])).trans (XvL _ ?_)|fail))) (XaB.refl _ _) (by (repeat' (first|exact VwL.nil|(refine VwL.cons ?_ ?_)|exact Vw.refl _|exact Vw.top _|fail)))⟩
   ·rintro T' H' ⟨p1,ad1,cap1,hp1,hw⟩
    refine XeQ hw ?_
    simp only [frm,XvC,XvD,Xvw,Xvx,XvJ,XvK]
    refine XbW ?_
    (repeat' (first|with_reducible (first|refine Xag ?_|refine Xac ?_|refine Xar ?_|refine Xau ?_|refine Xae ?_|refine Xaa ?_|refine Xax ?_|refine Xaj ?_|refine Xav ?_)|(refine Xak _ rfl (fun h=>?_) (fun h=>?_)<;>((try (simp only [whn] at h));skip))|((apply Xad rfl);(case h=>((try (intro (hp:(_:Bool)=true);((try simp only [Bool.and_eq_true,Bool.not_eq_true',Bool.not_eq_true] at hp);(try simp only [hp,wte]);(try simp only [whn] at hp))));(first|(apply Xab 0 rfl;(exact Xan _ rfl))|(apply XaC;(case hs=>(intro _ _ h;cases h));(case hx=>rfl);(case hrun=>(intro w;simp [wtb,AV.val,go_sem];(try go_bits);rfl))))));(case hT=>((try simp (disch:=omega) only [wtn,XjL,Xvz,Xvw,Xvx,XvA,XvE,Nat.reduceAdd,Nat.reduceMul,Nat.reduceSub,↓reduceIte,Nat.reduceEqDiff]);rfl)))|(refine Xai rfl ?_;((refine Xas 11 rfl ?_;(first|(refine Xam 34 Tryz.f34 [_,_] _ _ _ rfl rfl Tryz.func34 (by decide) rfl (Xvv _) (VwL.refl _ _) (XkX b0 p1 hp1 ad1 cap1 X 10 (by omega)) ?_;rintro _ _ ⟨ad2,cap2,rfl,rfl⟩)|(refine Xam 36 Tryz.f36 [_] _ _ _ rfl rfl Tryz.func36 (by decide) rfl (Xvv _) (VwL.refl _ _) (Xrk b0 _ _ _ _) ?_;rintro _ _ ⟨rfl,rfl⟩)));apply Xah;(case hT=>((try simp (disch:=omega) only [wtn,XjL,Xvz,Xvw,Xvx,XvA,XvE,Nat.reduceAdd,Nat.reduceMul,Nat.reduceSub,↓reduceIte,Nat.reduceEqDiff]);rfl));(case hH=>((try simp (disch:=omega) only [wtn,XjL,Xvz,Xvw,Xvx,XvA,XvE,Nat.reduceAdd,Nat.reduceMul,Nat.reduceSub,↓reduceIte,Nat.reduceEqDiff]);rfl))))|fail))
    ·refine Xcb (Xaf _ _ (XcB rfl (RV.tmp _) (RV.tmp _) (XaH.mk' [_,_] [] (Xvv _) XaB.nil (VwL.refl _ _))) ?_)
     refine ⟨?_,rfl⟩
     have hX:=hX'.out
     rw [XiT h1000 (by have h6:=congrArg List.length hX;simp only [XvH,Xvy,XvB] at h6 hpre;omega)]
     rfl
    ·refine XbW ?_
     (repeat' (first|with_reducible (first|refine Xac ?_|refine Xae ?_|refine Xaa ?_)|((apply Xad rfl);(case h=>((try (intro (hp:(_:Bool)=true);((try simp only [Bool.and_eq_true,Bool.not_eq_true',Bool.not_eq_true] at hp);(try simp only [hp,wte]);(try simp only [whn] at hp))));(first|(apply Xab 0 rfl;(exact Xap _ rfl))|(apply XaC;(case hs=>(intro _ _ h;cases h));(case hx=>rfl);(case hrun=>(intro w;simp [wtb,AV.val,go_sem];(try go_bits);rfl))))));(case hT=>((try simp only [wtn,Xvz,Xvw,Xvx,XvA,XvE,Nat.reduceAdd,Nat.reduceMul,Nat.reduceSub,↓reduceIte,Nat.reduceEqDiff]);rfl)))|fail))
     have hX:=hX'.out
     have hXt:Xby (l.take (i+1))=X++[10]:=by rw [htk'.out,hX,List.append_assoc]
     refine ⟨rfl,(i+1,some ⟨b0,0,none⟩,ad2,cap2),by simp only;omega,⟨by simp only;omega,.inr rfl,by simp only;rw [hXt];simp;omega,fun h0=>absurd h0 (by simp)⟩,rfl,?_⟩
     simp only
     rw [hXt]
     exact (XaH.mk' [] _ (Xvv _) (XaB.refl _ _) (by (repeat' (first|exact VwL.nil|(refine VwL.cons ?_ ?_)|exact Vw.refl _|exact Vw.top _|fail))))
  ·obtain ⟨c1,c2⟩:=Xn5 hno
   have hX0:X=Xby (l.take i):=by rw [hX,XfV,c1,c2];simp [XbQ]
   have hXl:X.length≤9500000:=by rw [hX0];omega
   have hX':=Lib.hid hX
   have hX0':=Lib.hid hX0
   clear hX hX0 c1 c2 hno
   unfold Xlo
   (repeat' (first|with_reducible (first|refine Xae ?_|refine Xaa ?_)|((apply Xad rfl);(case h=>((try (intro (hp:(_:Bool)=true);((try simp only [Bool.and_eq_true,Bool.not_eq_true',Bool.not_eq_true] at hp);(try simp only [hp,wte]);(try simp only [whn] at hp))));(first|(apply Xab 0 rfl;(exact Xan _ rfl))|(apply Xab 2 rfl;(exact XaM _ _ _ _ rfl rfl rfl)))));(case hT=>((try simp only [wtn,Xvz,Xvw,Xvx,XvA,XvE,Nat.reduceAdd,Nat.reduceMul,Nat.reduceSub,↓reduceIte,Nat.reduceEqDiff]);rfl)))|(refine Xai rfl ?_;((first|(refine Xas 14 rfl ?_;(refine XaK _ _ rfl Xbk.out rfl (fun b=>?_)))|(refine Xas 16 rfl ?_;(refine Xaw _ _ _ _ _ _ _ rfl rfl XaS.out XaR.out (by first|rfl|fail) (by first|exact Xvu rfl|fail) ?_)));apply Xah;(case hT=>((try simp only [wtn,Xvz,Xvw,Xvx,XvA,XvE,Nat.reduceAdd,Nat.reduceMul,Nat.reduceSub,↓reduceIte,Nat.reduceEqDiff]);rfl));(case hH=>((try simp only [wtn,Xvz,Xvw,Xvx,XvA,XvE,Nat.reduceAdd,Nat.reduceMul,Nat.reduceSub,↓reduceIte,Nat.reduceEqDiff]);rfl))))|fail))
   revert b
   intro bf
   refine Xk0 (fun T' H'=>∃p ad cap,(p=none∨p=some ⟨b0,0,none⟩)∧XaH H' T' [.row (some ⟨b0,0,none⟩) 1 1 74 2 [.x (.pointer p),.x (.slice ad (X).length cap)],.row ad (X).length cap 5 1 (u8a (X))] (frm 80 [(0,.sq l.length (va l)),(4,.x (.pointer (some ⟨b0,0,none⟩))),(19,.sq l.length (va l)),(20,.x (.int .i64 l.length)),(21,.x (.int .i64 i))])) (Xa6 ?_) ?_
   ·(repeat' (first|with_reducible (first|refine Xac ?_|refine Xae ?_|refine Xaa ?_)|((apply Xad rfl);(case h=>((try (intro (hp:(_:Bool)=true);((try simp only [Bool.and_eq_true,Bool.not_eq_true',Bool.not_eq_true] at hp);(try simp only [hp,wte]);(try simp only [whn] at hp))));(apply Xab 0 rfl;(exact Xap _ rfl))));(case hT=>((try simp only [wtn,Xvz,Xvw,Xvx,XvA,XvE,Nat.reduceAdd,Nat.reduceMul,Nat.reduceSub,↓reduceIte,Nat.reduceEqDiff]);rfl)))|fail))
    refine XiN false rfl (fun h=>by cases h) (fun _=>?_)
    refine XbW ?_
    (repeat' (first|with_reducible (refine Xau ?_)|fail))
    rw [hX0'.out]
    exact ⟨rfl,rfl,p,ad,cap,g2,XaH.mk' [.box bf _,.box be _] [.row (some _) _ _ _ _ _,.row ad _ _ _ _ _] (by (repeat' (first|exact Xvv _|fail))) (XaB.refl _ _) (by (repeat' (first|exact VwL.nil|(refine VwL.cons ?_ ?_)|exact Vw.refl _|exact Vw.top _|fail)))⟩
   ·rintro T' H' ⟨p1,ad1,cap1,hp1,hw⟩
    refine XeQ hw ?_
    simp only [frm,XvC,XvD,Xvw,Xvx,XvJ,XvK]
    refine XbW ?_
    (repeat' (first|with_reducible (first|refine Xag ?_|refine Xac ?_|refine Xar ?_|refine Xau ?_|refine Xae ?_|refine Xaa ?_|refine Xax ?_|refine Xaj ?_|refine Xav ?_)|(refine Xak _ rfl (fun h=>?_) (fun h=>?_)<;>((try (simp only [whn] at h));skip))|((apply Xad rfl);(case h=>((try (intro (hp:(_:Bool)=true);((try simp only [Bool.and_eq_true,Bool.not_eq_true',Bool.not_eq_true] at hp);(try simp only [hp,wte]);(try simp only [whn] at hp))));(first|(apply Xab 0 rfl;(exact Xan _ rfl))|(apply XaC;(case hs=>(intro _ _ h;cases h));(case hx=>rfl);(case hrun=>(intro w;simp [wtb,AV.val,go_sem];(try go_bits);rfl))))));(case hT=>((try simp (disch:=omega) only [wtn,XjL,Xvz,Xvw,Xvx,XvA,XvE,Nat.reduceAdd,Nat.reduceMul,Nat.reduceSub,↓reduceIte,Nat.reduceEqDiff]);rfl)))|(refine Xai rfl ?_;((refine Xas 11 rfl ?_;(first|(refine Xam 34 Tryz.f34 [_,_] _ _ _ rfl rfl Tryz.func34 (by decide) rfl (Xvv _) (VwL.refl _ _) (XkX b0 p1 hp1 ad1 cap1 X 10 (by omega)) ?_;rintro _ _ ⟨ad2,cap2,rfl,rfl⟩)|(refine Xam 36 Tryz.f36 [_] _ _ _ rfl rfl Tryz.func36 (by decide) rfl (Xvv _) (VwL.refl _ _) (Xrk b0 _ _ _ _) ?_;rintro _ _ ⟨rfl,rfl⟩)));apply Xah;(case hT=>((try simp (disch:=omega) only [wtn,XjL,Xvz,Xvw,Xvx,XvA,XvE,Nat.reduceAdd,Nat.reduceMul,Nat.reduceSub,↓reduceIte,Nat.reduceEqDiff]);rfl));(case hH=>((try simp (disch:=omega) only [wtn,XjL,Xvz,Xvw,Xvx,XvA,XvE,Nat.reduceAdd,Nat.reduceMul,Nat.reduceSub,↓reduceIte,Nat.reduceEqDiff]);rfl))))|fail))
    ·refine Xcb (Xaf _ _ (XcB rfl (RV.tmp _) (RV.tmp _) (XaH.mk' [_,_] [] (Xvv _) XaB.nil (VwL.refl _ _))) ?_)
     refine ⟨?_,rfl⟩
     have hX:=hX'.out
     rw [XiT h1000 (by have h6:=congrArg List.length hX;simp only [XvH,Xvy,XvB] at h6 hpre;omega)]
     rfl
    ·refine XbW ?_
     (repeat' (first|with_reducible (first|refine Xac ?_|refine Xae ?_|refine Xaa ?_)|((apply Xad rfl);(case h=>((try (intro (hp:(_:Bool)=true);((try simp only [Bool.and_eq_true,Bool.not_eq_true',Bool.not_eq_true] at hp);(try simp only [hp,wte]);(try simp only [whn] at hp))));(first|(apply Xab 0 rfl;(exact Xap _ rfl))|(apply XaC;(case hs=>(intro _ _ h;cases h));(case hx=>rfl);(case hrun=>(intro w;simp [wtb,AV.val,go_sem];(try go_bits);rfl))))));(case hT=>((try simp only [wtn,Xvz,Xvw,Xvx,XvA,XvE,Nat.reduceAdd,Nat.reduceMul,Nat.reduceSub,↓reduceIte,Nat.reduceEqDiff]);rfl)))|fail))
     have hX:=hX'.out
     have hXt:Xby (l.take (i+1))=X++[10]:=by rw [htk'.out,hX,List.append_assoc]
     refine ⟨rfl,(i+1,some ⟨b0,0,none⟩,ad2,cap2),by simp only;omega,⟨by simp only;omega,.inr rfl,by simp only;rw [hXt];simp;omega,fun h0=>absurd h0 (by simp)⟩,rfl,?_⟩
     simp only
     rw [hXt]
     exact (XaH.mk' [] _ (Xvv _) (XaB.refl _ _) (by (repeat' (first|exact VwL.nil|(refine VwL.cons ?_ ?_)|exact Vw.refl _|exact Vw.top _|fail))))
 ·obtain rfl:i=l.length:=by omega
  rw [List.take_length] at g3
  rw [List.take_length]
  have h0:Xby l=[]→ad=none:=fun e=>g4 (by rw [Xnx e];rfl)
  have h0':=Lib.hid h0
  clear h0 g4
  refine Xa6 ?_
  (repeat' (first|with_reducible (first|refine Xac ?_|refine Xae ?_|refine Xaa ?_)|((apply Xad rfl);(case h=>((try (intro (hp:(_:Bool)=true);((try simp only [Bool.and_eq_true,Bool.not_eq_true',Bool.not_eq_true] at hp);(try simp only [hp,wte]);(try simp only [whn] at hp))));(apply XaC;(case hs=>(intro _ _ h;cases h));(case hx=>rfl);(case hrun=>(intro w;simp [wtb,AV.val,go_sem];(try go_bits);rfl)))));(case hT=>((try simp only [wtn,Xvz,Xvw,Xvx,XvA,XvE,Nat.reduceAdd,Nat.reduceMul,Nat.reduceSub,↓reduceIte,Nat.reduceEqDiff]);rfl)))|fail))
  refine Xa6 ?_
  (repeat' (first|with_reducible (first|refine XaW ?_|refine Xaa ?_|refine XaL ?_|refine XaJ ?_)|(refine Xak _ rfl (fun h=>?_) (fun h=>?_)<;>first|(exact absurd h (by decide))|((try (simp only [whn] at h));skip))|fail))
  refine XbG (XbX ?_)
  refine Xni rfl rfl rfl rfl h0'.out (by omega) fun Θ' hTk=>?_
  have hP:=XkC (Xby l) (by omega)
  have hok1:=Lib.hid (XrS h1000 (by omega))
  have hbad:=Lib.hid (XpO h1000 (by omega))
  unfold XtC at hP
  generalize XcT (Xby l)=q at hP hok1 hbad
  (repeat' (first|(apply Xb4 rfl;(case h=>(first|(apply Xab 0 rfl;(first|exact Xap _ rfl|exact Xan _ rfl))|(apply Xab 2 rfl;(exact XaM _ _ _ _ rfl rfl rfl))|(apply Xab 11 rfl;(exact Xay 10 Tryz.f10 _ _ rfl rfl Tryz.func10 (by decide) rfl (VwL.refl _ _) (hP)))));(case hT=>((try simp only [wtn,Xvz,Xvw,Xvx,XvA,XvE,Nat.reduceAdd,Nat.reduceMul,Nat.reduceSub,↓reduceIte,Nat.reduceEqDiff]);rfl)))|fail))
  refine Xce ?_
  refine Xaa ?_
  refine Xa6 ?_
  (repeat' (first|with_reducible (first|refine Xag ?_|refine Xac ?_|refine Xar ?_|refine Xau ?_|refine Xae ?_|refine Xaa ?_|refine Xax ?_)|(refine Xak _ rfl (fun h=>?_) (fun h=>?_)<;>((try (simp only [whn] at h));skip))|((first|apply Xad rfl|apply Xa8 _ _ rfl rfl rfl);(case h=>((try (intro (hp:(_:Bool)=true);((try simp only [Bool.and_eq_true,Bool.not_eq_true',Bool.not_eq_true] at hp);(try simp only [hp,wte]);(try simp only [whn] at hp))));(first|(apply Xab 0 rfl;(first|exact Xap _ rfl|exact Xan _ rfl))|(apply Xab 1 rfl;(exact XdJ _ _ _ _ _ rfl rfl rfl rfl))|(apply Xab 3 rfl;(exact XaX _ _ _ _ _ _ HEl.out rfl rfl))|(apply XaC;(case hs=>(intro _ _ h;cases h));(case hx=>rfl);(case hrun=>(intro w;simp [wtb,AV.val,go_sem];(try go_bits);rfl))))));(case hT=>((try simp only [wtn,Xvz,Xvw,Xvx,XvA,XvE,Nat.reduceAdd,Nat.reduceMul,Nat.reduceSub,↓reduceIte,Nat.reduceEqDiff]);rfl)))|fail))
  ·refine Xcb (Xaf _ _ (XcB rfl (RV.tmp _) (RV.tmp _) (XaH.mk' [_] [] (Xvv _) XaB.nil (VwL.refl _ _))) ?_)
   refine ⟨?_,rfl⟩
   rw [hbad.out (by rintro ⟨e1,e2⟩;have e3:=Xo8 e2;rcases h with h|h<;>simp_all)]
   rfl
  have hc0:q.2.2=0:=by omega
  have hlen:q.1.length=l.length:=by omega
  refine XbG (Xa6 ?_)
  (repeat' (first|with_reducible (first|refine Xac ?_|refine Xae ?_|refine Xaa ?_)|((apply Xad rfl);(case h=>((try (intro (hp:(_:Bool)=true);((try simp only [Bool.and_eq_true,Bool.not_eq_true',Bool.not_eq_true] at hp);(try simp only [hp,wte]);(try simp only [whn] at hp))));(first|(apply Xab 0 rfl;(exact Xap _ rfl))|(apply Xab 3 rfl;(exact XaX _ _ _ _ _ _ HEl.out rfl rfl)))));(case hT=>((try simp only [wtn,Xvz,Xvw,Xvx,XvA,XvE,Nat.reduceAdd,Nat.reduceMul,Nat.reduceSub,↓reduceIte,Nat.reduceEqDiff]);rfl)))|fail))
  refine Xcn ?_
  apply Xdq (S:=Nat) (fun k=>frm 80 [(0,.sq l.length (va l)),(4,.x (.pointer (some ⟨b0,0,none⟩))),(11,.sq q.1.length (va q.1)),(64,.sq l.length (va l)),(65,.x (.int .i64 l.length)),(66,.x (.int .i64 k))]) (fun _=>[.row (some ⟨b0,0,none⟩) 1 1 74 2 [.x (.pointer p),.x (.slice ad (Xby l).length cap)]]) (fun _=>Θ') (fun k=>k≤l.length∧(((l.take k).zip (q.1.take k)).all fun z=>Xfs z.1 z.2)=true) (fun k=>l.length - k) 0
  case h0=>exact (XaH.mk' [] _ (Xvv _) (XaB.refl _ _) (by (repeat' (first|exact VwL.nil|(refine VwL.cons ?_ ?_)|exact Vw.refl _|exact Vw.top _|fail))))
  case hΘ=>rfl
  case hi=>exact ⟨Nat.zero_le _,by simp⟩
  rintro k ⟨k1,k2⟩
  have k2':=Lib.hid k2
  clear k2
  simp only [frm,XvC,XvD,Xvw,Xvx,XvJ,XvK]
  by_cases hk:k < l.length
  ·have hdr:=XdH l k hk
   have hk2:k < q.1.length:=by omega
   have hdq:=XdH q.1 k hk2
   have hS:=Xuh l[k] q.1[k]
   unfold EF.cells at hS
   refine XbW ?_
   (repeat' (first|with_reducible (first|refine Xag ?_|refine Xac ?_|refine Xao ?_|refine Xar ?_|refine Xau ?_|refine Xae ?_|refine Xch ?_|refine Xaa ?_|refine Xax ?_|refine Xaj ?_|refine Xav ?_)|(with_reducible refine Xbe mixed ?_ ?_;(decide +kernel))|(refine Xak _ rfl (fun h=>?_) (fun h=>?_)<;>((try (simp only [whn] at h));first|(exfalso;omega;done)|skip))|((first|apply Xad rfl|apply XbO rfl);(case h=>((try (intro (hp:(_:Bool)=true);((try simp only [Bool.and_eq_true,Bool.not_eq_true',Bool.not_eq_true] at hp);(try simp only [hp,wte]);(try simp only [whn] at hp))));(first|(apply Xab 0 rfl;(first|exact Xap _ rfl|exact Xan _ rfl))|(apply Xab 6 rfl;(first|exact XaF _ _ _ _ _ rfl rfl XaN.out (by first|exact Xvu rfl|fail) (by first|exact Xvu rfl|fail)|exact Xaz _ _ _ _ _ _ _ _ rfl rfl XaS.out XaN.out (by first|exact Xvu rfl|fail) (by first|exact Xvu rfl|fail)))|(apply Xab 7 rfl;(exact XaG _ _ _ _ _ _ _ _ _ _ rfl rfl rfl HEl.out rfl (by first|omega|fail) (by simp;first|omega|fail)))|(apply Xab 11 rfl;(exact Xay 38 Tryz.f38 _ _ rfl rfl Tryz.func38 (by decide) rfl (VwL.refl _ _) (hS)))|(apply XaC;(case hs=>(intro _ _ h;cases h));(case hx=>rfl);(case hrun=>(intro w;simp [wtb,AV.val,go_sem];(try go_bits);rfl))))));(case hT=>((try simp (disch:=omega) only [wtn,hdr,hdq,Xvz,Xvw,Xvx,XvA,XvE,Nat.reduceAdd,Nat.reduceMul,Nat.reduceSub,↓reduceIte,Nat.reduceEqDiff]);rfl)))|(refine Xai rfl ?_;((first|(refine Xas 14 rfl ?_;(refine XaK _ _ rfl Xbk.out rfl (fun b=>?_)))|(refine Xas 16 rfl ?_;(refine Xaw _ _ _ _ _ _ _ rfl rfl XaS.out XaR.out (by first|rfl|fail) (by first|exact Xvu rfl|fail) ?_)));apply Xah;(case hT=>((try simp (disch:=omega) only [wtn,hdr,hdq,Xvz,Xvw,Xvx,XvA,XvE,Nat.reduceAdd,Nat.reduceMul,Nat.reduceSub,↓reduceIte,Nat.reduceEqDiff]);rfl));(case hH=>((try simp (disch:=omega) only [wtn,hdr,hdq,Xvz,Xvw,Xvx,XvA,XvE,Nat.reduceAdd,Nat.reduceMul,Nat.reduceSub,↓reduceIte,Nat.reduceEqDiff]);rfl))))|fail))
   ·refine Xcb (Xaf _ _ (XcB rfl (RV.tmp _) (RV.tmp _) (XaH.mk' [_,_] [] (Xvv _) XaB.nil (VwL.refl _ _))) ?_)
    refine ⟨?_,rfl⟩
    rw [hbad.out (fun e=>by rw [XlB hk hk2 h] at e;cases e.2)]
    rfl
   ·exact ⟨rfl,k+1,by omega,⟨by omega,Xhz hk hk2 k2'.out (by assumption)⟩,rfl,XaH.mk' [.box b _] [_] (Xvv _) (XaB.refl _ _) (by (repeat' (first|exact VwL.nil|(refine VwL.cons ?_ ?_)|exact Vw.refl _|exact Vw.top _|fail)))⟩
  ·obtain rfl:k=l.length:=by omega
   refine XbW ?_
   (repeat' (first|with_reducible (first|refine Xag ?_|refine Xac ?_|refine XaW ?_|refine Xae ?_|refine Xaa ?_|refine XaL ?_|refine XaJ ?_)|(refine Xak _ rfl (fun h=>?_) (fun h=>?_)<;>first|(exact absurd h (by decide))|((try (simp only [whn] at h));skip))|((apply Xad rfl);(case h=>((try (intro (hp:(_:Bool)=true);((try simp only [Bool.and_eq_true,Bool.not_eq_true',Bool.not_eq_true] at hp);(try simp only [hp,wte]);(try simp only [whn] at hp))));(apply XaC;(case hs=>(intro _ _ h;cases h));(case hx=>rfl);(case hrun=>(intro w;simp [wtb,AV.val,go_sem];(try go_bits);rfl)))));(case hT=>((try simp only [wtn,Xvz,Xvw,Xvx,XvA,XvE,Nat.reduceAdd,Nat.reduceMul,Nat.reduceSub,↓reduceIte,Nat.reduceEqDiff]);rfl)))|fail))
   refine XbG (XbX ?_)
   refine Xl2 rfl rfl rfl rfl hTk (by omega) ?_
   (repeat' (first|(apply Xb4 rfl;(case h=>(apply Xab 0 rfl;(exact Xan _ rfl)));(case hT=>((try simp only [wtn,Xvz,Xvw,Xvx,XvA,XvE,Nat.reduceAdd,Nat.reduceMul,Nat.reduceSub,↓reduceIte,Nat.reduceEqDiff]);rfl)))|fail))
   refine Xce ?_
   refine Xaa ?_
   refine XbW ?_
   (repeat' (first|with_reducible (refine Xar ?_)|fail))
   refine Xcb (Xaf _ _ (XcB rfl (RV.tmp _) (RV.tmp _) (XaH.mk' [_] [] (Xvv _) XaB.nil (VwL.refl _ _))) ?_)
   refine ⟨?_,rfl⟩
   have k2:=k2'.out
   rw [List.take_of_length_le (by omega),List.take_of_length_le (by omega)] at k2
   rw [hok1.out hc0 (by unfold Xft;rw [decide_eq_true hlen.symm,k2];rfl)]
   rfl
end Go.Proofs.YtdpobjakdplljaaGreatDoor

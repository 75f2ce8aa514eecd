import Derived.Test.YtcmfamgnmehojaaGreatDoorW12
import Derived.Test.YtcmfamgnmehojaaGreatDoorW10
import Derived.Test.YtcmfamgnmehojaaGreatDoorW1
import Derived.OwnWalk
/- The program's lexer: skip. -/
set_option linter.unusedSimpArgs false
set_option linter.unusedVariables false
set_option maxRecDepth 100000
set_option maxHeartbeats 8000000
namespace Go.Proofs.YtcmfamgnmehojaaGreatDoor
open Go.RowKit
theorem Xj2:∀(l:List UInt8) (p:Nat × Nat),plc p (l.take (cmt l))=(p.1,p.2+cmt l)
 | [],p=>by simp [cmt,plc]
 | c :: r,p=>by
   by_cases h:c.toNat=10
   ·rw [XlE _ _ h];simp [plc]
   ·rw [XeG _ _ h,List.take_succ_cons,plc,if_neg h,Xj2 r]
    simp;omega
theorem Xle (t:List UInt8) (j:Nat) (h:j < t.length):plc (1,1) (t.take (j+1))=if (t.getD j 0).toNat=10 then ((plc (1,1) (t.take j)).1+1,1) else ((plc (1,1) (t.take j)).1,(plc (1,1) (t.take j)).2+1):=by
 rw [←Xef t j 1,Xfx t j h,List.take_succ_cons,List.take_zero]
 rfl
def sc (t:List UInt8) (k:Nat):List AV:=scc t k (plc (1,1) (t.take k)).1 (plc (1,1) (t.take k)).2
theorem XhU:∀(l:List UInt8) (p:Nat × Nat),(plc p l).1≤p.1+l.length∧(plc p l).2≤p.2+l.length+1∧p.1≤(plc p l).1
 | [],p=>by simp [plc]
 | c :: r,p=>by
   rw [plc]
   split
   ·have:=XhU r (p.1+1,1);simp only [Xpq] at *;omega
   ·have:=XhU r (p.1,p.2+1);simp only [Xpq] at *;omega
theorem Xn9 {l r:List UInt8} {c:UInt8} (hl:l=c :: r) (h:c.toNat=32∨c.toNat=9∨c.toNat=10∨c.toNat=13):skp l=skp r+1:=by subst hl;exact Xgt c r h
theorem Xoa {l r:List UInt8} {c:UInt8} (hl:l=c :: r) (h:c.toNat=35):skp l=cmt l+skp (l.drop (cmt l))∧1≤cmt l:=by
 subst hl
 exact ⟨Xkg c r h,by rw [XeG _ _ (by omega)];omega⟩
theorem Xob {l r:List UInt8} {c:UInt8} (hl:l=c :: r) (h:¬(c.toNat=32∨c.toNat=9∨c.toNat=10∨c.toNat=13)) (h2:c.toNat≠35):skp l=0:=by subst hl;exact Xki c r h h2
theorem XfI (b:Nat) (t:List UInt8) (k:Nat) (hk:k≤t.length) (ht:t.length≤100000):Xbv Tryz.prog 49 [.box b (sc t k)] [.x (.pointer (some ⟨b,0,none⟩))] (fun r H'=>H'=[.box b (sc t (nxk t k))]):=by
 unfold sc scc
 refine XaP Tryz.func49 rfl ?_
 simp only [Tryz.ntmps49,Xpq,Xpt,Xpu,Xpv,Xpy,Xpx,Nat.reduceAdd,Nat.reduceSub]
 (repeat' (first|with_reducible (refine Xas ?_)|fail))
 refine Xbn (S:=Nat) (fun j=>frm 70 [(0,.x (.pointer (some ⟨b,0,none⟩)))]) (fun j=>[.box b [.x (.string (bs t)),.x (.int .i64 j),.x (.int .i64 ((plc (1,1) (t.take j)).1:Nat)),.x (.int .i64 ((plc (1,1) (t.take j)).2:Nat))]]) (fun j=>j≤t.length∧j+skp (t.drop j)=k+skp (t.drop k)) (fun j=>t.length - j) k (XaK.mk' [] _ (Xpn _) (XaI.refl _ _) (by (repeat' (first|exact VwL.nil|(refine VwL.cons ?_ ?_)|exact Vw.refl _|fail)))) ⟨hk,rfl⟩ fun j hj=>?_
 obtain ⟨h1,h2⟩:=hj
 have h2':=Lib.hid h2
 clear h2
 simp only [frm,Xpu,Xpv,Xpo,Xpp,XpB,XpC]
 have hpl:=XhU (t.take j) (1,1)
 rw [List.length_take,Nat.min_eq_left h1] at hpl
 by_cases hlt:j < t.length
 ·have hd:=Xfx t j hlt
  have hpn:=Xle t j hlt
  have hcm:=Xef t j (cmt (t.drop j))
  rw [Xj2] at hcm
  have hcl:=XlD (t.drop j)
  rw [List.length_drop] at hcl
  rw [List.getD_eq_getElem?_getD] at hd hpn
  generalize hL:(plc (1,1) (t.take j)).1=L at hpl hpn hcm ⊢
  generalize hC:(plc (1,1) (t.take j)).2=C at hpl hpn hcm ⊢
  have hLC:(plc (1,1) (t.take j)).1=L∧(plc (1,1) (t.take j)).2=C:=⟨hL,hC⟩
  have hLC:=Lib.hid hLC
  clear hL hC
  have hd':=Lib.hid hd
  have hpn':=Lib.hid hpn
  have hcm':=Lib.hid hcm
  clear hd hpn hcm
  have hib:=Xg3 (t.drop j)
  have hdl:(t.drop j).length=t.length - j:=List.length_drop
  rcases XfA (t.drop j) with ⟨hi1,hi2⟩|hi1
  ·rw [hi1] at hib
   have hcc:cmt (t.drop j)=t.length - j:=by rw [hi2,hdl]
   have hcc':=Lib.hid hcc
   clear hi1 hi2 hcc
   (repeat' (first|with_reducible (first|refine Xaj ?_|refine Xac ?_|refine Xas ?_|refine Xaw ?_|refine Xaz ?_|refine Xaf ?_|refine XbP ?_|refine Xaa ?_|refine XaA ?_|refine Xah ?_|refine Xau ?_)|(with_reducible refine Xbd mixed ?_ ?_;(decide +kernel))|(refine Xal _ rfl (fun h=>?_) (fun h=>?_)<;>first|(exact absurd h (by decide))|((try (simp only [whn] at h));first|(exfalso;omega;done)|skip))|((first|apply Xad rfl|apply Xbz rfl);(case h=>((try (intro (hp:(_:Bool)=true);((try simp only [Bool.and_eq_true,Bool.not_eq_true',Bool.not_eq_true] at hp);(try simp only [hp,wte]);(try simp only [whn] at hp))));(first|(apply Xab 0 rfl;(first|exact Xar _ rfl|exact Xav _ rfl))|(apply Xab 4 rfl;(exact XaR _ rfl (by first|exact .inl ⟨_,rfl⟩|fail)))|(apply Xab 5 rfl;(exact Xag _ _ _ _ _ _ rfl rfl Xbb.out))|(apply Xab 6 rfl;(exact Xay _ _ _ _ _ _ _ _ rfl rfl Xa0.out XaT.out (by first|exact Xpm rfl|fail) (by first|exact Xpm rfl|fail)))|(apply Xab 8 rfl;(exact XaW _ _ _ _ _ _ _ rfl rfl rfl (by kernel_rfl) rfl (by omega)))|(apply Xab 9 rfl;(exact Xa2 _ _ _ _ _ _ _ rfl rfl (by kernel_rfl) (by first|exact .inr ⟨_,_,rfl,rfl⟩|fail) (by first|exact .inl ⟨rfl,rfl⟩|fail) (by omega) (by omega)))|(apply Xab 11 rfl;(exact XaE 72 Tryz.f72 _ _ rfl rfl Tryz.func72 (by decide) rfl (VwL.refl _ _) (hib)))|(apply XaJ;(case hs=>(intro _ _ h;cases h));(case hx=>rfl);(case hrun=>(intro w;simp [wtb,AV.val,go_sem];(try go_bits);rfl))))));(case hT=>((try simp (disch:=omega) only [wtn,scc,List.take_length,List.drop_zero,hdl,Xpr,Xpo,Xpp,Xps,Xpw,Nat.reduceAdd,Nat.reduceMul,Nat.reduceSub,↓reduceIte,Nat.reduceEqDiff]);rfl)))|(refine Xak rfl ?_;((first|(refine Xap 11 rfl ?_;(first|(refine Xax 51 Tryz.f51 ([_]) _ _ _ rfl rfl Tryz.func51 (by decide) rfl (Xpn _) (VwL.refl _ _) (Xc4 b t j L C 1 (by omega) (by omega) (by omega)) ?_;rintro _ _ rfl)|(refine Xax 51 Tryz.f51 ([_]) _ _ _ rfl rfl Tryz.func51 (by decide) rfl (Xpn _) (VwL.refl _ _) (Xc4 b t j L C (t.length - j) (by omega) (by omega) (by omega)) ?_;rintro _ _ rfl)))|(refine Xap 16 rfl ?_;(refine Xat _ _ _ _ _ _ _ rfl rfl Xa0.out XaS.out (by first|rfl|fail) (by first|exact Xpm rfl|fail) ?_)));apply Xai;(case hT=>((try simp (disch:=omega) only [wtn,scc,List.take_length,List.drop_zero,hdl,Xpr,Xpo,Xpp,Xps,Xpw,Nat.reduceAdd,Nat.reduceMul,Nat.reduceSub,↓reduceIte,Nat.reduceEqDiff]);rfl));(case hH=>((try simp (disch:=omega) only [wtn,scc,List.take_length,List.drop_zero,hdl,Xpr,Xpo,Xpp,Xps,Xpw,Nat.reduceAdd,Nat.reduceMul,Nat.reduceSub,↓reduceIte,Nat.reduceEqDiff]);rfl))))|fail))
   all_goals first
    | (have es:=Xn9 hd'.out (by omega)
       have e2:=h2'.out
       refine ⟨j+1,by omega,⟨by omega,by omega⟩,?_⟩
       rw [hpn'.out]
       first
        | (rw [if_pos (by omega)];exact (XaK.mk' [] _ (Xpn _) (XaI.refl _ _) (by (repeat' (first|exact VwL.nil|(refine VwL.cons ?_ ?_)|exact Vw.refl _|exact Vw.top _|fail)))))
        | (rw [if_neg (by omega)];exact (XaK.mk' [] _ (Xpn _) (XaI.refl _ _) (by (repeat' (first|exact VwL.nil|(refine VwL.cons ?_ ?_)|exact Vw.refl _|exact Vw.top _|fail))))))
    | (have es:=Xoa hd'.out (by omega)
       have e2:=h2'.out
       have e3:=hcc'.out
       rw [List.drop_drop] at es
       rw [e3] at es
       refine ⟨j+(t.length - j),by omega,⟨by omega,by omega⟩,?_⟩
       have e4:=hcm'.out
       rw [e3] at e4
       rw [←e4]
       exact (XaK.mk' [] _ (Xpn _) (XaI.refl _ _) (by (repeat' (first|exact VwL.nil|(refine VwL.cons ?_ ?_)|exact Vw.refl _|exact Vw.top _|fail)))))
    | (have es:=Xob hd'.out (by omega) (by omega)
       have e2:=h2'.out
       have ek:nxk t k=j:=by unfold nxk;omega
       have e5:=hLC.out
       rw [ek,e5.1,e5.2]
       exact Xan _ _ (Xeu rfl (XaK.mk' [] _ (Xpn _) (XaI.refl _ _) (by (repeat' (first|exact VwL.nil|fail))))) rfl)
    | trace_state
  ·rw [hi1] at hib
   have htl:((t.drop j).take (cmt (t.drop j))).length=cmt (t.drop j):=by rw [List.length_take,hdl];omega
   generalize hrs:(t.drop j).take (cmt (t.drop j))=rs at htl
   (repeat' (first|with_reducible (first|refine Xaj ?_|refine Xac ?_|refine Xas ?_|refine Xaw ?_|refine Xaz ?_|refine Xaf ?_|refine XbP ?_|refine Xaa ?_|refine XaA ?_|refine Xah ?_|refine Xau ?_)|(with_reducible refine Xbd mixed ?_ ?_;(decide +kernel))|(refine Xal _ rfl (fun h=>?_) (fun h=>?_)<;>first|(exact absurd h (by decide))|((try (simp only [whn] at h));first|(exfalso;omega;done)|skip))|((first|apply Xad rfl|apply Xbz rfl);(case h=>((try (intro (hp:(_:Bool)=true);((try simp only [Bool.and_eq_true,Bool.not_eq_true',Bool.not_eq_true] at hp);(try simp only [hp,wte]);(try simp only [whn] at hp))));(first|(apply Xab 0 rfl;(first|exact Xar _ rfl|exact Xav _ rfl))|(apply Xab 4 rfl;(exact XaR _ rfl (by first|exact .inl ⟨_,rfl⟩|fail)))|(apply Xab 5 rfl;(exact Xag _ _ _ _ _ _ rfl rfl Xbb.out))|(apply Xab 6 rfl;(exact Xay _ _ _ _ _ _ _ _ rfl rfl Xa0.out XaT.out (by first|exact Xpm rfl|fail) (by first|exact Xpm rfl|fail)))|(apply Xab 8 rfl;(exact XaW _ _ _ _ _ _ _ rfl rfl rfl (by kernel_rfl) rfl (by omega)))|(apply Xab 9 rfl;(exact Xa2 _ _ _ _ _ _ _ rfl rfl (by kernel_rfl) (by first|exact .inl ⟨rfl,rfl⟩|exact .inr ⟨_,_,rfl,rfl⟩|fail) (by first|exact .inl ⟨rfl,rfl⟩|exact .inr ⟨_,_,rfl,rfl⟩|fail) (by omega) (by omega)))|(apply Xab 11 rfl;(exact XaE 72 Tryz.f72 _ _ rfl rfl Tryz.func72 (by decide) rfl (VwL.refl _ _) (hib)))|(apply XaJ;(case hs=>(intro _ _ h;cases h));(case hx=>rfl);(case hrun=>(intro w;simp [wtb,AV.val,go_sem];(try go_bits);rfl))))));(case hT=>((try simp (disch:=omega) only [wtn,scc,List.take_length,List.drop_zero,hdl,hrs,htl,Xpr,Xpo,Xpp,Xps,Xpw,Nat.reduceAdd,Nat.reduceMul,Nat.reduceSub,↓reduceIte,Nat.reduceEqDiff]);rfl)))|(refine Xak rfl ?_;((first|(refine Xap 11 rfl ?_;(first|(refine Xax 51 Tryz.f51 ([_]) _ _ _ rfl rfl Tryz.func51 (by decide) rfl (Xpn _) (VwL.refl _ _) (Xc4 b t j L C 1 (by omega) (by omega) (by omega)) ?_;rintro _ _ rfl)|(refine Xax 51 Tryz.f51 ([_]) _ _ _ rfl rfl Tryz.func51 (by decide) rfl (Xpn _) (VwL.refl _ _) (Xc4 b t j L C (cmt (t.drop j)) (by omega) (by omega) (by omega)) ?_;rintro _ _ rfl)))|(refine Xap 16 rfl ?_;(refine Xat _ _ _ _ _ _ _ rfl rfl Xa0.out XaS.out (by first|rfl|fail) (by first|exact Xpm rfl|fail) ?_)));apply Xai;(case hT=>((try simp (disch:=omega) only [wtn,scc,List.take_length,List.drop_zero,hdl,hrs,htl,Xpr,Xpo,Xpp,Xps,Xpw,Nat.reduceAdd,Nat.reduceMul,Nat.reduceSub,↓reduceIte,Nat.reduceEqDiff]);rfl));(case hH=>((try simp (disch:=omega) only [wtn,scc,List.take_length,List.drop_zero,hdl,hrs,htl,Xpr,Xpo,Xpp,Xps,Xpw,Nat.reduceAdd,Nat.reduceMul,Nat.reduceSub,↓reduceIte,Nat.reduceEqDiff]);rfl))))|fail))
   all_goals first
    | (have es:=Xn9 hd'.out (by omega)
       have e2:=h2'.out
       refine ⟨j+1,by omega,⟨by omega,by omega⟩,?_⟩
       rw [hpn'.out]
       first
        | (rw [if_pos (by omega)];exact (XaK.mk' [] _ (Xpn _) (XaI.refl _ _) (by (repeat' (first|exact VwL.nil|(refine VwL.cons ?_ ?_)|exact Vw.refl _|exact Vw.top _|fail)))))
        | (rw [if_neg (by omega)];exact (XaK.mk' [] _ (Xpn _) (XaI.refl _ _) (by (repeat' (first|exact VwL.nil|(refine VwL.cons ?_ ?_)|exact Vw.refl _|exact Vw.top _|fail))))))
    | (have es:=Xoa hd'.out (by omega)
       have e2:=h2'.out
       have e3:=(rfl:cmt (t.drop j)=cmt (t.drop j))
       rw [List.drop_drop] at es
       rw [e3] at es
       refine ⟨j+cmt (t.drop j),by omega,⟨by omega,by omega⟩,?_⟩
       have e4:=hcm'.out
       rw [e3] at e4
       rw [←e4]
       exact (XaK.mk' [] _ (Xpn _) (XaI.refl _ _) (by (repeat' (first|exact VwL.nil|(refine VwL.cons ?_ ?_)|exact Vw.refl _|exact Vw.top _|fail)))))
    | (have es:=Xob hd'.out (by omega) (by omega)
       have e2:=h2'.out
       have ek:nxk t k=j:=by unfold nxk;omega
       have e5:=hLC.out
       rw [ek,e5.1,e5.2]
       exact Xan _ _ (Xeu rfl (XaK.mk' [] _ (Xpn _) (XaI.refl _ _) (by (repeat' (first|exact VwL.nil|fail))))) rfl)
    | trace_state
 ·have e:t.drop j=[]:=List.drop_eq_nil_of_le (by omega)
  have e2:=h2'.out
  rw [e,Xkh] at e2
  have ek:nxk t k=j:=by unfold nxk;omega
  rw [ek]
  (repeat' (first|with_reducible (first|refine Xaj ?_|refine Xa4 ?_|refine XbP ?_|refine Xaa ?_|refine XaO ?_|refine XaH ?_)|(with_reducible refine Xbd mixed ?_ ?_;(decide +kernel))|(refine Xal _ rfl (fun h=>?_) (fun h=>?_)<;>((try (simp only [whn] at h));first|(exfalso;omega;done)|skip))|((apply Xbz rfl);(case h=>((try (intro (hp:(_:Bool)=true);((try simp only [Bool.and_eq_true,Bool.not_eq_true',Bool.not_eq_true] at hp);(try simp only [hp,wte]);(try simp only [whn] at hp))));(first|(apply Xab 0 rfl;(exact Xar _ rfl))|(apply Xab 4 rfl;(exact XaR _ rfl (by first|exact .inl ⟨_,rfl⟩|fail)))|(apply Xab 5 rfl;(exact Xag _ _ _ _ _ _ rfl rfl Xbb.out))|(apply Xab 6 rfl;(exact Xay _ _ _ _ _ _ _ _ rfl rfl Xa0.out XaT.out (by first|exact Xpm rfl|fail) (by first|exact Xpm rfl|fail)))|(apply XaJ;(case hs=>(intro _ _ h;cases h));(case hx=>rfl);(case hrun=>(intro w;simp [wtb,AV.val,go_sem];(try go_bits);rfl))))));(case hT=>((try simp only [wtn,Xpr,Xpo,Xpp,Xps,Xpw,Nat.reduceAdd,Nat.reduceMul,Nat.reduceSub,↓reduceIte,Nat.reduceEqDiff]);rfl)))|fail))
  exact Xcj _ _ (Xeu rfl (XaK.mk' [] _ (Xpn _) (XaI.refl _ _) (by (repeat' (first|exact VwL.nil|fail))))) rfl
theorem Xf6 (l:List UInt8) (hl:l.length≤1000000) (w:World) (hg:Gw w):Calls Tryz.prog 93 #[.string (bs l)] w fun e w'=>e=.returned (.tuple #[.int .u8 ((XgA l).1.toNat:Nat),.int .i64 ((XgA l).2:Nat)])∧Ext w w':=by
 have h0:DenL (fun _=>False) w [.x (.string (bs l))] [.string (bs l)]:=DenL.cons' (Xcu _) DenL.nil'
 have:=Xjl l hl (fun _=>False) w [.string (bs l)] (fun _ h=>h.elim) ⟨by simp,List.Pairwise.nil,by simp⟩ (h0.weak fun k hk=>by rcases hk with hk|⟨x,hx,_⟩;exact hk;cases hx) (GL.none hg |>.mono fun k ⟨x,hx,_⟩=>by cases hx)
 refine this.mono fun e w' ⟨r,H',v,⟨hr,_⟩,he,hdv,_,hfr,_⟩=>?_
 subst hr
 rw [Den] at hdv
 obtain ⟨vals,rfl,hd⟩:=hdv
 have e2:=DenL.exact' (l:=[.int .u8 ((XgA l).1.toNat:Nat),.int .i64 ((XgA l).2:Nat)]) hd
 subst e2
 exact ⟨he,Fr.ext ⟨hfr.os,hfr.tape,hfr.output,hfr.size,fun k hk hn=>hfr.block k hk fun ⟨x,hx,_⟩=>by cases hx⟩⟩
theorem XmR {B:Nat} {e:TypeId} {size n:Nat} {v:Value} {bs:List Value} {w w':World} (h:w.ownsRow B e size v n bs) (hE:Ext w w'):w'.ownsRow B e size v n bs:=by
 obtain ⟨h1,h2|⟨g,cap,cur,e1,e2,e3,e4,e5,e6,e7⟩⟩:=h
 ·exact ⟨h1,.inl h2⟩
 ·have hlt:g < w.heap.size:=(Array.getElem?_eq_some_iff.1 e3).1
  exact ⟨h1,.inr ⟨g,cap,cur,e1,e2,by rw [hE.block g hlt];exact e3,e4,e5,e6,e7⟩⟩
theorem XlA {B b:Nat} {p:Value} {bs:List Value} {w w':World} (h:Lib.BuilderAt 69 5 B b p bs w) (hE:Ext w w'):Lib.BuilderAt 69 5 B b p bs w':=by
 obtain ⟨h1,v,h2,h3,h4⟩:=h
 have hlt:b < w.heap.size:=(Array.getElem?_eq_some_iff.1 h2).1
 exact ⟨h1,v,by rw [hE.block b hlt];exact h2,XmR h3 hE,h4⟩
theorem XnI {B b:Nat} {bs:List Value} {w w':World} (h:Lib.IsBuilder 69 5 B b bs w) (hE:Ext w w'):Lib.IsBuilder 69 5 B b bs w':=h.imp (XlA · hE) (XlA · hE)
def Xgn (x:Option (List UInt8 × Nat)):Value:=match x with|none=>.tuple #[.string (bs []),.int .i64 0,.bool false]|some x=>.tuple #[.string (bs x.1),.int .i64 ((x.2:Nat)+1),.bool true]
theorem Xlh (l:List UInt8) (w:World) (hg:Gw w) (h0:0 < l.length) (hl:l.length≤100000):Calls Tryz.prog 77 #[.string (bs l)] w fun e w'=>e=.returned (Xgn (quo (l.drop 1)))∧Ext w w':=by
 go_enter Tryz.func77,Tryz.ntmps77
 go_wp2_with fail
 go_loopw [6] (fun i wr=>∃(k:Nat) (out:List UInt8),1≤k∧k≤l.length∧i=.int .i64 k∧Lib.IsBuilder 69 5 w.heap.size w.heap.size (Lib.byteCells out) wr∧Ext w wr∧out.length≤k∧Hid (quo (l.drop 1)=(quo (l.drop k)).map fun x=>(out++x.1,(k - 1)+x.2))) (fun i _=>l.length - (intOf i).toNat)
 case atStart=>
  refine ⟨1,[],Nat.le_refl _,h0,rfl,.inl ⟨Nat.le_refl _,.slice none 0 0,by unfold World.alloc;exact Array.getElem?_push_size,⟨rfl,.inl ⟨rfl,rfl⟩⟩,by intro h;cases h⟩,Ext.al _ _,Nat.zero_le _,Lib.hid (by cases quo (l.drop 1)<;>simp)⟩
 case round=>
  obtain ⟨k,out,h1,hk,rfl,hB,hE,hol,hQ⟩:=hrel
  have hz:w.heap.size≤wr.heap.size:=hE.size
  have hbl:(Lib.byteCells out).length=out.length:=by simp [Lib.byteCells]
  by_cases hlt:k < l.length
  ·have hd:=Lib.hid (XeH hlt)
   by_cases h34:l[k].toNat=34
   ·have hQ2:Hid (quo (l.drop 1)=some (out,k)):=Lib.hid (by rw [hQ.out,hd.out,XfM _ _ h34];simp;omega)
    clear hQ hd
    have b1:((l[k].toNat:Int) == 34)=true:=by rw [beq_iff_eq];omega
    go_wp2_with (go_at_call 23;refine (Builder_String_any w.heap.size w.heap.size out _ hB hz).mono ?_;rintro e w1 ⟨rfl,hb1⟩)
    go_ret3
    exact ⟨by rw [hQ2.out];simp [Xgn,bs],Below.trans hE hb1⟩
   ·have b1:((l[k].toNat:Int) == 34)=false:=by rw [XpE];omega
    by_cases h32:l[k].toNat < 32
    ·have hQ2:Hid (quo (l.drop 1)=none):=Lib.hid (by rw [hQ.out,hd.out,XhZ _ _ h34 (by rw [Xce,if_pos (.inl h32)])];rfl)
     clear hQ hd
     go_wp2_with fail
     go_ret3
     exact ⟨by rw [hQ2.out];simp [Xgn,XeF],hE⟩
    ·by_cases h92:l[k].toNat=92
     ·cases hes:XdF (l.drop (k+1)) with
      | none=>
        have hQ2:Hid (quo (l.drop 1)=none):=Lib.hid (by rw [hQ.out,hd.out,XhZ _ _ h34 (by rw [Xce,if_neg (by omega),if_neg (by omega),hes];rfl)];rfl)
        clear hQ hd
        have b2:((l[k].toNat:Int) == 92)=true:=by rw [beq_iff_eq];omega
        go_wp2_with fail
        refine Calls.mono (Xf6 (l.drop (k+1)) (by simp;omega) _ (hg.ext hE)) ?_
        rintro e w1 ⟨rfl,hw1⟩
        rw [XcM hes]
        go_wp2_with fail
        go_ret3
        exact ⟨by rw [hQ2.out];simp [Xgn,XeF],hE.tr hw1⟩
      | some x=>
        obtain ⟨b,n⟩:=x
        have hle:=Xjm hes
        rw [List.length_drop] at hle
        have hQ2:Hid (quo (l.drop 1)=(quo (l.drop (k+(1+n)))).map fun x=>((out++[b])++x.1,(k+(1+n) - 1)+x.2)):=Lib.hid (by
         rw [hQ.out,hd.out,XdT _ _ b (n+1) h34 (by rw [Xce,if_neg (by omega),if_neg (by omega),hes];rfl),←hd.out,List.drop_drop,Option.map_map,show k+(n+1)=k+(1+n) by omega]
         congr 1
         funext y
         simp only [Function.comp,List.append_assoc,List.singleton_append,Prod.mk.injEq,true_and]
         omega)
        clear hQ hd
        have b2:((l[k].toNat:Int) == 92)=true:=by rw [beq_iff_eq];omega
        go_wp2_with fail
        refine Calls.mono (Xf6 (l.drop (k+1)) (by simp;omega) _ (hg.ext hE)) ?_
        rintro e w1 ⟨rfl,hw1⟩
        rw [Xda hes]
        have hB1:=XnI hB hw1
        have hz1:w.heap.size≤w1.heap.size:=Nat.le_trans hz hw1.size
        have b3:((n:Int) == 0)=false:=by rw [XpE];omega
        go_wp2_with (go_at_call 68;refine (Xde w.heap.size w.heap.size (Lib.byteCells out) b.toNat _ hB1 (by omega) hz1).mono ?_;rintro e w2 ⟨rfl,hB2,hb2⟩)
        have hB3:Lib.BuilderAt 69 5 w.heap.size w.heap.size (.pointer (some ⟨w.heap.size,0,none⟩)) (Lib.byteCells (out++[b])) w2:=by
         have:Lib.byteCells (out++[b])=Lib.byteCells out++[.int .u8 b.toNat]:=by simp [Lib.byteCells]
         rw [this];exact hB2
        go_roundw
        case rel=>exact ⟨k+(1+n),out++[b],by omega,by omega,by go_num,.inr hB3,Below.trans (hE.tr hw1) hb2,by simp;omega,hQ2⟩
        case measure=>simp [intOf];omega
     ·have hQ2:Hid (quo (l.drop 1)=(quo (l.drop (k+1))).map fun x=>((out++[l[k]])++x.1,(k+1 - 1)+x.2)):=Lib.hid (by
       rw [hQ.out,hd.out,XdT _ _ l[k] 1 h34 (by rw [Xce,if_neg (by omega),if_pos h92]),List.drop_succ_cons,List.drop_zero,Option.map_map]
       congr 1
       funext y
       simp only [Function.comp,List.append_assoc,List.singleton_append,Prod.mk.injEq,true_and]
       omega)
      clear hQ hd
      have b2:((l[k].toNat:Int) == 92)=false:=by rw [XpE];omega
      go_wp2_with (go_at_call 68;refine (Xde w.heap.size w.heap.size (Lib.byteCells out) l[k].toNat _ hB (by omega) hz).mono ?_;rintro e w1 ⟨rfl,hB2,hb2⟩)
      have hB3:Lib.BuilderAt 69 5 w.heap.size w.heap.size (.pointer (some ⟨w.heap.size,0,none⟩)) (Lib.byteCells (out++[l[k]])) w1:=by
       have:Lib.byteCells (out++[l[k]])=Lib.byteCells out++[.int .u8 l[k].toNat]:=by simp [Lib.byteCells]
       rw [this];exact hB2
      go_roundw
      case rel=>exact ⟨k+1,out++[l[k]],by omega,by omega,by go_num,.inr hB3,Below.trans hE hb2,by simp;omega,hQ2⟩
      case measure=>simp [intOf];omega
  ·have hQ2:Hid (quo (l.drop 1)=none):=Lib.hid (by rw [hQ.out,List.drop_eq_nil_of_le (by omega),Xhk];rfl)
   clear hQ
   go_wp2_with fail
   go_ret3
   exact ⟨by rw [hQ2.out];simp [Xgn,XeF],hE⟩
theorem Xli (l:List UInt8) (h0:0 < l.length) (hl:l.length≤100000) (H:List Hp):Xbv Tryz.prog 77 H [.x (.string (bs l))] (fun r H'=>r=.x (Xgn (quo (l.drop 1)))∧H'=H):=
 Xev (args:=[.string (bs l)]) (fun w hg=>Xlh l w hg h0 hl) H
theorem Xbp (out:List UInt8) (b:UInt8):Lib.byteCells out++[.int .u8 b.toNat]=Lib.byteCells (out++[b]):=by simp [Lib.byteCells]
theorem XjZ (l:List UInt8) (w:World) (h0:0 < l.length) (hl:l.length≤100000):Calls Tryz.prog 78 #[.string (bs l)] w fun e w'=>e=.returned (Xgn (sla (l.drop 1)))∧Ext w w':=by
 go_enter Tryz.func78,Tryz.ntmps78
 go_wp2_with fail
 go_loopw [6] (fun i wr=>∃(k:Nat) (out:List UInt8),1≤k∧k≤l.length∧i=.int .i64 k∧Lib.IsBuilder 69 5 w.heap.size w.heap.size (Lib.byteCells out) wr∧Ext w wr∧out.length≤k∧Hid (sla (l.drop 1)=(sla (l.drop k)).map fun x=>(out++x.1,(k - 1)+x.2))) (fun i _=>l.length - (intOf i).toNat)
 case atStart=>
  refine ⟨1,[],Nat.le_refl _,h0,rfl,.inl ⟨Nat.le_refl _,.slice none 0 0,by unfold World.alloc;exact Array.getElem?_push_size,⟨rfl,.inl ⟨rfl,rfl⟩⟩,by intro h;cases h⟩,Ext.al _ _,Nat.zero_le _,Lib.hid (by cases sla (l.drop 1)<;>simp)⟩
 case round=>
  obtain ⟨k,out,h1,hk,rfl,hB,hE,hol,hQ⟩:=hrel
  have hz:w.heap.size≤wr.heap.size:=hE.size
  have hbl:(Lib.byteCells out).length=out.length:=by simp [Lib.byteCells]
  by_cases hlt:k < l.length
  ·have hd:=Lib.hid (XeH hlt)
   by_cases h47:l[k].toNat=47
   ·have hQ2:Hid (sla (l.drop 1)=some (out,k)):=Lib.hid (by rw [hQ.out,hd.out,Xhp _ _ h47];simp;omega)
    clear hQ hd
    have b1:((l[k].toNat:Int) == 47)=true:=by rw [beq_iff_eq];omega
    go_wp2_with (go_at_call 23;refine (Builder_String_any w.heap.size w.heap.size out _ hB hz).mono ?_;rintro e w1 ⟨rfl,hb1⟩)
    go_ret3
    exact ⟨by rw [hQ2.out];simp [Xgn,bs],Below.trans hE hb1⟩
   ·have b1:((l[k].toNat:Int) == 47)=false:=by rw [XpE];omega
    by_cases h32:l[k].toNat < 32
    ·have hQ2:Hid (sla (l.drop 1)=none):=Lib.hid (by rw [hQ.out,hd.out,Xho _ _ h32];rfl)
     clear hQ hd
     go_wp2_with fail
     go_ret3
     exact ⟨by rw [hQ2.out];simp [Xgn,XeF],hE⟩
    ·by_cases h92:l[k].toNat=92
     ·have b2:((l[k].toNat:Int) == 92)=true:=by rw [beq_iff_eq];omega
      by_cases hlt2:k+1 < l.length
      ·have hd2:=Lib.hid (XeH hlt2)
       by_cases hd32:l[k+1].toNat < 32
       ·have hQ2:Hid (sla (l.drop 1)=none):=Lib.hid (by rw [hQ.out,hd.out,hd2.out,XfN _ _ _ h92 hd32];rfl)
        clear hQ hd hd2
        have b3:((k:Int)+1 == (l.length:Int))=false:=by rw [XpE];omega
        go_wp2_with fail
        go_ret3
        exact ⟨by rw [hQ2.out];simp [Xgn,XeF],hE⟩
       ·by_cases hd47:l[k+1].toNat=47
        ·have hQ2:Hid (sla (l.drop 1)=(sla (l.drop (k+2))).map fun x=>((out++[l[k+1]])++x.1,(k+2 - 1)+x.2)):=Lib.hid (by
          rw [hQ.out,hd.out,hd2.out,Xhq _ _ _ h92 hd47,Option.map_map]
          congr 1
          funext y
          simp only [Function.comp,List.append_assoc,List.singleton_append,Prod.mk.injEq,true_and]
          omega)
         clear hQ hd hd2
         have b3:((k:Int)+1 == (l.length:Int))=false:=by rw [XpE];omega
         have b4:((l[k+1].toNat:Int) != 47)=false:=by rw [bne_eq_false_iff_eq];omega
         clear hd47 h92
         go_wp2_with fail
         refine Calls.mono (Xde w.heap.size w.heap.size (Lib.byteCells out) l[k+1].toNat _ hB (by omega) hz) ?_
         rintro e w1 ⟨rfl,hB2,hb2⟩
         rw [Xbp] at hB2
         go_wp2_with fail
         go_roundw
         case rel=>exact ⟨k+2,out++[l[k+1]],by omega,by omega,by go_num,.inr hB2,Below.trans hE hb2,by simp;omega,hQ2⟩
         case measure=>simp [intOf];omega
        ·have hQ2:Hid (sla (l.drop 1)=(sla (l.drop (k+2))).map fun x=>((out++[l[k]]++[l[k+1]])++x.1,(k+2 - 1)+x.2)):=Lib.hid (by
          rw [hQ.out,hd.out,hd2.out,Xht _ _ _ h92 (by omega) hd47,Option.map_map]
          congr 1
          funext y
          simp only [Function.comp,List.append_assoc,List.singleton_append,Xpy,Xpx,Prod.mk.injEq,true_and]
          omega)
         clear hQ hd hd2
         have b3:((k:Int)+1 == (l.length:Int))=false:=by rw [XpE];omega
         have b4:((l[k+1].toNat:Int) != 47)=true:=by rw [bne_iff_ne];omega
         have e92:Lib.byteCells out++[.int .u8 92]=Lib.byteCells (out++[l[k]]):=by rw [←Xbp,h92];rfl
         clear hd47 h92
         go_wp2_with fail
         refine Calls.mono (Xde w.heap.size w.heap.size (Lib.byteCells out) 92 _ hB (by omega) hz) ?_
         rintro e w1 ⟨rfl,hB2,hb2⟩
         rw [e92] at hB2
         have hz1:w.heap.size≤w1.heap.size:=Nat.le_trans hz hb2.size
         have hbl1:(Lib.byteCells (out++[l[k]])).length=out.length+1:=by simp [Lib.byteCells]
         go_wp2_with fail
         refine Calls.mono (Xde w.heap.size w.heap.size (Lib.byteCells (out++[l[k]])) l[k+1].toNat _ (.inr hB2) (by omega) hz1) ?_
         rintro e w2 ⟨rfl,hB3,hb3⟩
         rw [Xbp] at hB3
         go_wp2_with fail
         go_roundw
         case rel=>exact ⟨k+2,out++[l[k]]++[l[k+1]],by omega,by omega,by go_num,.inr hB3,Below.trans (Below.trans hE hb2) hb3,by simp;omega,hQ2⟩
         case measure=>simp [intOf];omega
      ·have hQ2:Hid (sla (l.drop 1)=none):=Lib.hid (by rw [hQ.out,hd.out,List.drop_eq_nil_of_le (by omega),XfO _ h92];rfl)
       clear hQ hd
       have b3:((k:Int)+1 == (l.length:Int))=true:=by rw [beq_iff_eq];omega
       go_wp2_with fail
       go_ret3
       exact ⟨by rw [hQ2.out];simp [Xgn,XeF],hE⟩
     ·have hQ2:Hid (sla (l.drop 1)=(sla (l.drop (k+1))).map fun x=>((out++[l[k]])++x.1,(k+1 - 1)+x.2)):=Lib.hid (by
       rw [hQ.out,hd.out,Xhs _ _ h47 (by omega) h92,Option.map_map]
       congr 1
       funext y
       simp only [Function.comp,List.append_assoc,List.singleton_append,Prod.mk.injEq,true_and]
       omega)
      clear hQ hd
      have b2:((l[k].toNat:Int) == 92)=false:=by rw [XpE];omega
      go_wp2_with (go_at_call 68;refine (Xde w.heap.size w.heap.size (Lib.byteCells out) l[k].toNat _ hB (by omega) hz).mono ?_;rintro e w1 ⟨rfl,hB2,hb2⟩)
      rw [Xbp] at hB2
      go_roundw
      case rel=>exact ⟨k+1,out++[l[k]],by omega,by omega,by go_num,.inr hB2,Below.trans hE hb2,by simp;omega,hQ2⟩
      case measure=>simp [intOf];omega
  ·have hQ2:Hid (sla (l.drop 1)=none):=Lib.hid (by rw [hQ.out,List.drop_eq_nil_of_le (by omega),Xhr];rfl)
   clear hQ
   go_wp2_with fail
   go_ret3
   exact ⟨by rw [hQ2.out];simp [Xgn,XeF],hE⟩
theorem Xj0 (l:List UInt8) (h0:0 < l.length) (hl:l.length≤100000) (H:List Hp):Xbv Tryz.prog 78 H [.x (.string (bs l))] (fun r H'=>r=.x (Xgn (sla (l.drop 1)))∧H'=H):=
 XcJ (args:=[.string (bs l)]) (fun w=>XjZ l w h0 hl) H
end Go.Proofs.YtcmfamgnmehojaaGreatDoor

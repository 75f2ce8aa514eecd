import Derived.Test.YtdpobjakdplljaaGreatDoorU6
import Derived.Test.YtdpobjakdplljaaGreatDoorU9
import Derived.Test.YtdpobjakdplljaaGreatDoorU16
/- The reference of the lexer: Quote. -/
set_option linter.unusedSimpArgs false
set_option linter.unusedVariables false
set_option maxRecDepth 100000
set_option maxHeartbeats 8000000
namespace Go.Proofs.YtdpobjakdplljaaGreatDoor
open Go.RowKit
def Xfl:List UInt8:=[48,49,50,51,52,53,54,55,56,57,97,98,99,100,101,102]
def Xdv (b:UInt8):List UInt8:=if b.toNat=34∨b.toNat=92 then [92,b] else if b.toNat=10 then [92,110] else if b.toNat=9 then [92,116] else if b.toNat < 32∨b.toNat=127 then [92,120,Xfl.getD (b.toNat / 16) 0,Xfl.getD (b.toNat % 16) 0] else [b]
def Xes (s:List UInt8):List UInt8:=34 :: s.flatMap Xdv
def Xc1 (s:List UInt8):List UInt8:=Xes s++[34]
theorem XlT (b:UInt8):(Xdv b).length≤4:=by
 unfold Xdv
 repeat' (first|(split)|(simp;done)|fail)
theorem Xf3 (s:List UInt8):(Xes s).length≤4*s.length+1:=by
 unfold Xes
 rw [Xqy]
 induction s with
 | nil=>simp
 | cons b s ih=>have:=XlT b;simp only [List.flatMap_cons,XqH,Xqy] at ih ⊢;omega
theorem XgQ (s:List UInt8) (k:Nat) (h:k < s.length):Xes (s.take (k+1))=Xes (s.take k)++Xdv s[k]:=by
 unfold Xes;rw [Xce s k h,List.flatMap_append,XqG];simp
theorem Xit:Xfl.length=16:=rfl
theorem XdU (n:Nat):(n:Int) / 16=((n / 16:Nat):Int):=rfl
theorem XdV (n:Nat):(n:Int) % 16=((n % 16:Nat):Int):=rfl
theorem Src.bytes {ρ:Operand→AV} {H:List Hp} {x:Operand} (q:Nat) (l:List UInt8) {ad:Option Addr} {n cap:Nat} {e:TypeId} {size:Nat} {cells:List AV} (hx:ρ x=.x (.slice ad n cap)) (hq:H[q]?=some (.row ad n cap e size cells)) (hn:n=l.length) (hc:cells=u8a l):Src ρ H x l.length (u8a l):=by
 subst hn hc;exact Src.row q hx hq
theorem Xol (s:List UInt8) (hl:s.length≤2000000):Xbb Tryz.prog 69 [] [.x (.string (bs s))] (fun r H'=>r=.x (.string (bs (Xc1 s)))∧H'=[]):=by
 refine XaI Tryz.func69 rfl ?_
 simp only [Tryz.ntmps69,Xqy,XqB,XqC,XqD,XqG,XqF,Nat.reduceAdd,Nat.reduceSub]
 (repeat' (first|with_reducible (first|refine Xal ?_|refine Xac ?_|refine Xat ?_|refine Xae ?_|refine Xaa ?_)|((apply Xad rfl);(case h=>((try (intro (hp:(_:Bool)=true);((try simp only [Bool.and_eq_true,Bool.not_eq_true',Bool.not_eq_true] at hp);(try simp only [hp,wte]);(try simp only [whn] at hp))));(apply Xab 0 rfl;(exact Xao _ rfl))));(case hT=>((try simp only [wtn,Xqz,Xqw,Xqx,XqA,XqE,Nat.reduceAdd,Nat.reduceMul,Nat.reduceSub,↓reduceIte,Nat.reduceEqDiff]);rfl)))|(refine Xah rfl ?_;((refine Xav 17 rfl ?_;(refine XaA _ _ _ _ _ _ _ _ rfl Xa5.out (by first|rfl|fail) rfl (by decide) rfl (fun b=>?_)));apply Xag;(case hT=>((try simp only [wtn,Xqz,Xqw,Xqx,XqA,XqE,Nat.reduceAdd,Nat.reduceMul,Nat.reduceSub,↓reduceIte,Nat.reduceEqDiff]);rfl));(case hH=>((try simp only [wtn,Xqz,Xqw,Xqx,XqA,XqE,Nat.reduceAdd,Nat.reduceMul,Nat.reduceSub,↓reduceIte,Nat.reduceEqDiff]);rfl))))|fail))
 refine Xba (S:=Nat × Option Addr × Nat) (fun q=>frm 66 [(0,.x (.string (bs s))),(3,.x (.string (bs Xfl))),(4,.x (.slice q.2.1 (Xes (s.take q.1)).length q.2.2)),(5,.x (.int .i64 q.1))]) (fun q=>[.row q.2.1 (Xes (s.take q.1)).length q.2.2 5 1 (u8a (Xes (s.take q.1)))]) (fun q=>q.1≤s.length) (fun q=>s.length - q.1) (0,some ⟨b,0,none⟩,1) ?a (Nat.zero_le _) fun q hq=>?_
 case a=>exact (XaH.mk' [] _ (Xqv _) (XaF.refl _ _) (by (repeat' (first|exact VwL.nil|(refine VwL.cons ?_ ?_)|exact Vw.refl _|exact Vw.top _|fail))))
 obtain ⟨k,ad,cap⟩:=q
 simp only at hq
 have hsl:=Xf3 (s.take k)
 rw [List.length_take] at hsl
 have hdl:=Xit
 simp only [frm,XqC,XqD,Xqw,Xqx,XqJ,XqK]
 by_cases hk:k < s.length
 ·have hsu:=Lib.hid (XgQ s k hk)
  have hbk:=UInt8.toNat_lt s[k]
  have hb16:s[k].toNat / 16 < 16:=by omega
  have hb16m:s[k].toNat % 16 < 16:=by omega
  (repeat' (first|with_reducible (first|refine Xal ?_|refine Xac ?_|refine Xat ?_|refine Xaw ?_|refine Xae ?_|refine Xaa ?_|refine Xaj ?_)|(refine Xai _ rfl (fun h=>?_) (fun h=>?_)<;>((try (simp only [whn] at h));first|(exfalso;omega;done)|skip))|((first|apply Xad rfl|apply XaV _ _ rfl rfl rfl);(case h=>((try (intro (hp:(_:Bool)=true);((try simp only [Bool.and_eq_true,Bool.not_eq_true',Bool.not_eq_true] at hp);(try simp only [hp,wte]);(try simp only [whn] at hp))));(first|(apply Xab 0 rfl;(first|exact Xas _ rfl|exact Xao _ rfl))|(apply Xab 1 rfl;(exact Xcv _ _ _ _ _ rfl rfl rfl rfl))|(apply Xab 8 rfl;(exact XaJ _ _ _ _ _ _ _ rfl rfl rfl (by kernel_rfl) rfl (by omega)))|(apply XaB;(case hs=>(intro _ _ h;cases h));(case hx=>rfl);(case hrun=>(intro w;simp [wtb,AV.val,go_sem];(try go_bits);rfl))))));(case hT=>((try simp (disch:=assumption) only [wtn,Xf6,XhS,Xqz,Xqw,Xqx,XqA,XqE,Nat.reduceAdd,Nat.reduceMul,Nat.reduceSub,↓reduceIte,Nat.reduceEqDiff]);rfl)))|(refine Xah rfl ?_;((first|(refine Xav 13 rfl ?_;(refine XaM _ _ _ _ _ _ _ _ _ _ _ _ _ _ rfl rfl XbR.out (Src.row _ rfl XbR.out) Xa5.out (by first|rfl|fail) (XdI _ _ (by omega) (by decide)) (fun ad cap=>?_)))|(refine Xav 17 rfl ?_;(refine XaA _ _ _ _ _ _ _ _ rfl Xa5.out (by first|rfl|fail) rfl (by decide) rfl (fun b=>?_))));apply Xag;(case hT=>((try simp (disch:=omega) only [wtn,Xf6,XhS,Xqz,Xqw,Xqx,XqA,XqE,Nat.reduceAdd,Nat.reduceMul,Nat.reduceSub,↓reduceIte,Nat.reduceEqDiff]);rfl));(case hH=>((try simp (disch:=omega) only [wtn,Xf6,XhS,Xqz,Xqw,Xqx,XqA,XqE,Nat.reduceAdd,Nat.reduceMul,Nat.reduceSub,↓reduceIte,Nat.reduceEqDiff]);rfl))))|fail))
  ·have e:Xes (s.take (k+1))=Xes (s.take k)++[92,s[k]]:=by
    rw [hsu.out];congr 1;unfold Xdv;rw [if_pos (by omega)]
   refine ⟨(k+1,ad,cap),by simp only;omega,by simp only;omega,?_⟩
   simp only [e,Xdi,Xdr,Xej,XqH,Xqy,XqB]
   exact (XaH.mk' [_] [_] (Xqv _) (XaF.refl _ _) (by (repeat' (first|exact VwL.nil|(refine VwL.cons ?_ ?_)|exact Vw.refl _|exact Vw.top _|fail))))
  ·have e:Xes (s.take (k+1))=Xes (s.take k)++[92,110]:=by
    rw [hsu.out];congr 1;unfold Xdv;rw [if_neg (by omega),if_pos (by omega)]
   refine ⟨(k+1,ad,cap),by simp only;omega,by simp only;omega,?_⟩
   simp only [e,Xdi,Xdr,Xej,XqH,Xqy,XqB]
   exact (XaH.mk' [_] [_] (Xqv _) (XaF.refl _ _) (by (repeat' (first|exact VwL.nil|(refine VwL.cons ?_ ?_)|exact Vw.refl _|exact Vw.top _|fail))))
  ·have e:Xes (s.take (k+1))=Xes (s.take k)++[92,116]:=by
    rw [hsu.out];congr 1;unfold Xdv;rw [if_neg (by omega),if_neg (by omega),if_pos (by omega)]
   refine ⟨(k+1,ad,cap),by simp only;omega,by simp only;omega,?_⟩
   simp only [e,Xdi,Xdr,Xej,XqH,Xqy,XqB]
   exact (XaH.mk' [_] [_] (Xqv _) (XaF.refl _ _) (by (repeat' (first|exact VwL.nil|(refine VwL.cons ?_ ?_)|exact Vw.refl _|exact Vw.top _|fail))))
  ·refine XcV mixed ?_
   (apply XbC 0 rfl rfl (by kernel_rfl) (by intro c T H hp;simp [XaO,Xap,XaU,XbF] at hp);(case h=>(first|exact Xa4 _ rfl|fail));(apply XaT;(case hT=>((try simp (disch:=first|omega|fail) only [wtn,XdU,XdV,Xqz,Xqw,Xqx,XqA,XqE,Nat.reduceAdd,Nat.reduceMul,Nat.reduceSub,↓reduceIte,Nat.reduceEqDiff]);rfl));(case hH=>rfl)));(apply XbC 1 rfl rfl (by kernel_rfl) (by intro c T H hp;simp [XaO,Xap,XaU,XbF] at hp);(case h=>(first|exact Xa4 _ rfl|fail));(apply XaT;(case hT=>((try simp (disch:=first|omega|fail) only [wtn,XdU,XdV,Xqz,Xqw,Xqx,XqA,XqE,Nat.reduceAdd,Nat.reduceMul,Nat.reduceSub,↓reduceIte,Nat.reduceEqDiff]);rfl));(case hH=>rfl)));(apply XbC 2 rfl rfl (by kernel_rfl) (by intro c T H hp;simp [XaO,Xap,XaU,XbF] at hp);(case h=>(first|exact Xa4 _ rfl|fail));(apply XaT;(case hT=>((try simp (disch:=first|omega|fail) only [wtn,XdU,XdV,Xqz,Xqw,Xqx,XqA,XqE,Nat.reduceAdd,Nat.reduceMul,Nat.reduceSub,↓reduceIte,Nat.reduceEqDiff]);rfl));(case hH=>rfl)));(apply XbC 3 rfl rfl (by kernel_rfl) (by intro c T H hp;simp [XaO,Xap,XaU,XbF] at hp);(case h=>(first|(apply XmN;(case hs=>(intro _ _ h;cases h));(case hx=>rfl);(case hrun=>(intro w;simp [wtb,AV.val,go_sem];(try go_bits);rfl)))|fail));(apply XaT;(case hT=>((try simp (disch:=first|omega|fail) only [wtn,XdU,XdV,Xqz,Xqw,Xqx,XqA,XqE,Nat.reduceAdd,Nat.reduceMul,Nat.reduceSub,↓reduceIte,Nat.reduceEqDiff]);rfl));(case hH=>rfl)));(apply XbC 4 rfl rfl (by kernel_rfl) (by intro c T H hp;simp [XaO,Xap,XaU,XbF] at hp);(case h=>(first|exact Xcq _ _ _ _ _ _ _ rfl rfl rfl (by kernel_rfl) rfl (by omega)|fail));(apply XaT;(case hT=>((try simp (disch:=first|omega|fail) only [wtn,XdU,XdV,Xqz,Xqw,Xqx,XqA,XqE,Nat.reduceAdd,Nat.reduceMul,Nat.reduceSub,↓reduceIte,Nat.reduceEqDiff]);rfl));(case hH=>rfl)));(apply XbC 5 rfl rfl (by kernel_rfl) (by intro c T H hp;simp [XaO,Xap,XaU,XbF] at hp);(case h=>(first|exact Xa4 _ rfl|fail));(apply XaT;(case hT=>((try simp (disch:=first|omega|fail) only [wtn,XdU,XdV,Xqz,Xqw,Xqx,XqA,XqE,Nat.reduceAdd,Nat.reduceMul,Nat.reduceSub,↓reduceIte,Nat.reduceEqDiff]);rfl));(case hH=>rfl)));(apply XbC 6 rfl rfl (by kernel_rfl) (by intro c T H hp;simp [XaO,Xap,XaU,XbF] at hp);(case h=>(first|exact Xa4 _ rfl|fail));(apply XaT;(case hT=>((try simp (disch:=first|omega|fail) only [wtn,XdU,XdV,Xqz,Xqw,Xqx,XqA,XqE,Nat.reduceAdd,Nat.reduceMul,Nat.reduceSub,↓reduceIte,Nat.reduceEqDiff]);rfl));(case hH=>rfl)));(apply XbC 7 rfl rfl (by kernel_rfl) (by intro c T H hp;simp [XaO,Xap,XaU,XbF] at hp);(case h=>(first|(apply XmN;(case hs=>(intro _ _ h;cases h));(case hx=>rfl);(case hrun=>(intro w;simp [wtb,AV.val,go_sem];(try go_bits);rfl)))|fail));(apply XaT;(case hT=>((try simp (disch:=first|omega|fail) only [wtn,XdU,XdV,Xqz,Xqw,Xqx,XqA,XqE,Nat.reduceAdd,Nat.reduceMul,Nat.reduceSub,↓reduceIte,Nat.reduceEqDiff]);rfl));(case hH=>rfl)));(apply XbC 8 rfl rfl (by kernel_rfl) (by intro c T H hp;simp [XaO,Xap,XaU,XbF] at hp);(case h=>(first|exact Xcq _ _ _ _ _ _ _ rfl rfl rfl (by kernel_rfl) rfl (by omega)|fail));(apply XaT;(case hT=>((try simp (disch:=first|omega|fail) only [wtn,XdU,XdV,Xqz,Xqw,Xqx,XqA,XqE,Nat.reduceAdd,Nat.reduceMul,Nat.reduceSub,↓reduceIte,Nat.reduceEqDiff]);rfl));(case hH=>rfl)))
   (repeat ((first|refine XeN 9 (by decide +kernel) rfl rfl ?_|refine XeN 10 (by decide +kernel) rfl rfl ?_|refine XeN 11 (by decide +kernel) rfl rfl ?_|fail);(first|(apply Xbx;(case h=>(apply Xab 0 rfl;(exact Xao _ rfl)));(apply XaT;(case hT=>((try simp only [wtn,Xqz,Xqw,Xqx,XqA,XqE,Nat.reduceAdd,Nat.reduceMul,Nat.reduceSub,↓reduceIte,Nat.reduceEqDiff]);rfl));(case hH=>rfl)))|((first|(refine Xav 13 rfl ?_;(refine XaM _ _ _ _ _ _ _ _ _ _ _ _ _ _ rfl rfl XbR.out (Src.row _ rfl XbR.out) Xa5.out (by first|rfl|fail) (XdI _ _ (by omega) (by decide)) (fun ad cap=>?_)))|(refine Xav 17 rfl ?_;(refine XaA _ _ _ _ _ _ _ _ rfl Xa5.out (by first|rfl|fail) rfl (by decide) rfl (fun b=>?_))));apply XaT;(case hT=>((try simp only [wtn,Xqz,Xqw,Xqx,XqA,XqE,Nat.reduceAdd,Nat.reduceMul,Nat.reduceSub,↓reduceIte,Nat.reduceEqDiff]);rfl));(case hH=>((try simp only [wtn,Xqz,Xqw,Xqx,XqA,XqE,Nat.reduceAdd,Nat.reduceMul,Nat.reduceSub,↓reduceIte,Nat.reduceEqDiff]);rfl)))|fail)))
   refine Xb2 (by decide +kernel) ?_
   (repeat' (first|with_reducible (first|refine Xac ?_|refine Xae ?_|refine Xaa ?_|refine Xaj ?_)|((apply Xad rfl);(case h=>((try (intro (hp:(_:Bool)=true);((try simp only [Bool.and_eq_true,Bool.not_eq_true',Bool.not_eq_true] at hp);(try simp only [hp,wte]);(try simp only [whn] at hp))));(first|(apply Xab 0 rfl;(first|exact Xas _ rfl|exact Xao _ rfl))|(apply XaB;(case hs=>(intro _ _ h;cases h));(case hx=>rfl);(case hrun=>(intro w;simp [wtb,AV.val,go_sem];(try go_bits);rfl))))));(case hT=>((try simp only [wtn,Xqz,Xqw,Xqx,XqA,XqE,Nat.reduceAdd,Nat.reduceMul,Nat.reduceSub,↓reduceIte,Nat.reduceEqDiff]);rfl)))|fail))
   have e:Xes (s.take (k+1))=Xes (s.take k)++[92,120,Xfl.getD (s[k].toNat / 16) 0,Xfl.getD (s[k].toNat % 16) 0]:=by
    rw [hsu.out];congr 1;unfold Xdv;rw [if_neg (by omega),if_neg (by omega),if_neg (by omega),if_pos (by omega)]
   refine ⟨(k+1,ad,cap),by simp only;omega,by simp only;omega,?_⟩
   simp only [e,Xdi,Xdr,Xej,XqH,Xqy,XqB]
   exact (XaH.mk' [_] [_] (Xqv _) (XaF.refl _ _) (by (repeat' (first|exact VwL.nil|(refine VwL.cons ?_ ?_)|exact Vw.refl _|exact Vw.top _|fail))))
  ·have e:Xes (s.take (k+1))=Xes (s.take k)++[s[k]]:=by
    rw [hsu.out];congr 1;unfold Xdv;rw [if_neg (by omega),if_neg (by omega),if_neg (by omega),if_neg (by omega)]
   refine ⟨(k+1,ad,cap),by simp only;omega,by simp only;omega,?_⟩
   simp only [e,Xdi,Xdr,Xej,XqH,Xqy,XqB]
   exact (XaH.mk' [_] [_] (Xqv _) (XaF.refl _ _) (by (repeat' (first|exact VwL.nil|(refine VwL.cons ?_ ?_)|exact Vw.refl _|exact Vw.top _|fail))))
 ·obtain rfl:k=s.length:=by omega
  (repeat' (first|with_reducible (first|refine Xal ?_|refine Xac ?_|refine Xaq ?_|refine XaY ?_|refine Xae ?_|refine Xaa ?_|refine XaG ?_|refine XaC ?_)|(refine Xai _ rfl (fun h=>?_) (fun h=>?_)<;>first|(exact absurd h (by decide))|((try (simp only [whn] at h));skip))|((apply Xad rfl);(case h=>((try (intro (hp:(_:Bool)=true);((try simp only [Bool.and_eq_true,Bool.not_eq_true',Bool.not_eq_true] at hp);(try simp only [hp,wte]);(try simp only [whn] at hp))));(first|(apply Xab 0 rfl;(first|exact Xas _ rfl|exact Xao _ rfl))|(apply Xab 12 rfl;(exact XbN _ _ 5 _ (Xes (s.take s.length)++[34]) rfl (by kernel_rfl) (by kernel_rfl) (by kernel_rfl) (Src.bytes 1 _ rfl rfl (by simp;done) (by simp only [Xdi,Xdr,Xej];rfl))))|(apply XaB;(case hs=>(intro _ _ h;cases h));(case hx=>rfl);(case hrun=>(intro w;simp [wtb,AV.val,go_sem];(try go_bits);rfl))))));(case hT=>((try simp only [wtn,Xqz,Xqw,Xqx,XqA,XqE,Nat.reduceAdd,Nat.reduceMul,Nat.reduceSub,↓reduceIte,Nat.reduceEqDiff]);rfl)))|(refine Xah rfl ?_;((first|(refine Xav 13 rfl ?_;(refine XaM _ _ _ _ _ _ _ _ _ _ _ _ _ _ rfl rfl XbR.out (Src.row _ rfl XbR.out) Xa5.out (by first|rfl|fail) (XdI _ _ (by omega) (by decide)) (fun ad cap=>?_)))|(refine Xav 17 rfl ?_;(refine XaA _ _ _ _ _ _ _ _ rfl Xa5.out (by first|rfl|fail) rfl (by decide) rfl (fun b=>?_))));apply Xag;(case hT=>((try simp only [wtn,Xqz,Xqw,Xqx,XqA,XqE,Nat.reduceAdd,Nat.reduceMul,Nat.reduceSub,↓reduceIte,Nat.reduceEqDiff]);rfl));(case hH=>((try simp only [wtn,Xqz,Xqw,Xqx,XqA,XqE,Nat.reduceAdd,Nat.reduceMul,Nat.reduceSub,↓reduceIte,Nat.reduceEqDiff]);rfl))))|fail))
  refine Xaf _ _ (XcL rfl (RV.tmp _) (XaH.mk' [_,_] [] (Xqv _) (XaF.refl _ _) (by first|exact VwL.refl _ _|fail))) ?_
  refine ⟨?_,rfl⟩
  simp only [ev,List.getD_cons_succ,List.getD_cons_zero,List.take_length,Xc1]
theorem XfP (s:List UInt8):(Xc1 s).length≤4*s.length+2:=by
 unfold Xc1;rw [XqH];have:=Xf3 s;simp;omega
theorem Xe7 {P:Tok→Prop} (hE:∀p q:Nat,P ⟨6,[],p,q⟩) (hO:∀(l:List UInt8) a t m,one l=.ok (a,t,m)→∀p q:Nat,P ⟨a,t,p,q⟩):∀(n:Nat) (p:Nat × Nat) (i:Nat) (l:List UInt8) (ts:List Tok),l.length≤n→Xb1 p i l=.ok ts→∀t∈ts,P t
 | n,p,i,l,ts,hn,h=>by
   cases hd:l.drop (skp l) with
   | nil=>
     rw [XcI p i l hd] at h;cases h
     simpa using hE _ _
   | cons c r=>
     have hlen:=congrArg List.length hd
     simp only [List.length_drop,Xqy] at hlen
     cases h1:one (c :: r) with
     | error e=>rw [XcZ p i l c r e hd h1] at h;cases h
     | ok x=>
       by_cases hi:2000≤i
       ·rw [XcD p i l c r x hd h1 hi] at h;cases h
       ·obtain ⟨a,t,m⟩:=x
        obtain ⟨g1,g2,g3,g4⟩:=Xen h1
        simp only at g1 g2 g3 g4
        rw [XcJ p i l c r a t m hd h1 g1 (by omega)] at h
        cases hr:Xb1 (plc p (l.take (skp l+m))) (i+1) ((c :: r).drop m) with
        | error e=>rw [hr] at h;cases h
        | ok y=>
          rw [hr] at h
          simp only [Except.map] at h
          cases h
          cases n with
          | zero=>omega
          | succ n=>
            have ht:=Xe7 hE hO n _ _ _ y (by simp only [List.length_drop,Xqy];omega) hr
            intro t ht2
            rcases List.mem_cons.1 ht2 with rfl|ht2
            ·exact hO _ _ _ _ h1 _ _
            ·exact ht t ht2
theorem XmH (p:UInt8→Bool) (l:List UInt8):l.take (spn p l)=l.takeWhile p:=(List.prefix_iff_eq_take.1 (List.takeWhile_prefix p)).symm
theorem Xoe {l:List UInt8} {a:Int} {t:List UInt8} {m:Nat} (h:one l=.ok (a,t,m)):a=2→t.length≤18∧XdJ t:=by
 intro ha
 subst ha
 cases l with
 | nil=>simp [one] at h
 | cons c r=>
   simp only [one] at h
   split at h
   ·cases h
   ·split at h
    ·split at h
     ·cases h
     ·rename_i h2
      cases h
      rw [XmH]
      refine ⟨?_,fun x hx=>?_⟩
      ·have:((c :: r).takeWhile Xa0).length=spn Xa0 (c :: r):=rfl
       omega
      ·have:=List.all_takeWhile (p:=Xa0) (l:=c :: r)
       have hx':=(List.all_eq_true.1 this) x hx
       simpa [Xa0] using hx'
    ·split at h
     ·split at h<;>cases h
     ·split at h
      ·split at h<;>cases h
      ·split at h<;>cases h
theorem Xjo (l:List UInt8) (ts:List Tok) (h:lex l=.ok ts):XoK ts∧XpF ts:=by
 have hf:=(XdY l).2 ts h
 unfold lex at h
 split at h
 ·cases h
 ·rename_i hl
  refine ⟨Xe7 (P:=fun t=>t.kind=2→t.text.length≤18∧XdJ t.text) (fun p q h=>by simp at h) (fun l a t m h p q=>Xoe h) l.length (1,1) 0 l ts (Nat.le_refl _) h,?_⟩
  obtain ⟨qs,e,rfl,he,hq,ht⟩:=XeC l.length (1,1) 0 l ts (Nat.le_refl _) h
  exact fun t h=>Nat.le_trans (ht t h) (by omega)
theorem Got.no {α:Type} {ts:List Tok} {s s':PS} {x:Except Flt (α × Nat)} {v:α} (h:Got ts s x s' v) (he:s.e=0) (hb:s'.e≠0):∃f:Flt,x=.error f∧f.code≠0∧s'.e=f.code∧s'.l=f.line∧s'.c=f.col:=by
 have h':=h.2.2.2 he
 cases x with
 | ok p=>exfalso;rw [h'.2] at hb;exact hb rfl
 | error f=>exact ⟨f,rfl,h'⟩
end Go.Proofs.YtdpobjakdplljaaGreatDoor

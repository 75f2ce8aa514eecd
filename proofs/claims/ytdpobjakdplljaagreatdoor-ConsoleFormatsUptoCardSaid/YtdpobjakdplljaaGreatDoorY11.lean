import Derived.Test.YtdpobjakdplljaaGreatDoorY10
import Derived.Test.YtdpobjakdplljaaGreatDoorY8
import Derived.Test.YtdpobjakdplljaaGreatDoorRows
import Derived.Test.YtdpobjakdplljaaGreatDoorY0
import Derived.Lib.AppendZeros
/- The tokens of a text, one after the other: what lies read. No program in sight. -/
set_option linter.unusedSimpArgs false
set_option linter.unusedVariables false
set_option maxRecDepth 100000
set_option maxHeartbeats 8000000
namespace Go.Proofs.YtdpobjakdplljaaGreatDoor
open Go.RowKit
theorem Xf3 (p:Nat × Nat) (a b:List UInt8):plc p (a++b)=plc (plc p a) b:=by
 induction a generalizing p with
 | nil=>rfl
 | cons c a ih=>simp only [XvG,plc];exact ih _
theorem XfH (l:List UInt8) (k s:Nat):plc (plc (1,1) (l.take k)) ((l.drop k).take s)=plc (1,1) (l.take (k+s)):=by
 rw [←Xf3,←List.take_add]
theorem Xs8 (l:List UInt8):skp l≤l.length:=by
 induction h:l.length using Nat.strongRecOn generalizing l with
 | _ n ih=>
   cases l with
   | nil=>simp [XgJ]
   | cons c r=>
     by_cases h1:c.toNat=32∨c.toNat=9∨c.toNat=10∨c.toNat=13
     ·rw [Xe5 c r h1]
      have:=ih r.length (by simp at h;omega) r rfl
      simp at h;omega
     ·by_cases h2:c.toNat=35
      ·rw [XkQ c r h2]
       have h3:=Xfg c r (by omega)
       have:=ih ((c :: r).drop (cmt (c :: r))).length (by simp at h ⊢;omega) _ rfl
       have h4:=Xrn (c :: r)
       rw [List.length_drop] at this
       omega
      ·rw [XlH c r h1 h2];exact Nat.zero_le _
theorem XfG {l:List UInt8} {x:Int × List UInt8 × Nat} (h:one l=.ok x):1≤x.2.2∧x.2.2≤l.length∧x.2.1.length≤l.length∧x.1≠6:=by
 cases l with
 | nil=>simp [one] at h
 | cons c r=>
   have hs:=fun p=>XhC p (c :: r)
   simp only [one] at h
   split at h
   ·cases h
    rename_i hc
    have:=XeA Xcq c r (by simp [Xcq,hc])
    refine ⟨by simp only;omega,hs _,by simp only [List.length_take];omega,by simp⟩
   ·split at h
    ·rename_i hc
     have:=XeA Xbi c r hc
     split at h
     ·cases h
     ·cases h;refine ⟨by simp only;omega,hs _,by simp only [List.length_take];omega,by simp⟩
    ·split at h
     ·cases hq:quo r with
      | none=>rw [hq] at h;cases h
      | some y=>
        rw [hq] at h;cases h
        have:=XoV r y hq
        simp only [Xvy]
        refine ⟨by omega,by omega,by omega,by simp⟩
     ·split at h
      ·cases hq:sla r with
       | none=>rw [hq] at h;cases h
       | some y=>
         rw [hq] at h;cases h
         have:=XjC r y hq
         simp only [Xvy]
         refine ⟨by omega,by omega,by omega,by simp⟩
      ·split at h
       ·cases h;simp
       ·cases h
structure XiA (l:List UInt8) (k:Nat) (ts:List Tok):Prop where
 le:k≤l.length
 cnt:ts.length≤2000
 eq:Xci (1,1) 0 l=(Xci (plc (1,1) (l.take k)) ts.length (l.drop k)).map (ts++·)
theorem XdB {ε α:Type} (x:Except ε α) (f:α→α) (h:∀a,f a=a):x.map f=x:=by cases x<;>simp [Except.map,h]
theorem XiA.start (l:List UInt8):XiA l 0 [] where
 le:=Nat.zero_le _
 cnt:=Nat.zero_le _
 eq:=by simp [plc,XdB]
section
variable {l:List UInt8} {k:Nat} {ts:List Tok}
def nxk (l:List UInt8) (k:Nat):Nat:=k+skp (l.drop k)
theorem Xrx (h:k≤l.length):nxk l k≤l.length:=by
 have:=Xs8 (l.drop k)
 rw [List.length_drop] at this
 unfold nxk;omega
theorem XiA.fin (h:XiA l k ts) (he:l.length≤nxk l k):Xci (1,1) 0 l=.ok (ts++[⟨6,[],(plc (1,1) (l.take (nxk l k))).1,(plc (1,1) (l.take (nxk l k))).2⟩]):=by
 have hd:(l.drop k).drop (skp (l.drop k))=[]:=by
  rw [List.drop_drop];exact List.drop_eq_nil_of_le (by unfold nxk at he;omega)
 rw [h.eq,XcU _ _ _ hd]
 have:plc (plc (1,1) (l.take k)) (l.drop k)=plc (1,1) (l.take (nxk l k)):=by
  have h2:=XfH l k (l.length - k)
  rw [List.take_of_length_le (show (l.drop k).length≤l.length - k by rw [List.length_drop];exact Nat.le_refl _),List.take_of_length_le (show l.length≤k+(l.length - k) by omega)] at h2
  rw [h2,List.take_of_length_le he]
 rw [this];rfl
theorem XiA.cons (h:XiA l k ts) (he:nxk l k < l.length):∃c r,l.drop (nxk l k)=c :: r∧(l.drop k).drop (skp (l.drop k))=c :: r:=by
 refine ⟨l[nxk l k],l.drop (nxk l k+1),List.drop_eq_getElem_cons he,?_⟩
 rw [List.drop_drop];exact List.drop_eq_getElem_cons he
theorem XiA.bad (h:XiA l k ts) {c:UInt8} {r:List UInt8} (hc:(l.drop k).drop (skp (l.drop k))=c :: r) {e:Int} (h1:one (c :: r)=.error e):Xci (1,1) 0 l=.error ⟨e,(plc (1,1) (l.take (nxk l k))).1,(plc (1,1) (l.take (nxk l k))).2⟩:=by
 rw [h.eq,Xdt _ _ _ c r e hc h1,XfH];rfl
theorem XiA.full (h:XiA l k ts) {c:UInt8} {r:List UInt8} (hc:(l.drop k).drop (skp (l.drop k))=c :: r) {x:Int × List UInt8 × Nat} (h1:one (c :: r)=.ok x) (hn:2000≤ts.length):Xci (1,1) 0 l=.error ⟨1,(plc (1,1) (l.take (nxk l k))).1,(plc (1,1) (l.take (nxk l k))).2⟩:=by
 rw [h.eq,Xc3 _ _ _ c r x hc h1 hn,XfH];rfl
theorem XiA.next (h:XiA l k ts) {c:UInt8} {r:List UInt8} (hc:(l.drop k).drop (skp (l.drop k))=c :: r) {a:Int} {t:List UInt8} {m:Nat} (h1:one (c :: r)=.ok (a,t,m)) (hn:ts.length < 2000) :
  XiA l (nxk l k+m) (ts++[⟨a,t,(plc (1,1) (l.take (nxk l k))).1,(plc (1,1) (l.take (nxk l k))).2⟩]):=by
 obtain ⟨g1,g2,g3,g4⟩:=XfG h1
 simp only at g1 g2
 have hlen:=congrArg List.length hc
 simp only [List.length_drop] at hlen
 have hle:=h.le
 refine ⟨by unfold nxk;omega,by simp;omega,?_⟩
 rw [h.eq,Xda _ _ _ c r a t m hc h1 g1 hn,XfH,XfH]
 have e1:(c :: r).drop m=l.drop (nxk l k+m):=by rw [←hc,List.drop_drop,List.drop_drop];congr 1;unfold nxk;omega
 rw [e1,show k+(skp (l.drop k)+m)=nxk l k+m from by unfold nxk;omega]
 simp only [XvH,Xvy,XvB,Nat.zero_add]
 cases Xci (plc (1,1) (l.take (nxk l k+m))) (ts.length+1) (l.drop (nxk l k+m)) with
 | error e=>rfl
 | ok y=>simp only [Except.map,nxk,List.append_assoc,List.singleton_append]
end
theorem Xf0:∀(n:Nat) (p:Nat × Nat) (i:Nat) (l:List UInt8) (ts:List Tok),l.length≤n→Xci p i l=.ok ts→∃qs e,ts=qs++[e]∧e.kind=6∧(∀t∈qs,t.kind≠6)∧∀t∈ts,t.text.length≤l.length
 | n,p,i,l,ts,hn,h=>by
   cases hd:l.drop (skp l) with
   | nil=>
     rw [XcU p i l hd] at h;cases h
     exact ⟨[],_,rfl,rfl,by simp,by simp⟩
   | cons c r=>
     have hlen:=congrArg List.length hd
     simp only [List.length_drop,Xvy] at hlen
     cases h1:one (c :: r) with
     | error e=>rw [Xdt p i l c r e hd h1] at h;cases h
     | ok x=>
       by_cases hi:2000≤i
       ·rw [Xc3 p i l c r x hd h1 hi] at h;cases h
       ·obtain ⟨a,t,m⟩:=x
        obtain ⟨g1,g2,g3,g4⟩:=XfG h1
        simp only at g1 g2 g3 g4
        rw [Xda p i l c r a t m hd h1 g1 (by omega)] at h
        cases hr:Xci (plc p (l.take (skp l+m))) (i+1) ((c :: r).drop m) with
        | error e=>rw [hr] at h;cases h
        | ok y=>
          rw [hr] at h
          simp only [Except.map] at h
          cases h
          cases n with
          | zero=>omega
          | succ n=>
            obtain ⟨qs,e,rfl,he,has,ht⟩:=Xf0 n _ _ _ y (by simp only [List.length_drop,Xvy];omega) hr
            refine ⟨_ :: qs,e,rfl,he,?_,?_⟩
            ·intro t ht
             rcases List.mem_cons.1 ht with rfl|ht
             ·exact g4
             ·exact has t ht
            ·intro t ht2
             rcases List.mem_cons.1 ht2 with rfl|ht2
             ·show t.length≤l.length
              rw [Xvy] at g3;omega
             ·have:=ht t ht2
              rw [List.length_drop,Xvy] at this;omega
open Go.RowKit
section
variable (t:List UInt8)
end
theorem Xot (y x:List UInt8) (p:Nat × Nat) (n:Nat) (h:skp (y++x)=y.length+skp x):Xci p n (y++x)=Xci (plc p y) n x:=by
 have hdr:(y++x).drop (skp (y++x))=x.drop (skp x):=by
  rw [h,List.drop_append,List.drop_eq_nil_of_le (by omega),XvF];congr 1;omega
 have hpl:∀k,plc p ((y++x).take (skp (y++x)+k))=plc (plc p y) (x.take (skp x+k)):=fun k=>by
  rw [←Xf3,h,List.take_append,List.take_of_length_le (by omega)];congr 2;congr 1;omega
 have hp0:=hpl 0
 simp only [Nat.add_zero] at hp0
 cases ht:x.drop (skp x) with
 | nil=>rw [XcU _ _ _ (hdr.trans ht),XcU _ _ _ ht,←Xf3]
 | cons c r=>
   cases h1:one (c :: r) with
   | error e=>rw [Xdt _ _ _ c r e (hdr.trans ht) h1,Xdt _ _ _ c r e ht h1,hp0]
   | ok z=>
     by_cases hn:2000≤n
     ·rw [Xc3 _ _ _ c r z (hdr.trans ht) h1 hn,Xc3 _ _ _ c r z ht h1 hn,hp0]
     ·obtain ⟨a,b,q⟩:=z
      have g:=XfG h1
      rw [Xda _ _ _ c r a b q (hdr.trans ht) h1 g.1 (by omega),Xda _ _ _ c r a b q ht h1 g.1 (by omega),hpl,hp0]
def PL (a b:Nat × Nat):Prop:=a.1 < b.1∨a.1=b.1∧a.2 < b.2
theorem PL.tr {a b c:Nat × Nat} (h:PL a b) (k:PL b c):PL a c:=by unfold PL at *;omega
def Asc (q:Nat × Nat):List Tok→Prop
 | []=>True
 | t :: ts=>PL q (t.line,t.col)∧Asc (t.line,t.col) ts
theorem Asc.get:∀{ts:List Tok} {q:Nat × Nat},Asc q ts→∀(k:Nat) (h:k+1 < ts.length),PL (ts[k].line,ts[k].col) (ts[k+1].line,ts[k+1].col)
 | [],_,_,k,h=>by simp at h
 | [t],_,_,k,h=>by simp at h
 | t :: u :: ts,q,hA,0,h=>hA.2.1
 | t :: u :: ts,q,hA,k+1,h=>Asc.get hA.2 k (by simpa using h)
def TR (d:Nat) (c:Bool) (x y:Tok):Prop:=y.kind=x.kind∧y.text=x.text∧y.line=x.line+d∧(c=true→y.col=x.col)
def TRs (d:Nat) (c:Bool):List Tok→List Tok→Prop
 | [],[]=>True
 | x :: xs,y :: ys=>TR d c x y∧TRs d c xs ys
 | _,_=>False
theorem TRs.len {d:Nat} {c:Bool}:∀{xs ys:List Tok},TRs d c xs ys→ys.length=xs.length
 | [],[],_=>rfl
 | x :: xs,y :: ys,h=>by simp [TRs.len h.2]
 | [],y :: ys,h=>h.elim
 | x :: xs,[],h=>h.elim
theorem TRs.get {d:Nat} {c:Bool}:∀{xs ys:List Tok},TRs d c xs ys→∀(k:Nat) (h1:k < xs.length) (h2:k < ys.length),TR d c xs[k] ys[k]
 | [],[],_,k,h1,_=>by simp at h1
 | x :: xs,y :: ys,h,0,_,_=>h.1
 | x :: xs,y :: ys,h,k+1,h1,h2=>TRs.get h.2 k (by simpa using h1) (by simpa using h2)
 | [],y :: ys,h,_,_,_=>h.elim
 | x :: xs,[],h,_,_,_=>h.elim
open Go.RowKit
def Xhi:List UInt8:=[48,49,50,51,52,53,54,55,56,57,97,98,99,100,101,102]
def Xes (b:UInt8):List UInt8:=if b.toNat=34∨b.toNat=92 then [92,b] else if b.toNat=10 then [92,110] else if b.toNat=9 then [92,116] else if b.toNat < 32∨b.toNat=127 then [92,120,Xhi.getD (b.toNat / 16) 0,Xhi.getD (b.toNat % 16) 0] else [b]
def XfY (s:List UInt8):List UInt8:=34 :: s.flatMap Xes
def XcE (s:List UInt8):List UInt8:=XfY s++[34]
theorem XpT (b:UInt8):(Xes b).length≤4:=by
 unfold Xes
 repeat' (first|(split)|(simp;done)|fail)
theorem XhX (s:List UInt8):(XfY s).length≤4*s.length+1:=by
 unfold XfY
 rw [Xvy]
 induction s with
 | nil=>simp
 | cons b s ih=>have:=XpT b;simp only [List.flatMap_cons,XvH,Xvy] at ih ⊢;omega
theorem XiZ (s:List UInt8) (k:Nat) (h:k < s.length):XfY (s.take (k+1))=XfY (s.take k)++Xes s[k]:=by
 unfold XfY;rw [Xa0 s k h,List.flatMap_append,XvG];simp
theorem XpR:Xhi.length=16:=rfl
theorem XeU (n:Nat):(n:Int) / 16=((n / 16:Nat):Int):=rfl
theorem XeV (n:Nat):(n:Int) % 16=((n % 16:Nat):Int):=rfl
theorem Src.bytes {ρ:Operand→AV} {H:List Hp} {x:Operand} (q:Nat) (l:List UInt8) {ad:Option Addr} {n cap:Nat} {e:TypeId} {size:Nat} {cells:List AV} (hx:ρ x=.x (.slice ad n cap)) (hq:H[q]?=some (.row ad n cap e size cells)) (hn:n=l.length) (hc:cells=u8a l):Src ρ H x l.length (u8a l):=by
 subst hn hc;exact Src.row q hx hq
theorem XkH (s:List UInt8) (hl:s.length≤2000000):Xa3 Tryz.prog 69 [] [.x (.string (bs s))] (fun r H'=>r=.x (.string (bs (XcE s)))∧H'=[]):=by
 refine XaD Tryz.func69 rfl ?_
 simp only [Tryz.ntmps69,Xvy,XvB,XvC,XvD,XvG,XvF,Nat.reduceAdd,Nat.reduceSub]
 (repeat' (first|with_reducible (first|refine Xag ?_|refine Xac ?_|refine Xao ?_|refine Xae ?_|refine Xaa ?_)|((apply Xad rfl);(case h=>((try (intro (hp:(_:Bool)=true);((try simp only [Bool.and_eq_true,Bool.not_eq_true',Bool.not_eq_true] at hp);(try simp only [hp,wte]);(try simp only [whn] at hp))));(apply Xab 0 rfl;(exact Xan _ rfl))));(case hT=>((try simp only [wtn,Xvz,Xvw,Xvx,XvA,XvE,Nat.reduceAdd,Nat.reduceMul,Nat.reduceSub,↓reduceIte,Nat.reduceEqDiff]);rfl)))|(refine Xai rfl ?_;((refine Xas 17 rfl ?_;(refine XaE _ _ _ _ _ _ _ _ rfl XaY.out (by first|rfl|fail) rfl (by decide) rfl (fun b=>?_)));apply Xah;(case hT=>((try simp only [wtn,Xvz,Xvw,Xvx,XvA,XvE,Nat.reduceAdd,Nat.reduceMul,Nat.reduceSub,↓reduceIte,Nat.reduceEqDiff]);rfl));(case hH=>((try simp only [wtn,Xvz,Xvw,Xvx,XvA,XvE,Nat.reduceAdd,Nat.reduceMul,Nat.reduceSub,↓reduceIte,Nat.reduceEqDiff]);rfl))))|fail))
 refine XaQ (S:=Nat × Option Addr × Nat) (fun q=>frm 66 [(0,.x (.string (bs s))),(3,.x (.string (bs Xhi))),(4,.x (.slice q.2.1 (XfY (s.take q.1)).length q.2.2)),(5,.x (.int .i64 q.1))]) (fun q=>[.row q.2.1 (XfY (s.take q.1)).length q.2.2 5 1 (u8a (XfY (s.take q.1)))]) (fun q=>q.1≤s.length) (fun q=>s.length - q.1) (0,some ⟨b,0,none⟩,1) ?a (Nat.zero_le _) fun q hq=>?_
 case a=>exact (XaH.mk' [] _ (Xvv _) (XaB.refl _ _) (by (repeat' (first|exact VwL.nil|(refine VwL.cons ?_ ?_)|exact Vw.refl _|exact Vw.top _|fail))))
 obtain ⟨k,ad,cap⟩:=q
 simp only at hq
 have hsl:=XhX (s.take k)
 rw [List.length_take] at hsl
 have hdl:=XpR
 simp only [frm,XvC,XvD,Xvw,Xvx,XvJ,XvK]
 by_cases hk:k < s.length
 ·have hsu:=Lib.hid (XiZ s k hk)
  have hbk:=UInt8.toNat_lt s[k]
  have hb16:s[k].toNat / 16 < 16:=by omega
  have hb16m:s[k].toNat % 16 < 16:=by omega
  (repeat' (first|with_reducible (first|refine Xag ?_|refine Xac ?_|refine Xao ?_|refine Xau ?_|refine Xae ?_|refine Xaa ?_|refine Xaj ?_)|(refine Xak _ rfl (fun h=>?_) (fun h=>?_)<;>((try (simp only [whn] at h));first|(exfalso;omega;done)|skip))|((first|apply Xad rfl|apply Xa8 _ _ rfl rfl rfl);(case h=>((try (intro (hp:(_:Bool)=true);((try simp only [Bool.and_eq_true,Bool.not_eq_true',Bool.not_eq_true] at hp);(try simp only [hp,wte]);(try simp only [whn] at hp))));(first|(apply Xab 0 rfl;(first|exact Xap _ rfl|exact Xan _ rfl))|(apply Xab 1 rfl;(exact XdJ _ _ _ _ _ rfl rfl rfl rfl))|(apply Xab 8 rfl;(exact Xbb _ _ _ _ _ _ _ rfl rfl rfl (by kernel_rfl) rfl (by omega)))|(apply XaC;(case hs=>(intro _ _ h;cases h));(case hx=>rfl);(case hrun=>(intro w;simp [wtb,AV.val,go_sem];(try go_bits);rfl))))));(case hT=>((try simp (disch:=assumption) only [wtn,Xet,Xfk,Xvz,Xvw,Xvx,XvA,XvE,Nat.reduceAdd,Nat.reduceMul,Nat.reduceSub,↓reduceIte,Nat.reduceEqDiff]);rfl)))|(refine Xai rfl ?_;((first|(refine Xas 13 rfl ?_;(refine XaP _ _ _ _ _ _ _ _ _ _ _ _ _ _ rfl rfl Xb3.out (Src.row _ rfl Xb3.out) XaY.out (by first|rfl|fail) (XdQ _ _ (by omega) (by decide)) (fun ad cap=>?_)))|(refine Xas 17 rfl ?_;(refine XaE _ _ _ _ _ _ _ _ rfl XaY.out (by first|rfl|fail) rfl (by decide) rfl (fun b=>?_))));apply Xah;(case hT=>((try simp (disch:=omega) only [wtn,Xet,Xfk,Xvz,Xvw,Xvx,XvA,XvE,Nat.reduceAdd,Nat.reduceMul,Nat.reduceSub,↓reduceIte,Nat.reduceEqDiff]);rfl));(case hH=>((try simp (disch:=omega) only [wtn,Xet,Xfk,Xvz,Xvw,Xvx,XvA,XvE,Nat.reduceAdd,Nat.reduceMul,Nat.reduceSub,↓reduceIte,Nat.reduceEqDiff]);rfl))))|fail))
  ·have e:XfY (s.take (k+1))=XfY (s.take k)++[92,s[k]]:=by
    rw [hsu.out];congr 1;unfold Xes;rw [if_pos (by omega)]
   refine ⟨(k+1,ad,cap),by simp only;omega,by simp only;omega,?_⟩
   simp only [e,Xcz,Xcl,Xdn,XvH,Xvy,XvB]
   exact (XaH.mk' [_] [_] (Xvv _) (XaB.refl _ _) (by (repeat' (first|exact VwL.nil|(refine VwL.cons ?_ ?_)|exact Vw.refl _|exact Vw.top _|fail))))
  ·have e:XfY (s.take (k+1))=XfY (s.take k)++[92,110]:=by
    rw [hsu.out];congr 1;unfold Xes;rw [if_neg (by omega),if_pos (by omega)]
   refine ⟨(k+1,ad,cap),by simp only;omega,by simp only;omega,?_⟩
   simp only [e,Xcz,Xcl,Xdn,XvH,Xvy,XvB]
   exact (XaH.mk' [_] [_] (Xvv _) (XaB.refl _ _) (by (repeat' (first|exact VwL.nil|(refine VwL.cons ?_ ?_)|exact Vw.refl _|exact Vw.top _|fail))))
  ·have e:XfY (s.take (k+1))=XfY (s.take k)++[92,116]:=by
    rw [hsu.out];congr 1;unfold Xes;rw [if_neg (by omega),if_neg (by omega),if_pos (by omega)]
   refine ⟨(k+1,ad,cap),by simp only;omega,by simp only;omega,?_⟩
   simp only [e,Xcz,Xcl,Xdn,XvH,Xvy,XvB]
   exact (XaH.mk' [_] [_] (Xvv _) (XaB.refl _ _) (by (repeat' (first|exact VwL.nil|(refine VwL.cons ?_ ?_)|exact Vw.refl _|exact Vw.top _|fail))))
  ·refine XcH mixed ?_
   (apply Xbj 0 rfl rfl (by kernel_rfl) (by intro c T H hp;simp [XaO,Xat,XaT,Xbr] at hp);(case h=>(first|exact Xbd _ rfl|fail));(apply XaA;(case hT=>((try simp (disch:=first|omega|fail) only [wtn,XeU,XeV,Xvz,Xvw,Xvx,XvA,XvE,Nat.reduceAdd,Nat.reduceMul,Nat.reduceSub,↓reduceIte,Nat.reduceEqDiff]);rfl));(case hH=>rfl)));(apply Xbj 1 rfl rfl (by kernel_rfl) (by intro c T H hp;simp [XaO,Xat,XaT,Xbr] at hp);(case h=>(first|exact Xbd _ rfl|fail));(apply XaA;(case hT=>((try simp (disch:=first|omega|fail) only [wtn,XeU,XeV,Xvz,Xvw,Xvx,XvA,XvE,Nat.reduceAdd,Nat.reduceMul,Nat.reduceSub,↓reduceIte,Nat.reduceEqDiff]);rfl));(case hH=>rfl)));(apply Xbj 2 rfl rfl (by kernel_rfl) (by intro c T H hp;simp [XaO,Xat,XaT,Xbr] at hp);(case h=>(first|exact Xbd _ rfl|fail));(apply XaA;(case hT=>((try simp (disch:=first|omega|fail) only [wtn,XeU,XeV,Xvz,Xvw,Xvx,XvA,XvE,Nat.reduceAdd,Nat.reduceMul,Nat.reduceSub,↓reduceIte,Nat.reduceEqDiff]);rfl));(case hH=>rfl)));(apply Xbj 3 rfl rfl (by kernel_rfl) (by intro c T H hp;simp [XaO,Xat,XaT,Xbr] at hp);(case h=>(first|(apply Xm3;(case hs=>(intro _ _ h;cases h));(case hx=>rfl);(case hrun=>(intro w;simp [wtb,AV.val,go_sem];(try go_bits);rfl)))|fail));(apply XaA;(case hT=>((try simp (disch:=first|omega|fail) only [wtn,XeU,XeV,Xvz,Xvw,Xvx,XvA,XvE,Nat.reduceAdd,Nat.reduceMul,Nat.reduceSub,↓reduceIte,Nat.reduceEqDiff]);rfl));(case hH=>rfl)));(apply Xbj 4 rfl rfl (by kernel_rfl) (by intro c T H hp;simp [XaO,Xat,XaT,Xbr] at hp);(case h=>(first|exact XcL _ _ _ _ _ _ _ rfl rfl rfl (by kernel_rfl) rfl (by omega)|fail));(apply XaA;(case hT=>((try simp (disch:=first|omega|fail) only [wtn,XeU,XeV,Xvz,Xvw,Xvx,XvA,XvE,Nat.reduceAdd,Nat.reduceMul,Nat.reduceSub,↓reduceIte,Nat.reduceEqDiff]);rfl));(case hH=>rfl)));(apply Xbj 5 rfl rfl (by kernel_rfl) (by intro c T H hp;simp [XaO,Xat,XaT,Xbr] at hp);(case h=>(first|exact Xbd _ rfl|fail));(apply XaA;(case hT=>((try simp (disch:=first|omega|fail) only [wtn,XeU,XeV,Xvz,Xvw,Xvx,XvA,XvE,Nat.reduceAdd,Nat.reduceMul,Nat.reduceSub,↓reduceIte,Nat.reduceEqDiff]);rfl));(case hH=>rfl)));(apply Xbj 6 rfl rfl (by kernel_rfl) (by intro c T H hp;simp [XaO,Xat,XaT,Xbr] at hp);(case h=>(first|exact Xbd _ rfl|fail));(apply XaA;(case hT=>((try simp (disch:=first|omega|fail) only [wtn,XeU,XeV,Xvz,Xvw,Xvx,XvA,XvE,Nat.reduceAdd,Nat.reduceMul,Nat.reduceSub,↓reduceIte,Nat.reduceEqDiff]);rfl));(case hH=>rfl)));(apply Xbj 7 rfl rfl (by kernel_rfl) (by intro c T H hp;simp [XaO,Xat,XaT,Xbr] at hp);(case h=>(first|(apply Xm3;(case hs=>(intro _ _ h;cases h));(case hx=>rfl);(case hrun=>(intro w;simp [wtb,AV.val,go_sem];(try go_bits);rfl)))|fail));(apply XaA;(case hT=>((try simp (disch:=first|omega|fail) only [wtn,XeU,XeV,Xvz,Xvw,Xvx,XvA,XvE,Nat.reduceAdd,Nat.reduceMul,Nat.reduceSub,↓reduceIte,Nat.reduceEqDiff]);rfl));(case hH=>rfl)));(apply Xbj 8 rfl rfl (by kernel_rfl) (by intro c T H hp;simp [XaO,Xat,XaT,Xbr] at hp);(case h=>(first|exact XcL _ _ _ _ _ _ _ rfl rfl rfl (by kernel_rfl) rfl (by omega)|fail));(apply XaA;(case hT=>((try simp (disch:=first|omega|fail) only [wtn,XeU,XeV,Xvz,Xvw,Xvx,XvA,XvE,Nat.reduceAdd,Nat.reduceMul,Nat.reduceSub,↓reduceIte,Nat.reduceEqDiff]);rfl));(case hH=>rfl)))
   (repeat ((first|refine Xbp 9 (by decide +kernel) rfl rfl ?_|refine Xbp 10 (by decide +kernel) rfl rfl ?_|refine Xbp 11 (by decide +kernel) rfl rfl ?_|fail);(first|(apply Xba;(case h=>(apply Xab 0 rfl;(exact Xan _ rfl)));(apply XaA;(case hT=>((try simp only [wtn,Xvz,Xvw,Xvx,XvA,XvE,Nat.reduceAdd,Nat.reduceMul,Nat.reduceSub,↓reduceIte,Nat.reduceEqDiff]);rfl));(case hH=>rfl)))|((first|(refine Xas 13 rfl ?_;(refine XaP _ _ _ _ _ _ _ _ _ _ _ _ _ _ rfl rfl Xb3.out (Src.row _ rfl Xb3.out) XaY.out (by first|rfl|fail) (XdQ _ _ (by omega) (by decide)) (fun ad cap=>?_)))|(refine Xas 17 rfl ?_;(refine XaE _ _ _ _ _ _ _ _ rfl XaY.out (by first|rfl|fail) rfl (by decide) rfl (fun b=>?_))));apply XaA;(case hT=>((try simp only [wtn,Xvz,Xvw,Xvx,XvA,XvE,Nat.reduceAdd,Nat.reduceMul,Nat.reduceSub,↓reduceIte,Nat.reduceEqDiff]);rfl));(case hH=>((try simp only [wtn,Xvz,Xvw,Xvx,XvA,XvE,Nat.reduceAdd,Nat.reduceMul,Nat.reduceSub,↓reduceIte,Nat.reduceEqDiff]);rfl)))|fail)))
   refine Xa4 (by decide +kernel) ?_
   (repeat' (first|with_reducible (first|refine Xac ?_|refine Xae ?_|refine Xaa ?_|refine Xaj ?_)|((apply Xad rfl);(case h=>((try (intro (hp:(_:Bool)=true);((try simp only [Bool.and_eq_true,Bool.not_eq_true',Bool.not_eq_true] at hp);(try simp only [hp,wte]);(try simp only [whn] at hp))));(first|(apply Xab 0 rfl;(first|exact Xap _ rfl|exact Xan _ rfl))|(apply XaC;(case hs=>(intro _ _ h;cases h));(case hx=>rfl);(case hrun=>(intro w;simp [wtb,AV.val,go_sem];(try go_bits);rfl))))));(case hT=>((try simp only [wtn,Xvz,Xvw,Xvx,XvA,XvE,Nat.reduceAdd,Nat.reduceMul,Nat.reduceSub,↓reduceIte,Nat.reduceEqDiff]);rfl)))|fail))
   have e:XfY (s.take (k+1))=XfY (s.take k)++[92,120,Xhi.getD (s[k].toNat / 16) 0,Xhi.getD (s[k].toNat % 16) 0]:=by
    rw [hsu.out];congr 1;unfold Xes;rw [if_neg (by omega),if_neg (by omega),if_neg (by omega),if_pos (by omega)]
   refine ⟨(k+1,ad,cap),by simp only;omega,by simp only;omega,?_⟩
   simp only [e,Xcz,Xcl,Xdn,XvH,Xvy,XvB]
   exact (XaH.mk' [_] [_] (Xvv _) (XaB.refl _ _) (by (repeat' (first|exact VwL.nil|(refine VwL.cons ?_ ?_)|exact Vw.refl _|exact Vw.top _|fail))))
  ·have e:XfY (s.take (k+1))=XfY (s.take k)++[s[k]]:=by
    rw [hsu.out];congr 1;unfold Xes;rw [if_neg (by omega),if_neg (by omega),if_neg (by omega),if_neg (by omega)]
   refine ⟨(k+1,ad,cap),by simp only;omega,by simp only;omega,?_⟩
   simp only [e,Xcz,Xcl,Xdn,XvH,Xvy,XvB]
   exact (XaH.mk' [_] [_] (Xvv _) (XaB.refl _ _) (by (repeat' (first|exact VwL.nil|(refine VwL.cons ?_ ?_)|exact Vw.refl _|exact Vw.top _|fail))))
 ·obtain rfl:k=s.length:=by omega
  (repeat' (first|with_reducible (first|refine Xag ?_|refine Xac ?_|refine Xar ?_|refine XaW ?_|refine Xae ?_|refine Xaa ?_|refine XaL ?_|refine XaJ ?_)|(refine Xak _ rfl (fun h=>?_) (fun h=>?_)<;>first|(exact absurd h (by decide))|((try (simp only [whn] at h));skip))|((apply Xad rfl);(case h=>((try (intro (hp:(_:Bool)=true);((try simp only [Bool.and_eq_true,Bool.not_eq_true',Bool.not_eq_true] at hp);(try simp only [hp,wte]);(try simp only [whn] at hp))));(first|(apply Xab 0 rfl;(first|exact Xap _ rfl|exact Xan _ rfl))|(apply Xab 12 rfl;(exact Xbz _ _ 5 _ (XfY (s.take s.length)++[34]) rfl (by kernel_rfl) (by kernel_rfl) (by kernel_rfl) (Src.bytes 1 _ rfl rfl (by simp;done) (by simp only [Xcz,Xcl,Xdn];rfl))))|(apply XaC;(case hs=>(intro _ _ h;cases h));(case hx=>rfl);(case hrun=>(intro w;simp [wtb,AV.val,go_sem];(try go_bits);rfl))))));(case hT=>((try simp only [wtn,Xvz,Xvw,Xvx,XvA,XvE,Nat.reduceAdd,Nat.reduceMul,Nat.reduceSub,↓reduceIte,Nat.reduceEqDiff]);rfl)))|(refine Xai rfl ?_;((first|(refine Xas 13 rfl ?_;(refine XaP _ _ _ _ _ _ _ _ _ _ _ _ _ _ rfl rfl Xb3.out (Src.row _ rfl Xb3.out) XaY.out (by first|rfl|fail) (XdQ _ _ (by omega) (by decide)) (fun ad cap=>?_)))|(refine Xas 17 rfl ?_;(refine XaE _ _ _ _ _ _ _ _ rfl XaY.out (by first|rfl|fail) rfl (by decide) rfl (fun b=>?_))));apply Xah;(case hT=>((try simp only [wtn,Xvz,Xvw,Xvx,XvA,XvE,Nat.reduceAdd,Nat.reduceMul,Nat.reduceSub,↓reduceIte,Nat.reduceEqDiff]);rfl));(case hH=>((try simp only [wtn,Xvz,Xvw,Xvx,XvA,XvE,Nat.reduceAdd,Nat.reduceMul,Nat.reduceSub,↓reduceIte,Nat.reduceEqDiff]);rfl))))|fail))
  refine Xaf _ _ (Xbh rfl (RV.tmp _) (XaH.mk' [_,_] [] (Xvv _) (XaB.refl _ _) (by first|exact VwL.refl _ _|fail))) ?_
  refine ⟨?_,rfl⟩
  simp only [ev,List.getD_cons_succ,List.getD_cons_zero,List.take_length,XcE]
theorem Xlg:∀i:Nat,i < 16→XgV (Xhi.getD i 0)=some i:=by decide
theorem XqG (b:UInt8) (r:List UInt8):∃c t,Xes b=c :: t∧c.toNat≠34∧part (c :: (t++r))=some (b,(Xes b).length):=by
 have hb:=UInt8.toNat_lt b
 unfold Xes
 split
 ·rename_i h
  refine ⟨92,[b],rfl,by decide,?_⟩
  rw [Xb0,if_neg (by decide),if_neg (by decide)]
  show Option.map _ (Xeo (b :: r))=_
  rw [Xgo b r h];rfl
 ·split
  ·rename_i h
   refine ⟨92,[110],rfl,by decide,?_⟩
   rw [Xb0,if_neg (by decide),if_neg (by decide)]
   show Option.map _ (Xeo (110 :: r))=_
   rw [XnW 110 r (by decide),show b=10 from UInt8.toNat_inj.1 (by rw [h];rfl)];rfl
  ·split
   ·rename_i h
    refine ⟨92,[116],rfl,by decide,?_⟩
    rw [Xb0,if_neg (by decide),if_neg (by decide)]
    show Option.map _ (Xeo (116 :: r))=_
    rw [XnY 116 r (by decide),show b=9 from UInt8.toNat_inj.1 (by rw [h];rfl)];rfl
   ·split
    ·refine ⟨92,[120,Xhi.getD (b.toNat / 16) 0,Xhi.getD (b.toNat % 16) 0],rfl,by decide,?_⟩
     rw [Xb0,if_neg (by decide),if_neg (by decide)]
     show Option.map _ (Xeo (120 :: Xhi.getD (b.toNat / 16) 0 :: Xhi.getD (b.toNat % 16) 0 :: r))=_
     rw [Xgp 120 _ _ r (by decide),Xlg _ (by omega),Xlg _ (by omega)]
     simp only [Option.bind_some,Option.map_some,Xvy,XvB]
     rw [show 16*(b.toNat / 16)+b.toNat % 16=b.toNat from by omega,UInt8.ofNat_toNat]
    ·refine ⟨b,[],rfl,by omega,?_⟩
     rw [Xb0,if_neg (by omega),if_pos (by omega)];rfl
theorem Xlx (t:List UInt8):∀s:List UInt8,quo (s.flatMap Xes++34 :: t)=some (s,(s.flatMap Xes).length+1)
 | []=>by rw [List.flatMap_nil,XvF,XgE 34 t (by decide)];rfl
 | b :: s=>by
   obtain ⟨c,u,he,h34,hp⟩:=XqG b (s.flatMap Xes++34 :: t)
   have hl:(Xes b).length=u.length+1:=by rw [he];rfl
   rw [List.flatMap_cons,List.append_assoc,he,XvG,Xeg c _ b _ h34 hp,hl,List.drop_succ_cons,List.drop_left,Xlx t s]
   simp only [Option.map_some,XvH,Xvy]
   congr 2<;>omega
theorem elB:Xde Tryz.prog 39 5 (.int .u8 0) 1 1:=⟨Tryz.underlying39,by kernel_rfl,rfl,by decide⟩
end Go.Proofs.YtdpobjakdplljaaGreatDoor

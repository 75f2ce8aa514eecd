import Derived.Test.YtdpobjakdplljaaGreatDoorU7
import Derived.Test.YtdpobjakdplljaaGreatDoorU6
/- Of the tokens of a text: how lexGo unfolds. No program in sight. -/
set_option linter.unusedSimpArgs false
set_option linter.unusedVariables false
set_option maxRecDepth 100000
set_option maxHeartbeats 8000000
namespace Go.Proofs.YtdpobjakdplljaaGreatDoor
open Go.RowKit
theorem XcI (p:Nat × Nat) (n:Nat) (l:List UInt8) (h:l.drop (skp l)=[]):Xb1 p n l=.ok [⟨6,[],(plc p l).1,(plc p l).2⟩]:=by
 rw [Xb1]
 split
 ·rfl
 ·rename_i h2;rw [h] at h2;cases h2
theorem XcZ (p:Nat × Nat) (n:Nat) (l:List UInt8) (c:UInt8) (r:List UInt8) (e:Int) (h:l.drop (skp l)=c :: r) (h1:one (c :: r)=.error e):Xb1 p n l=.error ⟨e,(plc p (l.take (skp l))).1,(plc p (l.take (skp l))).2⟩:=by
 rw [Xb1]
 split
 ·rename_i h2;rw [h] at h2;cases h2
 ·rename_i c' r' h2
  rw [h] at h2;cases h2
  rw [h1]
theorem XcD (p:Nat × Nat) (n:Nat) (l:List UInt8) (c:UInt8) (r:List UInt8) (x:Int × List UInt8 × Nat) (h:l.drop (skp l)=c :: r) (h1:one (c :: r)=.ok x) (hn:2000≤n):Xb1 p n l=.error ⟨1,(plc p (l.take (skp l))).1,(plc p (l.take (skp l))).2⟩:=by
 rw [Xb1]
 split
 ·rename_i h2;rw [h] at h2;cases h2
 ·rename_i c' r' h2
  rw [h] at h2;cases h2
  rw [h1]
  simp only [if_pos hn]
theorem XcJ (p:Nat × Nat) (n:Nat) (l:List UInt8) (c:UInt8) (r:List UInt8) (k:Int) (t:List UInt8) (m:Nat) (h:l.drop (skp l)=c :: r) (h1:one (c :: r)=.ok (k,t,m)) (hm:1≤m) (hn:n < 2000) :
  Xb1 p n l=(Xb1 (plc p (l.take (skp l+m))) (n+1) ((c :: r).drop m)).map (⟨k,t,(plc p (l.take (skp l))).1,(plc p (l.take (skp l))).2⟩ :: ·):=by
 rw [Xb1]
 split
 ·rename_i h2;rw [h] at h2;cases h2
 ·rename_i c' r' h2
  rw [h] at h2;cases h2
  rw [h1]
  simp only [if_neg (show ¬2000≤n by omega),show max m 1=m from by omega]
theorem XeF (p:Nat × Nat) (a b:List UInt8):plc p (a++b)=plc (plc p a) b:=by
 induction a generalizing p with
 | nil=>rfl
 | cons c a ih=>simp only [XqG,plc];exact ih _
theorem Xeo (l:List UInt8) (k s:Nat):plc (plc (1,1) (l.take k)) ((l.drop k).take s)=plc (1,1) (l.take (k+s)):=by
 rw [←XeF,←List.take_add]
theorem Xoo (l:List UInt8):skp l≤l.length:=by
 induction h:l.length using Nat.strongRecOn generalizing l with
 | _ n ih=>
   cases l with
   | nil=>simp [Xgk]
   | cons c r=>
     by_cases h1:c.toNat=32∨c.toNat=9∨c.toNat=10∨c.toNat=13
     ·rw [Xd2 c r h1]
      have:=ih r.length (by simp at h;omega) r rfl
      simp at h;omega
     ·by_cases h2:c.toNat=35
      ·rw [Xic c r h2]
       have h3:=Xec c r (by omega)
       have:=ih ((c :: r).drop (cmt (c :: r))).length (by simp at h ⊢;omega) _ rfl
       have h4:=XmU (c :: r)
       rw [List.length_drop] at this
       omega
      ·rw [XiO c r h1 h2];exact Nat.zero_le _
theorem Xen {l:List UInt8} {x:Int × List UInt8 × Nat} (h:one l=.ok x):1≤x.2.2∧x.2.2≤l.length∧x.2.1.length≤l.length∧x.1≠6:=by
 cases l with
 | nil=>simp [one] at h
 | cons c r=>
   have hs:=fun p=>XfT p (c :: r)
   simp only [one] at h
   split at h
   ·cases h
    rename_i hc
    have:=XdG Xb6 c r (by simp [Xb6,hc])
    refine ⟨by simp only;omega,hs _,by simp only [List.length_take];omega,by simp⟩
   ·split at h
    ·rename_i hc
     have:=XdG Xa0 c r hc
     split at h
     ·cases h
     ·cases h;refine ⟨by simp only;omega,hs _,by simp only [List.length_take];omega,by simp⟩
    ·split at h
     ·cases hq:quo r with
      | none=>rw [hq] at h;cases h
      | some y=>
        rw [hq] at h;cases h
        have:=Xlb r y hq
        simp only [Xqy]
        refine ⟨by omega,by omega,by omega,by simp⟩
     ·split at h
      ·cases hq:sla r with
       | none=>rw [hq] at h;cases h
       | some y=>
         rw [hq] at h;cases h
         have:=Xhc r y hq
         simp only [Xqy]
         refine ⟨by omega,by omega,by omega,by simp⟩
      ·split at h
       ·cases h;simp
       ·cases h
structure Xgw (l:List UInt8) (k:Nat) (ts:List Tok):Prop where
 le:k≤l.length
 cnt:ts.length≤2000
 eq:Xb1 (1,1) 0 l=(Xb1 (plc (1,1) (l.take k)) ts.length (l.drop k)).map (ts++·)
theorem Xc5 {ε α:Type} (x:Except ε α) (f:α→α) (h:∀a,f a=a):x.map f=x:=by cases x<;>simp [Except.map,h]
theorem Xgw.start (l:List UInt8):Xgw l 0 [] where
 le:=Nat.zero_le _
 cnt:=Nat.zero_le _
 eq:=by simp [plc,Xc5]
section
variable {l:List UInt8} {k:Nat} {ts:List Tok}
def nxk (l:List UInt8) (k:Nat):Nat:=k+skp (l.drop k)
theorem Xm3 (h:k≤l.length):nxk l k≤l.length:=by
 have:=Xoo (l.drop k)
 rw [List.length_drop] at this
 unfold nxk;omega
theorem Xgw.fin (h:Xgw l k ts) (he:l.length≤nxk l k):Xb1 (1,1) 0 l=.ok (ts++[⟨6,[],(plc (1,1) (l.take (nxk l k))).1,(plc (1,1) (l.take (nxk l k))).2⟩]):=by
 have hd:(l.drop k).drop (skp (l.drop k))=[]:=by
  rw [List.drop_drop];exact List.drop_eq_nil_of_le (by unfold nxk at he;omega)
 rw [h.eq,XcI _ _ _ hd]
 have:plc (plc (1,1) (l.take k)) (l.drop k)=plc (1,1) (l.take (nxk l k)):=by
  have h2:=Xeo l k (l.length - k)
  rw [List.take_of_length_le (show (l.drop k).length≤l.length - k by rw [List.length_drop];exact Nat.le_refl _),List.take_of_length_le (show l.length≤k+(l.length - k) by omega)] at h2
  rw [h2,List.take_of_length_le he]
 rw [this];rfl
theorem Xgw.cons (h:Xgw l k ts) (he:nxk l k < l.length):∃c r,l.drop (nxk l k)=c :: r∧(l.drop k).drop (skp (l.drop k))=c :: r:=by
 refine ⟨l[nxk l k],l.drop (nxk l k+1),List.drop_eq_getElem_cons he,?_⟩
 rw [List.drop_drop];exact List.drop_eq_getElem_cons he
theorem Xgw.bad (h:Xgw l k ts) {c:UInt8} {r:List UInt8} (hc:(l.drop k).drop (skp (l.drop k))=c :: r) {e:Int} (h1:one (c :: r)=.error e):Xb1 (1,1) 0 l=.error ⟨e,(plc (1,1) (l.take (nxk l k))).1,(plc (1,1) (l.take (nxk l k))).2⟩:=by
 rw [h.eq,XcZ _ _ _ c r e hc h1,Xeo];rfl
theorem Xgw.full (h:Xgw l k ts) {c:UInt8} {r:List UInt8} (hc:(l.drop k).drop (skp (l.drop k))=c :: r) {x:Int × List UInt8 × Nat} (h1:one (c :: r)=.ok x) (hn:2000≤ts.length):Xb1 (1,1) 0 l=.error ⟨1,(plc (1,1) (l.take (nxk l k))).1,(plc (1,1) (l.take (nxk l k))).2⟩:=by
 rw [h.eq,XcD _ _ _ c r x hc h1 hn,Xeo];rfl
theorem Xgw.next (h:Xgw l k ts) {c:UInt8} {r:List UInt8} (hc:(l.drop k).drop (skp (l.drop k))=c :: r) {a:Int} {t:List UInt8} {m:Nat} (h1:one (c :: r)=.ok (a,t,m)) (hn:ts.length < 2000) :
  Xgw l (nxk l k+m) (ts++[⟨a,t,(plc (1,1) (l.take (nxk l k))).1,(plc (1,1) (l.take (nxk l k))).2⟩]):=by
 obtain ⟨g1,g2,g3,g4⟩:=Xen h1
 simp only at g1 g2
 have hlen:=congrArg List.length hc
 simp only [List.length_drop] at hlen
 have hle:=h.le
 refine ⟨by unfold nxk;omega,by simp;omega,?_⟩
 rw [h.eq,XcJ _ _ _ c r a t m hc h1 g1 hn,Xeo,Xeo]
 have e1:(c :: r).drop m=l.drop (nxk l k+m):=by rw [←hc,List.drop_drop,List.drop_drop];congr 1;unfold nxk;omega
 rw [e1,show k+(skp (l.drop k)+m)=nxk l k+m from by unfold nxk;omega]
 simp only [XqH,Xqy,XqB,Nat.zero_add]
 cases Xb1 (plc (1,1) (l.take (nxk l k+m))) (ts.length+1) (l.drop (nxk l k+m)) with
 | error e=>rfl
 | ok y=>simp only [Except.map,nxk,List.append_assoc,List.singleton_append]
end
theorem XeC:∀(n:Nat) (p:Nat × Nat) (i:Nat) (l:List UInt8) (ts:List Tok),l.length≤n→Xb1 p i l=.ok ts→∃qs e,ts=qs++[e]∧e.kind=6∧(∀t∈qs,t.kind≠6)∧∀t∈ts,t.text.length≤l.length
 | n,p,i,l,ts,hn,h=>by
   cases hd:l.drop (skp l) with
   | nil=>
     rw [XcI p i l hd] at h;cases h
     exact ⟨[],_,rfl,rfl,by simp,by simp⟩
   | cons c r=>
     have hlen:=congrArg List.length hd
     simp only [List.length_drop,Xqy] at hlen
     cases h1:one (c :: r) with
     | error e=>rw [XcZ p i l c r e hd h1] at h;cases h
     | ok x=>
       by_cases hi:2000≤i
       ·rw [XcD p i l c r x hd h1 hi] at h;cases h
       ·obtain ⟨a,t,m⟩:=x
        obtain ⟨g1,g2,g3,g4⟩:=Xen h1
        simp only at g1 g2 g3 g4
        rw [XcJ p i l c r a t m hd h1 g1 (by omega)] at h
        cases hr:Xb1 (plc p (l.take (skp l+m))) (i+1) ((c :: r).drop m) with
        | error e=>rw [hr] at h;cases h
        | ok y=>
          rw [hr] at h
          simp only [Except.map] at h
          cases h
          cases n with
          | zero=>omega
          | succ n=>
            obtain ⟨qs,e,rfl,he,has,ht⟩:=XeC n _ _ _ y (by simp only [List.length_drop,Xqy];omega) hr
            refine ⟨_ :: qs,e,rfl,he,?_,?_⟩
            ·intro t ht
             rcases List.mem_cons.1 ht with rfl|ht
             ·exact g4
             ·exact has t ht
            ·intro t ht2
             rcases List.mem_cons.1 ht2 with rfl|ht2
             ·show t.length≤l.length
              rw [Xqy] at g3;omega
             ·have:=ht t ht2
              rw [List.length_drop,Xqy] at this;omega
open Go.RowKit
section
variable {P:Program} {f:FuncId} {H:List Hp} {args:List AV}
theorem Xbb.weak {Q Q2:AV→List Hp→Prop} (h:Xbb P f H args Q) (hq:∀r H',Q r H'→∃r2 H2,XaH H' [r] H2 [r2]∧Q2 r2 H2):Xbb P f H args Q2:=fun V w vs h1 h2 h3 h4=>
 (h V w vs h1 h2 h3 h4).mono fun e w' ⟨r,H',v,q,he,hd,hok,hfr,hown⟩=>by
  obtain ⟨r2,H2,hw,q2⟩:=hq r H' q
  obtain ⟨k1,k2,k3⟩:=Xef (vs:=[v]) hok (by rw [XaN];exact ⟨v,[],rfl,hd,by rw [XaN]⟩) hw
  have k2':=k2.get' 0 r2 v rfl rfl
  exact ⟨r2,H2,v,q2,he,k2',k1,hfr,fun x hx k hk=>by
   obtain ⟨y,hy,e⟩:=k3 x hx k hk
   exact hown y hy k e⟩
theorem law_walk (h:Xbb P f [] args (fun r H'=>r=.x (.bool true)∧H'=[])) (W:World) (hg:Gw W) (vs:Array Value) (hd:XaN (fun _=>False) W args vs.toList):Calls P f vs W fun e w'=>e=.returned (.bool true)∧Ext W w':=by
 have:=h (fun _=>False) W vs.toList (fun _ h=>h.elim) ⟨by simp,List.Pairwise.nil,by simp⟩ (hd.weak fun k hk=>by rcases hk with hk|⟨x,hx,_⟩;exact hk;cases hx) ⟨fun k _ ⟨x,hx,_⟩=>(by cases hx),hg⟩
 refine this.mono fun e w' ⟨r,H',v,⟨hr,_⟩,he,hdv,_,hfr,_⟩=>?_
 subst hr
 rw [Den] at hdv
 subst hdv
 refine ⟨he,Fr.ext ⟨hfr.os,hfr.tape,hfr.output,hfr.size,fun k hk hn=>hfr.block k hk fun ⟨x,hx,_⟩=>by cases hx⟩⟩
end
theorem XaN.cons' {F:Nat→Prop} {W:World} {a:AV} {l:List AV} {v:Value} {vs:List Value} (h:Den F W a v) (k:XaN F W l vs):XaN F W (a :: l) (v :: vs):=by rw [XaN];exact ⟨v,vs,rfl,h,k⟩
theorem XaN.nil' {F:Nat→Prop} {W:World}:XaN F W [] []:=by rw [XaN]
theorem Xer {F:Nat→Prop} {W:World} (v:Value):Den F W (.x v) v:=by rw [Den]
theorem Xny {F:Nat→Prop} {W:World} (a:Int):Den F W (.x (.int .i64 a)) (.int .i64 a):=Xer _
section
variable {P:Program} {o:Oper} {ρ:Operand→AV} {H:List Hp}
theorem XoN (a b:List UInt8):bs a++bs b=bs (a++b):=by
 apply ByteArray.ext
 simp [bs]
/-! Operations on memory that nobody writes, whose results hang on no memory. -/
theorem Xb9 {x y:Operand} (t t2:TypeId) (a b:List UInt8) (ho:o.op=.binOp .add t x y t2) (hx:ρ x=.x (.string (bs a))) (hy:ρ y=.x (.string (bs b))) (hl:a.length+b.length≤1000000000):Evl P o ρ H (.x (.string (bs (a++b)))):=by
 apply XaB
 case hs=>(intro cs b h;rw [ho] at h;cases h)
 case hx=>simp [ho,Op.operands,hx,hy,AV.ex]
 case hrun=>
  intro w
  have h1:(bs a).size=a.length:=by simp [bs,ByteArray.size]
  have h2:(bs b).size=b.length:=by simp [bs,ByteArray.size]
  have h3:(a.length:Int)+(b.length:Int)≤9223372036854775807:=by omega
  simp [execOp,ho,hx,hy,AV.val,go_sem,Op.stringOp,h1,h2,h3,XoN]
end
open Go.RowKit
theorem XmM {P:Program} {f:FuncId} {args:List Value} {v:Value} (h:∀w,Calls P f args.toArray w fun e w'=>e=.returned v∧w'=w) (H:List Hp):Xbb P f H (args.map .x) fun r H'=>r=.x v∧H'=H:=
 XbY (fun w=>(h w).mono fun e w' ⟨h1,h2⟩=>⟨h1,h2▸Below.refl _ _⟩) H
theorem XiN (l:List UInt8) (hl:l.length≤1000000):Xbb Tryz.prog 54 [] [.x (.string (bs l))] (fun r H'=>r=.x (.int .i64 (skp l:Nat))∧H'=[]):=XmM (args:=[.string (bs l)]) (fun w=>Xlg l w hl) []
theorem Xgt (l:List UInt8) (n:Nat) (hl:l.length≤1000000) (hn:n≤l.length):Xbb Tryz.prog 55 [] [.x (.string (bs l)),.x (.int .i64 n)] (fun r H'=>r=.tup [.x (.int .i64 ((plc (1,1) (l.take n)).1:Nat)),.x (.int .i64 ((plc (1,1) (l.take n)).2:Nat))]∧H'=[]):=
 (XmM (args:=[.string (bs l),.int .i64 n]) (fun w=>Xjy l n w hl hn) []).weak fun r H' ⟨h1,h2⟩=>⟨_,_,by subst h1 h2;exact XaH.mk' [] [] (Xqv _) XaF.nil (VwL.cons (Vw.tupx (l:=[_,_]) (VwL.refl _ _)) VwL.nil),rfl,rfl⟩
def XpD (x:Except Int (Int × List UInt8 × Nat)):AV:=match x with
 | .error e=>.tup [.x (.int .i64 0),.x (.string (bs [])),.x (.int .i64 0),.x (.int .i64 e)]
 | .ok x=>.tup [.x (.int .i64 x.1),.x (.string (bs x.2.1)),.x (.int .i64 (x.2.2:Nat)),.x (.int .i64 0)]
theorem XpW (l:List UInt8) (hl:l.length≤1000000) (h0:l≠[]):Xbb Tryz.prog 56 [] [.x (.string (bs l))] (fun r H'=>r=XpD (one l)∧H'=[]):=by
 cases l with
 | nil=>exact absurd rfl h0
 | cons c r=>
   refine (XbY (args:=[.string (bs (c :: r))]) (fun w=>Xmx c r w (by simp at hl;omega)) []).weak fun q H' ⟨h1,h2⟩=>?_
   subst h1 h2
   refine ⟨_,_,XaH.mk' [] [] (Xqv _) XaF.nil (VwL.cons ?_ VwL.nil),rfl,rfl⟩
   unfold XpD XeE
   cases one (c :: r) with
   | error e=>exact Vw.tupx (l:=[_,_,_,_]) (VwL.refl _ _)
   | ok x=>exact Vw.tupx (l:=[_,_,_,_]) (VwL.refl _ _)
def Tok.cells (t:Tok):List AV:=[.x (.int .i64 t.kind),.x (.string (bs t.text)),.x (.int .i64 (t.line:Nat)),.x (.int .i64 (t.col:Nat))]
def ta (l:List Tok):List AV:=l.flatMap Tok.cells
@[simp] theorem Xqk (l:List Tok):(ta l).length=l.length*4:=by
 induction l with
 | nil=>rfl
 | cons j l ih=>simp only [ta,List.flatMap_cons,XqH,Xqy] at ih ⊢;rw [ih];simp [Tok.cells];omega
theorem XiQ (l m:List Tok):ta (l++m)=ta l++ta m:=by simp [ta]
theorem Xov (l:List Tok) (k:Nat) (h:k < l.length):(ta l).drop (k*4)=l[k].cells++ta (l.drop (k+1)):=by
 induction l generalizing k with
 | nil=>simp at h
 | cons j l ih=>
   have hc:j.cells.length=4:=rfl
   cases k with
   | zero=>simp [ta]
   | succ k=>
     simp only [ta,List.flatMap_cons,List.drop_succ_cons,List.getElem_cons_succ] at ih ⊢
     rw [show (k+1)*4=4+k*4 from by omega,←List.drop_drop,List.drop_append_of_le_length (by omega),show j.cells.drop 4=[] from rfl,XqF]
     exact ih k (by simpa using h)
def Xd4:Except Flt (List Tok)→List Tok|.ok l=>l|.error _=>[]
def XhO:Except Flt (List Tok)→Flt|.ok _=>⟨0,0,0⟩|.error f=>f
def Flt.av (f:Flt):AV:=.x (.agg #[.int .i64 f.code,.int .i64 (f.line:Nat),.int .i64 (f.col:Nat)])
theorem Xb7 (l:List UInt8) (k:Nat):(k:Int)+(skp (l.drop k):Nat)=(nxk l k:Nat):=by unfold nxk;omega
theorem Xk0 {l:List UInt8} {e:Int} (h:one l=.error e):50≤e∧e≤53:=by
 cases l with
 | nil=>simp [one] at h;omega
 | cons c r=>
   simp only [one] at h
   repeat' (first|(split at h)|(cases h;done)|(cases h;omega)|fail)
   all_goals (first|(cases h;omega)|fail)
theorem XpG (l:List UInt8) (hl:l.length≤1000000):Xbb Tryz.prog 27 [] [.x (.string (bs l))] (fun r H'=>r=.tup [.sq (Xd4 (lex l)).length (ta (Xd4 (lex l))),(XhO (lex l)).av]∧H'=[]):=by
 refine XaI Tryz.func27 rfl ?_
 simp only [Tryz.ntmps27,Xqy,XqB,XqC,XqD,XqG,XqF,Nat.reduceAdd,Nat.reduceSub]
 (repeat' (first|with_reducible (first|refine Xal ?_|refine Xac ?_|refine Xat ?_|refine Xaq ?_|refine Xaw ?_|refine Xae ?_|refine Xaa ?_|refine Xam ?_)|(refine Xai _ rfl (fun h=>?_) (fun h=>?_)<;>((try (simp only [whn] at h));skip))|((apply Xad rfl);(case h=>(first|(apply Xab 0 rfl;(first|exact Xas _ rfl|exact Xao _ rfl))|(apply Xab 10 rfl;(exact XaQ _ _ _ _ _ rfl HPl.out (by first|rfl|fail) rfl))|(apply XaB;(case hs=>(intro _ _ h;cases h));(case hx=>rfl);(case hrun=>(intro w;simp [wtb,AV.val,go_sem];skip;rfl)))));(case hT=>((try simp only [wtn,↓reduceIte]);rfl)))|(refine Xah rfl ?_;((first|(refine Xav 14 rfl ?_;(refine XaE _ _ rfl Xbu.out rfl (fun b=>?_)))|(refine Xav 16 rfl ?_;(refine Xax _ _ _ _ _ _ _ rfl rfl Xa3.out XaX.out (by first|rfl|fail) (by first|exact Xqu rfl|fail) ?_)));apply Xag;(case hT=>((try simp only [wtn]);rfl));(case hH=>((try simp only [wtn,Nat.reduceAdd]);rfl))))|fail))
 case hK.h.hK.hK.hK.refine_1.hK.hK.h=>
  have e:lex l=.error ⟨1,0,0⟩:=by unfold lex;rw [if_pos (by omega)]
  rw [e]
  refine Xaf _ _ (XcA rfl (RV.tmp _) (RV.cell 0 rfl rfl XaZ.out (by simp) (by simp)) (XaH.mk' [_] [] (Xqv _) XaF.nil (VwL.cons Vw.nil (VwL.refl _ _)))) ?_
  exact ⟨rfl,rfl⟩
 have hlex:lex l=Xb1 (1,1) 0 l:=by unfold lex;rw [if_neg (by omega)]
 rw [hlex]
 refine Xcm 111 4 ?_
 refine Xba (S:=Nat × List Tok × Option Addr × Nat) (fun s=>frm 72 [(0,.x (.string (bs l))),(3,.x (.pointer (some ⟨b,0,none⟩))),(4,.x (.slice s.2.2.1 s.2.1.length s.2.2.2)),(5,.x (.int .i64 s.1))])
  (fun s=>[.row s.2.2.1 s.2.1.length s.2.2.2 111 4 (ta s.2.1),.box b [.x (.int .i64 0),.x (.int .i64 0),.x (.int .i64 0)]]) (fun s=>Xgw l s.1 s.2.1) (fun s=>l.length - s.1) (0,[],none,0) ?a (Xgw.start l) fun s hs=>?_
 case a=>exact (XaH.mk' [] _ (Xqv _) (XaF.refl _ _) (by (repeat' (first|exact VwL.nil|(refine VwL.cons ?_ ?_)|exact Vw.refl _|exact Vw.top _|fail))))
 obtain ⟨k,ts,ad,cap⟩:=s
 simp only at hs
 have hk:=hs.le
 have hnk:=Xm3 (l:=l) hk
 have hcn:=hs.cnt
 have hk2:k≤nxk l k:=by unfold nxk;omega
 have hsk:k+skp (l.drop k)≤l.length:=hnk
 have hs':=Lib.hid hs
 have hlex':=Lib.hid hlex
 clear hs hlex
 simp only [frm,XqC,XqD,Xqw,Xqx,XqJ,XqK]
 by_cases he:l.length≤nxk l k
 ·have hfin:=Lib.hid (hs'.out.fin he)
  (repeat' (first|with_reducible (first|refine Xal ?_|refine Xac ?_|refine Xat ?_|refine Xaq ?_|refine Xae ?_|refine Xaa ?_|refine Xam ?_|refine Xak ?_)|(refine Xai _ rfl (fun h=>?_) (fun h=>?_)<;>((try (simp only [whn] at h));first|(exfalso;omega;done)|skip))|((apply Xad rfl);(case h=>(first|(apply Xab 0 rfl;(first|exact Xas _ rfl|exact Xao _ rfl))|(apply Xab 2 rfl;(exact Xay _ _ _ _ rfl rfl rfl))|(apply Xab 9 rfl;(exact XaK _ _ _ _ _ _ _ rfl rfl (by kernel_rfl) (by first|exact .inr ⟨_,_,rfl,rfl⟩|fail) (by first|exact .inl ⟨rfl,rfl⟩|fail) (by omega) (by omega)))|(apply Xab 10 rfl;(exact XaQ _ _ _ _ _ rfl HPl.out (by first|rfl|fail) rfl))|(apply Xab 11 rfl;(first|exact Xan 54 Tryz.f54 _ _ rfl rfl Tryz.func54 (by decide) rfl (VwL.refl _ _) (XiN (l.drop k) (by simp;omega))|exact Xan 55 Tryz.f55 _ _ rfl rfl Tryz.func55 (by decide) rfl (VwL.refl _ _) (Xgt l (nxk l k) hl hnk)))|(apply XaB;(case hs=>(intro _ _ h;cases h));(case hx=>rfl);(case hrun=>(intro w;simp [wtb,AV.val,go_sem];(try go_bits);rfl)))));(case hT=>((try simp (disch:=omega) only [wtn,List.take_length,Xb7,Xqz,Xqw,Xqx,XqA,XqE,Nat.reduceAdd,Nat.reduceMul,Nat.reduceSub,↓reduceIte,Nat.reduceEqDiff]);rfl)))|(refine Xah rfl ?_;((first|(refine Xav 13 rfl ?_;(refine XaM _ _ _ _ _ _ _ _ _ _ _ _ _ _ rfl rfl XbR.out (Src.row _ rfl XbR.out) Xa5.out (by first|rfl|fail) (XdI _ _ (by omega) (by decide)) (fun ad cap=>?_)))|(refine Xav 16 rfl ?_;(refine Xax _ _ _ _ _ _ _ rfl rfl Xa3.out XaX.out (by first|rfl|fail) (by first|exact Xqu rfl|fail) ?_))|(refine Xav 17 rfl ?_;(refine XaA _ _ _ _ _ _ _ _ rfl Xa5.out (by first|rfl|fail) rfl (by decide) rfl (fun b=>?_))));apply Xag;(case hT=>((try simp (disch:=omega) only [wtn,List.take_length,Xb7,Xqz,Xqw,Xqx,XqA,XqE,Nat.reduceAdd,Nat.reduceMul,Nat.reduceSub,↓reduceIte,Nat.reduceEqDiff]);rfl));(case hH=>((try simp (disch:=omega) only [wtn,List.take_length,Xb7,Xqz,Xqw,Xqx,XqA,XqE,Nat.reduceAdd,Nat.reduceMul,Nat.reduceSub,↓reduceIte,Nat.reduceEqDiff]);rfl))))|fail))
  rw [hfin.out]
  refine Xaf _ _ (XcA rfl (RV.tmp _) (RV.cell 2 rfl rfl XaZ.out (by simp) (by simp)) (XaH.mk' [_,_,_] [] (Xqv _) XaF.nil (VwL.cons (Vw.row (List.Mem.tail _ (List.Mem.head _)) (VwL.refl _ _)) (VwL.refl _ _)))) ?_
  refine ⟨?_,rfl⟩
  simp only [Xd4,XhO,Flt.av,XiQ,XqH,Xqy,XqB]
  rfl
 ·obtain ⟨c,r,hc1,hc2⟩:=hs'.out.cons (by omega)
  have ho:=XpW (l.drop (nxk l k)) (by simp;omega) (by rw [hc1];simp)
  have hkl:nxk l k < l.length:=by omega
  cases h1:one (l.drop (nxk l k)) with
  | error e=>
    have he1:=Xk0 h1
    have hb:=Lib.hid (hs'.out.bad hc2 (by rw [←hc1];exact h1))
    rw [h1] at ho
    simp only [XpD] at ho
    clear hc1 hc2 h1
    (repeat' (first|with_reducible (first|refine Xal ?_|refine Xac ?_|refine Xat ?_|refine Xaq ?_|refine Xaw ?_|refine Xae ?_|refine Xaa ?_|refine Xam ?_|refine Xak ?_)|(refine Xai _ rfl (fun h=>?_) (fun h=>?_)<;>((try (simp only [whn] at h));first|(exfalso;omega;done)|skip))|((first|apply Xad rfl|apply XaV _ _ rfl rfl rfl);(case h=>((try (intro (hp:(_:Bool)=true);((try simp only [hp]);(try simp only [whn] at hp))));(first|(apply Xab 0 rfl;(first|exact Xas _ rfl|exact Xao _ rfl))|(apply Xab 1 rfl;(exact Xbo _ _ _ _ _ rfl rfl rfl rfl))|(apply Xab 2 rfl;(exact Xay _ _ _ _ rfl rfl rfl))|(apply Xab 9 rfl;(exact XaK _ _ _ _ _ _ _ rfl rfl (by kernel_rfl) (by first|exact .inr ⟨_,_,rfl,rfl⟩|fail) (by first|exact .inl ⟨rfl,rfl⟩|fail) (by omega) (by omega)))|(apply Xab 10 rfl;(exact XaQ _ _ _ _ _ rfl HPl.out (by first|rfl|fail) rfl))|(apply Xab 11 rfl;(first|exact Xan 54 Tryz.f54 _ _ rfl rfl Tryz.func54 (by decide) rfl (VwL.refl _ _) (XiN (l.drop k) (by simp;omega))|exact Xan 55 Tryz.f55 _ _ rfl rfl Tryz.func55 (by decide) rfl (VwL.refl _ _) (Xgt l (nxk l k) hl hnk)|exact Xan 56 Tryz.f56 _ _ rfl rfl Tryz.func56 (by decide) rfl (VwL.refl _ _) (ho)))|(apply XaB;(case hs=>(intro _ _ h;cases h));(case hx=>rfl);(case hrun=>(intro w;simp [wtb,AV.val,go_sem];(try go_bits);rfl))))));(case hT=>((try simp (disch:=omega) only [wtn,List.take_length,Xb7,Xqz,Xqw,Xqx,XqA,XqE,Nat.reduceAdd,Nat.reduceMul,Nat.reduceSub,↓reduceIte,Nat.reduceEqDiff]);rfl)))|(refine Xah rfl ?_;((refine Xav 16 rfl ?_;(refine Xax _ _ _ _ _ _ _ rfl rfl Xa3.out XaX.out (by first|rfl|fail) (by first|exact Xqu rfl|fail) ?_));apply Xag;(case hT=>((try simp (disch:=omega) only [wtn,List.take_length,Xb7,Xqz,Xqw,Xqx,XqA,XqE,Nat.reduceAdd,Nat.reduceMul,Nat.reduceSub,↓reduceIte,Nat.reduceEqDiff]);rfl));(case hH=>((try simp (disch:=omega) only [wtn,List.take_length,Xb7,Xqz,Xqw,Xqx,XqA,XqE,Nat.reduceAdd,Nat.reduceMul,Nat.reduceSub,↓reduceIte,Nat.reduceEqDiff]);rfl))))|fail))
    rw [hb.out]
    refine Xaf _ _ (XcA rfl (RV.tmp _) (RV.cell 1 rfl rfl XaZ.out (by simp) (by simp)) (XaH.mk' [_,_] [] (Xqv _) XaF.nil (VwL.cons Vw.nil (VwL.refl _ _)))) ?_
    exact ⟨rfl,rfl⟩
  | ok x=>
    obtain ⟨a,t,m⟩:=x
    rw [h1] at ho
    simp only [XpD] at ho
    obtain ⟨g1,g2,g3,g4⟩:=Xen h1
    simp only [List.length_drop] at g1 g2 g3
    by_cases hf:2000≤ts.length
    ·have hb:=Lib.hid (hs'.out.full hc2 (by rw [←hc1];exact h1) hf)
     clear hc1 hc2 h1
     (repeat' (first|with_reducible (first|refine Xal ?_|refine Xac ?_|refine Xat ?_|refine Xaq ?_|refine Xaw ?_|refine Xae ?_|refine Xaa ?_|refine Xam ?_|refine Xak ?_)|(refine Xai _ rfl (fun h=>?_) (fun h=>?_)<;>first|(exact absurd h (by decide))|((try (simp only [whn] at h));first|(exfalso;omega;done)|skip))|((first|apply Xad rfl|apply XaV _ _ rfl rfl rfl);(case h=>((try (intro (hp:(_:Bool)=true);((try simp only [] at hp);skip;skip)));(first|(apply Xab 0 rfl;(first|exact Xas _ rfl|exact Xao _ rfl))|(apply Xab 1 rfl;(exact Xbk _ _ _ rfl rfl))|(apply Xab 2 rfl;(exact Xay _ _ _ _ rfl rfl rfl))|(apply Xab 9 rfl;(exact XaK _ _ _ _ _ _ _ rfl rfl (by kernel_rfl) (by first|exact .inr ⟨_,_,rfl,rfl⟩|fail) (by first|exact .inl ⟨rfl,rfl⟩|fail) (by omega) (by omega)))|(apply Xab 10 rfl;(exact XaQ _ _ _ _ _ rfl HPl.out (by first|rfl|fail) rfl))|(apply Xab 11 rfl;(first|exact Xan 54 Tryz.f54 _ _ rfl rfl Tryz.func54 (by decide) rfl (VwL.refl _ _) (XiN (l.drop k) (by simp;omega))|exact Xan 55 Tryz.f55 _ _ rfl rfl Tryz.func55 (by decide) rfl (VwL.refl _ _) (Xgt l (nxk l k) hl hnk)|exact Xan 56 Tryz.f56 _ _ rfl rfl Tryz.func56 (by decide) rfl (VwL.refl _ _) (ho)))|(apply XaB;(case hs=>(intro _ _ h;cases h));(case hx=>rfl);(case hrun=>(intro w;simp [wtb,AV.val,go_sem];(try go_bits);rfl))))));(case hT=>((try simp (disch:=omega) only [wtn,List.take_length,Xb7,Xqz,Xqw,Xqx,XqA,XqE,Nat.reduceAdd,Nat.reduceMul,Nat.reduceSub,↓reduceIte,Nat.reduceEqDiff]);rfl)))|(refine Xah rfl ?_;((refine Xav 16 rfl ?_;(refine Xax _ _ _ _ _ _ _ rfl rfl Xa3.out XaX.out (by first|rfl|fail) (by first|exact Xqu rfl|fail) ?_));apply Xag;(case hT=>((try simp (disch:=omega) only [wtn,List.take_length,Xb7,Xqz,Xqw,Xqx,XqA,XqE,Nat.reduceAdd,Nat.reduceMul,Nat.reduceSub,↓reduceIte,Nat.reduceEqDiff]);rfl));(case hH=>((try simp (disch:=omega) only [wtn,List.take_length,Xb7,Xqz,Xqw,Xqx,XqA,XqE,Nat.reduceAdd,Nat.reduceMul,Nat.reduceSub,↓reduceIte,Nat.reduceEqDiff]);rfl))))|fail))
     rw [hb.out]
     refine Xaf _ _ (XcA rfl (RV.tmp _) (RV.cell 1 rfl rfl XaZ.out (by simp) (by simp)) (XaH.mk' [_,_] [] (Xqv _) XaF.nil (VwL.cons Vw.nil (VwL.refl _ _)))) ?_
     exact ⟨rfl,rfl⟩
    ·have hb:=Lib.hid (hs'.out.next hc2 (by rw [←hc1];exact h1) (by omega))
     clear hc1 hc2 h1
     (repeat' (first|with_reducible (first|refine Xal ?_|refine Xac ?_|refine Xat ?_|refine Xaw ?_|refine Xae ?_|refine Xaa ?_|refine Xaj ?_)|(refine Xai _ rfl (fun h=>?_) (fun h=>?_)<;>first|(exact absurd h (by decide))|((try (simp only [whn] at h));first|(exfalso;omega;done)|skip))|((first|apply Xad rfl|apply XaV _ _ rfl rfl rfl);(case h=>((try (intro (hp:(_:Bool)=true);((try simp only [] at hp);skip;skip)));(first|(apply Xab 0 rfl;(first|exact Xas _ rfl|exact Xao _ rfl))|(apply Xab 1 rfl;(exact Xbk _ _ _ rfl rfl))|(apply Xab 2 rfl;(exact Xay _ _ _ _ rfl rfl rfl))|(apply Xab 9 rfl;(exact XaK _ _ _ _ _ _ _ rfl rfl (by kernel_rfl) (by first|exact .inr ⟨_,_,rfl,rfl⟩|fail) (by first|exact .inl ⟨rfl,rfl⟩|fail) (by omega) (by omega)))|(apply Xab 10 rfl;(exact XaQ _ _ _ _ _ rfl HPl.out (by first|rfl|fail) rfl))|(apply Xab 11 rfl;(first|exact Xan 54 Tryz.f54 _ _ rfl rfl Tryz.func54 (by decide) rfl (VwL.refl _ _) (XiN (l.drop k) (by simp;omega))|exact Xan 55 Tryz.f55 _ _ rfl rfl Tryz.func55 (by decide) rfl (VwL.refl _ _) (Xgt l (nxk l k) hl hnk)|exact Xan 56 Tryz.f56 _ _ rfl rfl Tryz.func56 (by decide) rfl (VwL.refl _ _) (ho)))|(apply XaB;(case hs=>(intro _ _ h;cases h));(case hx=>rfl);(case hrun=>(intro w;simp [wtb,AV.val,go_sem];(try go_bits);rfl))))));(case hT=>((try simp (disch:=omega) only [wtn,List.take_length,Xb7,Xqz,Xqw,Xqx,XqA,XqE,Nat.reduceAdd,Nat.reduceMul,Nat.reduceSub,↓reduceIte,Nat.reduceEqDiff]);rfl)))|(refine Xah rfl ?_;((first|(refine Xav 13 rfl ?_;(refine XaM _ _ _ _ _ _ _ _ _ _ _ _ _ _ rfl rfl XbR.out (Src.row _ rfl XbR.out) Xa5.out (by first|rfl|fail) (XdI _ _ (by omega) (by decide)) (fun ad cap=>?_)))|(refine Xav 17 rfl ?_;(refine XaA _ _ _ _ _ _ _ _ rfl Xa5.out (by first|rfl|fail) rfl (by decide) rfl (fun b=>?_))));apply Xag;(case hT=>((try simp (disch:=omega) only [wtn,List.take_length,Xb7,Xqz,Xqw,Xqx,XqA,XqE,Nat.reduceAdd,Nat.reduceMul,Nat.reduceSub,↓reduceIte,Nat.reduceEqDiff]);rfl));(case hH=>((try simp (disch:=omega) only [wtn,List.take_length,Xb7,Xqz,Xqw,Xqx,XqA,XqE,Nat.reduceAdd,Nat.reduceMul,Nat.reduceSub,↓reduceIte,Nat.reduceEqDiff]);rfl))))|fail))
     refine ⟨(nxk l k+m,_,ad,cap),by simp only;omega,hb.out,?_⟩
     simp only [XiQ,XqH,Xqy,XqB]
     exact (XaH.mk' [_] [_,_] (Xqv _) (XaF.refl _ _) (by (repeat' (first|exact VwL.nil|(refine VwL.cons ?_ ?_)|exact Vw.refl _|exact Vw.top _|fail))))
theorem Xce {α:Type} (l:List α) (k:Nat) (h:k < l.length):l.take (k+1)=l.take k++[l[k]]:=by
 rw [List.take_succ_eq_append_getElem h]
def sa (l:List (List UInt8)):List AV:=l.map fun s=>.x (.string (bs s))
@[simp] theorem Xqi (l:List (List UInt8)):(sa l).length=l.length:=by simp [sa]
theorem Xlh (l:List (List UInt8)) (k:Nat) (h:k < l.length):(sa l).drop k=.x (.string (bs l[k])) :: sa (l.drop (k+1)):=by
 rw [sa,←List.map_drop,List.drop_eq_getElem_cons h];rfl
theorem XoB (v:Int) (h0:0≤v) (h1:v < 256):u8a [UInt8.ofNat v.toNat]=[.x (.int .u8 v)]:=by
 have e:(UInt8.ofNat v.toNat).toNat=v.toNat:=by
  rw [UInt8.toNat_ofNat']
  exact Nat.mod_eq_of_lt (by omega)
 simp [u8a,u8s,e]
 omega
theorem Src.chr {ρ:Operand→AV} {H:List Hp} {x:Operand} (q:Nat) {ad:Option Addr} {cap:Nat} {e:TypeId} {size:Nat} (v:Int) (h0:0≤v) (h1:v < 256) (hx:ρ x=.x (.slice ad 1 cap)) (hq:H[q]?=some (.row ad 1 cap e size [.x (.int .u8 v)])) :
  Src ρ H x [UInt8.ofNat v.toNat].length (u8a [UInt8.ofNat v.toNat]):=by
 rw [XoB v h0 h1];exact Src.row q hx hq
theorem Xdi (l m:List UInt8):u8a (l++m)=u8a l++u8a m:=by simp [u8a,u8s]
theorem Xdr (b:UInt8) (l:List UInt8):u8a (b :: l)=.x (.int .u8 (b.toNat:Nat)) :: u8a l:=by simp [u8a,u8s]
theorem Xej:u8a []=[]:=rfl
def ra (l:List (Int × Int)):List AV:=l.flatMap fun s=>[.x (.int .i64 s.1),.x (.int .u64 s.2)]
@[simp] theorem Xqh (l:List (Int × Int)):(ra l).length=l.length*2:=by
 induction l with
 | nil=>rfl
 | cons j l ih=>simp only [ra,List.flatMap_cons,XqH,Xqy] at ih ⊢;rw [ih];simp;omega
def ea (l:List (List UInt8 × List UInt8)):List AV:=l.flatMap fun s=>[.x (.string (bs s.1)),.x (.string (bs s.2))]
@[simp] theorem Xqf (l:List (List UInt8 × List UInt8)):(ea l).length=l.length*2:=by
 induction l with
 | nil=>rfl
 | cons j l ih=>simp only [ea,List.flatMap_cons,XqH,Xqy] at ih ⊢;rw [ih];simp;omega
structure JF where
 name:List UInt8
 run:List UInt8
 env:List (List UInt8 × List UInt8)
 needs:List (List UInt8)
 hasr:Bool
 ready:List UInt8
 restart:Int
 base:Int
 cap:Int
 stable:Int
 burst:Int
 window:Int
 ladder:List (Int × Int)
 line:Int
 col:Int
def JF.cells (j:JF):List AV:=[.x (.string (bs j.name)),.x (.string (bs j.run)),.sq j.env.length (ea j.env),.sq j.needs.length (sa j.needs),.x (.bool j.hasr),.x (.string (bs j.ready)),.x (.int .i64 j.restart),.x (.int .u64 j.base),.x (.int .u64 j.cap),.x (.int .u64 j.stable),.x (.int .i64 j.burst),.x (.int .u64 j.window),.sq j.ladder.length (ra j.ladder),.x (.int .i64 j.line),.x (.int .i64 j.col)]
def U64 (v:Int):Prop:=0≤v∧v≤18446744073709551615
structure Xp9 (j:JF):Prop where
 name:j.name.length≤8
 run:j.run.length≤16
 env:j.env.length≤2
 enve:∀p∈j.env,p.1.length≤8∧p.2.length≤8
 needs:j.needs.length≤4
 neede:∀s∈j.needs,s.length≤8
 ready:j.ready.length≤16
 ladder:j.ladder.length≤4
 laddere:∀p∈j.ladder,U64 p.2
 base:U64 j.base
 cap:U64 j.cap
 stable:U64 j.stable
 window:U64 j.window
 burst : -9223372036854775808≤j.burst∧j.burst≤9223372036854775807
def jfa (l:List JF):List AV:=l.flatMap JF.cells
@[simp] theorem XpR (l:List JF):(jfa l).length=l.length*15:=by
 induction l with
 | nil=>rfl
 | cons j l ih=>simp only [jfa,List.flatMap_cons,XqH,Xqy] at ih ⊢;rw [ih];simp [JF.cells];omega
def tkA (ts:List Tok) (k:Nat):Tok:=ts.getD k ⟨6,[],0,0⟩
def flt (e:Int) (t:Tok):Flt:=⟨e,t.line,t.col⟩
def XcC (ts:List Tok) (k:Nat) (kind:Int) (most:Nat):Except Flt Tok:=
 if (tkA ts k).kind≠kind then .error (flt 60 (tkA ts k)) else if most < (tkA ts k).text.length then .error (flt 1 (tkA ts k)) else .ok (tkA ts k)
def gIs (ts:List Tok) (k:Nat) (s:List UInt8):Bool:=(tkA ts k).kind == 5 && (tkA ts k).text == s
def Xfw (ts:List Tok) (k:Nat) (s:List UInt8):Except Flt Unit:=if gIs ts k s then .ok () else .error (flt 60 (tkA ts k))
def Xdb (l:List UInt8):Int:=l.foldl (fun n c=>10*n+(c.toNat - 48)) 0
def XhR (ts:List Tok) (k:Nat):Except Flt Int:=(XcC ts k 2 8192).map fun t=>Xdb t.text
def Xp6:List UInt8:=[114,117,110]
def Xpv:List UInt8:=[101,110,118]
def Xm8:List UInt8:=[110,101,101,100,115]
def Xm9:List UInt8:=[114,101,97,100,121]
def XiT:List UInt8:=[114,101,115,116,97,114,116]
def XiS:List UInt8:=[98,97,99,107,111,102,102]
def Xm7:List UInt8:=[98,117,114,115,116]
def Xp7:List UInt8:=[115,116,111,112]
def Xqm:List UInt8:=[106,111,98]
def items:List (List UInt8):=[Xp6,Xpv,Xm8,Xm9,XiT,XiS,Xm7,Xp7]
def Xqj (s:List UInt8):Int:=
 if s=[72,85,80] then 1 else if s=[73,78,84] then 2 else if s=[81,85,73,84] then 3 else if s=[85,83,82,49] then 10 else if s=[85,83,82,50] then 12 else if s=[84,69,82,77] then 15 else 0
def Xe2 (ts:List Tok) (k:Nat) (full:Bool):Except Flt Tok:=do
 let t ←XcC ts k 1 32
 if full then .error (flt 1 t) else .ok t
def XkK (ts:List Tok) (k:Nat) (env:List (List UInt8 × List UInt8)):Except Flt (List UInt8 × List UInt8):=do
 let t ←Xe2 ts k (decide (16≤env.length))
 if env.any (·.1 == t.text) then .error (flt 5 t) else
 Xfw ts (k+1) [61]
 let v ←XcC ts (k+2) 3 512
 .ok (t.text,v.text)
def Xf5 (ts:List Tok) (k:Nat) (out:List (List UInt8)):Except Flt (List UInt8):=do
 let t ←Xe2 ts k (decide (16≤out.length))
 if out.contains t.text then .error (flt 5 t) else .ok t.text
def Xfv (ts:List Tok) (k:Nat) (out:List (Int × Int)):Except Flt (Int × Int):=do
 let t ←XcC ts k 1 8192
 if 5≤out.length then .error (flt 1 t) else
 if Xqj t.text=0 then .error (flt 4 t) else
 let n ←XhR ts (k+1)
 .ok (Xqj t.text,n)
def Xda {α:Type} (el:Nat→List α→Except Flt α) (st:Nat) (ts:List Tok) (k:Nat) (out:List α):Except Flt (List α × Nat):=
 match el k out with
 | .error f=>.error f
 | .ok x=>if h:k+st < ts.length∧gIs ts (k+st) [44]=true then Xda el st ts (k+st+1) (out++[x]) else .ok (out++[x],k+st)
termination_by ts.length - k
decreasing_by omega
def Xlv (ts:List Tok) (k:Nat):Except Flt Int:=do
 let t ←XcC ts k 1 8192
 if t.text=[97,108,119,97,121,115] then .ok 3 else if t.text=[111,110,45,102,97,105,108,117,114,101] then .ok 2 else if t.text=[110,101,118,101,114] then .ok 1 else .error (flt 60 t)
def Xfu (ts:List Tok) (k:Nat) (w:List UInt8) (j:JF):Except Flt (JF × Nat):=
 if w=Xp6 then (XcC ts k 3 512).map fun t=>({ j with run:=t.text },k+1)
 else if w=Xpv then (XkK ts k j.env).map fun v=>({ j with env:=j.env++[v] },k+3)
 else if w=Xm8 then (Xda (Xf5 ts) 1 ts k []).map fun x=>({ j with needs:=x.1 },x.2)
 else if w=Xm9 then (XcC ts k 4 128).map fun t=>({ j with hasr:=true,ready:=t.text },k+1)
 else if w=XiT then (Xlv ts k).map fun n=>({ j with restart:=n },k+1)
 else if w=XiS then do
  let a ←XhR ts k
  let b ←XhR ts (k+1)
  let c ←XhR ts (k+2)
  .ok ({ j with base:=a,cap:=b,stable:=c },k+3)
 else if w=Xm7 then do
  let n ←XhR ts k
  if n < 1∨16 < n then .error (flt 2 (tkA ts k)) else
  let m ←XhR ts (k+1)
  .ok ({ j with burst:=n,window:=m },k+2)
 else (Xda (Xfv ts) 2 ts k []).map fun x=>({ j with ladder:=x.1 },x.2)
def XcY (ts:List Tok) (name:Tok) (k:Nat) (seen:List (List UInt8)) (j:JF):Except Flt (JF × Nat):=
 if gIs ts k [125] then (if seen.contains Xp6 then .ok (j,k+1) else .error (flt 6 name))
 else if (tkA ts k).kind≠1∨¬items.contains (tkA ts k).text then .error (flt 60 (tkA ts k))
 else if (tkA ts k).text≠Xpv∧seen.contains (tkA ts k).text then .error (flt 5 (tkA ts k))
 else match Xfu ts (k+1) (tkA ts k).text j with
  | .error f=>.error f
  | .ok x=>if h:k < x.2∧k < ts.length then XcY ts name x.2 (if (tkA ts k).text=Xpv then seen else seen++[(tkA ts k).text]) x.1 else .error (flt 60 (tkA ts k))
termination_by ts.length - k
decreasing_by omega
def XpS (t:Tok):JF:={ name:=t.text,run:=[],env:=[],needs:=[],hasr:=false,ready:=[],restart:=2,base:=100,cap:=10000,stable:=10000,burst:=5,window:=60000,ladder:=[(15,5000)],line:=t.line,col:=t.col }
def XoH (ts:List Tok) (k:Nat) (full:Bool):Except Flt (JF × Nat):=do
 let w ←XcC ts k 1 8192
 if w.text≠Xqm then .error (flt 60 w) else
 let t ←Xe2 ts (k+1) full
 Xfw ts (k+2) [123]
 XcY ts t (k+3) [] (XpS t)
end Go.Proofs.YtdpobjakdplljaaGreatDoor

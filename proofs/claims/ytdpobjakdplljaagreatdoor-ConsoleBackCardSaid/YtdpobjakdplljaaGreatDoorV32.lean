import Derived.Test.YtdpobjakdplljaaGreatDoorV7
import Derived.Test.YtdpobjakdplljaaGreatDoorV31
import Derived.Test.YtdpobjakdplljaaGreatDoorV8
import Derived.RangeFuncIn
import Derived.RangeFuncRecord
import Derived.RangeFuncCalls
import Derived.TacticsIn
import Derived.CallsIn
import Derived.OrdersIn
import Derived.RangeFuncWrites
/- A walk over symbolic memory: drawn regions some of whose edges do not bind. No program in sight. -/
set_option linter.unusedSimpArgs false
set_option linter.unusedVariables false
set_option maxRecDepth 100000
set_option maxHeartbeats 8000000
namespace Go.Proofs.YtdpobjakdplljaaGreatDoor
open Go.RowKit
section
variable {P:Program} {Δ:List Deferred} {V O:Nat→Prop} {w0 w w':World} {H H' D:List Hp} {T T':List AV} {a:Act} {o:Oper} {K:List AV→List Hp→Prop} {Q:XcP}
theorem Xmb {l:List Oper} (hc:XmJ l=true) (h:dr P H l.toArray l T fun T'=>Q .normal T' H) (rel:Rel Δ V O w0 H T a w):wpAny P .any l.toArray (lift Δ V O w0 Q) l.toArray.size (Array.replicate l.toArray.size false) a w:=by
 have hr:=Xia hc
 obtain ⟨es,-,hE,hfin⟩:=XrL (ops:=l.toArray) l T l 0 (fun _=>.top) rfl h
 have hfin':Q .normal (Xfe l es T l.length) H:=hfin
 have key:∀(fuel:Nat) (listed:Array Bool) (a:Act) (w:World),listed.size=l.length →
   (∀j q,l[j]?=some q→listed.getD j false=true→∀e∈q.after,listed.getD e.on false=true)→cnt (fun j=>listed.getD j false) l.length≤fuel →
   Rel Δ V O w0 H (Xc2 l es T (fun j=>listed.getD j false) l.length) a w→wpAny P .any l.toArray (lift Δ V O w0 Q) fuel listed a w:=by
  intro fuel
  induction fuel with
  | zero=>
    intro listed a w hsz hcl hcnt rel
    have hall:=XfX _ _ (Nat.le_zero.1 hcnt)
    refine ⟨?_,_,H,rel,?_⟩
    ·unfold Region.ready
     rw [List.filter_eq_nil_iff]
     intro i hi
     simp only [List.size_toArray,List.mem_range] at hi
     have:=hall i hi
     have hi':i < listed.size:=by omega
     simp [Array.getD,hi'] at this ⊢
     simp [this]
    ·rw [XdF l es T _ _ hall];exact hfin'
  | succ fuel ih=>
    intro listed a w hsz hcl hcnt rel
    have hget:∀i,i < l.length→listed.getD i true=listed.getD i false:=fun i hi=>by
     have hi':i < listed.size:=by omega
     simp [Array.getD,hi']
    refine ⟨fun hnil=>?_,fun i hi=>?_⟩
    ·-- all are listed
     have hall:∀j,j < l.length→listed.getD j false=true:=by
      intro j
      induction j using Nat.strongRecOn with
      | _ j ihj=>
        intro hj
        cases hs:listed.getD j false with
        | true=>rfl
        | false=>
          exfalso
          unfold Region.ready at hnil
          rw [List.filter_eq_nil_iff] at hnil
          have:=hnil j (by simpa using hj)
          apply this
          have hlj:l[j]?=some l[j]:=by simp [hj]
          rw [hget j hj,hs]
          simp only [Bool.not_false,Bool.true_and,List.getElem?_toArray,hlj,Option.map_some,Option.getD_some]
          rw [Array.all_eq_true_iff_forall_mem]
          intro e he
          have h1:=hr.after j _ hlj e he
          rw [ihj e.on h1.2 (by omega)]
          simp
     exact ⟨_,H,rel,by rw [XdF l es T _ _ hall];exact hfin'⟩
    ·unfold Region.ready at hi
     rw [List.mem_filter] at hi
     obtain ⟨hil,hrd⟩:=hi
     simp only [List.size_toArray,List.mem_range] at hil
     have hli:l[i]?=some l[i]:=by simp [hil]
     rw [hget i hil] at hrd
     simp only [List.getElem?_toArray,hli,Option.map_some,Option.getD_some,Bool.and_eq_true,Bool.not_eq_true',Array.all_eq_true_iff_forall_mem] at hrd
     obtain ⟨hSi,haf⟩:=hrd
     have haf':∀e∈l[i].after,listed.getD e.on false=true:=fun e he=>by
      have h1:=haf e he
      have h2:=hr.after i _ hli e he
      simpa [h2.1] using h1
     generalize ho:l[i]=o at hli haf'
     have hlook:=Xoq hr es T (fun j=>listed.getD j false) hcl i o hli hSi haf'
     have hops:OK V H (ev (Xfe l es T i)) o a w:=by
      have h0:=rel.oks o
      refine ⟨h0.hok,fun x hx=>?_,h0.vlt,h0.gw⟩
      have:=h0.ops x hx
      rw [XrR (T2:=Xfe l es T i) (fun t ht=>hlook t (List.mem_append_left _ (List.mem_filterMap.2 ⟨x,by simpa using hx,by rw [ht]⟩)))] at this
      exact this
     have hnext:∀w' a',Rel Δ V O w0 H (Xb4 (Xc2 l es T (fun j=>listed.getD j false) l.length) o.dst (es i)) a' w'→wpAny P .any l.toArray (lift Δ V O w0 Q) fuel (listed.setIfInBounds i true) a' w':=by
      intro w' a' hrel
      have h1:(listed.setIfInBounds i true).getD i false=true:=by
       have:i < listed.size:=by omega
       simp [Array.getD,this]
      have h2:∀j,j≠i→(listed.setIfInBounds i true).getD j false=listed.getD j false:=fun j hj=>by
       simp only [Array.getD_eq_getD_getElem?]
       rw [Array.getElem?_setIfInBounds_ne (fun e=>hj e.symm)]
      refine ih _ _ _ (by simpa using hsz) (fun j q hj hs e he=>?_) ?_ ?_
      ·by_cases hji:j=i
       ·subst hji
        rw [hli] at hj;cases hj
        have h3:=(hr.after j _ hli e he).2
        rw [h2 _ (by omega)];exact haf' e he
       ·rw [h2 j hji] at hs
        have h3:=hcl j q hj hs e he
        by_cases hei:e.on=i
        ·rw [hei];exact h1
        ·rw [h2 _ hei];exact h3
      ·have:=XnB (fun j=>listed.getD j false) (fun j=>(listed.setIfInBounds i true).getD j false) (fun j hj=>by
        by_cases hji:j=i
        ·subst hji;exact h1
        ·show (listed.setIfInBounds i true).getD j false=true
         rw [h2 j hji];exact hj) i hSi h1 l.length hil
       omega
      ·rw [←Xgx hr es T _ (fun j=>(listed.setIfInBounds i true).getD j false) i o hli hSi h1 h2];exact hrel
     unfold wpOp
     simp only [List.getElem?_toArray,hli]
     rcases hE i o (Nat.zero_le _) hli with ⟨hg,he⟩|⟨j,want,t,p,av,hg,hd,hp,he0,he⟩
     ·rw [if_pos (by simp [Region.wanted,hg])]
      exact .inl (he V a w _ _ hops fun v w' hE' hd=>hnext _ _ ((rel.quiet hE').put _ hd))
     ·have htl:t∈looks l o:=by
       refine List.mem_append_right _ ?_
       rw [hg]
       simp only [List.getElem?_toArray] at hd
       simp only [hd];simp
      have hgd:(Xc2 l es T (fun j=>listed.getD j false) l.length).getD t .top=(Xfe l es T i).getD t .top:=by
       simp only [List.getD,hlook t htl]
      rw [Xfc rel hg hd (by rw [hgd];exact hp)]
      cases hpb:p with
      | true=>
        rw [if_pos rfl]
        exact .inl (he hpb V a w _ _ hops.strip fun v w' hE' hd=>hnext _ _ ((rel.quiet hE').put _ (by rw [he0,Den];exact ⟨fun _=>hd,(fun h=>by rw [hpb] at h;cases h)⟩)))
      | false=>
        rw [if_neg (by simp)]
        exact hnext _ _ (rel.put _ (by rw [he0,Den];exact ⟨(fun h=>by rw [hpb] at h;cases h),fun _=>rfl⟩))
 have hrep:∀j,(Array.replicate l.length false).getD j false=false:=fun j=>by simp [Array.getD]
 refine key _ _ a w (by simp) (fun j q _ hs=>?_) ?_ ?_
 ·rw [List.size_toArray,hrep j] at hs;cases hs
 ·have:∀k,cnt (fun j=>(Array.replicate l.toArray.size false).getD j false) k≤k:=fun k=>by
   induction k with
   | zero=>simp [cnt]
   | succ k ih=>simp only [cnt];split<;>omega
  simpa using this l.length
 ·have:Xc2 l es T (fun j=>(Array.replicate l.toArray.size false).getD j false) l.length=T:=by
   have:∀k,Xc2 l es T (fun j=>(Array.replicate l.toArray.size false).getD j false) k=T:=fun k=>by
    induction k with
    | zero=>rfl
    | succ k ih=>simp only [Xc2];rw [if_neg (by rw [List.size_toArray,hrep];simp)];exact ih
   exact this _
  rw [this];exact rel
def Xe9 (o:Oper):Oper:={ o with after:=o.after.filter (Region.binds .any) }
theorem XgF (l:List Oper) (listed:Array Bool):Region.ready .any (l.map Xe9).toArray listed=Region.ready .any l.toArray listed:=by
 unfold Region.ready
 simp only [List.size_toArray,List.length_map,List.getElem?_toArray,List.getElem?_map,Option.map_map]
 congr 1
 funext i
 cases hi:l[i]? with
 | none=>rfl
 | some o=>
   simp only [Option.map_some,Option.getD_some,Function.comp,Xe9]
   congr 1
   rw [Bool.eq_iff_iff]
   simp only [Array.all_eq_true_iff_forall_mem,Array.mem_filter]
   constructor
   ·intro h e he
    cases hb:Region.binds .any e with
    | false=>rfl
    | true=>have:=h e ⟨he,hb⟩;rw [hb] at this;exact this
   ·intro h e he
    exact h e he.1
theorem Xin (l:List Oper) (tmps:Array Value):yielded (l.map Xe9).toArray tmps=yielded l.toArray tmps:=by
 funext j
 unfold yielded
 simp only [List.getElem?_toArray,List.getElem?_map]
 cases l[j]?<;>rfl
theorem XdH {Q:Exit→Act→World→Prop} (l:List Oper):∀(fuel:Nat) (listed:Array Bool) (a:Act) (w:World),wpAny P .any (l.map Xe9).toArray Q fuel listed a w→wpAny P .any l.toArray Q fuel listed a w
 | 0,listed,a,w,h=>by
   unfold wpAny at h ⊢
   rw [XgF] at h;exact h
 | fuel+1,listed,a,w,h=>by
   unfold wpAny at h ⊢
   rw [XgF] at h
   refine ⟨h.1,fun i hi=>?_⟩
   have h2:=h.2 i hi
   unfold wpOp at h2 ⊢
   rw [Xin] at h2
   simp only [List.getElem?_toArray,List.getElem?_map] at h2 ⊢
   cases hi2:l[i]? with
   | none=>rw [hi2] at h2;exact XdH l fuel _ _ _ h2
   | some o=>
     rw [hi2] at h2
     simp only [Option.map_some] at h2 ⊢
     have hw:Region.wanted (Xe9 o) (yielded l.toArray a.tmps)=Region.wanted o (yielded l.toArray a.tmps):=rfl
     rw [hw] at h2
     split at h2
     ·rename_i hc
      rw [if_pos hc]
      rcases h2 with h2|h2
      ·exact .inl (Oper.wp_mono (fun a w h=>XdH l fuel _ a w h) h2)
      ·exact .inr h2
     ·rename_i hc
      rw [if_neg hc]
      exact XdH l fuel _ _ _ h2
theorem XiV {ρ:Operand→AV} {av:AV} (h:Evl P o ρ H av):Evl P (Xe9 o) ρ H av:=fun V a w Kc Q ok hK=>h V a w Kc Q ⟨ok.hok,ok.ops,ok.vlt,ok.gw⟩ hK
theorem Xk8 (l:List Oper):∀(rest:List Oper) (T:List AV) (fin:List AV→Prop),dr P H l.toArray rest T fin→dr P H (l.map Xe9).toArray (rest.map Xe9) T fin
 | [],T,fin,h=>h
 | o :: rest,T,fin,h=>by
   obtain ⟨e,he,hr⟩:=h
   refine ⟨e,?_,Xk8 l rest _ fin hr⟩
   rcases he with h1|⟨j,want,t,p,av,g1,g2,g3,g4,g5⟩
   ·exact .inl ⟨h1.1,XiV h1.2⟩
   ·refine .inr ⟨j,want,t,p,av,g1,?_,g3,g4,fun hp=>XiV (g5 hp)⟩
    rw [←g2]
    simp only [List.getElem?_toArray,List.getElem?_map]
    cases l[j]?<;>rfl
theorem Xl0 {id:Nat} {l:List Oper} (hm:P.follows .mixedOrders=true) (hc:XmJ (l.map Xe9)=true) (h:dr P H l.toArray l T fun T'=>Q .normal T' H):awp P (.region id l.toArray true) Q T H:=by
 refine Xge hm fun Δ V O w0 a w rel=>?_
 have:=XdH l _ _ _ _ (Xmb (Q:=Q) hc (Xk8 l l T _ h) rel)
 simpa only [List.size_toArray,List.length_map] using this
end
open Go.RowKit
theorem ixb (l:List UInt8):(Lib.indexByte l 10 = -1∧cmt l=l.length)∨(Lib.indexByte l 10=cmt l∧cmt l < l.length):=by
 induction l with
 | nil=>exact .inl ⟨rfl,rfl⟩
 | cons c r ih=>
   by_cases h:c.toNat=10
   ·have e:c=10:=UInt8.toNat_inj.1 h
    subst e
    right
    simp [cmt,Lib.indexByte]
   ·have e:(c == 10)=false:=by
     rw [Xvm]
     intro e;subst e;exact h rfl
    have ec:cmt (c :: r)=cmt r+1:=by simp [cmt,h]
    rw [ec]
    unfold Lib.indexByte
    rw [e]
    simp only [Bool.false_eq_true,if_false,Xu8]
    rcases ih with ⟨h1,h2⟩|⟨h1,h2⟩
    ·left;simp [h1,h2]
    ·right
     rw [h1]
     have:((cmt r:Int) == -1)=false:=by rw [Xvm];omega
     rw [this]
     simp;omega
theorem Xhe:∀(l cur:List UInt8),l≠[]∨cur≠[]→XcA cur l=(cur++l.take (cmt l)) :: XcA [] (l.drop (cmt l+1))
 | [],cur,h=>by
   have hc:cur≠[]:=h.resolve_left (fun q=>q rfl)
   simp [XcA,hc]
 | c :: r,cur,_=>by
   rw [XcA]
   by_cases h:c.toNat=10
   ·rw [if_pos h]
    simp [cmt,h]
   ·rw [if_neg h,Xhe r (cur++[c]) (.inr (by simp))]
    simp [cmt,h]
theorem Xl3 {l:List UInt8} (h:l≠[]):XbR l=l.take (cmt l) :: XbR (l.drop (cmt l+1)):=by
 have:=Xhe l [] (.inl h)
 simpa [XbR] using this
theorem Xlf (l:List UInt8):Xa8 Tryz.prog 119 [] [.x (.string (bs l)),.x (.string (bs [10]))] (fun r H'=>r=.x (.int .i64 (Lib.indexByte l 10))∧H'=[]):=
 Xcm (args:=[.string (bs l),.string (bs [10])]) (fun w=>(stringslite_Index_one (bs l) 10 w).mono fun e w' ⟨h1,h2⟩=>⟨by rw [h1];simp [bs],h2▸Below.refl _ _⟩) []
def Xrb (l:List UInt8):AV:=.tup [.x (.string (bs (l.take (cmt l)))),.x (.string (bs (l.drop (cmt l+1)))),.x (.bool (decide (cmt l < l.length)))]
theorem Xte (l:List UInt8) (hl:l.length≤1000000) (h1:Lib.indexByte l 10 = -1) (h2:cmt l=l.length):Xa8 Tryz.prog 82 [] [.x (.string (bs l)),.x (.string (bs [10]))] (fun r H'=>r=Xrb l∧H'=[]):=by
 have hi:=Xlf l
 rw [h1] at hi
 refine XaE Tryz.func82 rfl ?_
 simp only [Tryz.ntmps82,Xu8,Xvb,Xvc,Xvd,Xvg,Xvf,Nat.reduceAdd,Nat.reduceSub]
 (repeat' (first|with_reducible (first|refine Xai ?_|refine Xac ?_|refine Xas ?_|refine Xaw ?_|refine Xae ?_|refine Xaa ?_)|(refine Xal _ rfl (fun h=>?_) (fun h=>?_)<;>first|(exact absurd h (by decide))|((try (simp only [] at h));skip))|((apply Xad rfl);(case h=>(first|(apply Xab 0 rfl;(first|exact Xar _ rfl|exact Xap _ rfl))|(apply Xab 11 rfl;(exact XaA 119 Tryz.f119 _ _ rfl rfl Tryz.func119 (by decide) rfl (VwL.refl _ _) (hi)))|(apply XaD;(case hs=>(intro _ _ h;cases h));(case hx=>rfl);(case hrun=>(intro w;simp [wtb,AV.val,go_sem];skip;rfl)))));(case hT=>((try simp only [wtn]);rfl)))|fail))
 refine Xaf _ _ (XsW rfl (RV.tmp _) (RV.tmp _) (RV.tmp _) (XaH.mk' [] _ (Xu5 _) (XaB.refl _ _) (VwL.refl _ _))) ?_
 refine ⟨?_,rfl⟩
 unfold Xrb
 rw [h2,List.take_length,List.drop_of_length_le (by omega),show decide (l.length < l.length)=false from decide_eq_false (by omega)]
 rfl
theorem Xtf (l:List UInt8) (hl:l.length≤1000000) (h1:Lib.indexByte l 10=cmt l) (h2:cmt l < l.length):Xa8 Tryz.prog 82 [] [.x (.string (bs l)),.x (.string (bs [10]))] (fun r H'=>r=Xrb l∧H'=[]):=by
 have hi:=Xlf l
 rw [h1] at hi
 generalize hk:cmt l=k at *
 clear h1
 have hk':=Lib.hid hk
 clear hk
 refine XaE Tryz.func82 rfl ?_
 simp only [Tryz.ntmps82,Xu8,Xvb,Xvc,Xvd,Xvg,Xvf,Nat.reduceAdd,Nat.reduceSub]
 (repeat' (first|with_reducible (first|refine Xai ?_|refine Xac ?_|refine Xae ?_|refine Xaa ?_)|(refine Xal _ rfl (fun h=>?_) (fun h=>?_)<;>first|(exact absurd h (by decide))|((try (simp only [] at h));skip))|((apply Xad rfl);(case h=>(first|(apply Xab 0 rfl;(first|exact Xar _ rfl|exact Xap _ rfl))|(apply Xab 11 rfl;(exact XaA 119 Tryz.f119 _ _ rfl rfl Tryz.func119 (by decide) rfl (VwL.refl _ _) (hi)))|(apply XaD;(case hs=>(intro _ _ h;cases h));(case hx=>rfl);(case hrun=>(intro w;simp [wtb,AV.val,go_sem];skip;rfl)))));(case hT=>((try simp only [wtn]);rfl)))|fail))
 refine Xl0 mixed (by decide +kernel) ?_
 have hk1:(k:Int)+1=((k+1:Nat):Int):=by omega
 (repeat' (first|with_reducible (first|refine Xas ?_|refine Xcd ?_|refine Xaa ?_|refine Xay ?_)|((apply XbG rfl);(case h=>(first|(apply Xab 0 rfl;(first|exact Xar _ rfl|exact Xap _ rfl))|(apply Xab 9 rfl;(exact Xbv _ _ _ _ _ _ _ rfl rfl (by kernel_rfl) (by first|exact .inl ⟨rfl,rfl⟩|exact .inr ⟨_,_,rfl,rfl⟩|fail) (by first|exact .inl ⟨rfl,rfl⟩|exact .inr ⟨_,_,rfl,rfl⟩|fail) (by omega) (by omega)))|(apply XaD;(case hs=>(intro _ _ h;cases h));(case hx=>rfl);(case hrun=>(intro w;simp [wtb,AV.val,go_sem];(try go_bits);rfl)))));(case hT=>((try simp (disch:=omega) only [wtn,hk1,Xu9,Xu6,Xu7,Xva,Xve,Nat.reduceAdd,Nat.reduceMul,Nat.reduceSub,↓reduceIte,Nat.reduceEqDiff]);rfl)))|fail))
 refine Xaf _ _ (XsW rfl (RV.tmp _) (RV.tmp _) (RV.tmp _) (XaH.mk' [] _ (Xu5 _) (XaB.refl _ _) (VwL.refl _ _))) ?_
 refine ⟨?_,rfl⟩
 unfold Xrb
 rw [hk'.out,show decide (k < l.length)=true from decide_eq_true h2]
 simp only [List.take_length]
 rfl
theorem Xtg (l:List UInt8) (hl:l.length≤1000000):Xa8 Tryz.prog 82 [] [.x (.string (bs l)),.x (.string (bs [10]))] (fun r H'=>r=Xrb l∧H'=[]):=by
 rcases ixb l with ⟨h1,h2⟩|⟨h1,h2⟩
 ·exact Xte l hl h1 h2
 ·exact Xtf l hl h1 h2
theorem Xun (l:List UInt8) (hl:l.length≤1000000):Xa8 Tryz.prog 49 [] [.x (.string (bs l)),.x (.string (bs [10]))] (fun r H'=>r=Xrb l∧H'=[]):=by
 have hi:=Xtg l hl
 unfold Xrb at hi ⊢
 refine XaE Tryz.func49 rfl ?_
 simp only [Tryz.ntmps49,Xu8,Xvb,Xvc,Xvd,Xvg,Xvf,Nat.reduceAdd,Nat.reduceSub]
 (repeat' (first|with_reducible (first|refine Xai ?_|refine Xac ?_|refine Xas ?_|refine Xae ?_|refine Xaa ?_)|((apply Xad rfl);(case h=>(first|(apply Xab 0 rfl;(first|exact Xar _ rfl|exact Xap _ rfl))|(apply Xab 2 rfl;(exact XaO _ _ _ _ rfl rfl rfl))|(apply Xab 11 rfl;(exact XaA 82 Tryz.f82 _ _ rfl rfl Tryz.func82 (by decide) rfl (VwL.refl _ _) (hi)))));(case hT=>((try simp only [wtn]);rfl)))|fail))
 refine Xaf _ _ (XsW rfl (RV.tmp _) (RV.tmp _) (RV.tmp _) (XaH.mk' [] _ (Xu5 _) (XaB.refl _ _) (VwL.refl _ _))) ?_
 exact ⟨rfl,rfl⟩
section
variable {P:Program} {Δ:List Deferred} {V O:Nat→Prop} {w0 w w':World} {B H H' D:List Hp} {T T':List AV} {a a':Act} {o:Oper} {ops:Array Oper} {n:Nat}
def Xkn:Op→Bool
 | .defer ..=>true
 | _=>false
theorem XqW (l:Nat) {K:Act→World→Prop} {Q:Exit→Act→World→Prop} (hd:Xkn o.op=false) (h:o.wp P a w K Q):o.wpIn (Fence.wide.inRound l) n P a w K Q:=by
 refine ⟨fun _ _=>trivial,?_⟩
 rw [show (Fence.wide.inRound l).round=some l from rfl,Oper.semAt_some l _ _ (by rintro c e;rw [e] at hd;cases hd)]
 unfold Oper.wp at h
 generalize (execOp a.eval o).run P w=r at h
 cases r with
 | halt k w'=>cases k<;>first|exact h|exact h.elim
 | ok x w'=>
   cases x
   case value v=>exact h
   case skip=>exact h
   case defer d=>exact h
   case enter f args=>exact ⟨fun e=>(by cases e),CallsIn.inRound l (callsIn_wide.2 h)⟩
   case row r args=>exact ⟨fun e=>(by cases e),fun c cs _=>by
    obtain ⟨v,w2,hR,hs⟩:=h c cs
    exact ⟨v,w2,hR,stepsIn_wide.2 hs⟩⟩
   all_goals exact h.elim
theorem Xd3 (l:Nat) {Q:Exit→Act→World→Prop} (hQ:¬LetsOut Q):∀(L:List Oper) (a:Act) (w:World),(∀o∈L,Xkn o.op=false)→wpList P ops Q L a w→wpListIn (Fence.wide.inRound l) n P ops Q L a w
 | [],a,w,_,h=>h
 | o :: L,a,w,hd,h=>by
   unfold wpList at h
   unfold wpListIn
   split
   ·rename_i hw
    rw [if_pos hw] at h
    rcases h with h|h
    ·exact Oper.wpIn_mono (fun a w h=>Xd3 l hQ L a w (fun o ho=>hd o (List.mem_cons_of_mem _ ho)) h) (XqW l (hd o (List.mem_cons_self ..)) h)
    ·exact absurd h.2 hQ
   ·rename_i hw
    rw [if_neg hw] at h
    exact ⟨fun _ _=>trivial,Xd3 l hQ L _ w (fun o ho=>hd o (List.mem_cons_of_mem _ ho)) h⟩
def Xio (P:Program) (c:Code) (Q:XcP) (T:List AV) (H:List Hp):Prop:=
 ∀l n Δ V O w0 a w,Rel Δ V O w0 H T a w→c.wpIn (Fence.wide.inRound l) n P (lift Δ V O w0 Q) a w
def Xru (Q:XcP):Prop:=∀T H,¬Q .outgrown T H
theorem Xru.lift {Q:XcP} (h:Xru Q):¬LetsOut (lift Δ V O w0 Q):=fun ⟨a,w,T,H,_,q⟩=>h T H q
variable {Q:XcP} {x y:Code} {K:List AV→List Hp→Prop}
theorem XcE (hQ:Xru Q) {id:Nat} {L:List Oper} (hd:(L.all fun o=>!Xkn o.op)=true) (h:XiE P L.toArray Q L T H):Xio P (.region id L.toArray false) Q T H:=fun l n Δ V O w0 a w r=>
 wpIn_region_lit (Xd3 l hQ.lift L a w (fun o ho=>by have:=List.all_eq_true.1 hd o ho;simpa using this) (h Δ V O w0 a w r))
theorem XeS (h:Xio P x (XaL (Xio P y Q) Q) T H):Xio P (.seq x y) Q T H:=fun l n Δ V O w0 a w r=>
 wpIn_seq (wpIn_mono (h l n Δ V O w0 a w r) fun e a w ⟨T,H,r,q⟩=>by
  cases e with
  | normal=>exact q l n Δ V O w0 a w r
  | _=>exact ⟨T,H,r,q⟩)
theorem XeR {c:Operand} (b:Bool) (hc:ev T c=.x (.bool b)) (h1:b=true→Xio P x Q T H) (h2:b=false→Xio P y Q T H):Xio P (.cond c x y) Q T H:=
 fun l n Δ V O w0 a w r=>wpIn_cond_split (r.evx hc) (fun hb=>h1 hb l n Δ V O w0 a w r) (fun hb=>h2 hb l n Δ V O w0 a w r)
theorem Xd7 {id:Nat} {c:Code} (h:Xio P c (Xao id Q) T H):Xio P (.block id c) Q T H:=fun l n Δ V O w0 a w r=>
 wpIn_block (wpIn_mono (h l n Δ V O w0 a w r) fun e a w ⟨T,H,r,q⟩=>by
  cases e with
  | exit id'=>
    simp only [Xao] at q
    simp only [Exit.inBlock]
    split
    ·rename_i he;rw [if_pos he] at q;exact ⟨T,H,r,q⟩
    ·rename_i he;rw [if_neg he] at q;exact ⟨T,H,r,q⟩
  | _=>exact ⟨T,H,r,q⟩)
theorem Xgc (h:Q .normal T H):Xio P .skip Q T H:=fun l n Δ V O w0 a w r=>wpIn_skip ⟨T,H,r,h⟩
theorem XhH (h:Q .ret T H):Xio P .ret Q T H:=fun l n Δ V O w0 a w r=>wpIn_ret ⟨T,H,r,h⟩
theorem Xnc {id:Nat} (h:Q (.exit id) T H):Xio P (.exit id) Q T H:=fun l n Δ V O w0 a w r=>wpIn_exit ⟨T,H,r,h⟩
end
open Go.RowKit
section
variable {F F':Nat→Prop} {w w':World}
theorem Mem.cw {ad:Option Addr} {vals:List Value} (hc:∀b o v,¬F b→w.cell? ⟨b,o,none⟩=some v→¬F' b∧w'.cell? ⟨b,o,none⟩=some v) (h:Mem F w ad vals):Mem F' w' ad vals:=by
 rcases h with h|⟨b,o,rfl,hb,h⟩
 ·exact .inl h
 ·cases vals with
  | nil=>exact .inl rfl
  | cons v vs=>exact .inr ⟨b,o,rfl,(hc b _ v hb (h 0 v rfl).1).1,fun j u hj=>⟨(hc b _ u hb (h j u hj).1).2,(h j u hj).2⟩⟩
mutual
theorem Den.cw (hc:∀b o v,¬F b→w.cell? ⟨b,o,none⟩=some v→¬F' b∧w'.cell? ⟨b,o,none⟩=some v):(av:AV)→∀v,Den F w av v→Den F' w' av v
 | .x u,v,h=>by rw [Den] at h ⊢;exact h
 | .top,v,h=>by rw [Den];trivial
 | .sq n cells,v,h=>by
   rw [Den] at h ⊢
   obtain ⟨ad,cap,vals,h1,h2,h3,h4,h5,h6⟩:=h
   exact ⟨ad,cap,vals,h1,h2,h3,h4,h5.cw hc,XaT.cw hc cells vals h6⟩
 | .at_ cells,v,h=>by
   rw [Den] at h ⊢
   obtain ⟨b,o,vals,h1,h5,h6⟩:=h
   exact ⟨b,o,vals,h1,h5.cw hc,XaT.cw hc cells vals h6⟩
 | .agg cells,v,h=>by
   rw [Den] at h ⊢
   obtain ⟨vals,h1,h6⟩:=h
   exact ⟨vals,h1,XaT.cw hc cells vals h6⟩
 | .tup cells,v,h=>by
   rw [Den] at h ⊢
   obtain ⟨vals,h1,h6⟩:=h
   exact ⟨vals,h1,XaT.cw hc cells vals h6⟩
 | .ifc t av,v,h=>by
   rw [Den] at h ⊢
   obtain ⟨u,h1,h6⟩:=h
   exact ⟨u,h1,Den.cw hc av u h6⟩
 | .g p av,v,h=>by
   rw [Den] at h ⊢
   exact ⟨fun hp=>Den.cw hc av v (h.1 hp),h.2⟩
theorem XaT.cw (hc:∀b o v,¬F b→w.cell? ⟨b,o,none⟩=some v→¬F' b∧w'.cell? ⟨b,o,none⟩=some v):(l:List AV)→∀vs,XaT F w l vs→XaT F' w' l vs
 | [],vs,h=>by rw [XaT] at h ⊢;exact h
 | c :: cs,vs,h=>by
   rw [XaT] at h ⊢
   obtain ⟨u,us,e,h1,h2⟩:=h
   exact ⟨u,us,e,Den.cw hc c u h1,XaT.cw hc cs us h2⟩
end
theorem XfT.cw (hc:∀b o v,¬F b→w.cell? ⟨b,o,none⟩=some v→¬F' b∧w'.cell? ⟨b,o,none⟩=some v) (hs:w.heap.size≤w'.heap.size) :
  ∀{h:Hp},XfT F w h→(∀k,h.blk=some k→w'.heap[k]?=w.heap[k]?)→XfT F' w' h
 | .box b cells,⟨vals,h1,hl,h2⟩,hb=>⟨vals,XaT.cw hc _ _ h1,by omega,fun j u hj=>by
   have:=hb b rfl
   rw [World.cell?_of_block (a:=⟨b,j,none⟩) this,World.frozen?_of_block (a:=⟨b,j,none⟩) this];exact h2 j u hj⟩
 | .row ad n cap e size cells,⟨vals,h1,h2,h3⟩,hb=>by
   refine ⟨vals,XaT.cw hc _ _ h1,?_,h3⟩
   obtain ⟨hl,hn|⟨g,cap',cur,e',hbg,hg,r⟩⟩:=h2
   ·exact ⟨hl,.inl hn⟩
   ·refine ⟨hl,.inr ⟨g,cap',cur,e',hbg,?_,r⟩⟩
    have:ad=some ⟨g,0,none⟩:=by injection e'
    rw [hb g (by rw [this];rfl)];exact hg
end
section
variable {P:Program} {Δ Δ':List Deferred} {V O:Nat→Prop} {w0 w w':World} {B H H' H1 D:List Hp} {T T' T1:List AV} {a a' a1:Act} {o:Oper} {ops:Array Oper} {n:Nat}
theorem Rel.comp (r:Rel Δ V O w0 H T a w) (r':Rel Δ' V (XcQ H) w H1 T1 a1 w'):Rel Δ' V O w0 H1 T1 a1 w' where
 tmps:=r'.tmps
 hok:=r'.hok
 fr:=r.fr.trans r'.fr fun i hi ⟨x,hx,e⟩=>(r.own x hx i e).resolve_right (by omega)
 own:=fun y hy k hk=>by
  rcases r'.own y hy k hk with ⟨x,hx,e⟩|h
  ·exact r.own x hx k e
  ·exact .inr (Nat.le_trans r.fr.size h)
 defers:=r'.defers
 vlt:=r.vlt
 gl:=r.gl
theorem Rel.anew (r:Rel Δ V O w0 H T a w):Rel Δ V (XcQ H) w H T a w where
 tmps:=r.tmps
 hok:=r.hok
 fr:=Fr.refl _ _
 own:=fun x hx k hk=>.inl ⟨x,hx,hk⟩
 defers:=r.defers
 vlt:=fun k hk=>Nat.lt_of_lt_of_le (r.vlt k hk) r.fr.size
 gl:=r.gb
def dull:AV→Bool
 | .x _=>true
 | .top=>true
 | _=>false
theorem Den.dull {F F':Nat→Prop} {av:AV} {v:Value} (hd:dull av=true) (h:Den F w av v):Den F' w' av v:=by
 cases av<;>first|(cases hd;done)|(rw [Den] at h ⊢;exact h)|(rw [Den];trivial)
theorem XaT.dull {F F':Nat→Prop}:∀{T:List AV} {vs:List Value},(T.all Go.Proofs.YtdpobjakdplljaaGreatDoor.dull)=true→XaT F w T vs→XaT F' w' T vs
 | [],vs,_,h=>by rw [XaT] at h ⊢;exact h
 | c :: T,vs,hd,h=>by
   rw [XaT] at h ⊢
   obtain ⟨u,us,rfl,h1,h2⟩:=h
   rw [List.all_cons,Bool.and_eq_true] at hd
   exact ⟨u,us,rfl,h1.dull hd.1,XaT.dull hd.2 h2⟩
theorem Rel.redef (r:Rel Δ' V O w0 H T1 a1 w) (h:XaT (FB V H) w T a.tmps.toList) (hd:a.defers=Δ):Rel Δ V O w0 H T a w where
 tmps:=h
 hok:=r.hok
 fr:=r.fr
 own:=r.own
 defers:=hd
 vlt:=r.vlt
 gl:=r.gl
theorem Xj5 {l:Nat} {ob:Obj} (ob':Obj) (h:w.heap[l]?=some ob) (hc:ob.isCells=false) {x:Addr} {u:Value} (hx:w.cell? x=some u):(w.putObj l ob').cell? x=some u:=by
 have hne:x.block≠l:=by
  intro e
  unfold World.cell? at hx
  rw [e,h] at hx
  cases ob<;>first|(cases hc;done)|(cases hx;done)
 rw [World.cell?_of_block (World.putObj_heap_other hne)];exact hx
theorem Rel.putObj (r:Rel Δ V O w0 H T a w) {l:Nat} {ob:Obj} (ob':Obj) (h:w.heap[l]?=some ob) (hc:ob.isCells=false) (hb:¬XcQ H l) (ho:O l∨w0.heap.size≤l):Rel Δ V O w0 H T a (w.putObj l ob'):=by
 have hsz:(w.putObj l ob').heap.size=w.heap.size:=by simp [World.putObj]
 have hk:∀b o v,¬FB V H b→w.cell? ⟨b,o,none⟩=some v→¬FB V H b∧(w.putObj l ob').cell? ⟨b,o,none⟩=some v:=fun b o v hF hv=>⟨hF,Xj5 ob' h hc hv⟩
 refine ⟨XaT.cw hk _ _ r.tmps,⟨fun x hx=>(r.hok.ok x hx).cw hk (by omega) fun k e=>World.putObj_heap_other fun e'=>hb ⟨x,hx,by rw [←e'];exact e⟩,r.hok.apart,fun x hx k e=>by rw [hsz];exact r.hok.lt x hx k e⟩,?_,r.own,r.defers,r.vlt,r.gl⟩
 refine r.fr.trans (O':=fun k=>k=l) ⟨rfl,rfl,rfl,by omega,fun k _ hn=>World.putObj_heap_other hn⟩ fun i hi e=>?_
 subst e
 exact ho.resolve_right (by omega)
def Trk (O:Nat→Prop) (w0:World) (H:List Hp) (w:World) (p:Nat × Obj):Prop:=w.heap[p.1]?=some p.2∧p.2=p.2∧¬XcQ H p.1∧(O p.1∨w0.heap.size≤p.1)
theorem Trk.on {p:Nat × Obj} (t:Trk O w0 H w p) (r:Rel Δ V (XcQ H) w H1 T1 a1 w'):Trk O w0 H1 w' p:=by
 obtain ⟨t1,t2,t3,t4⟩:=t
 have hlt:=(Array.getElem?_eq_some_iff.1 t1).1
 refine ⟨(r.fr.block p.1 hlt t3).trans t1,t2,fun ⟨x,hx,e⟩=>?_,t4⟩
 rcases r.own x hx p.1 e with h|h
 ·exact t3 h
 ·omega
theorem Trk.same {p:Nat × Obj} (t:Trk O w0 H w p) (h:∀k,XcQ H1 k→XcQ H k):Trk O w0 H1 w p:=⟨t.1,t.2.1,fun e=>t.2.2.1 (h _ e),t.2.2.2⟩
abbrev Xfg:=List Deferred→List (Nat × Obj)→XcP
def Xqc (V O:Nat→Prop) (w0:World) (Q:Xfg):Exit→Act→World→Prop:=fun e a w=>∃Δ Θ T H,Rel Δ V O w0 H T a w∧(∀p∈Θ,Trk O w0 H w p)∧Q Δ Θ e T H
def Xd8 (P:Program) (Δ:List Deferred) (Θ:List (Nat × Obj)) (c:Code) (Q:Xfg) (T:List AV) (H:List Hp):Prop:=
 ∀V O w0 a w,Rel Δ V O w0 H T a w→(∀p∈Θ,Trk O w0 H w p)→c.wp P (Xqc V O w0 Q) a w
variable {Θ:List (Nat × Obj)} {Q:Xfg} {x y c:Code}
theorem XbN (h:awp P c (Q Δ Θ) T H):Xd8 P Δ Θ c Q T H:=fun V O w0 a w r t=>
 wp_mono (h Δ V (XcQ H) w a w r.anew) fun _ _ _ ⟨T',H',r',q⟩=>⟨Δ,Θ,T',H',r.comp r',fun p hp=>(t p hp).on r',q⟩
theorem XbC (h:Xd8 P Δ Θ x (fun Δ Θ=>XaL (Xd8 P Δ Θ y Q) (Q Δ Θ)) T H):Xd8 P Δ Θ (.seq x y) Q T H:=fun V O w0 a w r t=>
 wp_seq (wp_mono (h V O w0 a w r t) fun e a w ⟨Δ,Θ,T,H,r,t,q⟩=>by
  cases e with
  | normal=>exact q V O w0 a w r t
  | _=>exact ⟨Δ,Θ,T,H,r,t,q⟩)
theorem Xa1 (h:awp P x (XaL (Xd8 P Δ Θ y Q) (Q Δ Θ)) T H):Xd8 P Δ Θ (.seq x y) Q T H:=XbC (XbN h)
theorem Xcn {id:Nat} (h:Xd8 P Δ Θ c (fun Δ Θ=>Xao id (Q Δ Θ)) T H):Xd8 P Δ Θ (.block id c) Q T H:=fun V O w0 a w r t=>
 wp_block (wp_mono (h V O w0 a w r t) fun e a w ⟨Δ,Θ,T,H,r,t,q⟩=>by
  cases e with
  | exit id'=>
    simp only [Xao] at q
    simp only [Exit.inBlock]
    split
    ·rename_i he;rw [if_pos he] at q;exact ⟨Δ,Θ,T,H,r,t,q⟩
    ·rename_i he;rw [if_neg he] at q;exact ⟨Δ,Θ,T,H,r,t,q⟩
  | _=>exact ⟨Δ,Θ,T,H,r,t,q⟩)
theorem XdS (h:XaH H T H' T'):∀k,XcQ H' k→XcQ H k:=by
 intro k ⟨x,hx,e⟩
 obtain ⟨D,R,hp,hH,-⟩:=h.ex
 obtain ⟨y,hy,hxy⟩:=hH.mem x hx
 exact ⟨y,hp.mem_iff.2 (by simp [hy]),hxy.blk▸e⟩
theorem Xdr {S:Type} (Tf:S→List AV) (Hf:S→List Hp) (Θf:S→List (Nat × Obj)) (Inv:S→Prop) (m:S→Nat) (s0:S) (h0:XaH H T (Hf s0) (Tf s0)) (hΘ:Θf s0=Θ) (hi:Inv s0)
  (round:∀s,Inv s→Xd8 P Δ (Θf s) c (fun Δ' Θ'=>XaL (fun T' H'=>Δ'=Δ∧∃s',m s' < m s∧Inv s'∧Θ'=Θf s'∧XaH H' T' (Hf s') (Tf s')) (Q Δ' Θ')) (Tf s) (Hf s)):Xd8 P Δ Θ (.loop c) Q T H:=by
 subst hΘ
 intro V O w0 a w r t
 have key:∀n s a w,m s=n→Inv s→Rel Δ V O w0 (Hf s) (Tf s) a w→(∀p∈Θf s,Trk O w0 (Hf s) w p)→∀(b:Frame) (k:List Item) (cs:List Frame),
   ∃e a' w',Xqc V O w0 Q e a' w'∧Arrives P (lone (b.at a (.code c :: .inLoop c :: k)) cs w) b k cs e a' w':=by
  intro n
  induction n using Nat.strongRecOn with
  | _ n ih=>
    intro s a w hn hI hr ht b k cs
    obtain ⟨e,a₁,w₁,⟨Δ1,Θ1,T1,H1,r1,t1,q1⟩,harr⟩:=round s hI V O w0 a w hr ht b (.inLoop c :: k) cs
    cases e with
    | normal=>
      obtain ⟨rfl,s',hlt,hI₁,rfl,hw⟩:=q1
      obtain ⟨e₂,a₂,w₂,hq₂,harr₂⟩:=ih (m s') (hn▸hlt) s' a₁ w₁ rfl hI₁ (r1.weaken hw) (fun p hp=>(t1 p hp).same (XdS hw)) b k cs
      exact ⟨e₂,a₂,w₂,hq₂,.of_steps (Steps.trans harr (.one step_inLoop)) harr₂⟩
    | exit id=>exact ⟨_,a₁,w₁,⟨Δ1,Θ1,T1,H1,r1,t1,q1⟩,.pass (x:=.inLoop c) rfl (fun _ _=>.inl (by simp)) harr⟩
    | goto l=>exact ⟨_,a₁,w₁,⟨Δ1,Θ1,T1,H1,r1,t1,q1⟩,.pass (x:=.inLoop c) rfl (fun _ _=>.inl (by simp)) harr⟩
    | ret=>exact ⟨_,a₁,w₁,⟨Δ1,Θ1,T1,H1,r1,t1,q1⟩,.pass (x:=.inLoop c) rfl (fun _ _=>.inl (by simp)) harr⟩
    | panic ch=>exact ⟨_,a₁,w₁,⟨Δ1,Θ1,T1,H1,r1,t1,q1⟩,.pass (x:=.inLoop c) rfl (fun _ _=>.inl (by simp)) harr⟩
    | outgrown=>exact ⟨_,a₁,w₁,⟨Δ1,Θ1,T1,H1,r1,t1,q1⟩,.pass (x:=.inLoop c) rfl (fun _ _=>.inl (by simp)) harr⟩
 intro b k cs
 obtain ⟨e,a',w',hq,harr⟩:=key _ s0 a w rfl hi (r.weaken h0) (fun p hp=>(t p hp).same (XdS h0)) b k cs
 exact ⟨e,a',w',hq,.of_steps (.one step_loop) harr⟩
end
end Go.Proofs.YtdpobjakdplljaaGreatDoor

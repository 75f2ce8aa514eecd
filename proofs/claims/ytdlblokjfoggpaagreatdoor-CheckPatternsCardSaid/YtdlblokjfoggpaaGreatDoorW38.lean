import Derived.Test.YtdlblokjfoggpaaGreatDoorW10
import Derived.Test.YtdlblokjfoggpaaGreatDoorW21
import Derived.Test.YtdlblokjfoggpaaGreatDoorW7
/- A walk over symbolic memory: a region that draws its order, whose last operation waits for all others: these are quiet, guarded or not; the last one may turn memory. No program in sight. -/
set_option linter.unusedSimpArgs false
set_option linter.unusedVariables false
set_option maxRecDepth 100000
set_option maxHeartbeats 8000000
namespace Go.Proofs.YtdlblokjfoggpaaGreatDoor
open Go.RowKit
section
variable {P:Program} {H:List Hp} {T:List AV} {Q:Xb9}
theorem Xfv {L:List Oper} {listed:Array Bool} (hsz:listed.size=L.length) (hall:∀j,j < L.length→listed.getD j false=true):Region.ready .any L.toArray listed=[]:=by
 unfold Region.ready
 rw [List.filter_eq_nil_iff]
 intro i hi
 simp only [List.size_toArray,List.mem_range] at hi
 have:=hall i hi
 have hi':i < listed.size:=by omega
 simp [Array.getD,hi'] at this ⊢
 simp [this]
theorem wpAny_done {L:List Oper} {R:Exit→Act→World→Prop}:∀(fuel:Nat) (listed:Array Bool) (a:Act) (w:World),listed.size=L.length→(∀j,j < L.length→listed.getD j false=true)→R .normal a w→wpAny P .any L.toArray R fuel listed a w
 | 0,_,_,_,hsz,hall,h=>⟨Xfv hsz hall,h⟩
 | fuel+1,_,_,_,hsz,hall,h=>⟨fun _=>h,fun i hi=>by rw [Xfv hsz hall] at hi;cases hi⟩
theorem XjG {id:Nat} {l:List Oper} {z:Oper} (hm:P.follows .mixedOrders=true) (hc:Xkl (l++[z])=true) (hg:z.guard=none) (hza:∀i,i < l.length→∃e∈z.after,e.on=i) (h:dr P H (l++[z]).toArray l T fun T'=>Stp P z T' H (Q .normal)):awp P (.region id (l++[z]).toArray true) Q T H:=by
 have hr:=XhY hc
 obtain ⟨es,-,hE0,hfin⟩:=Xtn (ops:=(l++[z]).toArray) l T l 0 (fun _=>.top) rfl h
 have hsq:∀k,k≤l.length→Xed (l++[z]) es T k=Xed l es T k:=fun k=>by
  induction k with
  | zero=>intro _;rfl
  | succ k ih=>intro hk;simp only [Xed];rw [ih (by omega),List.getElem?_append_left (by omega)]
 have hE:∀(j:Nat) (o:Oper),j < l.length→(l++[z])[j]?=some o→Ent P (l++[z]).toArray o (Xed (l++[z]) es T j) H (es j):=fun j o hj hjo=>by
  rw [List.getElem?_append_left hj] at hjo
  rw [hsq j (by omega)]
  exact hE0 j o (Nat.zero_le _) hjo
 have hfin':Stp P z (Xed (l++[z]) es T l.length) H (Q .normal):=by rw [hsq _ (Nat.le_refl _)];exact hfin
 clear hE0 hfin h hc
 have hn:(l++[z]).length=l.length+1:=by simp
 have hzn:(l++[z])[l.length]?=some z:=by simp
 generalize l++[z]=L at *
 generalize l.length=n at *
 refine Xgc hm fun Δ V O w0 a w rel=>?_
 have key:∀(fuel:Nat) (listed:Array Bool) (a:Act) (w:World),listed.size=L.length →
   (∀j q,L[j]?=some q→listed.getD j false=true→∀e∈q.after,listed.getD e.on false=true)→listed.getD n false=false→cnt (fun j=>listed.getD j false) L.length≤fuel →
   Rel Δ V O w0 H (XcB L es T (fun j=>listed.getD j false) L.length) a w→wpAny P .any L.toArray (Xe9 Δ V O w0 Q) fuel listed a w:=by
  intro fuel
  induction fuel with
  | zero=>
    intro listed a w hsz hcl hnf hcnt rel
    have hall:=XfQ _ _ (Nat.le_zero.1 hcnt)
    have:=hall n (by omega)
    rw [hnf] at this;cases this
  | succ fuel ih=>
    intro listed a w hsz hcl hnf hcnt rel
    have hget:∀i,i < L.length→listed.getD i true=listed.getD i false:=fun i hi=>by
     have hi':i < listed.size:=by omega
     simp [Array.getD,hi']
    refine ⟨fun hnil=>?_,fun i hi=>?_⟩
    ·exfalso
     have hall:∀j,j < L.length→listed.getD j false=true:=by
      intro j
      induction j using Nat.strongRecOn with
      | _ j ihj=>
        intro hj
        cases hs:listed.getD j false with
        | true=>rfl
        | false=>
          exfalso
          unfold Region.ready at hnil
          rw [List.filter_eq_nil_iff] at hnil
          have:=hnil j (by simpa using hj)
          apply this
          have hlj:L[j]?=some L[j]:=by simp [hj]
          rw [hget j hj,hs]
          simp only [Bool.not_false,Bool.true_and,List.getElem?_toArray,hlj,Option.map_some,Option.getD_some]
          rw [Array.all_eq_true_iff_forall_mem]
          intro e he
          have h1:=hr.after j _ hlj e he
          rw [ihj e.on h1.2 (by omega)]
          simp
     have:=hall n (by omega)
     rw [hnf] at this;cases this
    ·unfold Region.ready at hi
     rw [List.mem_filter] at hi
     obtain ⟨hil,hrd⟩:=hi
     simp only [List.size_toArray,List.mem_range] at hil
     have hli:L[i]?=some L[i]:=by simp [hil]
     rw [hget i hil] at hrd
     simp only [List.getElem?_toArray,hli,Option.map_some,Option.getD_some,Bool.and_eq_true,Bool.not_eq_true',Array.all_eq_true_iff_forall_mem] at hrd
     obtain ⟨hSi,haf⟩:=hrd
     have haf':∀e∈L[i].after,listed.getD e.on false=true:=fun e he=>by
      have h1:=haf e he
      have h2:=hr.after i _ hli e he
      simpa [h2.1] using h1
     generalize ho:L[i]=o at hli haf'
     by_cases hin:i=n
     ·subst hin
      rw [hzn] at hli
      obtain rfl:=Option.some.inj hli
      have hall:∀j,j < i→listed.getD j false=true:=fun j hj=>by
       obtain ⟨e,he,rfl⟩:=hza j hj
       exact haf' e he
      have hT:XcB L es T (fun j=>listed.getD j false) L.length=Xed L es T i:=by
       rw [hn]
       simp only [XcB]
       rw [if_neg (by rw [hnf];decide),Xd3 L es T _ i hall]
      rw [hT] at rel
      unfold wpOp
      simp only [List.getElem?_toArray,hzn]
      rw [if_pos (by simp [Region.wanted,hg])]
      refine .inl (hfin' Δ V O w0 a w _ _ rel fun T' H' a' w' hq hrel=>wpAny_done fuel _ a' w' (by simpa using hsz) (fun j hj=>?_) ⟨T',H',hrel,hq⟩)
      by_cases hji:j=i
      ·subst hji
       have:j < listed.size:=by omega
       simp [Array.getD,this]
      ·simp only [Array.getD_eq_getD_getElem?]
       rw [Array.getElem?_setIfInBounds_ne (fun e=>hji e.symm)]
       have:=hall j (by omega)
       simpa only [Array.getD_eq_getD_getElem?] using this
     have hin':i < n:=by omega
     have hlook:=Xoq hr es T (fun j=>listed.getD j false) hcl i o hli hSi haf'
     have hops:OK V H (ev (Xed L es T i)) o a w:=by
      have h0:=rel.oks o
      refine ⟨h0.hok,fun x hx=>?_,h0.vlt,h0.gw⟩
      have:=h0.ops x hx
      rw [Xtt (T2:=Xed L es T i) (fun t ht=>hlook t (List.mem_append_left _ (List.mem_filterMap.2 ⟨x,by simpa using hx,by rw [ht]⟩)))] at this
      exact this
     have hnext:∀w' a',Rel Δ V O w0 H (Xa9 (XcB L es T (fun j=>listed.getD j false) L.length) o.dst (es i)) a' w'→wpAny P .any L.toArray (Xe9 Δ V O w0 Q) fuel (listed.setIfInBounds i true) a' w':=by
      intro w' a' hrel
      have h1:(listed.setIfInBounds i true).getD i false=true:=by
       have:i < listed.size:=by omega
       simp [Array.getD,this]
      have h2:∀j,j≠i→(listed.setIfInBounds i true).getD j false=listed.getD j false:=fun j hj=>by
       simp only [Array.getD_eq_getD_getElem?]
       rw [Array.getElem?_setIfInBounds_ne (fun e=>hj e.symm)]
      refine ih _ _ _ (by simpa using hsz) (fun j q hj hs e he=>?_) (by rw [h2 n (by omega)];exact hnf) ?_ ?_
      ·by_cases hji:j=i
       ·subst hji
        rw [hli] at hj;cases hj
        have h3:=(hr.after j _ hli e he).2
        rw [h2 _ (by omega)];exact haf' e he
       ·rw [h2 j hji] at hs
        have h3:=hcl j q hj hs e he
        by_cases hei:e.on=i
        ·rw [hei];exact h1
        ·rw [h2 _ hei];exact h3
      ·have:=XnJ (fun j=>listed.getD j false) (fun j=>(listed.setIfInBounds i true).getD j false) (fun j hj=>by
        by_cases hji:j=i
        ·subst hji;exact h1
        ·show (listed.setIfInBounds i true).getD j false=true
         rw [h2 j hji];exact hj) i hSi h1 L.length hil
       omega
      ·rw [←Xgw hr es T _ (fun j=>(listed.setIfInBounds i true).getD j false) i o hli hSi h1 h2];exact hrel
     unfold wpOp
     simp only [List.getElem?_toArray,hli]
     rcases hE i o hin' hli with ⟨hg,he⟩|⟨j,want,t,p,av,hg,hd,hp,he0,he⟩
     ·rw [if_pos (by simp [Region.wanted,hg])]
      exact .inl (he V a w _ _ hops fun v w' hE' hd=>hnext _ _ ((rel.quiet hE').put _ hd))
     ·have htl:t∈looks L o:=by
       refine List.mem_append_right _ ?_
       rw [hg]
       simp only [List.getElem?_toArray] at hd
       simp only [hd];simp
      have hgd:(XcB L es T (fun j=>listed.getD j false) L.length).getD t .top=(Xed L es T i).getD t .top:=by
       simp only [List.getD,hlook t htl]
      rw [XdR rel hg hd (by rw [hgd];exact hp)]
      cases hpb:p with
      | true=>
        rw [if_pos rfl]
        exact .inl (he hpb V a w _ _ hops.strip fun v w' hE' hd=>hnext _ _ ((rel.quiet hE').put _ (by rw [he0,Den];exact ⟨fun _=>hd,(fun h=>by rw [hpb] at h;cases h)⟩)))
      | false=>
        rw [if_neg (by simp)]
        exact hnext _ _ (rel.put _ (by rw [he0,Den];exact ⟨(fun h=>by rw [hpb] at h;cases h),fun _=>rfl⟩))
 have hrep:∀j,(Array.replicate L.length false).getD j false=false:=fun j=>by simp [Array.getD]
 refine key _ _ a w (by simp) (fun j q _ hs=>?_) (by rw [List.size_toArray];exact hrep n) ?_ ?_
 ·rw [List.size_toArray,hrep j] at hs;cases hs
 ·have:∀k,cnt (fun j=>(Array.replicate L.toArray.size false).getD j false) k≤k:=fun k=>by
   induction k with
   | zero=>simp [cnt]
   | succ k ih=>simp only [cnt];split<;>omega
  simpa using this L.length
 ·have:XcB L es T (fun j=>(Array.replicate L.toArray.size false).getD j false) L.length=T:=by
   have:∀k,XcB L es T (fun j=>(Array.replicate L.toArray.size false).getD j false) k=T:=fun k=>by
    induction k with
    | zero=>rfl
    | succ k ih=>simp only [XcB];rw [if_neg (by rw [List.size_toArray,hrep];simp)];exact ih
   exact this _
  rw [this];exact rel
def XlI (n:Nat) (z:Oper):Bool:=(List.range n).all fun i=>z.after.toList.any fun e=>e.on == i
theorem XbZ {id:Nat} {L:List Oper} {z:Oper} (n:Nat) (hm:P.follows .mixedOrders=true) (h:dr P H L.toArray L.dropLast T fun T'=>Stp P z T' H (Q .normal)) (hz:Xc3 L n=some z:=by first|rfl|fail) (hn:L.length=n+1:=by first|rfl|fail) (hc:Xkl L=true:=by first|decide +kernel|fail) (hg:z.guard=none:=by first|rfl|fail) (hw:XlI n z=true:=by first|decide +kernel|fail):awp P (.region id L.toArray true) Q T H:=by
 rw [Xbz] at hz
 have hl:L=L.dropLast++[z]:=by
  have hne:L≠[]:=by intro e;rw [e] at hn;cases hn
  have e1:=List.dropLast_concat_getLast hne
  have e2:L.getLast hne=z:=by
   rw [List.getLast_eq_getElem]
   obtain ⟨_,e⟩:=List.getElem?_eq_some_iff.1 hz
   simp only [hn,Nat.add_sub_cancel,e]
  rw [e2] at e1
  exact e1.symm
 have hlen:L.dropLast.length=n:=by rw [List.length_dropLast,hn,Nat.add_sub_cancel]
 generalize L.dropLast=l at *
 subst hl
 refine XjG hm hc hg (fun i hi=>?_) h
 unfold XlI at hw
 obtain ⟨e,he,hq⟩:=List.any_eq_true.1 (List.all_eq_true.1 hw i (List.mem_range.2 (by omega)))
 exact ⟨e,by simpa using he,by simpa using hq⟩
end
open Go.RowKit
abbrev Mat:=List (List Bool)
def Mat.at (M:Mat) (i k:Nat):Bool:=(M.getD i []).getD k false
structure MOk (m:Nat) (M:Mat):Prop where
 len:M.length=m
 row:∀r∈M,r.length=m
theorem MOk.rowl {m:Nat} {M:Mat} (h:MOk m M) {i:Nat} (hi:i < M.length):M[i].length=m:=h.row _ (List.getElem_mem hi)
theorem XeT {M:Mat} {i k:Nat} (hi:i < M.length) (hk:k < M[i].length):M.at i k=M[i][k]:=by
 unfold Mat.at
 have e:M.getD i []=M[i]:=by rw [List.getD_eq_getElem?_getD,List.getElem?_eq_getElem hi];rfl
 rw [e,List.getD_eq_getElem?_getD,List.getElem?_eq_getElem hk]
 rfl
def Mat.put (M:Mat) (i k:Nat) (v:Bool):Mat:=M.set i ((M.getD i []).set k v)
theorem MOk.put {m:Nat} {M:Mat} (h:MOk m M) (i k:Nat) (v:Bool):MOk m (M.put i k v):=by
 unfold Mat.put
 refine ⟨by rw [List.length_set];exact h.len,fun r hr=>?_⟩
 rcases List.mem_or_eq_of_mem_set hr with hr|rfl
 ·exact h.row r hr
 ·rw [List.length_set]
  by_cases hi:i < M.length
  ·rw [List.getD_eq_getElem?_getD,List.getElem?_eq_getElem hi];exact h.rowl hi
  ·rw [List.set_eq_of_length_le (by omega)] at hr
   rw [List.getD_eq_getElem?_getD,List.getElem?_eq_none (by omega)] at hr ⊢
   simp only [Option.getD_none,List.set_nil] at hr
   exact h.row _ hr
theorem XfB {m:Nat} {M:Mat} (h:MOk m M) {i k:Nat} (v:Bool) (hi:i < m) (hk:k < m) (p q:Nat):(M.put i k v).at p q=if p=i∧q=k then v else M.at p q:=by
 have hl:=h.len
 have hr:=h.rowl (i:=i) (by omega)
 unfold Mat.put Mat.at
 simp only [List.getD_eq_getElem?_getD]
 by_cases hp:p=i
 ·subst hp
  rw [List.getElem?_set_self (by omega),List.getElem?_eq_getElem (by omega:p < M.length)]
  simp only [Option.getD_some,true_and]
  by_cases hq:q=k
  ·subst hq;rw [List.getElem?_set_self (by omega),if_pos rfl];rfl
  ·rw [List.getElem?_set_ne (fun e=>hq e.symm),if_neg hq]
 ·rw [List.getElem?_set_ne (fun e=>hp e.symm),if_neg (fun e=>hp e.1)]
def XdS (m:Nat):Mat:=List.replicate m (List.replicate m false)
theorem Xcc (m:Nat):MOk m (XdS m):=⟨by simp [XdS],fun r hr=>by rw [List.eq_of_mem_replicate hr];simp⟩
theorem XfZ (m i k:Nat):(XdS m).at i k=false:=by
 unfold Mat.at XdS
 simp only [List.getD_eq_getElem?_getD,List.getElem?_replicate]
 split
 ·simp only [Option.getD_some,List.getElem?_replicate]
  split<;>rfl
 ·rfl
/-! In memory. -/
def mro (m g:Nat) (r:List Bool):Hp:=.row (some ⟨g,0,none⟩) m m 4 1 (ba r)
def XgT (m:Nat) (gs:List Nat) (M:Mat):List Hp:=List.zipWith (mro m) gs M
def mhd (m:Nat) (gs:List Nat):List AV:=gs.map fun g=>.x (.slice (some ⟨g,0,none⟩) m m)
@[simp] theorem Xxv (m:Nat) (gs:List Nat):(mhd m gs).length=gs.length:=by simp [mhd]
def mat (m:Nat) (ad:Option Addr) (cap:Nat) (gs:List Nat) (M:Mat):List Hp:=.row ad gs.length cap 103 1 (mhd m gs) :: XgT m gs M
theorem Xfz (m:Nat) (ad:Option Addr) (cap:Nat) (gs:List Nat) (M:Mat):mat m ad cap gs M=.row ad gs.length cap 103 1 (mhd m gs) :: XgT m gs M:=rfl
def mqs (M:Mat):List AV:=M.map fun r=>.sq r.length (ba r)
@[simp] theorem Xxw (M:Mat):(mqs M).length=M.length:=by simp [mqs]
theorem XeV (M:Mat) (k:Nat) (h:k < M.length):(mqs M).drop k=.sq M[k].length (ba M[k]) :: mqs (M.drop (k+1)):=by
 rw [mqs,←List.map_drop,List.drop_eq_getElem_cons h];rfl
theorem XdY (m:Nat) (gs:List Nat) (k:Nat) (h:k < gs.length):(mhd m gs).drop k=.x (.slice (some ⟨gs[k],0,none⟩) m m) :: mhd m (gs.drop (k+1)):=by
 rw [mhd,←List.map_drop,List.drop_eq_getElem_cons h];rfl
theorem Xk9 (m:Nat) (gs:List Nat) (M:Mat) (i:Nat) (hi:i < gs.length) (hM:i < M.length):(XgT m gs M)[i]?=some (mro m gs[i] M[i]):=by
 unfold XgT
 rw [List.getElem?_zipWith,List.getElem?_eq_getElem hi,List.getElem?_eq_getElem hM]
theorem XdZ (m:Nat) (gs:List Nat) (M:Mat) (i:Nat) (hi:i < gs.length) (hM:i < M.length):XfM (XgT m gs M) (some ⟨gs[i],0,none⟩) i m m 4 1 (ba M[i]):=⟨Xk9 m gs M i hi hM⟩
theorem Xd0 (m:Nat) (gs:List Nat) (M:Mat) (i:Nat) (hi:i < gs.length) (hM:i < M.length) (k:Nat) (v:Bool) (hk:k < M[i].length):(XgT m gs M).set i (.row (some ⟨gs[i],0,none⟩) m m 4 1 (spl (ba M[i]) k [.x (.bool v)]))=XgT m gs (M.put i k v):=by
 rw [Xpl _ _ _ hk]
 apply List.ext_getElem?
 intro j
 have hlen:(XgT m gs M).length=min gs.length M.length:=by simp [XgT]
 by_cases hj:j=i
 ·subst hj
  rw [List.getElem?_set_self (by rw [hlen];omega),Xk9 m gs _ j hi (by simp [Mat.put];exact hM)]
  unfold mro Mat.put
  simp only [List.getElem_set_self,List.getD_eq_getElem?_getD,List.getElem?_eq_getElem hM,Option.getD_some]
 ·rw [List.getElem?_set_ne (fun e=>hj e.symm)]
  unfold XgT Mat.put
  rw [List.getElem?_zipWith,List.getElem?_zipWith,List.getElem?_set_ne (fun e=>hj e.symm)]
theorem XpJ (m:Nat) (D:List Hp):∀(gs:List Nat) (M:Mat),gs.length=M.length→(∀r∈M,r.length=m)→(∀h∈XgT m gs M,h∈D)→VwL D (mhd m gs) (mqs M)
 | [],[],_,_,_=>VwL.nil
 | [],_ :: _,h,_,_=>by simp at h
 | _ :: _,[],h,_,_=>by simp at h
 | g :: gs,r :: M,h,hr,hD=>by
   refine VwL.cons ?_ (XpJ m D gs M (by simpa using h) (fun x hx=>hr x (List.mem_cons_of_mem _ hx)) (fun x hx=>hD x (by unfold XgT at hx ⊢;rw [List.zipWith_cons_cons];exact List.mem_cons_of_mem _ hx)))
   have e:=hr r (List.mem_cons_self ..)
   show Vw D (.x (.slice (some ⟨g,0,none⟩) m m)) (.sq r.length (ba r))
   rw [e]
   exact Vw.row (hD (mro m g r) (by unfold XgT;rw [List.zipWith_cons_cons];exact List.mem_cons_self ..)) (VwL.refl _ _)
theorem XpI {D:List Hp} {m:Nat} {ad:Option Addr} {cap:Nat} {gs:List Nat} {M:Mat} (hg:gs.length=m) (h:MOk m M) (hD:∀x∈mat m ad cap gs M,x∈D):Vw D (.x (.slice ad gs.length cap)) (.sq M.length (mqs M)):=by
 have e:gs.length=M.length:=by rw [hg,h.len]
 have:=Vw.row (D:=D) (cells':=mqs M) (hD _ (List.mem_cons_self ..)) (XpJ m _ gs M e h.row (fun x hx=>hD x (List.mem_cons_of_mem _ hx)))
 rw [e] at this ⊢
 exact this
theorem XlF {m:Nat} {ad:Option Addr} {cap:Nat} {gs:List Nat} {M:Mat} (hg:gs.length=m) (h:MOk m M):Vw (mat m ad cap gs M) (.x (.slice ad gs.length cap)) (.sq M.length (mqs M)):=XpI hg h (fun _ h=>h)
def Xpr:Nat→Nat→Mat→Mat
 | 0,_,M=>M
 | n+1,i,M=>Xpr n (i+1) (M.put i i true)
def XdO (m:Nat):Mat:=Xpr m 0 (XdS m)
def XjJ (A B:Mat) (i:Nat):Nat→Nat→Mat→Mat
 | 0,_,M=>M
 | n+1,k,M=>XjJ A B i n (k+1) (M.put i k (A.at i k || B.at i k))
def Xl9 (A B:Mat) (m:Nat):Nat→Nat→Mat→Mat
 | 0,_,M=>M
 | n+1,i,M=>Xl9 A B m n (i+1) (XjJ A B i m 0 M)
def XeJ (A B:Mat):Mat:=Xl9 A B A.length A.length 0 (XdS A.length)
theorem XpN (m i:Nat):List.replicate i (List.replicate m false)++[List.replicate m false]=List.replicate (i+1) (List.replicate m false):=by rw [List.replicate_succ',]
theorem Xow (m:Nat) (gs:List Nat) (M:Mat) (g:Nat) (r:List Bool) (h:gs.length=M.length):XgT m gs M++[mro m g r]=XgT m (gs++[g]) (M++[r]):=by
 unfold XgT
 rw [List.zipWith_append h]
 rfl
theorem Xwe (m:Nat):List.replicate m (AV.x (.bool false))=ba (List.replicate m false):=by simp [ba]
theorem XhH (m:Nat) (hm:m≤1000) (h0:0 < m):Xay Tryz.prog 94 [] [.x (.int .i64 m)] (fun r H'=>∃g0 cap gs,gs.length=m∧r=.x (.slice (some ⟨g0,0,none⟩) gs.length cap)∧H'=mat m (some ⟨g0,0,none⟩) cap gs (XdS m)):=by
 refine XaV Tryz.func94 Tryz.ntmps94 ?_
 (repeat' (first|refine Wkx.go ?_|refine Xad ?_|fail))
 refine Xa3 103 1 ?_
 apply Xah (S:=Nat × Option Addr × Nat × List Nat) (fun s=>frm 16 [(0,.x (.int .i64 m)),(3,.x (.slice s.2.1 s.2.2.2.length s.2.2.1)),(4,.x (.int .i64 s.1))]) (fun s=>mat m s.2.1 s.2.2.1 s.2.2.2 (List.replicate s.1 (List.replicate m false))) (fun s=>s.1≤m∧s.2.2.2.length=s.1) (fun s=>m - s.1) (0,none,0,[])
 case h0=>exact (XaX (D:=[]))
 case hi=>exact ⟨Nat.zero_le _,rfl⟩
 rintro ⟨i,ad,cap,gs⟩ ⟨h1,h2⟩
 simp only at h1 h2
 simp only [wfr]
 rw [Xfz m ad cap gs]
 generalize hR:XgT m gs (List.replicate i (List.replicate m false))=R
 by_cases hlt:i < m
 ·(have wx:=@Xwe;(repeat' (first|refine Wkx.go ?_|(refine Xaz (fun h=>?_) (fun h=>?_)<;>first|(exfalso;omega;done)|skip)|refine Xad ?_|(refine Xab rfl ?_;(first|((refine Xhr _ _ _ _ _ _ _ _ m m rfl XbY.out rfl rfl rfl rfl (Nat.le_refl _) (Xqs _ _ (by omega) (by decide)) (fun g=>?_));refine XaJ ?_)|refine XfK (fun ad cap=>?_)|refine Xfr (fun b=>?_)))|fail)))<;>(try clear wx)
  have e:mat m ad cap (gs++[g]) (List.replicate (i+1) (List.replicate m false))=.row ad (gs.length+1) cap 103 1 (mhd m gs++[.x (.slice (some ⟨g,0,none⟩) m m)]) :: (R++[mro m g (List.replicate m false)]):=by
   rw [Xfz,←XpN,←Xow _ _ _ _ _ (by simp [h2]),hR,XyA]
   simp [mhd]
  refine ⟨(i+1,ad,cap,gs++[g]),by simp only;omega,⟨by simp only;omega,by simp [h2]⟩,?_⟩
  simp only
  rw [e]
  exact Xaj.mk' [_] (_ :: (R++[_])) (XyE _ ((List.Perm.swap _ _ _).trans (XyE _ (List.perm_append_singleton _ _).symm))) (Xak.refl _ _) (by (repeat' (first|exact VwL.nil|(refine VwL.cons ?_ ?_)|exact Vw.refl _|exact Vw.top _|(refine Vw.eq ?_;(simp;done))|fail)))
 ·refine Xcl 0 rfl fun _ _ hr=>?_
  rcases hr with ⟨_,h3,_⟩|⟨g0,rfl⟩
  ·omega
  (repeat' (first|refine Wkx.go ?_|(refine Xaz (fun h=>?_) (fun h=>?_)<;>first|(exfalso;omega;done)|skip)|refine Xad ?_|fail))
  obtain rfl:i=m:=by omega
  exact Xaa _ _ (XaF rfl (RV.tmp _) (Xaj.mk' [] _ (Xyo _) (Xak.refl _ _) (VwL.refl _ _))) ⟨g0,cap,gs,h2,rfl,by rw [Xfz,←hR];rfl⟩
theorem Xsz (m:Nat) (hm:m≤1000) (h0:0 < m):Xay Tryz.prog 64 [] [.x (.int .i64 m)] (fun r H'=>r=.sq m (mqs (XdO m))∧H'=[]):=by
 have hE:=Lib.hid (XhH m hm h0)
 refine XaV Tryz.func64 Tryz.ntmps64 ?_
 (repeat' (first|refine Wkx.go ?_|refine Xad ?_|(refine Xab rfl ?_;((refine Xa7 Tryz.func94 [] rfl rfl (Xyo _) hE.out ?_;rintro _ _ ⟨g0,cap,gs,hg,rfl,rfl⟩);refine XaJ ?_))|fail))
 apply Xah (S:=Nat × Mat) (fun s=>frm 19 [(0,.x (.int .i64 m)),(3,.x (.slice (some ⟨g0,0,none⟩) gs.length cap)),(4,.x (.int .i64 s.1))]) (fun s=>mat m (some ⟨g0,0,none⟩) cap gs s.2) (fun s=>s.1≤m∧MOk m s.2∧Xpr (m - s.1) s.1 s.2=XdO m) (fun s=>m - s.1) (0,XdS m)
 case h0=>exact Xaj.mk' [] (mat m (some ⟨g0,0,none⟩) cap gs (XdS m)) (List.Perm.of_eq (by simp)) (Xak.refl _ _) (by (repeat' (first|exact VwL.nil|(refine VwL.cons ?_ ?_)|exact Vw.refl _|exact Vw.top _|fail)))
 case hi=>exact ⟨Nat.zero_le _,Xcc m,rfl⟩
 rintro ⟨i,M⟩ ⟨h1,h2,h3⟩
 simp only at h1 h2 h3
 simp only [wfr]
 rw [Xfz m (some ⟨g0,0,none⟩) cap gs M]
 have hML:=h2.len
 by_cases hlt:i < m
 ·have hrl:=h2.rowl (i:=i) (by omega)
  have hset:=Lib.hid (fun v=>Xd0 m gs M i (by omega) (by omega) i v (by omega))
  haveI hrow:=XdZ m gs M i (by omega) (by omega)
  have hd:=Lib.hid (XdY m gs i (by omega))
  generalize hR:XgT m gs M=R at *
  (have wx:=@hd.out;(repeat' (first|refine Wkx.go ?_|(refine Xaz (fun h=>?_) (fun h=>?_)<;>first|(exfalso;omega;done)|skip)|refine Xad ?_|(refine Xab rfl ?_;(refine Xg3 ?_))|fail)))<;>(try clear wx)
  rw [hset.out true]
  exact ⟨(i+1,M.put i i true),by simp only;omega,⟨by simp only;omega,h2.put i i true,by simp only;rw [←h3,show m - i=(m - (i+1))+1 from by omega];rfl⟩,(XaX (D:=[]))⟩
 ·(repeat' (first|refine Wkx.go ?_|(refine Xaz (fun h=>?_) (fun h=>?_)<;>first|(exfalso;omega;done)|skip)|refine Xad ?_|fail))
  obtain rfl:i=m:=by omega
  rw [Nat.sub_self] at h3
  refine Xaa _ _ (XaF rfl (RV.tmp _) (Xaj.mk' (mat i (some ⟨g0,0,none⟩) cap gs M) [] (List.Perm.of_eq (List.append_nil _).symm) Xak.nil (VwL.cons (XlF hg h2) VwL.nil))) ⟨?_,rfl⟩
  rw [←h3,hML];rfl
def XxR (m:Nat) (M:Mat) (r:AV) (H':List Hp):Prop:=∃g0 cap gs,gs.length=m∧r=.x (.slice (some ⟨g0,0,none⟩) gs.length cap)∧H'=mat m (some ⟨g0,0,none⟩) cap gs M
theorem XtS {P:Program} {f:FuncId} {H:List Hp} {args:List AV} {m:Nat} {M:Mat} (h:Xay P f H args (XxR m M)) (hM:MOk m M):Xay P f H args (fun r H'=>r=.sq m (mqs M)∧H'=[]):=
 h.weak fun r H' ⟨g0,cap,gs,hg,hr,hH⟩=>by
  subst hr hH
  refine ⟨.sq m (mqs M),[],Xaj.mk' (mat m (some ⟨g0,0,none⟩) cap gs M) [] (List.Perm.of_eq (List.append_nil _).symm) Xak.nil (VwL.cons ?_ VwL.nil),rfl,rfl⟩
  have:=XlF (ad:=some ⟨g0,0,none⟩) (cap:=cap) hg hM
  rw [hM.len] at this
  exact this
theorem XrN (A B:Mat) (hA:MOk A.length A) (hB:MOk A.length B) (hm:A.length≤1000) (h0:0 < A.length):Xay Tryz.prog 62 [] [.sq A.length (mqs A),.sq B.length (mqs B)] (XxR A.length (XeJ A B)):=by
 have hE:=Lib.hid (XhH A.length hm h0)
 have hAB:B.length=A.length:=hB.len
 refine XaV Tryz.func62 Tryz.ntmps62 ?_
 (repeat' (first|refine Wkx.go ?_|refine Xad ?_|(refine Xab rfl ?_;((refine Xa7 Tryz.func94 [] rfl rfl (Xyo _) hE.out ?_;rintro _ _ ⟨g0,cap,gs,hg,rfl,rfl⟩);refine XaJ ?_))|fail))
 apply Xah (S:=Nat × Mat) (fun s=>frm 46 [(0,.sq A.length (mqs A)),(1,.sq B.length (mqs B)),(5,.x (.slice (some ⟨g0,0,none⟩) gs.length cap)),(6,.x (.int .i64 s.1))]) (fun s=>mat A.length (some ⟨g0,0,none⟩) cap gs s.2) (fun s=>s.1≤A.length∧MOk A.length s.2∧Xl9 A B A.length (A.length - s.1) s.1 s.2=XeJ A B) (fun s=>A.length - s.1) (0,XdS A.length)
 case h0=>exact Xaj.mk' [] (mat A.length (some ⟨g0,0,none⟩) cap gs (XdS A.length)) (List.Perm.of_eq (by simp)) (Xak.refl _ _) (by (repeat' (first|exact VwL.nil|(refine VwL.cons ?_ ?_)|exact Vw.refl _|exact Vw.top _|fail)))
 case hi=>exact ⟨Nat.zero_le _,Xcc _,rfl⟩
 rintro ⟨i,M⟩ ⟨h1,h2,h3⟩
 simp only at h1 h2 h3
 simp only [wfr]
 by_cases hlt:i < A.length
 ·rw [show A.length - i=(A.length - (i+1))+1 from by omega,Xl9] at h3
  have hrA:=hA.rowl hlt
  have hrB:=hB.rowl (i:=i) (by omega)
  have hdA:=Lib.hid (XeV A i hlt)
  have hdB:=Lib.hid (XeV B i (by omega))
  (repeat' (first|refine Wkx.go ?_|(refine Xaz (fun h=>?_) (fun h=>?_)<;>first|(exfalso;omega;done)|skip)|refine Xad ?_|fail))
  generalize hW:XjJ A B i A.length 0 M=W at h3
  apply Xah (S:=Nat × Mat) (fun s=>frm 46 [(0,.sq A.length (mqs A)),(1,.sq B.length (mqs B)),(5,.x (.slice (some ⟨g0,0,none⟩) gs.length cap)),(6,.x (.int .i64 i)),(7,.x (.int .i64 s.1))]) (fun s=>mat A.length (some ⟨g0,0,none⟩) cap gs s.2) (fun s=>s.1≤A.length∧MOk A.length s.2∧XjJ A B i (A.length - s.1) s.1 s.2=W) (fun s=>A.length - s.1) (0,M)
  case h0=>exact (XaX (D:=[]))
  case hi=>exact ⟨Nat.zero_le _,h2,hW⟩
  clear hW
  rintro ⟨k,M'⟩ ⟨f1,f2,f3⟩
  simp only at f1 f2 f3
  simp only [wfr]
  rw [Xfz A.length (some ⟨g0,0,none⟩) cap gs M']
  have hML:=f2.len
  by_cases hkl:k < A.length
  ·rw [show A.length - k=(A.length - (k+1))+1 from by omega,XjJ] at f3
   have hrl:=f2.rowl (i:=i) (by omega)
   have hset:=Lib.hid (fun v=>Xd0 A.length gs M' i (by omega) (by omega) k v (by omega))
   haveI hrow:=XdZ A.length gs M' i (by omega) (by omega)
   have hd:=Lib.hid (XdY A.length gs i (by omega))
   have hbA:=Lib.hid (Xce A[i] k (by omega))
   have hbB:=Lib.hid (Xce (B[i]'(by omega)) k (by omega))
   have eA:=Lib.hid (XeT (M:=A) (i:=i) (k:=k) hlt (by omega))
   have eB:=Lib.hid (XeT (M:=B) (i:=i) (k:=k) (by omega) (by omega))
   generalize hR:XgT A.length gs M'=R at *
   (repeat' (first|refine Wkx.go ?_|(refine Xaz (fun h=>?_) (fun h=>?_)<;>first|(exfalso;omega;done)|skip)|refine Xad ?_|fail))
   refine XbZ 22 mixed ?_
   dsimp only [List.dropLast]
   (have wx:=And.intro @hd.out (And.intro @hdA.out (And.intro @hdB.out (And.intro @hbA.out @hbB.out)));(repeat' (first|refine Wkx.go ?_|refine Xad ?_|fail)))<;>(try clear wx)
   refine Xg3 ?_
   (repeat' (first|refine Wkx.go ?_|refine Xad ?_|fail))
   rw [hset.out _,←eA.out,←eB.out]
   exact ⟨(k+1,M'.put i k (A.at i k || B.at i k)),by simp only;omega,⟨by simp only;omega,f2.put i k _,f3⟩,(XaX (D:=[]))⟩
  ·(repeat' (first|refine Wkx.go ?_|(refine Xaz (fun h=>?_) (fun h=>?_)<;>first|(exfalso;omega;done)|skip)|refine Xad ?_|fail))
   have e:M'=W:=by rw [←f3,show A.length - k=0 from by omega];rfl
   subst e
   exact ⟨(i+1,M'),by simp only;omega,⟨by simp only;omega,f2,h3⟩,(XaX (D:=[]))⟩
 ·(repeat' (first|refine Wkx.go ?_|(refine Xaz (fun h=>?_) (fun h=>?_)<;>first|(exfalso;omega;done)|skip)|refine Xad ?_|fail))
  have e:M=XeJ A B:=by rw [←h3,show A.length - i=0 from by omega];rfl
  exact Xaa _ _ (XaF rfl (RV.tmp _) (Xaj.mk' [] (mat A.length (some ⟨g0,0,none⟩) cap gs M) (Xyo _) (Xak.refl _ _) (VwL.refl _ _))) ⟨g0,cap,gs,hg,rfl,by rw [e]⟩
end Go.Proofs.YtdlblokjfoggpaaGreatDoor

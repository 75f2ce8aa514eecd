import Derived.Test.YtdpobjakdplljaaGreatDoorU10
import Derived.Test.YtdpobjakdplljaaGreatDoorU9
/- A walk over symbolic memory: a string's bytes appended to a row of bytes. No program in sight. -/
set_option linter.unusedSimpArgs false
set_option linter.unusedVariables false
set_option maxRecDepth 100000
set_option maxHeartbeats 8000000
namespace Go.Proofs.YtdpobjakdplljaaGreatDoor
open Go.RowKit Go.Lib
section
variable {P:Program} {o:Oper} {H:List Hp} {T:List AV} {K:List AV→List Hp→Prop}
theorem Xhd (l:List UInt8):strCells (bs l)=u8s l:=by simp [strCells,u8s,bs]
theorem Xeq (w:World) (t u ty e:TypeId) (hE:XcF P t e (.int .u8 0) 1 1) (hu:P.underlying u=some .string) (ad:Option Addr) (n cap0:Nat) (xs:List Value) (hown:w.ownsRow 0 e 1 (.slice ad n cap0) n xs) (s:ByteArray) (hf:n+s.size≤10000000) :
  ∃ad' cap' w',(Builtin.append_ #[t,u] ty #[.slice ad n cap0,.string s]).run P w=.ok (.slice ad' (n+s.size) cap') w'∧w'.ownsRow 0 e 1 (.slice ad' (n+s.size) cap') (n+s.size) (xs++strCells s)∧w.grownBy w' (Value.slice ad n cap0).ownBlock∧∀x,ad'=some x→ad=some x∨x.block=w.heap.size:=by
 obtain ⟨i,hi,hz,hsize,hby⟩:=info_parts hE.info
 obtain ⟨v',w',hrun,g1,g2,g3⟩:=run_append_own_string (P:=P) (w:=w) 0 t u ty e i hE.under hu hi hz hsize hby (.slice ad n cap0) n xs hown s (by unfold maxLen;omega) (by omega) (Nat.zero_le _)
 obtain ⟨ad',cap',rfl,_⟩:=(Sl.own g1).shape
 refine ⟨ad',cap',w',hrun,g1,g2,fun x hx=>?_⟩
 subst hx
 have hxl:xs.length=n:=by simpa using hown.1
 rcases hown.2 with ⟨e1,rfl⟩|⟨g,cap1,cur,e1,hbg,hg,hnc,hcm,hcs,htake⟩
 ·cases e1
  by_cases hm:s.size=0
  ·have:=g3.2 ⟨rfl,hm⟩;cases this
  ·have hr:=run_append_nil_string (P:=P) w t u ty e i (.int .u8 0) hE.under hu hi hz s (by omega) (by omega) (by rw [hby];omega)
   simp only [Nat.zero_add] at hrun
   rw [hr] at hrun
   simp only [Result.ok.injEq,Value.slice.injEq,Option.some.injEq] at hrun
   exact .inr (by rw [←hrun.1.1])
 ·simp only [Value.slice.injEq] at e1
  obtain ⟨rfl,-,rfl⟩:=e1
  by_cases hroom:n+s.size≤cap0
  ·have hcs':cur.size=cap0:=by simpa using hcs
   have hr:=run_append_room_string (P:=P) w t u ty e i hE.under hu hi hsize g n cap0 cur hg s hroom (by omega)
   rw [hr] at hrun
   simp only [Result.ok.injEq,Value.slice.injEq,Option.some.injEq] at hrun
   exact .inl (by rw [←hrun.1.1])
  ·have hr:=run_append_grow_string (P:=P) w t u ty e i (.int .u8 0) hE.under hu hi hz ⟨g,0,none⟩ n cap0 xs (by rw [hsize];simpa using hxl) (hown.cells (g:=g) rfl) s (by omega) (by omega) (by rw [hby];exact growslice_fits (by omega) (by omega))
   rw [hr] at hrun
   simp only [Result.ok.injEq,Value.slice.injEq,Option.some.injEq] at hrun
   exact .inr (by rw [←hrun.1.1])
theorem Xfn (p:Nat) (s x:Operand) (t u e:TypeId) (ad:Option Addr) (n cap:Nat) (cells:List AV) (l:List UInt8) (ho:o.op=.call { callee:=.builtin .append,args:=#[s,x],argTypes:=#[t,u] }) (hs:ev T s=.x (.slice ad n cap)) (hp:H[p]?=some (.row ad n cap e 1 cells))
  (hx:ev T x=.x (.string (bs l))) (hE:XcF P t e (.int .u8 0) 1 1) (hu:P.underlying u=some .string) (hf:n+l.length≤10000000)
  (hK:∀ad' cap',K (XbW T o.dst (.x (.slice ad' (n+l.length) cap'))) (H.set p (.row ad' (n+l.length) cap' e 1 (cells++u8a l)))):Stp P o T H K:=by
 intro Δ V O w0 a w Kc Q r hKc
 obtain ⟨vals,hd,hown,h1⟩:=r.hp p _ hp
 obtain ⟨ad',cap',w',hrun,g1,g2,g3⟩:=Xeq (P:=P) w t u o.type e hE hu ad n cap vals hown (bs l) (by rw [Xdf];exact hf)
 rw [Xdf] at hrun g1
 rw [Xhd] at g1
 unfold Oper.wp execOp
 simp only [ho,resolve,invoke,builtin,Sem.run_bind,Sem.run_pure,Result.andThen_ok,List.map_toArray,XqA,XqE,r.evx hs,r.evx hx,hrun,Oper.upon]
 have hob:(Value.slice ad n cap).ownBlock=ad.map (·.block):=by cases ad<;>rfl
 have hw:∀k,k < w.heap.size→(Hp.row ad n cap e 1 cells).blk≠some k→w'.heap[k]?=w.heap[k]?:=fun k hk hn=>g2.block k hk fun e=>hn (by rw [hob] at e;exact e.symm)
 have hlt:∀k,(Hp.row ad' (n+l.length) cap' e 1 (cells++u8a l)).blk=some k→k < w'.heap.size∧((Hp.row ad n cap e 1 cells).blk=some k∨w.heap.size≤k):=by
  intro k hk
  refine ⟨(g1.lt k (by simp only [Hp.blk] at hk;cases ad' with|none=>simp at hk|some y=>simpa [Value.ownBlock] using hk)).2,?_⟩
  cases ad' with
  | none=>simp [Hp.blk] at hk
  | some y=>
    simp [Hp.blk] at hk
    subst hk
    rcases g3 y rfl with rfl|e
    ·exact .inl rfl
    ·exact .inr (by omega)
 refine hKc _ _ _ _ (hK ad' cap') (Rel.put (Rel.turnAt (y:=.row ad' (n+l.length) cap' e 1 (cells++u8a l)) r p hp g2.os g2.tape g2.output g2.size hw hlt ?_) _ (by rw [Den]))
 have hF:∀k,FB V (H.set p (.row ad' (n+l.length) cap' e 1 (cells++u8a l))) k→FB V H k∨w.heap.size≤k:=by
  intro k hk
  rcases hk with hk|⟨y,hy,e⟩
  ·exact .inl (.inl hk)
  ·rcases List.mem_or_eq_of_mem_set hy with hy|rfl
   ·exact .inl (.inr ⟨y,hy,e⟩)
   ·rcases (hlt k e).2 with h|h
    ·exact .inl (.inr ⟨_,List.mem_of_getElem? hp,h⟩)
    ·exact .inr h
 have hw':∀k,k < w.heap.size→¬FB V H k→w'.heap[k]?=w.heap[k]?:=fun k hk hn=>hw k hk fun e=>hn (.inr ⟨_,List.mem_of_getElem? hp,e⟩)
 exact ⟨vals++u8s l,(XaN.conv hF hw' _ _ hd).app XaN.exact,g1,fun u hu=>by
  rcases List.mem_append.1 hu with h|h
  ·exact h1 u h
  ·exact Xie l u h⟩
end
open Go.RowKit
theorem Xkb (s:List UInt8) (i m:Nat) (h:i < s.length) (hm:m≤i):XbL ((s.take i).drop m) (s.drop i)=if s[i].toNat=10 then (s.take i).drop m :: XbL [] (s.drop (i+1)) else XbL ((s.take (i+1)).drop m) (s.drop (i+1)):=by
 rw [List.drop_eq_getElem_cons h,XbL]
 split
 ·rfl
 ·rw [List.take_succ_eq_append_getElem h,List.drop_append_of_le_length (by simp;omega)]
theorem Xli (l:List (List UInt8)) (x:List UInt8):sa l++[.x (.string (bs x))]=sa (l++[x]):=by simp [sa]
theorem Xn9 (s:List UInt8) (hs:s.length≤70000):Xbb Tryz.prog 26 [] [.x (.string (bs s))] (fun r H'=>r=.sq (XbG s).length (sa (XbG s))∧H'=[]):=by
 refine XaI Tryz.func26 rfl ?_
 simp only [Tryz.ntmps26,Xqy,XqB,XqC,XqD,XqG,XqF,Nat.reduceAdd,Nat.reduceSub]
 refine Xcm 9 1 ?_
 (repeat' (first|with_reducible (first|refine Xal ?_|refine Xac ?_|refine Xat ?_|refine Xae ?_|refine Xaa ?_)|((apply Xad rfl);(case h=>(apply Xab 0 rfl;(exact Xao _ rfl)));(case hT=>((try simp only [wtn]);rfl)))|fail))
 apply Xba (S:=Nat × Nat × List (List UInt8) × Option Addr × Nat) (fun q=>frm 36 [(0,.x (.string (bs s))),(3,.x (.slice q.2.2.2.1 q.2.2.1.length q.2.2.2.2)),(4,.x (.int .i64 q.2.1)),(5,.x (.int .i64 q.1))]) (fun q=>[.row q.2.2.2.1 q.2.2.1.length q.2.2.2.2 9 1 (sa q.2.2.1)])
  (fun q=>q.1≤s.length∧q.2.1≤q.1∧q.2.2.1.length≤q.1∧XbG s=q.2.2.1++XbL ((s.take q.1).drop q.2.1) (s.drop q.1)) (fun q=>s.length - q.1) (0,0,[],none,0)
 case h0=>exact (XaH.mk' [] _ (Xqv _) (XaF.refl _ _) (by (repeat' (first|exact VwL.nil|(refine VwL.cons ?_ ?_)|exact Vw.refl _|exact Vw.top _|fail))))
 case hi=>exact ⟨Nat.zero_le _,Nat.le_refl _,Nat.zero_le _,by simp [XbG]⟩
 rintro ⟨i,m,out,ad0,cap0⟩ ⟨h1,h2,h3,h4⟩
 simp only at h1 h2 h3 h4
 have h4':=Lib.hid h4
 clear h4
 simp only [frm,XqC,XqD,Xqw,Xqx,XqJ,XqK]
 by_cases hlt:i < s.length
 ·have hg:=Lib.hid (Xkb s i m hlt h2)
  (repeat' (first|with_reducible (first|refine Xal ?_|refine Xac ?_|refine Xat ?_|refine Xaw ?_|refine Xae ?_|refine Xaa ?_|refine Xaj ?_)|(refine Xai _ rfl (fun h=>?_) (fun h=>?_)<;>((try (simp only [whn] at h));first|(exfalso;omega;done)|skip))|((apply Xad rfl);(case h=>(first|(apply Xab 0 rfl;(first|exact Xas _ rfl|exact Xao _ rfl))|(apply Xab 8 rfl;(exact XaJ _ _ _ _ _ _ _ rfl rfl rfl (by kernel_rfl) rfl (by omega)))|(apply Xab 9 rfl;(exact XaK _ _ _ _ _ _ _ rfl rfl (by kernel_rfl) (by first|exact .inr ⟨_,_,rfl,rfl⟩|fail) (by first|exact .inr ⟨_,_,rfl,rfl⟩|fail) (by omega) (by omega)))|(apply XaB;(case hs=>(intro _ _ h;cases h));(case hx=>rfl);(case hrun=>(intro w;simp [wtb,AV.val,go_sem];(try go_bits);rfl)))));(case hT=>((try simp only [wtn]);rfl)))|(refine Xah rfl ?_;((first|(refine Xav 13 rfl ?_;(refine XaM _ _ _ _ _ _ _ _ _ _ _ _ _ _ rfl rfl XbR.out (Src.row _ rfl XbR.out) Xa5.out (by first|rfl|fail) (XdI _ _ (by omega) (by decide)) (fun ad cap=>?_)))|(refine Xav 17 rfl ?_;(refine XaA _ _ _ _ _ _ _ _ rfl Xa5.out (by first|rfl|fail) rfl (by decide) rfl (fun b=>?_))));apply Xag;(case hT=>((try simp only [wtn]);rfl));(case hH=>((try simp only [wtn]);rfl))))|fail))
  ·have hb:s[i].toNat=10:=by rw [List.getElem?_eq_getElem hlt] at h;simp only [Option.getD_some] at h;omega
   have hg:=hg.out
   rw [if_pos hb] at hg
   refine ⟨(i+1,i+1,out++[(s.take i).drop m],ad,cap),by simp only;omega,⟨by simp only;omega,by simp only;omega,by simp only [XqH,Xqy,XqB];omega,?_⟩,?_⟩
   ·simp only
    have e0:(s.take (i+1)).drop (i+1)=[]:=List.drop_of_length_le (by simp;omega)
    rw [h4'.out,hg,e0,List.append_assoc];rfl
   ·simp only [XqH,Xqy,XqB,←Xli]
    exact (XaH.mk' [_] [_] (Xqv _) (XaF.refl _ _) (by (repeat' (first|exact VwL.nil|(refine VwL.cons ?_ ?_)|exact Vw.refl _|exact Vw.top _|fail))))
  ·have hb:¬s[i].toNat=10:=by rw [List.getElem?_eq_getElem hlt] at h;simp only [Option.getD_some] at h;omega
   have hg:=hg.out
   rw [if_neg hb] at hg
   exact ⟨(i+1,m,out,ad0,cap0),by simp only;omega,⟨by simp only;omega,by simp only;omega,by simp only;omega,by simp only;rw [h4'.out,hg]⟩,(XaH.mk' [] _ (Xqv _) (XaF.refl _ _) (by (repeat' (first|exact VwL.nil|(refine VwL.cons ?_ ?_)|exact Vw.refl _|exact Vw.top _|fail))))⟩
 ·obtain rfl:i=s.length:=by omega
  have h4:=h4'.out
  rw [List.drop_length,List.take_length,XbL] at h4
  (repeat' (first|with_reducible (first|refine Xal ?_|refine Xac ?_|refine Xaq ?_|refine Xaw ?_|refine XaY ?_|refine Xae ?_|refine Xaa ?_|refine XaG ?_|refine XaC ?_)|(refine Xai _ rfl (fun h=>?_) (fun h=>?_)<;>first|(exact absurd h (by decide))|((try (simp only [whn] at h));skip))|((apply Xad rfl);(case h=>(first|(apply Xab 0 rfl;(first|exact Xas _ rfl|exact Xao _ rfl))|(apply Xab 9 rfl;(exact XaK _ _ _ _ _ _ _ rfl rfl (by kernel_rfl) (by first|exact .inr ⟨_,_,rfl,rfl⟩|fail) (by first|exact .inl ⟨rfl,rfl⟩|fail) (by omega) (by omega)))|(apply XaB;(case hs=>(intro _ _ h;cases h));(case hx=>rfl);(case hrun=>(intro w;simp [wtb,AV.val,go_sem];skip;rfl)))));(case hT=>((try simp only [wtn]);rfl)))|(refine Xah rfl ?_;((first|(refine Xav 13 rfl ?_;(refine XaM _ _ _ _ _ _ _ _ _ _ _ _ _ _ rfl rfl XbR.out (Src.row _ rfl XbR.out) Xa5.out (by first|rfl|fail) (XdI _ _ (by omega) (by decide)) (fun ad cap=>?_)))|(refine Xav 17 rfl ?_;(refine XaA _ _ _ _ _ _ _ _ rfl Xa5.out (by first|rfl|fail) rfl (by decide) rfl (fun b=>?_))));apply Xag;(case hT=>((try simp only [wtn]);rfl));(case hH=>((try simp only [wtn]);rfl))))|fail))
  ·refine Xaf _ _ (XcL rfl (RV.tmp _) (XaH.mk' [_,_] [] (Xqv _) XaF.nil (VwL.cons (Vw.row (List.Mem.tail _ (List.Mem.head _)) (VwL.refl _ _)) VwL.nil))) ?_
   rw [if_neg (by intro e;have:=congrArg List.length e;simp at this;omega)] at h4
   rw [h4]
   simp only [List.take_length,XqH,Xqy,XqB,←Xli]
   first|trivial|fail
  ·refine Xaf _ _ (XcL rfl (RV.tmp _) (XaH.mk' [_] [] (Xqv _) XaF.nil (VwL.cons (Vw.row (List.Mem.head _) (VwL.refl _ _)) VwL.nil))) ?_
   rw [if_pos (List.drop_of_length_le (by omega)),List.append_nil] at h4
   rw [h4]
   exact ⟨rfl,rfl⟩
def Xlt (t:Tok):Prop:=t.kind=2→t.text.length≤18∧XdJ t.text
theorem XiA {t:Tok} (h:Xlt t) (hk:t.kind=2):0≤Xdb t.text∧Xdb t.text < 1000000000000000000:=by
 obtain ⟨h1,h2⟩:=h hk
 have:=XkY t.text h2 t.text.length (Nat.le_refl _)
 rw [List.take_length] at this
 have hpw:=Nat.pow_le_pow_right (n:=10) (by decide) h1
 generalize 10 ^ t.text.length=p at this hpw
 omega
def XpA (t:Tok) (most:Int):AV:=if t.kind=2 then .tup [.x (.int .u64 (Xdb t.text)),.x (.bool (decide (Xdb t.text≤most)))] else .tup [.x (.int .u64 0),.x (.bool false)]
theorem XeD (t:Tok) (most:Int) (hN:Xlt t):Xbb Tryz.prog 96 [] [t.av,.x (.int .u64 most)] (fun r H'=>r=XpA t most∧H'=[]):=by
 unfold Tok.av XpA
 have hN':=Lib.hid hN
 clear hN
 refine XaI Tryz.func96 rfl ?_
 simp only [Tryz.ntmps96,Xqy,XqB,XqC,XqD,XqG,XqF,Nat.reduceAdd,Nat.reduceSub]
 (repeat' (first|with_reducible (first|refine Xal ?_|refine Xac ?_|refine Xat ?_|refine Xaq ?_|refine Xaw ?_|refine Xae ?_|refine Xaa ?_|refine Xam ?_)|(refine Xai _ rfl (fun h=>?_) (fun h=>?_)<;>((try (simp only [whn] at h));skip))|((apply Xad rfl);(case h=>(first|(apply Xab 0 rfl;(exact Xao _ rfl))|(apply Xab 5 rfl;(exact Xau _ _ _ _ _ _ rfl rfl Xbv.out))|(apply Xab 6 rfl;(exact Xaz _ _ _ _ _ _ _ _ rfl rfl Xa3.out XaZ.out (by first|exact Xqu rfl|fail) (by first|exact Xqu rfl|fail)))|(apply XaB;(case hs=>(intro _ _ h;cases h));(case hx=>rfl);(case hrun=>(intro w;simp [wtb,AV.val,go_sem];skip;rfl)))));(case hT=>((try simp only [wtn]);rfl)))|(refine Xah rfl ?_;((refine Xav 15 rfl ?_;(refine Xbn _ _ rfl (by first|rfl|fail) (fun b=>?_)));apply Xag;(case hT=>((try simp only [wtn]);rfl));(case hH=>((try simp only [wtn]);rfl))))|fail))
 ·refine Xaf _ _ (XcA rfl (RV.tmp _) (RV.tmp _) (XaH.mk' [_] [] (Xqv _) XaF.nil (VwL.refl _ _))) ?_
  exact ⟨by rw [if_neg h];rfl,rfl⟩
 obtain ⟨hl18,hdig⟩:=hN'.out h
 have hdig':=Lib.hid hdig
 clear hdig hN'
 refine Xba (S:=Nat) (fun i=>frm 31 [(1,.x (.int .u64 most)),(2,.x (.pointer (some ⟨b,0,none⟩))),(6,.x (.int .u64 (Xdb (t.text.take i)))),(7,.x (.int .i64 i))]) (fun _=>[.box b [.x (.int .i64 t.kind),.x (.string (bs t.text)),.x (.int .i64 (t.line:Nat)),.x (.int .i64 (t.col:Nat))]]) (fun i=>i≤t.text.length) (fun i=>t.text.length - i) 0 (XaH.mk' [] _ (Xqv _) (XaF.refl _ _) (by (repeat' (first|exact VwL.nil|(refine VwL.cons ?_ ?_)|exact Vw.refl _|exact Vw.top _|fail)))) (Nat.zero_le _) fun i hs=>?_
 have hv1:=XkY t.text hdig'.out i hs
 have hpw:=Nat.pow_le_pow_right (n:=10) (by decide) (show i≤18 by omega)
 generalize 10 ^ i=p at hv1 hpw
 have hv2:Xdb (t.text.take i) < 1000000000000000000:=by omega
 have hv3:=hv1.1
 clear hv1 hpw
 generalize hnv:Xdb (t.text.take i)=nv at hv2 hv3 ⊢
 have hnv':=Lib.hid hnv
 clear hnv
 have hk2:=Lib.hid h
 clear h
 simp only [frm,XqC,XqD,Xqw,Xqx,XqJ,XqK]
 (repeat' (first|with_reducible (first|refine Xal ?_|refine Xac ?_|refine Xat ?_|refine Xaq ?_|refine Xaw ?_|refine XaY ?_|refine Xae ?_|refine Xaa ?_|refine XaG ?_|refine XaC ?_|refine Xaj ?_)|(refine Xai _ rfl (fun h=>?_) (fun h=>?_)<;>((try (simp only [whn] at h));skip))|((apply Xad rfl);(case h=>(first|(apply Xab 0 rfl;(first|exact Xas _ rfl|exact Xao _ rfl))|(apply Xab 5 rfl;(exact Xau _ _ _ _ _ _ rfl rfl Xbv.out))|(apply Xab 6 rfl;(exact Xaz _ _ _ _ _ _ _ _ rfl rfl Xa3.out XaZ.out (by first|exact Xqu rfl|fail) (by first|exact Xqu rfl|fail)))|(apply Xab 8 rfl;(exact XaJ _ _ _ _ _ _ _ rfl rfl rfl (by kernel_rfl) rfl (by omega)))|(apply XaB;(case hs=>(intro _ _ h;cases h));(case hx=>rfl);(case hrun=>(intro w;simp [wtb,AV.val,go_sem];(try go_bits);rfl)))));(case hT=>((try simp only [wtn]);rfl)))|fail))
 ·have hd:=hdig'.out t.text[i] (List.getElem_mem h)
  have e:Xdb (t.text.take (i+1))=10*nv+(((t.text[i]?.getD 0).toNat:Int) - 48) % 256:=by
   rw [Xce _ _ h,Xg0,hnv'.out,List.getElem?_eq_getElem h]
   simp only [Option.getD_some]
   omega
  refine ⟨i+1,by omega,by omega,?_⟩
  rw [e]
  exact (XaH.mk' [] _ (Xqv _) (XaF.refl _ _) (by (repeat' (first|exact VwL.nil|(refine VwL.cons ?_ ?_)|exact Vw.refl _|exact Vw.top _|fail))))
 ·refine Xaf _ _ (XcA rfl (RV.tmp _) (RV.tmp _) (XaH.mk' [_] [] (Xqv _) XaF.nil (VwL.refl _ _))) ?_
  have e:=hnv'.out
  rw [List.take_of_length_le (by omega)] at e
  exact ⟨by rw [if_pos hk2.out,e];rfl,rfl⟩
def Xfk (e:EF) (f:UInt8) (t:Tok):EF:=
 if f.toNat=78 then { e with job:=t.text } else if f.toNat=75 then { e with ok:=decide (t.text=wOk) } else if f.toNat=68 then { e with data:=t.text }
 else if f.toNat=84 then { e with time:=if t.kind=2 then Xdb t.text else 0 }
 else if f.toNat=67 then { e with code:=if t.kind=2 then Xdb t.text else 0 } else if f.toNat=76 then { e with client:=if t.kind=2 then Xdb t.text else 0 } else { e with num:=if t.kind=2 then Xdb t.text else 0 }
def Xbw (f:UInt8) (t:Tok):Bool:=
 if f.toNat=78 then decide (t.kind=1) else if f.toNat=75 then decide (t.kind=1∧(t.text=wOk∨t.text=XcS)) else if f.toNat=68 then decide (t.kind=3)
 else if f.toNat=84 then decide (t.kind=2) else decide (t.kind=2∧Xdb t.text≤999999999)
theorem XgH (e:EF) (f:UInt8) (t:Tok):XdS e f t=if Xbw f t then some (Xfk e f t) else none:=by
 unfold XdS Xbw Xfk
 by_cases h1:f.toNat=78
 ·simp [h1]
 by_cases h2:f.toNat=75
 ·simp [h2]
 by_cases h3:f.toNat=68
 ·simp [h3]
 simp only [h1,h2,h3,if_false]
 by_cases hk:t.kind=2
 ·by_cases h4:f.toNat=84
  ·simp [h4,hk]
  ·by_cases hn:Xdb t.text≤999999999
   ·by_cases h5:f.toNat=67
    ·simp [h5,hk,hn]<;>skip
    ·by_cases h6:f.toNat=76
     ·simp [h6,hk,hn]<;>skip
     ·simp [h4,h5,h6,hk,hn]<;>skip
   ·simp [h4,hk,hn]<;>skip
 ·by_cases h4:f.toNat=84
  ·simp [h4,hk]
  ·simp [h4,hk]
theorem XlX (be:Nat) (e:EF) (f:UInt8) (t:Tok) (hN:Xlt t) (hlen:t.text.length≤70000) (hk:t.kind=2):Xbb Tryz.prog 58 [.box be e.cells] [.x (.pointer (some ⟨be,0,none⟩)),.x (.int .u8 (f.toNat:Nat)),t.av] (fun r H'=>r=.x (.bool (Xbw f t))∧H'=[.box be (Xfk e f t).cells]):=by
 have q1:=XeD t 999999999 hN
 have q2:=XeD t 18446744073709551615 hN
 obtain ⟨b1,b2⟩:=XiA hN hk
 clear hN
 unfold Tok.av at q1 q2 ⊢
 unfold XpA at q1 q2
 have he:e.cells=[.x (.int .i64 e.kind),.x (.string (bs e.job)),.x (.bool e.ok),.x (.int .i64 e.code),.sq e.data.length (u8a e.data),.x (.int .u64 e.time),.x (.int .i64 e.client),.x (.int .i64 e.num)]:=rfl
 rw [he]
 rw [if_pos hk] at q1 q2
 rw [show decide (Xdb t.text≤18446744073709551615)=true from decide_eq_true (by omega)] at q2
 generalize hnv:Xdb t.text=nv at *
 have hnv':=Lib.hid hnv
 clear hnv
 have hlen':=hlen
 refine XaI Tryz.func58 rfl ?_
 simp only [Tryz.ntmps58,Xqy,XqB,XqC,XqD,XqG,XqF,Nat.reduceAdd,Nat.reduceSub]
 (repeat' (first|with_reducible (first|refine Xal ?_|refine Xac ?_|refine Xat ?_|refine Xaq ?_|refine Xae ?_|refine Xaa ?_|refine Xam ?_|refine Xaj ?_|refine Xak ?_)|(refine Xai _ rfl (fun h=>?_) (fun h=>?_)<;>((try (simp only [whn] at h));skip))|((first|apply Xad rfl|apply XaV _ _ rfl rfl rfl);(case h=>((try (intro (hp:(_:Bool)=true);((try simp only [Bool.and_eq_true,Bool.not_eq_true'] at hp);(try simp only [hp,wte]);(try simp only [whn] at hp))));(first|(apply Xab 0 rfl;(first|exact Xas _ rfl|exact Xao _ rfl))|(apply Xab 1 rfl;(first|exact Xbo _ _ _ _ _ rfl rfl rfl rfl|exact Xcz _ _ _ _ _ rfl rfl rfl rfl))|(apply Xab 2 rfl;(exact Xay _ _ _ _ rfl rfl rfl))|(apply Xab 4 rfl;(exact Xbp _ rfl (by first|exact .inl ⟨_,rfl⟩|fail)))|(apply Xab 5 rfl;(exact Xau _ _ _ _ _ _ rfl rfl Xbv.out))|(apply Xab 6 rfl;(exact Xaz _ _ _ _ _ _ _ _ rfl rfl Xa3.out XaZ.out (by first|exact Xqu rfl|fail) (by first|exact Xqu rfl|fail)))|(apply Xab 11 rfl;(first|exact Xan 96 Tryz.f96 _ _ rfl rfl Tryz.func96 (by decide) rfl (VwL.refl _ _) (q1)|exact Xan 96 Tryz.f96 _ _ rfl rfl Tryz.func96 (by decide) rfl (VwL.refl _ _) (q2)))|(apply Xab 12 rfl;(exact XdK _ _ 5 _ _ rfl (by kernel_rfl) (by kernel_rfl) (by kernel_rfl) (by kernel_rfl) rfl (by omega)))|(apply XaB;(case hs=>(intro _ _ h;cases h));(case hx=>rfl);(case hrun=>(intro w;simp [wtb,AV.val,go_sem];(try go_bits);rfl))))));(case hT=>((try simp only [wtn,↓reduceIte]);rfl)))|(refine Xah rfl ?_;((first|(refine Xav 15 rfl ?_;(refine Xbn _ _ rfl (by first|rfl|fail) (fun b=>?_)))|(refine Xav 16 rfl ?_;(refine Xax _ _ _ _ _ _ _ rfl rfl Xa3.out XaX.out (by first|rfl|fail) (by first|exact Xqu rfl|fail) ?_)));apply Xag;(case hT=>((try simp only [wtn]);rfl));(case hH=>((try simp only [wtn]);rfl))))|fail))
 all_goals
  refine Xaf _ _ (XcL rfl (RV.tmp _) (XaH.mk' [_] [_] (Xqv _) (XaF.refl _ _) (VwL.refl _ _))) ?_
  have hnv:=hnv'.out
  refine ⟨?_,?_⟩
  ·unfold Xbw
   (try rw [if_pos (show f.toNat=78 by omega)]);(try rw [if_neg (show ¬f.toNat=78 by omega)]);(try rw [if_pos (show f.toNat=75 by omega)]);(try rw [if_neg (show ¬f.toNat=75 by omega)]);(try rw [if_pos (show f.toNat=68 by omega)]);(try rw [if_neg (show ¬f.toNat=68 by omega)]);(try rw [if_pos (show f.toNat=84 by omega)]);(try rw [if_neg (show ¬f.toNat=84 by omega)]);skip;skip;skip;skip
   simp [ev,hk,hnv,wOk,XcS]
   try (first|done|fail)
  ·unfold Xfk
   (try rw [if_pos (show f.toNat=78 by omega)]);(try rw [if_neg (show ¬f.toNat=78 by omega)]);(try rw [if_pos (show f.toNat=75 by omega)]);(try rw [if_neg (show ¬f.toNat=75 by omega)]);(try rw [if_pos (show f.toNat=68 by omega)]);(try rw [if_neg (show ¬f.toNat=68 by omega)]);(try rw [if_pos (show f.toNat=84 by omega)]);(try rw [if_neg (show ¬f.toNat=84 by omega)]);(try rw [if_pos (show f.toNat=67 by omega)]);(try rw [if_neg (show ¬f.toNat=67 by omega)]);(try rw [if_pos (show f.toNat=76 by omega)]);(try rw [if_neg (show ¬f.toNat=76 by omega)])
   simp [EF.cells,hk,hnv,wOk]
   try (first|done|(by_cases hq:t.text=[111,107]<;>simp [hq];done)|fail)
theorem XlW (be:Nat) (e:EF) (f:UInt8) (t:Tok) (hN:Xlt t) (hlen:t.text.length≤70000) (hk:¬t.kind=2):Xbb Tryz.prog 58 [.box be e.cells] [.x (.pointer (some ⟨be,0,none⟩)),.x (.int .u8 (f.toNat:Nat)),t.av] (fun r H'=>r=.x (.bool (Xbw f t))∧H'=[.box be (Xfk e f t).cells]):=by
 have q1:=XeD t 999999999 hN
 have q2:=XeD t 18446744073709551615 hN
 clear hN
 unfold Tok.av at q1 q2 ⊢
 unfold XpA at q1 q2
 have he:e.cells=[.x (.int .i64 e.kind),.x (.string (bs e.job)),.x (.bool e.ok),.x (.int .i64 e.code),.sq e.data.length (u8a e.data),.x (.int .u64 e.time),.x (.int .i64 e.client),.x (.int .i64 e.num)]:=rfl
 rw [he]
 rw [if_neg hk] at q1 q2
 have hlen':=hlen
 refine XaI Tryz.func58 rfl ?_
 simp only [Tryz.ntmps58,Xqy,XqB,XqC,XqD,XqG,XqF,Nat.reduceAdd,Nat.reduceSub]
 (repeat' (first|with_reducible (first|refine Xal ?_|refine Xac ?_|refine Xat ?_|refine Xaq ?_|refine Xae ?_|refine Xaa ?_|refine Xam ?_|refine Xaj ?_|refine Xak ?_)|(refine Xai _ rfl (fun h=>?_) (fun h=>?_)<;>((try (simp only [whn] at h));skip))|((first|apply Xad rfl|apply XaV _ _ rfl rfl rfl);(case h=>((try (intro (hp:(_:Bool)=true);((try simp only [Bool.and_eq_true,Bool.not_eq_true'] at hp);(try simp only [hp,wte]);(try simp only [whn] at hp))));(first|(apply Xab 0 rfl;(first|exact Xas _ rfl|exact Xao _ rfl))|(apply Xab 1 rfl;(first|exact Xbo _ _ _ _ _ rfl rfl rfl rfl|exact Xcz _ _ _ _ _ rfl rfl rfl rfl))|(apply Xab 2 rfl;(exact Xay _ _ _ _ rfl rfl rfl))|(apply Xab 4 rfl;(exact Xbp _ rfl (by first|exact .inl ⟨_,rfl⟩|fail)))|(apply Xab 5 rfl;(exact Xau _ _ _ _ _ _ rfl rfl Xbv.out))|(apply Xab 6 rfl;(exact Xaz _ _ _ _ _ _ _ _ rfl rfl Xa3.out XaZ.out (by first|exact Xqu rfl|fail) (by first|exact Xqu rfl|fail)))|(apply Xab 11 rfl;(first|exact Xan 96 Tryz.f96 _ _ rfl rfl Tryz.func96 (by decide) rfl (VwL.refl _ _) (q1)|exact Xan 96 Tryz.f96 _ _ rfl rfl Tryz.func96 (by decide) rfl (VwL.refl _ _) (q2)))|(apply Xab 12 rfl;(exact XdK _ _ 5 _ _ rfl (by kernel_rfl) (by kernel_rfl) (by kernel_rfl) (by kernel_rfl) rfl (by omega)))|(apply XaB;(case hs=>(intro _ _ h;cases h));(case hx=>rfl);(case hrun=>(intro w;simp [wtb,AV.val,go_sem];(try go_bits);rfl))))));(case hT=>((try simp only [wtn,↓reduceIte]);rfl)))|(refine Xah rfl ?_;((first|(refine Xav 15 rfl ?_;(refine Xbn _ _ rfl (by first|rfl|fail) (fun b=>?_)))|(refine Xav 16 rfl ?_;(refine Xax _ _ _ _ _ _ _ rfl rfl Xa3.out XaX.out (by first|rfl|fail) (by first|exact Xqu rfl|fail) ?_)));apply Xag;(case hT=>((try simp only [wtn]);rfl));(case hH=>((try simp only [wtn]);rfl))))|fail))
 all_goals
  refine Xaf _ _ (XcL rfl (RV.tmp _) (XaH.mk' [_] [_] (Xqv _) (XaF.refl _ _) (VwL.refl _ _))) ?_
  refine ⟨?_,?_⟩
  ·unfold Xbw
   (try rw [if_pos (show f.toNat=78 by omega)]);(try rw [if_neg (show ¬f.toNat=78 by omega)]);(try rw [if_pos (show f.toNat=75 by omega)]);(try rw [if_neg (show ¬f.toNat=75 by omega)]);(try rw [if_pos (show f.toNat=68 by omega)]);(try rw [if_neg (show ¬f.toNat=68 by omega)]);(try rw [if_pos (show f.toNat=84 by omega)]);(try rw [if_neg (show ¬f.toNat=84 by omega)]);skip;skip;skip;skip
   simp [ev,hk,wOk,XcS]
   try (first|done|rfl|(by_cases p1:t.kind=1<;>by_cases p2:t.text=[111,107]<;>by_cases p3:t.text=[102,97,105,108,101,100]<;>simp [p1,p2,p3];done)|fail)
  ·unfold Xfk
   (try rw [if_pos (show f.toNat=78 by omega)]);(try rw [if_neg (show ¬f.toNat=78 by omega)]);(try rw [if_pos (show f.toNat=75 by omega)]);(try rw [if_neg (show ¬f.toNat=75 by omega)]);(try rw [if_pos (show f.toNat=68 by omega)]);(try rw [if_neg (show ¬f.toNat=68 by omega)]);(try rw [if_pos (show f.toNat=84 by omega)]);(try rw [if_neg (show ¬f.toNat=84 by omega)]);(try rw [if_pos (show f.toNat=67 by omega)]);(try rw [if_neg (show ¬f.toNat=67 by omega)]);(try rw [if_pos (show f.toNat=76 by omega)]);(try rw [if_neg (show ¬f.toNat=76 by omega)])
   simp [EF.cells,hk,wOk]
   try (first|done|(by_cases hq:t.text=[111,107]<;>simp [hq];done)|fail)
theorem XnJ (be:Nat) (e:EF) (f:UInt8) (t:Tok) (hN:Xlt t) (hlen:t.text.length≤70000):Xbb Tryz.prog 58 [.box be e.cells] [.x (.pointer (some ⟨be,0,none⟩)),.x (.int .u8 (f.toNat:Nat)),t.av] (fun r H'=>r=.x (.bool (Xbw f t))∧H'=[.box be (Xfk e f t).cells]):=by
 by_cases hk:t.kind=2
 ·exact XlX be e f t hN hlen hk
 ·exact XlW be e f t hN hlen hk
end Go.Proofs.YtdpobjakdplljaaGreatDoor

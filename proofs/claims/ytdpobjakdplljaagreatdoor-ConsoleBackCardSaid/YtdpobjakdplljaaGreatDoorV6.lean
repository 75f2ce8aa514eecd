import Derived.Test.YtdpobjakdplljaaGreatDoorV5
import Derived.OrdersHeld
/- A walk over symbolic memory: the walk's rules, in bundles; where a block stands. No program in sight. -/
set_option linter.unusedSimpArgs false
set_option linter.unusedVariables false
set_option maxRecDepth 100000
set_option maxHeartbeats 8000000
namespace Go.Proofs.YtdpobjakdplljaaGreatDoor
open Go.RowKit
set_option linter.defProp false
/-! Where a block of the call's own stands. -/
class XaU (H:List Hp) (b:Nat) (p:outParam Nat) (cells:outParam (List AV)):Prop where out:H[p]?=some (.box b cells)
instance {x:Hp} {H:List Hp} {b p:Nat} {cells:List AV} [h:XaU H b p cells]:XaU (x :: H) b (p+1) cells:=⟨by simpa using h.out⟩
instance {H:List Hp} {b:Nat} {cells:List AV}:XaU (.box b cells :: H) b 0 cells:=⟨rfl⟩
class Xb9 (H:List Hp) (ad:Option Addr) (p n cap:outParam Nat) (e:outParam TypeId) (size:outParam Nat) (cells:outParam (List AV)):Prop where out:H[p]?=some (.row ad n cap e size cells)
instance {x:Hp} {H:List Hp} {ad:Option Addr} {p n cap:Nat} {e:TypeId} {size:Nat} {cells:List AV} [h:Xb9 H ad p n cap e size cells]:Xb9 (x :: H) ad (p+1) n cap e size cells:=⟨by simpa using h.out⟩
instance {H:List Hp} {ad:Option Addr} {n cap:Nat} {e:TypeId} {size:Nat} {cells:List AV}:Xb9 (.row ad n cap e size cells :: H) ad 0 n cap e size cells:=⟨rfl⟩
/-! The rules. -/
theorem Xtn (T:List AV) (t:Nat):ev T (.tmp t)=T.getD t .top:=rfl
theorem XpR (T:List AV) (v:Value):ev T (.const v)=.x v:=rfl
theorem XnX (T:List AV) (g:Nat):ev T (.global g)=.x (.pointer (some ⟨g,0,none⟩)):=rfl
theorem XrQ (T:List AV) (f:Nat):ev T (.func f)=.x (.func (.func f) #[] #[]):=rfl
theorem Xto (T:List AV) (x:Operand):evs T x=str (ev T x):=rfl
theorem XuI (v:AV):str (.g true v)=v:=rfl
theorem Xt1 (v:AV):str (.g false v)=.g false v:=rfl
theorem XuJ (v:Value):str (.x v)=.x v:=rfl
theorem XsM:str .top=.top:=rfl
theorem Xt3 (n:Nat) (l:List AV):str (.sq n l)=.sq n l:=rfl
theorem XtZ (l:List AV):str (.at_ l)=.at_ l:=rfl
theorem XsK (l:List AV):str (.agg l)=.agg l:=rfl
theorem XsN (l:List AV):str (.tup l)=.tup l:=rfl
theorem XsL (t:TypeId) (v:AV):str (.ifc t v)=.ifc t v:=rfl
theorem XoQ (T:List AV) (d:Nat) (av:AV):Xb4 T (some d) av=T.set d av:=rfl
theorem XoP (T:List AV) (av:AV):Xb4 T none av=T:=rfl
theorem XuL (v:Value):AV.val (.x v)=v:=rfl
theorem XuB (n:Nat) (l:List AV):ldA true n l=mkA (l.take n):=rfl
theorem XuA (n:Nat) (l:List AV):ldA false n l=l.getD 0 .top:=rfl
theorem XtE (l:List AV):mkA l=if l.all AV.ex then .x (.agg (l.map AV.val).toArray) else .agg l:=rfl
def wtb:=And.intro Xtn (And.intro XpR (And.intro XnX (And.intro XrQ (And.intro Xto (And.intro XuI (And.intro Xt1 (And.intro XuJ (And.intro XsM (And.intro Xt3 (And.intro XtZ (And.intro XsK (And.intro XsN (And.intro XsL (And.intro XoQ (And.intro XoP XuL)))))))))))))))
def wtc:=And.intro Xnx (And.intro Xl8 (And.intro XiN (And.intro Xj7 (And.intro XhL (And.intro XgZ (And.intro Xj6 (And.intro Xl9 (And.intro XpK (And.intro XpJ (And.intro Xnw (And.intro Xnv Xl7)))))))))))
def wtd:=And.intro XuB (And.intro XuA (And.intro XtE (And.intro Xu0 (And.intro Xus (And.intro Xur (And.intro Xtp (And.intro Xuc (And.intro XsU (And.intro Xpp (And.intro XqV (And.intro Xub (And.intro XqN XqO))))))))))))
def wte:=And.intro (@Bool.and_false) (And.intro (@Bool.false_and) (And.intro (@Bool.and_true) (And.intro (@Bool.true_and) (And.intro Bool.false_eq_true (And.intro Bool.not_true (And.intro Bool.not_false Int.toNat_natCast))))))
def wtl:=And.intro (@List.all_cons.{0}) (And.intro (@List.all_nil.{0}) (And.intro (@Xvc.{0}) (And.intro (@Xvd.{0}) (And.intro (@List.flatten_cons.{0}) (And.intro (@List.flatten_nil.{0}) (And.intro (@List.drop_nil.{0}) (And.intro (@Xvj.{0}) (And.intro (@Xvk.{0}) (And.intro (@List.getD_cons_zero.{0}) (And.intro (@List.getD_cons_succ.{0}) (And.intro (@Xvf.{0}) (And.intro (@Xvg.{0}) (And.intro (@List.append_nil.{0}) (And.intro (@List.drop_zero.{0}) (And.intro (@List.drop_succ_cons.{0}) (And.intro (@List.take_zero.{0}) (And.intro (@List.take_succ_cons.{0}) (And.intro (@Xva.{0,0}) (And.intro (@Xve.{0,0}) (And.intro (@Xu8.{0}) (And.intro (@Xvb.{0}) (And.intro Nat.zero_add (And.intro Nat.mul_one Nat.add_zero)))))))))))))))))))))))
def wtn:=And.intro wtb (And.intro wtc (And.intro wtd (And.intro wte wtl)))
def wlq:=And.intro wtb wtc
def whn:=And.intro (@decide_eq_true_eq) (And.intro (@decide_eq_false_iff_not) (And.intro (@beq_iff_eq.{0}) (And.intro (@Xvm.{0}) (And.intro (@bne_iff_ne.{0}) (And.intro (@bne_eq_false_iff_eq.{0}) (And.intro (@Bool.not_eq_true) (And.intro (@Bool.not_eq_false) (And.intro (@Bool.not_eq_true') (And.intro (@Bool.not_eq_false') (And.intro Bool.not_true (And.intro Bool.not_false (And.intro (@Bool.and_eq_true) (And.intro (@Bool.or_eq_true) (And.intro (@Bool.and_eq_false_iff) (And.intro (@Bool.or_eq_false_iff) (@ne_eq.{1}))))))))))))))))
section
variable {P:Program} {f:FuncId} {H:List Hp} {args:List AV}
theorem Xa8.weak {Q Q2:AV→List Hp→Prop} (h:Xa8 P f H args Q) (hq:∀r H',Q r H'→∃r2 H2,XaH H' [r] H2 [r2]∧Q2 r2 H2):Xa8 P f H args Q2:=fun V w vs h1 h2 h3 h4=>
 (h V w vs h1 h2 h3 h4).mono fun e w' ⟨r,H',v,q,he,hd,hok,hfr,hown⟩=>by
  obtain ⟨r2,H2,hw,q2⟩:=hq r H' q
  obtain ⟨k1,k2,k3⟩:=Xfm (vs:=[v]) hok (by rw [XaT];exact ⟨v,[],rfl,hd,by rw [XaT]⟩) hw
  have k2':=k2.get' 0 r2 v rfl rfl
  exact ⟨r2,H2,v,q2,he,k2',k1,hfr,fun x hx k hk=>by
   obtain ⟨y,hy,e⟩:=k3 x hx k hk
   exact hown y hy k e⟩
theorem law_walk (h:Xa8 P f [] args (fun r H'=>r=.x (.bool true)∧H'=[])) (W:World) (hg:Gw W) (vs:Array Value) (hd:XaT (fun _=>False) W args vs.toList):Calls P f vs W fun e w'=>e=.returned (.bool true)∧Ext W w':=by
 have:=h (fun _=>False) W vs.toList (fun _ h=>h.elim) ⟨by simp,List.Pairwise.nil,by simp⟩ (hd.weak fun k hk=>by rcases hk with hk|⟨x,hx,_⟩;exact hk;cases hx) ⟨fun k _ ⟨x,hx,_⟩=>(by cases hx),hg⟩
 refine this.mono fun e w' ⟨r,H',v,⟨hr,_⟩,he,hdv,_,hfr,_⟩=>?_
 subst hr
 rw [Den] at hdv
 subst hdv
 refine ⟨he,Fr.ext ⟨hfr.os,hfr.tape,hfr.output,hfr.size,fun k hk hn=>hfr.block k hk fun ⟨x,hx,_⟩=>by cases hx⟩⟩
end
theorem XaT.cons' {F:Nat→Prop} {W:World} {a:AV} {l:List AV} {v:Value} {vs:List Value} (h:Den F W a v) (k:XaT F W l vs):XaT F W (a :: l) (v :: vs):=by rw [XaT];exact ⟨v,vs,rfl,h,k⟩
theorem XaT.nil' {F:Nat→Prop} {W:World}:XaT F W [] []:=by rw [XaT]
theorem XfN {F:Nat→Prop} {W:World} (v:Value):Den F W (.x v) v:=by rw [Den]
theorem Xl1 (s:ByteArray):bs s.data.toList=s:=by cases s;simp [bs]
theorem XrK {F:Nat→Prop} {W:World} (s:ByteArray):Den F W (.x (.string (bs s.data.toList))) (.string s):=by rw [Xl1];exact XfN _
section
variable {P:Program} {o:Oper} {ρ:Operand→AV} {H:List Hp}
theorem Xta (a b:List UInt8):bs a++bs b=bs (a++b):=by
 apply ByteArray.ext
 simp [bs]
/-! Operations on memory that nobody writes, whose results hang on no memory. -/
theorem Xf8 (x:Operand) (cells:List AV) (ho:o.op=.nilCheck x) (hx:ρ x=.at_ cells):XlQ P o ρ H (.at_ cells):=fun V a w r=>by
 have hd:=r.ops x (by simp [ho,Op.operands])
 rw [hx] at hd
 have hd':=hd
 rw [Den] at hd
 obtain ⟨b,off,vals,hv,_⟩:=hd
 exact ⟨a.eval x,fun w'=>by rw [hv];simp [execOp,ho,hv],hd'⟩
theorem XeN (s:TypeId) (x:Operand) (f k:Nat) (cells:List AV) (ho:o.op=.fieldAddr s x f) (hx:ρ x=.at_ cells) (hk:Xrf P s f=some k):XlQ P o ρ H (.at_ (cells.drop k)):=fun V a w r=>by
 have hd:=r.ops x (by simp [ho,Op.operands])
 rw [hx,Den] at hd
 obtain ⟨b,off,vals,hv,hm,hl⟩:=hd
 exact ⟨.pointer (some ⟨b,off+k,none⟩),fun w'=>by simp [execOp,ho,hv,XeA s f k hk],by rw [Den];exact ⟨b,off+k,vals.drop k,rfl,hm.drop k,hl.drop k⟩⟩
theorem XhG (t e:TypeId) (x y:Operand) (size n:Nat) (k:IntKind) (i:Int) (j:Nat) (cells:List AV) (ho:o.op=.indexAddr t x y) (hx:ρ x=.sq n cells) (hy:ρ y=.x (.int k i)) (ht:elT P t=some (e,size)) (hi:i=(j:Int)) (h1:j < n) (hc:0 < cells.length):XlQ P o ρ H (.at_ (cells.drop (j*size))):=by
 subst hi
 intro V a w r
 have hd:=r.ops x (by simp [ho,Op.operands])
 rw [hx,Den] at hd
 obtain ⟨ad,cap,vals,hv,h2,h3,h4,hm,hl⟩:=hd
 have hm':=hm
 rcases hm with rfl|⟨b,off,rfl,hb,hcl⟩
 ·have:=hl.len;simp at this;omega
 ·refine ⟨.pointer (some ⟨b,off+j*size,none⟩),fun w'=>by simp [execOp,ho,hv,r.evx (x:=y) (by simp [ho,Op.operands]) hy,XgG t e size ht b off n cap k j (by omega) (by omega)],?_⟩
  rw [Den]
  exact ⟨b,_,vals.drop (j*size),rfl,hm'.drop (j*size),hl.drop (j*size)⟩
theorem Xck {x y:Operand} (t t2:TypeId) (a b:List UInt8) (ho:o.op=.binOp .add t x y t2) (hx:ρ x=.x (.string (bs a))) (hy:ρ y=.x (.string (bs b))) (hl:a.length+b.length≤1000000000):Evl P o ρ H (.x (.string (bs (a++b)))):=by
 apply XaD
 case hs=>(intro cs b h;rw [ho] at h;cases h)
 case hx=>simp [ho,Op.operands,hx,hy,AV.ex]
 case hrun=>
  intro w
  have h1:(bs a).size=a.length:=by simp [bs,ByteArray.size]
  have h2:(bs b).size=b.length:=by simp [bs,ByteArray.size]
  have h3:(a.length:Int)+(b.length:Int)≤9223372036854775807:=by omega
  simp [execOp,ho,hx,hy,AV.val,go_sem,Op.stringOp,h1,h2,h3,Xta]
end
open Go.RowKit
section
variable {P:Program} {md:Region.Mode} {ops:Array Oper} {Q:Exit→Act→World→Prop} {S:World→Prop} {D:List Nat}
def XcD (P:Program) (md:Region.Mode) (ops:Array Oper) (Q:Exit→Act→World→Prop) (D:List Nat) (S:World→Prop):Nat→Array Bool→Act→World→Prop
 | 0,listed,a,w=>Region.ready md ops listed=[]∧Q .normal a w
 | n+1,listed,a,w=>(Region.ready md ops listed=[]→Q .normal a w) ∧
   ∀j∈Region.ready md ops listed,wpOp P ops Q j (fun a' w'=>(D.contains j=false→S w→S w')∧XcD P md ops Q D S n (listed.setIfInBounds j true) a' w') a w
theorem XcD.any:∀{n:Nat} {listed:Array Bool} {a:Act} {w:World},XcD P md ops Q D S n listed a w→wpAny P md ops Q n listed a w
 | 0,_,_,_,h=>h
 | _+1,_,_,_,h=>⟨h.1,fun j hj=>wpOp_mono (fun _ _ k=>XcD.any k.2) (h.2 j hj)⟩
theorem XcD.rest:∀{n:Nat} {listed:Array Bool} {a:Act} {w:World},(∀j,j < ops.size→listed.getD j true=false→D.contains j=true)→wpAny P md ops Q n listed a w→XcD P md ops Q D S n listed a w
 | 0,_,_,_,_,h=>h
 | n+1,listed,a,w,hD,h=>⟨h.1,fun j hj=>wpOp_mono (fun a' w' k=>by
   obtain ⟨h0,o,ho,_⟩:=mem_ready.1 hj
   have hlt:j < ops.size:=(Array.getElem?_eq_some_iff.1 ho).1
   refine ⟨fun hn=>(by rw [hD j hlt h0] at hn;cases hn),XcD.rest (fun i hi h1=>hD i hi ?_) k⟩
   by_cases e:j=i
   ·subst e;exact h0
   ·rwa [getD_set_ne true e] at h1) (h.2 j hj)⟩
theorem XcD.first {i:Nat} {oi:Oper} {v:Value} (hi:ops[i]?=some oi) (hsel:Region.noSelect ops=true) (hpan:∀c a w,Q (.panic c) (a.put oi.dst v) w→Q (.panic c) a w)
  (hD:∀j o,D.contains j=true→ops[j]?=some o→∃e∈o.after,Region.binds md e=true∧e.on=i):∀{n:Nat} {listed:Array Bool} {a:Act} {w:World},
  (∀j o,ops[j]?=some o→j≠i→listed.getD j true=false→(∀e∈o.after,Region.binds md e=true→e.on≠i)→oi.apart ops o=true) →
  i∈Region.ready md ops listed→YieldsIf P ops S oi v a→S w→XcD P md ops Q D S n (listed.setIfInBounds i true) (a.put oi.dst v) w→XcD P md ops Q D S (n+1) listed a w:=by
 have hns:=Region.noSelect_spec hsel
 have waits:∀{listed:Array Bool} {j:Nat},i∈Region.ready md ops listed→j∈Region.ready md ops listed→∃o,ops[j]?=some o∧listed.getD j true=false∧∀e∈o.after,Region.binds md e=true→e.on≠i:=by
  intro listed j hr hj
  obtain ⟨h0,o,ho,hall⟩:=mem_ready.1 hj
  have hn:=(mem_ready.1 hr).1
  refine ⟨o,ho,h0,fun e he hb heq=>?_⟩
  have hl:=heq▸hall e he hb
  by_cases hs:i < listed.size
  ·simp [hs] at hn hl;simp [hn] at hl
  ·simp [Array.getElem?_eq_none (Nat.le_of_not_lt hs)] at hl
 intro n
 induction n with
 | zero=>
   intro listed a w _ hr hy hS H
   refine ⟨fun h=>by simp [h] at hr,fun j hj=>?_⟩
   by_cases e:j=i
   ·subst e;exact hy.wpOp hi hS ⟨fun _ _=>hS,H⟩
   ·have:=ready_mono hj e
    rw [H.1] at this;cases this
 | succ n ih=>
   intro listed a w hap hr hy hS H
   refine ⟨fun h=>by simp [h] at hr,fun j hj=>?_⟩
   by_cases e:j=i
   ·subst e;exact hy.wpOp hi hS ⟨fun _ _=>hS,H⟩
   ·obtain ⟨o,ho,h0,hw⟩:=waits hr hj
    have hjD:D.contains j=false:=by
     cases hc:D.contains j with
     | false=>rfl
     | true=>obtain ⟨e',he',hb,heq⟩:=hD j o hc ho;exact absurd heq (hw e' he' hb)
    refine wpOp_mono (fun a' w' k=>?_) (wpOp_putIf ho (hap j o ho e h0 hw) (fun cs b=>hns i oi cs b hi) (fun cs b=>hns j o cs b ho) hpan hy (H.2 j (ready_mono hj e)))
    obtain ⟨hy',hk,hrest⟩:=k
    have hS':=hk hjD hS
    refine ⟨fun _ _=>hS',ih (fun k ok hk hki hun hno=>hap k ok hk hki ?_ hno) (ready_mono hr (Ne.symm e)) hy' hS' ?_⟩
    ·by_cases ejk:j=k
     ·subst ejk;exact h0
     ·rwa [getD_set_ne true ejk] at hun
    ·rw [Array.setIfInBounds_comm _ _ e];exact hrest
end
section
variable {P:Program} {Δ:List Deferred} {V O:Nat→Prop} {w0 w w':World} {B H H':List Hp} {T T':List AV} {a a':Act} {o:Oper} {ops:Array Oper} {Q:XcP} {listed:Array Bool} {fuel:Nat} {D:List Nat}
def Xf5 (wr:World) (B:List Hp) (w:World):Prop:=∀k,XcQ B k→w.heap[k]?=wr.heap[k]?
theorem Xen (B H:List Hp) (k:Nat):FB (fun k=>V k∨XcQ B k) H k↔FB V (B++H) k:=by
 simp only [FB,XcQ,List.mem_append]
 constructor
 ·rintro ((h|⟨x,hx,e⟩)|⟨x,hx,e⟩)
  ·exact .inl h
  ·exact .inr ⟨x,.inl hx,e⟩
  ·exact .inr ⟨x,.inr hx,e⟩
 ·rintro (h|⟨x,hx|hx,e⟩)
  ·exact .inl (.inl h)
  ·exact .inl (.inr ⟨x,hx,e⟩)
  ·exact .inr ⟨x,hx,e⟩
theorem Rel.aside (r:Rel Δ V O w0 (B++H) T a w):Rel Δ (fun k=>V k∨XcQ B k) (XcQ H) w H T a w where
 tmps:=r.tmps.weak fun k hk=>(Xen B H k).1 hk
 hok:=⟨fun x hx=>(r.hok.ok x (by simp [hx])).weak fun k hk=>(Xen B H k).1 hk,(List.pairwise_append.1 r.hok.apart).2.1,fun x hx k hk=>⟨(r.hok.lt x (by simp [hx]) k hk).1,fun hv=>by
  rcases hv with hv|⟨y,hy,e⟩
  ·exact (r.hok.lt x (by simp [hx]) k hk).2 hv
  ·exact (List.pairwise_append.1 r.hok.apart).2.2 y hy x hx k e hk⟩⟩
 fr:=Fr.refl _ _
 own:=fun x hx k hk=>.inl ⟨x,hx,hk⟩
 defers:=r.defers
 vlt:=fun k hk=>by
  rcases hk with hk|⟨y,hy,e⟩
  ·exact Nat.lt_of_lt_of_le (r.vlt k hk) r.fr.size
  ·exact (r.hok.lt y (by simp [hy]) k e).1
 gl:=r.gb.mono fun k ⟨x,hx,e⟩=>⟨x,by simp [hx],e⟩
theorem Rel.rejoin (r:Rel Δ V O w0 (B++H) T a w) (r':Rel Δ (fun k=>V k∨XcQ B k) (XcQ H) w H' T' a' w'):Rel Δ V O w0 (B++H') T' a' w'∧Xf5 w B w':=by
 have hap:=List.pairwise_append.1 r.hok.apart
 have hsame:Xf5 w B w':=fun k ⟨y,hy,e⟩=>r'.fr.block k (r.hok.lt y (by simp [hy]) k e).1 fun ⟨x,hx,e'⟩=>hap.2.2 y hy x hx k e e'
 have hF:∀k,FB V (B++H') k→FB V (B++H) k∨w.heap.size≤k:=fun k hk=>by
  rcases (Xen B H' k).2 hk with hk|⟨x,hx,e⟩
  ·exact .inl ((Xen B H k).1 (.inl hk))
  ·rcases r'.own x hx k e with ⟨y,hy,e'⟩|h
   ·exact .inl ((Xen B H k).1 (.inr ⟨y,hy,e'⟩))
   ·exact .inr h
 have hw:∀k,k < w.heap.size→¬FB V (B++H) k→w'.heap[k]?=w.heap[k]?:=fun k hk hn=>r'.fr.block k hk fun ⟨y,hy,e⟩=>hn (.inr ⟨y,by simp [hy],e⟩)
 refine ⟨⟨r'.tmps.weak (fun k hk=>(Xen B H' k).2 hk),⟨fun x hx=>?_,List.pairwise_append.2 ⟨hap.1,r'.hok.apart,fun x hx y hy k hk e=>(r'.hok.lt y hy k e).2 (.inr ⟨x,hx,hk⟩)⟩,fun x hx k hk=>?_⟩,?_,fun x hx k hk=>?_,r'.defers,r.vlt,r.gl⟩,hsame⟩
 ·rcases List.mem_append.1 hx with hx|hx
  ·exact (r.hok.ok x (by simp [hx])).conv hF hw r'.fr.size fun k hk=>hsame k ⟨x,hx,hk⟩
  ·exact (r'.hok.ok x hx).weak fun k hk=>(Xen B H' k).2 hk
 ·rcases List.mem_append.1 hx with hx|hx
  ·exact ⟨Nat.lt_of_lt_of_le (r.hok.lt x (by simp [hx]) k hk).1 r'.fr.size,(r.hok.lt x (by simp [hx]) k hk).2⟩
  ·exact ⟨(r'.hok.lt x hx k hk).1,fun hv=>(r'.hok.lt x hx k hk).2 (.inl hv)⟩
 ·exact r.fr.trans r'.fr fun i hi ⟨y,hy,e⟩=>(r.own y (by simp [hy]) i e).resolve_right (by omega)
 ·rcases List.mem_append.1 hx with hx|hx
  ·exact r.own x (by simp [hx]) k hk
  ·rcases r'.own x hx k hk with ⟨y,hy,e⟩|h
   ·exact r.own y (by simp [hy]) k e
   ·exact .inr (Nat.le_trans r.fr.size h)
def XiH (P:Program) (ops:Array Oper) (Q:XcP) (D:List Nat) (B:List Hp) (fuel:Nat) (listed:Array Bool) (T:List AV) (H:List Hp):Prop:=
 ∀Δ V O w0 wr a w,Rel Δ V O w0 (B++H) T a w→Xf5 wr B w→XcD P .any ops (lift Δ V O w0 Q) D (Xf5 wr B) fuel listed a w
theorem XbV {id:Nat} {l:List Oper} (hm:P.follows .mixedOrders=true) (D:List Nat) (B R:List Hp) (hp:H.Perm (B++R)) (h:XiH P l.toArray Q D B l.length (Array.replicate l.length false) T R):awp P (.region id l.toArray true) Q T H:=
 XcF hm fun Δ V O w0 a w r=>(h Δ V O w0 w a w (r.perm hp) (fun _ _=>rfl)).any
theorem XhJ {id:Nat} {l:List Oper} (hm:P.follows .mixedOrders=true) (D:List Nat) (h:XiH P l.toArray Q D H l.length (Array.replicate l.length false) T []):awp P (.region id l.toArray true) Q T H:=XbV hm D H [] (by rw [List.append_nil]) h
theorem Xan {T':List AV} {H':List Hp} (hT:T=T') (hH:H=H') (h:XiH P ops Q D B fuel listed T' H'):XiH P ops Q D B fuel listed T H:=hT▸hH▸h
def Xfz (ops:Array Oper) (listed:Array Bool) (i:Nat) (D:List Nat):Bool:=XgO ops listed i && D.all fun j=>match ops[j]? with|some o=>o.after.any fun e=>Region.binds .any e && e.on == i|none=>false
theorem Xpk {i:Nat} (h:Xfz ops listed i D=true):∀j o,D.contains j=true→ops[j]?=some o→∃e∈o.after,Region.binds .any e=true∧e.on=i:=fun j o hj ho=>by
 unfold Xfz at h
 rw [Bool.and_eq_true,List.all_eq_true] at h
 have:=h.2 j (by simpa using hj)
 rw [ho] at this
 obtain ⟨e,he,hb⟩:=Array.any_eq_true'.1 this
 rw [Bool.and_eq_true,beq_iff_eq] at hb
 exact ⟨e,he,hb⟩
theorem Xhc (i:Nat) {o:Oper} {l:List Oper} (hi:Xfd l i=some o) (hg:o.guard=none) (hc:Xfz l.toArray listed i D=true) (hpan:∀c T H,¬Q (.panic c) T H) (av:AV)
  (h:∀V wr a w,OK V (B++H) (ev T) o a w→Xf5 wr B w→∃v,(∀w',Xf5 wr B w'→(execOp a.eval o).run P w'=.ok (.value v) w')∧Den (FB V (B++H)) w av v) (hK:XiH P l.toArray Q D B fuel (listed.setIfInBounds i true) (Xb4 T o.dst av) H):XiH P l.toArray Q D B (fuel+1) listed T H:=by
 have hi:l.toArray[i]?=some o:=by rw [List.getElem?_toArray,←Xcj];exact hi
 intro Δ V O w0 wr a w r hS
 obtain ⟨v,hv,hd⟩:=h V wr a w (r.oks o) hS
 have hD:=Xpk hc
 unfold Xfz XgO at hc
 simp only [Bool.and_eq_true] at hc
 exact XcD.first hi hc.1.1.1 (fun c a w ⟨T,H,_,hq⟩=>absurd hq (hpan c T H)) hD (Region.free_spec hi hc.1.1.2) (by simpa using hc.1.2) (.inl ⟨by simp [Region.wanted,hg],hv⟩) hS (hK Δ V O w0 wr _ w (r.put _ hd) hS)
theorem XaC (i:Nat) {o:Oper} {l:List Oper} (hi:Xfd l i=some o) (hg:o.guard=none) (hc:Xfz l.toArray listed i D=true) (hpan:∀c T H,¬Q (.panic c) T H) (av:AV) (h:XlQ P o (ev T) (B++H) av) (hK:XiH P l.toArray Q D B fuel (listed.setIfInBounds i true) (Xb4 T o.dst av) H):XiH P l.toArray Q D B (fuel+1) listed T H:=
 Xhc i hi hg hc hpan av (fun V wr a w ok _=>by obtain ⟨v,hv,hd⟩:=h V a w ok;exact ⟨v,fun w' _=>hv w',hd⟩) hK
theorem XfP (t:TypeId) (b:Bool) (n:Nat) (h:XjL P t=some (b,n)) (w:World) (F:Nat→Prop) (g off:Nat) (cells:List AV) (vals:List Value) (hd:XaT F w cells vals) (hn:n≤cells.length) (hn0:b=false→0 < cells.length) :
  ∃v,(∀w',(∀j u,vals[j]?=some u→w'.cell? ⟨g,off+j,none⟩=some u)→(loadVar t ⟨g,off,none⟩).run P w'=.ok v w')∧Den F w (ldA b n cells) v:=by
 have hadd:∀j,(⟨g,off,none⟩:Addr).add j=⟨g,off+j,none⟩:=fun j=>by unfold Addr.add;split<;>simp_all
 cases b with
 | true=>
   refine ⟨.agg (vals.take n).toArray,fun w' hc=>?_,?_⟩
   ·obtain ⟨h1,h2⟩:=XdZ t true n h w'
    have hl:(loadCells ⟨g,off,none⟩ (vals.take n).length).run P w'=.ok (vals.take n).toArray w':=run_loadCells_list (P:=P) w' _ _ fun j v hj=>by
     rw [hadd]
     rw [List.getElem?_take] at hj
     split at hj
     ·exact hc j v hj
     ·cases hj
    have hlen:(vals.take n).length=n:=by rw [List.length_take,hd.len];omega
    rw [hlen] at hl
    simp [loadVar,h1,h2,hl]
   ·simp only [ldA,if_true];exact Den.mkA (hd.take n)
 | false=>
   have h0:=hn0 rfl
   obtain ⟨u,hu,hdu⟩:=hd.get 0 cells[0] (by simp [h0])
   refine ⟨u,fun w' hc=>?_,?_⟩
   ·obtain ⟨h1,h2⟩:=XdZ t false n h w'
    have:=hc 0 u hu
    rw [Nat.add_zero] at this
    simp [loadVar,h1,run_load,this]
   ·simp only [ldA,Bool.false_eq_true,if_false]
    rwa [List.getD_eq_getElem?_getD,List.getElem?_eq_getElem h0]
theorem Xba (i:Nat) {o:Oper} {l:List Oper} (hi:Xfd l i=some o) (hg:o.guard=none) (hc:Xfz l.toArray listed i D=true) (hpan:∀c T H,¬Q (.panic c) T H) (p:Nat) (t:TypeId) (x:Operand) (b off:Nat) (cells:List AV) (agg:Bool) (n:Nat)
  (ho:o.op=.load t x) (hx:ev T x=.x (.pointer (some ⟨b,off,none⟩))) (hb:B[p]?=some (.box b cells)) (ht:XjL P t=some (agg,n)) (hn:off+n≤cells.length) (hn0:off < cells.length)
  (hK:XiH P l.toArray Q D B fuel (listed.setIfInBounds i true) (Xb4 T o.dst (ldA agg n (cells.drop off))) H):XiH P l.toArray Q D B (fuel+1) listed T H:=
 Xhc i hi hg hc hpan _ (fun V wr a w ok hS=>by
  obtain ⟨vals,hd,hl,hcl⟩:=ok.hok.ok (.box b cells) (List.mem_append_left _ (List.mem_of_getElem? hb))
  obtain ⟨v,hr,hdv⟩:=XfP (P:=P) t agg n ht w _ b off (cells.drop off) (vals.drop off) (hd.drop off) (by simp;omega) (fun _=>by simp;omega)
  refine ⟨v,fun w' hS'=>?_,hdv⟩
  have hbk:XcQ B b:=⟨_,List.mem_of_getElem? hb,rfl⟩
  have hsame:w'.heap[b]?=w.heap[b]?:=(hS' b hbk).trans (hS b hbk).symm
  have:=hr w' fun j u hj=>by
   rw [World.cell?_of_block (a:=⟨b,off+j,none⟩) hsame];exact (hcl (off+j) u (by rwa [List.getElem?_drop] at hj)).1
  simp [execOp,ho,ok.evx (x:=x) (by simp [ho,Op.operands]) hx,Instr.loadAt,Instr.sureAddr,this]) hK
theorem Xd4 {j:Nat} (hi:ops[j]?=some o) (hg:o.guard=none) (h:Stp P o T H (XiH P ops Q D B fuel (listed.setIfInBounds j true))) (Δ:List Deferred) (V O:Nat→Prop) (w0 wr:World) (r:Rel Δ V O w0 (B++H) T a w) (hS:Xf5 wr B w) :
  wpOp P ops (lift Δ V O w0 Q) j (fun a' w'=>(D.contains j=false→Xf5 wr B w→Xf5 wr B w')∧XcD P .any ops (lift Δ V O w0 Q) D (Xf5 wr B) fuel (listed.setIfInBounds j true) a' w') a w:=by
 unfold wpOp
 simp only [hi]
 rw [if_pos (by simp [Region.wanted,hg])]
 refine .inl (h _ _ _ _ a w _ _ r.aside fun T' H' a' w' hk hr=>?_)
 obtain ⟨r',hs⟩:=r.rejoin hr
 have hS':Xf5 wr B w':=fun k hk=>(hs k hk).trans (hS k hk)
 exact ⟨fun _ _=>hS',hk Δ V O w0 wr a' w' r' hS'⟩
theorem Xbq (i:Nat) {o:Oper} {l:List Oper} (hr:Region.ready .any l.toArray listed=[i]) (hi:Xfd l i=some o) (hg:o.guard=none) (h:Stp P o T H (XiH P l.toArray Q D B fuel (listed.setIfInBounds i true))):XiH P l.toArray Q D B (fuel+1) listed T H:=fun Δ V O w0 wr a w r hS=>
 ⟨fun h0=>(by rw [hr] at h0;cases h0),fun j hj=>by
  rw [hr,List.mem_singleton] at hj;subst hj
  exact Xd4 (by rw [List.getElem?_toArray,←Xcj];exact hi) hg h Δ V O w0 wr r hS⟩
theorem Xq4 (i j:Nat) {o q:Oper} {l:List Oper} (hr:Region.ready .any l.toArray listed=[i,j]) (hi:Xfd l i=some o) (hg:o.guard=none) (hj:Xfd l j=some q) (hgj:q.guard=none) (h:Stp P o T H (XiH P l.toArray Q D B fuel (listed.setIfInBounds i true))) (h2:Stp P q T H (XiH P l.toArray Q D B fuel (listed.setIfInBounds j true))):XiH P l.toArray Q D B (fuel+1) listed T H:=fun Δ V O w0 wr a w r hS=>
 ⟨fun h0=>(by rw [hr] at h0;cases h0),fun k hk=>by
  rw [hr] at hk
  rcases List.mem_cons.1 hk with rfl|hk
  ·exact Xd4 (by rw [List.getElem?_toArray,←Xcj];exact hi) hg h Δ V O w0 wr r hS
  ·rw [List.mem_singleton] at hk;subst hk
   exact Xd4 (by rw [List.getElem?_toArray,←Xcj];exact hj) hgj h2 Δ V O w0 wr r hS⟩
theorem XbE {l:List Oper} (hr:((List.range l.toArray.size).all fun j=>listed.getD j true || D.contains j)=true) (h:XiD P l.toArray Q fuel listed T (B++H)):XiH P l.toArray Q D B fuel listed T H:=fun Δ V O w0 wr a w r _=>
 XcD.rest (fun j hj h0=>by
  rw [List.all_eq_true] at hr
  have:=hr j (List.mem_range.2 hj)
  rwa [h0,Bool.false_or] at this) (h Δ V O w0 a w r)
end
open Go.RowKit
def fvT (P:Program) (s:TypeId) (f:Nat):Option (Nat × Bool × Nat):=do
 match P.underlying s with
 | some (.struct fs)=>
   let f ←fs[f]?
   let r ←XjL P f.type
   some (f.offset,r.1,r.2)
 | _=>none
class HFv (P:Program) (s:TypeId) (f:Nat) (off:outParam Nat) (agg:outParam Bool) (n:outParam Nat):Prop where out:fvT P s f=some (off,agg,n)
section
variable {P:Program} {H:List Hp} {o:Oper}
theorem Xo4 (s:TypeId) (f off:Nat) (agg:Bool) (n:Nat) (h:fvT P s f=some (off,agg,n)) (w:World) (F:Nat→Prop) (cells:List AV) (vals:List Value) (hd:XaT F w cells vals) (hn:off+n≤cells.length) (hn0:off < cells.length) :
  ∃v,(Instr.field s (.agg vals.toArray) f).run P w=.ok v w∧Den F w (ldA agg n (cells.drop off)) v:=by
 unfold fvT at h
 split at h
 ·rename_i fs hu
  cases hf:fs[f]? with
  | none=>simp [hf] at h
  | some fd=>
    cases hi:XjL P fd.type with
    | none=>simp [hf,hi] at h
    | some i=>
      obtain ⟨b,m⟩:=i
      simp [hf,hi] at h
      obtain ⟨rfl,rfl,rfl⟩:=h
      obtain ⟨h1,h2⟩:=XdZ fd.type b m hi w
      have hl:=hd.len
      cases b with
      | true=>
        refine ⟨.agg ((vals.drop fd.offset).take m).toArray,?_,?_⟩
        ·simp [Instr.field,run_underlying hu,hf,asAgg,part,h1,h2]
        ·simp only [ldA,if_true];exact Den.mkA ((hd.drop fd.offset).take m)
      | false=>
        obtain ⟨u,hu',hdu⟩:=hd.get fd.offset cells[fd.offset] (by simp [hn0])
        refine ⟨u,?_,?_⟩
        ·simp [Instr.field,run_underlying hu,hf,asAgg,part,h1,hu']
        ·simp only [ldA,Bool.false_eq_true,if_false]
         rw [List.getD_eq_getElem?_getD,List.getElem?_drop]
         simpa [List.getElem?_eq_getElem hn0] using hdu
 ·cases h
theorem Xps {ρ:Operand→AV} (s:TypeId) (x:Operand) (f off:Nat) (agg:Bool) (n:Nat) (cells:List AV) (ho:o.op=.field s x f) (hx:∀F w v,Den F w (ρ x) v→∃vals:List Value,v=.agg vals.toArray∧XaT F w cells vals) (ht:fvT P s f=some (off,agg,n)) (hn:off+n≤cells.length) (hn0:off < cells.length) :
  Evl P o ρ H (ldA agg n (cells.drop off)):=by
 intro V a w Kc Q r hKc
 obtain ⟨vals,hv,hd⟩:=hx _ _ _ (r.ops x (by simp [ho,Op.operands]))
 obtain ⟨v,hr,hdv⟩:=Xo4 (P:=P) s f off agg n ht w _ cells vals hd hn hn0
 unfold Oper.wp execOp
 simp only [ho,hv,Sem.run_bind,Sem.run_pure,Result.andThen_ok,hr]
 exact hKc _ _ (Below.refl _ _) hdv
theorem XmX {ρ:Operand→AV} (s:TypeId) (x:Operand) (f off:Nat) (agg:Bool) (n:Nat) (l:List Value) (ho:o.op=.field s x f) (hx:ρ x=.x (.agg ⟨l⟩)) (ht:fvT P s f=some (off,agg,n)) (hn:off+n≤l.length) (hn0:off < l.length) :
  Evl P o ρ H (ldA agg n ((l.drop off).map AV.x)):=by
 rw [List.map_drop]
 exact Xps s x f off agg n (l.map AV.x) ho (fun F w v h=>by rw [hx,Den] at h;exact ⟨l,h,XaT.exact⟩) ht (by simpa using hn) (by simpa using hn0)
end
open Go.RowKit
section
variable {P:Program} {H:List Hp} {o:Oper}
theorem Xec {av:AV} (h:av.one=true):av.cells=[av]:=by
 cases av with
 | x v=>
   simp only [AV.one] at h
   cases v<;>first|rfl|(simp [Value.oneCell'] at h)
 | sq=>rfl
 | at_=>rfl
 | ifc=>rfl
 | _=>simp [AV.one] at h
theorem Xpd (cells:List AV) (k:Nat) (v:AV) (h:k < cells.length):spl cells k [v]=cells.set k v:=by
 unfold spl
 rw [List.set_eq_take_append_cons_drop,if_pos h];simp
theorem XkX (n:Nat) (place:Nat→Option (Nat × Nat)) (hp:∀i,i < n→place i=some (i,1)):∀(l:List (Nat × AV)) (cells:List AV),cells.length=n→(l.all fun p=>p.2.one && decide (p.1 < n))=true→XfV place cells l=some (l.foldl (fun c p=>c.set p.1 p.2) cells)
 | [],cells,_,_=>rfl
 | (i,v) :: l,cells,hn,h=>by
   simp only [List.all_cons,Bool.and_eq_true,decide_eq_true_eq] at h
   obtain ⟨⟨h1,h2⟩,h3⟩:=h
   have hc:=Xec h1
   rw [XfV,hp i h2]
   simp only [hc,Xu8,Xvb]
   rw [if_neg (by omega),Xpd cells i v (by omega),XkX n place hp l _ (by simpa using hn) h3]
   rfl
def XtJ (places:List (Nat × Nat)):Bool:=places == (List.range places.length).map fun i=>(i,1)
theorem XcY {ρ:Operand→AV} (t:TypeId) (parts:Array (Nat × Operand)) (places:List (Nat × Nat)) (z:List Value) (ho:o.op=.build t parts) (hpl:plT P t=some (places,z)) (h1:XtJ places=true) (hz:places.length=z.length)
  (hone:((parts.toList.map fun p=>(p.1,ρ p.2)).all fun p=>p.2.one && decide (p.1 < z.length))=true):Evl P o ρ H (mkA ((parts.toList.map fun p=>(p.1,ρ p.2)).foldl (fun c p=>c.set p.1 p.2) (z.map .x))):=by
 refine XaY t parts places z _ ho hpl ?_ (XkX z.length _ (fun i hi=>?_) _ _ (by simp) hone)
 ·rw [List.all_eq_true] at hone ⊢
  intro p hp
  have:=hone (p.1,ρ p.2) (List.mem_map.2 ⟨p,hp,rfl⟩)
  rw [Bool.and_eq_true] at this
  rw [Xec this.1];simp [this.1]
 ·have h1:=eq_of_beq h1
  rw [h1,List.getElem?_toArray,List.getElem?_map,List.getElem?_range (by omega)]
  rfl
end
end Go.Proofs.YtdpobjakdplljaaGreatDoor

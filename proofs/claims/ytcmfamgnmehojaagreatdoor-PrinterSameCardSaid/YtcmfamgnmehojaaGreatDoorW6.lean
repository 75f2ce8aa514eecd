import Derived.Test.YtcmfamgnmehojaaGreatDoorW5
import Derived.OrdersHeld
/- A walk over symbolic memory: the walk's rules, in bundles; where a block stands. No program in sight. -/
set_option linter.unusedSimpArgs false
set_option linter.unusedVariables false
set_option maxRecDepth 100000
set_option maxHeartbeats 8000000
namespace Go.Proofs.YtcmfamgnmehojaaGreatDoor
open Go.RowKit
set_option linter.defProp false
/-! Where a block of the call's own stands. -/
class Xa0 (H:List Hp) (b:Nat) (p:outParam Nat) (cells:outParam (List AV)):Prop where out:H[p]?=some (.box b cells)
instance {x:Hp} {H:List Hp} {b p:Nat} {cells:List AV} [h:Xa0 H b p cells]:Xa0 (x :: H) b (p+1) cells:=⟨by simpa using h.out⟩
instance {H:List Hp} {b:Nat} {cells:List AV}:Xa0 (.box b cells :: H) b 0 cells:=⟨rfl⟩
class XbA (H:List Hp) (ad:Option Addr) (p n cap:outParam Nat) (e:outParam TypeId) (size:outParam Nat) (cells:outParam (List AV)):Prop where out:H[p]?=some (.row ad n cap e size cells)
instance {x:Hp} {H:List Hp} {ad:Option Addr} {p n cap:Nat} {e:TypeId} {size:Nat} {cells:List AV} [h:XbA H ad p n cap e size cells]:XbA (x :: H) ad (p+1) n cap e size cells:=⟨by simpa using h.out⟩
instance {H:List Hp} {ad:Option Addr} {n cap:Nat} {e:TypeId} {size:Nat} {cells:List AV}:XbA (.row ad n cap e size cells :: H) ad 0 n cap e size cells:=⟨rfl⟩
/-! The rules. -/
theorem XnA (T:List AV) (t:Nat):ev T (.tmp t)=T.getD t .top:=rfl
theorem XkM (T:List AV) (v:Value):ev T (.const v)=.x v:=rfl
theorem Xjp (T:List AV) (g:Nat):ev T (.global g)=.x (.pointer (some ⟨g,0,none⟩)):=rfl
theorem Xmj (T:List AV) (f:Nat):ev T (.func f)=.x (.func (.func f) #[] #[]):=rfl
theorem XnB (T:List AV) (x:Operand):evs T x=str (ev T x):=rfl
theorem XoQ (v:AV):str (.g true v)=v:=rfl
theorem Xod (v:AV):str (.g false v)=.g false v:=rfl
theorem XoS (v:Value):str (.x v)=.x v:=rfl
theorem Xm6:str .top=.top:=rfl
theorem Xoe (n:Nat) (l:List AV):str (.sq n l)=.sq n l:=rfl
theorem Xoc (l:List AV):str (.at_ l)=.at_ l:=rfl
theorem Xm4 (l:List AV):str (.agg l)=.agg l:=rfl
theorem Xm7 (l:List AV):str (.tup l)=.tup l:=rfl
theorem Xm5 (t:TypeId) (v:AV):str (.ifc t v)=.ifc t v:=rfl
theorem Xj6 (T:List AV) (d:Nat) (av:AV):XbH T (some d) av=T.set d av:=rfl
theorem Xj5 (T:List AV) (av:AV):XbH T none av=T:=rfl
theorem XoU (v:Value):AV.val (.x v)=v:=rfl
theorem XoK (n:Nat) (l:List AV):ldA true n l=mkA (l.take n):=rfl
theorem XoJ (n:Nat) (l:List AV):ldA false n l=l.getD 0 .top:=rfl
theorem XnR (l:List AV):mkA l=if l.all AV.ex then .x (.agg (l.map AV.val).toArray) else .agg l:=rfl
def wtb:=And.intro XnA (And.intro XkM (And.intro Xjp (And.intro Xmj (And.intro XnB (And.intro XoQ (And.intro Xod (And.intro XoS (And.intro Xm6 (And.intro Xoe (And.intro Xoc (And.intro Xm4 (And.intro Xm7 (And.intro Xm5 (And.intro Xj6 (And.intro Xj5 XoU)))))))))))))))
def wtc:=And.intro Xjj (And.intro Xio (And.intro Xf5 (And.intro XgY (And.intro Xfu (And.intro Xfb (And.intro XgX (And.intro Xip (And.intro XkH (And.intro XkG (And.intro Xji (And.intro Xjh Xin)))))))))))
def wtd:=And.intro XoK (And.intro XoJ (And.intro XnR (And.intro Xpf (And.intro XoH (And.intro XoG (And.intro XnC (And.intro Xoh (And.intro Xna (And.intro Xkq (And.intro Xlv (And.intro Xog (And.intro Xlp Xlq))))))))))))
def wte:=And.intro (@Bool.and_false) (And.intro (@Bool.false_and) (And.intro (@Bool.and_true) (And.intro (@Bool.true_and) (And.intro Bool.false_eq_true (And.intro Bool.not_true (And.intro Bool.not_false Int.toNat_natCast))))))
def wtl:=And.intro (@List.all_cons.{0}) (And.intro (@List.all_nil.{0}) (And.intro (@Xpu.{0}) (And.intro (@Xpv.{0}) (And.intro (@List.flatten_cons.{0}) (And.intro (@List.flatten_nil.{0}) (And.intro (@List.drop_nil.{0}) (And.intro (@XpB.{0}) (And.intro (@XpC.{0}) (And.intro (@List.getD_cons_zero.{0}) (And.intro (@List.getD_cons_succ.{0}) (And.intro (@Xpx.{0}) (And.intro (@Xpy.{0}) (And.intro (@List.append_nil.{0}) (And.intro (@List.drop_zero.{0}) (And.intro (@List.drop_succ_cons.{0}) (And.intro (@List.take_zero.{0}) (And.intro (@List.take_succ_cons.{0}) (And.intro (@Xps.{0,0}) (And.intro (@Xpw.{0,0}) (And.intro (@Xpq.{0}) (And.intro (@Xpt.{0}) (And.intro Nat.zero_add (And.intro Nat.mul_one Nat.add_zero)))))))))))))))))))))))
def wtn:=And.intro wtb (And.intro wtc (And.intro wtd (And.intro wte wtl)))
def won:=And.intro XoO (And.intro XnX (And.intro XnW XmO))
def wlq:=And.intro wtb wtc
def whn:=And.intro (@decide_eq_true_eq) (And.intro (@decide_eq_false_iff_not) (And.intro (@beq_iff_eq.{0}) (And.intro (@XpE.{0}) (And.intro (@bne_iff_ne.{0}) (And.intro (@bne_eq_false_iff_eq.{0}) (And.intro (@Bool.not_eq_true) (And.intro (@Bool.not_eq_false) (And.intro (@Bool.not_eq_true') (And.intro (@Bool.not_eq_false') (And.intro Bool.not_true (And.intro Bool.not_false (And.intro (@Bool.and_eq_true) (And.intro (@Bool.or_eq_true) (And.intro (@Bool.and_eq_false_iff) (And.intro (@Bool.or_eq_false_iff) (@ne_eq.{1}))))))))))))))))
section
variable {P:Program} {f:FuncId} {H:List Hp} {args:List AV}
theorem Xbv.weak {Q Q2:AV→List Hp→Prop} (h:Xbv P f H args Q) (hq:∀r H',Q r H'→∃r2 H2,XaK H' [r] H2 [r2]∧Q2 r2 H2):Xbv P f H args Q2:=fun V w vs h1 h2 h3 h4=>
 (h V w vs h1 h2 h3 h4).mono fun e w' ⟨r,H',v,q,he,hd,hok,hfr,hown⟩=>by
  obtain ⟨r2,H2,hw,q2⟩:=hq r H' q
  obtain ⟨k1,k2,k3⟩:=Xd3 (vs:=[v]) hok (by rw [DenL];exact ⟨v,[],rfl,hd,by rw [DenL]⟩) hw
  have k2':=k2.get' 0 r2 v rfl rfl
  exact ⟨r2,H2,v,q2,he,k2',k1,hfr,fun x hx k hk=>by
   obtain ⟨y,hy,e⟩:=k3 x hx k hk
   exact hown y hy k e⟩
theorem law_walk (h:Xbv P f [] args (fun r H'=>r=.x (.bool true)∧H'=[])) (W:World) (hg:Gw W) (vs:Array Value) (hd:DenL (fun _=>False) W args vs.toList):Calls P f vs W fun e w'=>e=.returned (.bool true)∧Ext W w':=by
 have:=h (fun _=>False) W vs.toList (fun _ h=>h.elim) ⟨by simp,List.Pairwise.nil,by simp⟩ (hd.weak fun k hk=>by rcases hk with hk|⟨x,hx,_⟩;exact hk;cases hx) ⟨fun k _ ⟨x,hx,_⟩=>(by cases hx),hg⟩
 refine this.mono fun e w' ⟨r,H',v,⟨hr,_⟩,he,hdv,_,hfr,_⟩=>?_
 subst hr
 rw [Den] at hdv
 subst hdv
 refine ⟨he,Fr.ext ⟨hfr.os,hfr.tape,hfr.output,hfr.size,fun k hk hn=>hfr.block k hk fun ⟨x,hx,_⟩=>by cases hx⟩⟩
end
theorem DenL.cons' {F:Nat→Prop} {W:World} {a:AV} {l:List AV} {v:Value} {vs:List Value} (h:Den F W a v) (k:DenL F W l vs):DenL F W (a :: l) (v :: vs):=by rw [DenL];exact ⟨v,vs,rfl,h,k⟩
theorem DenL.nil' {F:Nat→Prop} {W:World}:DenL F W [] []:=by rw [DenL]
theorem Xcu {F:Nat→Prop} {W:World} (v:Value):Den F W (.x v) v:=by rw [Den]
theorem Xim (s:ByteArray):bs s.data.toList=s:=by cases s;simp [bs]
theorem Xmb {F:Nat→Prop} {W:World} (a:Int):Den F W (.x (.int .i64 a)) (.int .i64 a):=Xcu _
theorem Xd2 {F:Nat→Prop} {W:World} (s:ByteArray):Den F W (.x (.string (bs s.data.toList))) (.string s):=by rw [Xim];exact Xcu _
section
variable {P:Program} {o:Oper} {ρ:Operand→AV} {H:List Hp}
theorem Xno (a b:List UInt8):bs a++bs b=bs (a++b):=by
 apply ByteArray.ext
 simp [bs]
/-! Operations on memory that nobody writes, whose results hang on no memory. -/
theorem Xew (x:Operand) (cells:List AV) (ho:o.op=.nilCheck x) (hx:ρ x=.at_ cells):XgD P o ρ H (.at_ cells):=fun V a w r=>by
 have hd:=r.ops x (by simp [ho,Op.operands])
 rw [hx] at hd
 have hd':=hd
 rw [Den] at hd
 obtain ⟨b,off,vals,hv,_⟩:=hd
 exact ⟨a.eval x,fun w'=>by rw [hv];simp [execOp,ho,hv],hd'⟩
theorem XdH (s:TypeId) (x:Operand) (f k:Nat) (cells:List AV) (ho:o.op=.fieldAddr s x f) (hx:ρ x=.at_ cells) (hk:XlL P s f=some k):XgD P o ρ H (.at_ (cells.drop k)):=fun V a w r=>by
 have hd:=r.ops x (by simp [ho,Op.operands])
 rw [hx,Den] at hd
 obtain ⟨b,off,vals,hv,hm,hl⟩:=hd
 exact ⟨.pointer (some ⟨b,off+k,none⟩),fun w'=>by simp [execOp,ho,hv,XdA s f k hk],by rw [Den];exact ⟨b,off+k,vals.drop k,rfl,hm.drop k,hl.drop k⟩⟩
theorem Xft (t e:TypeId) (x y:Operand) (size n:Nat) (k:IntKind) (i:Int) (j:Nat) (cells:List AV) (ho:o.op=.indexAddr t x y) (hx:ρ x=.sq n cells) (hy:ρ y=.x (.int k i)) (ht:elT P t=some (e,size)) (hi:i=(j:Int)) (h1:j < n) (hc:0 < cells.length):XgD P o ρ H (.at_ (cells.drop (j*size))):=by
 subst hi
 intro V a w r
 have hd:=r.ops x (by simp [ho,Op.operands])
 rw [hx,Den] at hd
 obtain ⟨ad,cap,vals,hv,h2,h3,h4,hm,hl⟩:=hd
 have hm':=hm
 rcases hm with rfl|⟨b,off,rfl,hb,hcl⟩
 ·have:=hl.len;simp at this;omega
 ·refine ⟨.pointer (some ⟨b,off+j*size,none⟩),fun w'=>by simp [execOp,ho,hv,r.evx (x:=y) (by simp [ho,Op.operands]) hy,Xe1 t e size ht b off n cap k j (by omega) (by omega)],?_⟩
  rw [Den]
  exact ⟨b,_,vals.drop (j*size),rfl,hm'.drop (j*size),hl.drop (j*size)⟩
theorem Xh8 {x y:Operand} (t t2:TypeId) (a b:List UInt8) (ho:o.op=.binOp .add t x y t2) (hx:ρ x=.x (.string (bs a))) (hy:ρ y=.x (.string (bs b))) (hl:a.length+b.length≤1000000000):Evl P o ρ H (.x (.string (bs (a++b)))):=by
 apply XaJ
 case hs=>(intro cs b h;rw [ho] at h;cases h)
 case hx=>simp [ho,Op.operands,hx,hy,AV.ex]
 case hrun=>
  intro w
  have h1:(bs a).size=a.length:=by simp [bs,ByteArray.size]
  have h2:(bs b).size=b.length:=by simp [bs,ByteArray.size]
  have h3:(a.length:Int)+(b.length:Int)≤9223372036854775807:=by omega
  simp [execOp,ho,hx,hy,AV.val,go_sem,Op.stringOp,h1,h2,h3,Xno]
end
open Go.RowKit
section
variable {P:Program} {md:Region.Mode} {ops:Array Oper} {Q:Exit→Act→World→Prop} {S:World→Prop} {D:List Nat}
def Xb7 (P:Program) (md:Region.Mode) (ops:Array Oper) (Q:Exit→Act→World→Prop) (D:List Nat) (S:World→Prop):Nat→Array Bool→Act→World→Prop
 | 0,listed,a,w=>Region.ready md ops listed=[]∧Q .normal a w
 | n+1,listed,a,w=>(Region.ready md ops listed=[]→Q .normal a w) ∧
   ∀j∈Region.ready md ops listed,wpOp P ops Q j (fun a' w'=>(D.contains j=false→S w→S w')∧Xb7 P md ops Q D S n (listed.setIfInBounds j true) a' w') a w
theorem Xb7.any:∀{n:Nat} {listed:Array Bool} {a:Act} {w:World},Xb7 P md ops Q D S n listed a w→wpAny P md ops Q n listed a w
 | 0,_,_,_,h=>h
 | _+1,_,_,_,h=>⟨h.1,fun j hj=>wpOp_mono (fun _ _ k=>Xb7.any k.2) (h.2 j hj)⟩
theorem Xb7.rest:∀{n:Nat} {listed:Array Bool} {a:Act} {w:World},(∀j,j < ops.size→listed.getD j true=false→D.contains j=true)→wpAny P md ops Q n listed a w→Xb7 P md ops Q D S n listed a w
 | 0,_,_,_,_,h=>h
 | n+1,listed,a,w,hD,h=>⟨h.1,fun j hj=>wpOp_mono (fun a' w' k=>by
   obtain ⟨h0,o,ho,_⟩:=mem_ready.1 hj
   have hlt:j < ops.size:=(Array.getElem?_eq_some_iff.1 ho).1
   refine ⟨fun hn=>(by rw [hD j hlt h0] at hn;cases hn),Xb7.rest (fun i hi h1=>hD i hi ?_) k⟩
   by_cases e:j=i
   ·subst e;exact h0
   ·rwa [getD_set_ne true e] at h1) (h.2 j hj)⟩
theorem Xb7.first {i:Nat} {oi:Oper} {v:Value} (hi:ops[i]?=some oi) (hsel:Region.noSelect ops=true) (hpan:∀c a w,Q (.panic c) (a.put oi.dst v) w→Q (.panic c) a w)
  (hD:∀j o,D.contains j=true→ops[j]?=some o→∃e∈o.after,Region.binds md e=true∧e.on=i):∀{n:Nat} {listed:Array Bool} {a:Act} {w:World},
  (∀j o,ops[j]?=some o→j≠i→listed.getD j true=false→(∀e∈o.after,Region.binds md e=true→e.on≠i)→oi.apart ops o=true) →
  i∈Region.ready md ops listed→YieldsIf P ops S oi v a→S w→Xb7 P md ops Q D S n (listed.setIfInBounds i true) (a.put oi.dst v) w→Xb7 P md ops Q D S (n+1) listed a w:=by
 have hns:=Region.noSelect_spec hsel
 have waits:∀{listed:Array Bool} {j:Nat},i∈Region.ready md ops listed→j∈Region.ready md ops listed→∃o,ops[j]?=some o∧listed.getD j true=false∧∀e∈o.after,Region.binds md e=true→e.on≠i:=by
  intro listed j hr hj
  obtain ⟨h0,o,ho,hall⟩:=mem_ready.1 hj
  have hn:=(mem_ready.1 hr).1
  refine ⟨o,ho,h0,fun e he hb heq=>?_⟩
  have hl:=heq▸hall e he hb
  by_cases hs:i < listed.size
  ·simp [hs] at hn hl;simp [hn] at hl
  ·simp [Array.getElem?_eq_none (Nat.le_of_not_lt hs)] at hl
 intro n
 induction n with
 | zero=>
   intro listed a w _ hr hy hS H
   refine ⟨fun h=>by simp [h] at hr,fun j hj=>?_⟩
   by_cases e:j=i
   ·subst e;exact hy.wpOp hi hS ⟨fun _ _=>hS,H⟩
   ·have:=ready_mono hj e
    rw [H.1] at this;cases this
 | succ n ih=>
   intro listed a w hap hr hy hS H
   refine ⟨fun h=>by simp [h] at hr,fun j hj=>?_⟩
   by_cases e:j=i
   ·subst e;exact hy.wpOp hi hS ⟨fun _ _=>hS,H⟩
   ·obtain ⟨o,ho,h0,hw⟩:=waits hr hj
    have hjD:D.contains j=false:=by
     cases hc:D.contains j with
     | false=>rfl
     | true=>obtain ⟨e',he',hb,heq⟩:=hD j o hc ho;exact absurd heq (hw e' he' hb)
    refine wpOp_mono (fun a' w' k=>?_) (wpOp_putIf ho (hap j o ho e h0 hw) (fun cs b=>hns i oi cs b hi) (fun cs b=>hns j o cs b ho) hpan hy (H.2 j (ready_mono hj e)))
    obtain ⟨hy',hk,hrest⟩:=k
    have hS':=hk hjD hS
    refine ⟨fun _ _=>hS',ih (fun k ok hk hki hun hno=>hap k ok hk hki ?_ hno) (ready_mono hr (Ne.symm e)) hy' hS' ?_⟩
    ·by_cases ejk:j=k
     ·subst ejk;exact h0
     ·rwa [getD_set_ne true ejk] at hun
    ·rw [Array.setIfInBounds_comm _ _ e];exact hrest
end
section
variable {P:Program} {Δ:List Deferred} {V O:Nat→Prop} {w0 w w':World} {B H H':List Hp} {T T':List AV} {a a':Act} {o:Oper} {ops:Array Oper} {Q:Xb9} {listed:Array Bool} {fuel:Nat} {D:List Nat}
def Xdn (wr:World) (B:List Hp) (w:World):Prop:=∀k,XbO B k→w.heap[k]?=wr.heap[k]?
theorem Xdq (B H:List Hp) (k:Nat):FB (fun k=>V k∨XbO B k) H k↔FB V (B++H) k:=by
 simp only [FB,XbO,List.mem_append]
 constructor
 ·rintro ((h|⟨x,hx,e⟩)|⟨x,hx,e⟩)
  ·exact .inl h
  ·exact .inr ⟨x,.inl hx,e⟩
  ·exact .inr ⟨x,.inr hx,e⟩
 ·rintro (h|⟨x,hx|hx,e⟩)
  ·exact .inl (.inl h)
  ·exact .inl (.inr ⟨x,hx,e⟩)
  ·exact .inr ⟨x,hx,e⟩
theorem Rel.aside (r:Rel Δ V O w0 (B++H) T a w):Rel Δ (fun k=>V k∨XbO B k) (XbO H) w H T a w where
 tmps:=r.tmps.weak fun k hk=>(Xdq B H k).1 hk
 hok:=⟨fun x hx=>(r.hok.ok x (by simp [hx])).weak fun k hk=>(Xdq B H k).1 hk,(List.pairwise_append.1 r.hok.apart).2.1,fun x hx k hk=>⟨(r.hok.lt x (by simp [hx]) k hk).1,fun hv=>by
  rcases hv with hv|⟨y,hy,e⟩
  ·exact (r.hok.lt x (by simp [hx]) k hk).2 hv
  ·exact (List.pairwise_append.1 r.hok.apart).2.2 y hy x hx k e hk⟩⟩
 fr:=Fr.refl _ _
 own:=fun x hx k hk=>.inl ⟨x,hx,hk⟩
 defers:=r.defers
 vlt:=fun k hk=>by
  rcases hk with hk|⟨y,hy,e⟩
  ·exact Nat.lt_of_lt_of_le (r.vlt k hk) r.fr.size
  ·exact (r.hok.lt y (by simp [hy]) k e).1
 gl:=r.gb.mono fun k ⟨x,hx,e⟩=>⟨x,by simp [hx],e⟩
theorem Rel.rejoin (r:Rel Δ V O w0 (B++H) T a w) (r':Rel Δ (fun k=>V k∨XbO B k) (XbO H) w H' T' a' w'):Rel Δ V O w0 (B++H') T' a' w'∧Xdn w B w':=by
 have hap:=List.pairwise_append.1 r.hok.apart
 have hsame:Xdn w B w':=fun k ⟨y,hy,e⟩=>r'.fr.block k (r.hok.lt y (by simp [hy]) k e).1 fun ⟨x,hx,e'⟩=>hap.2.2 y hy x hx k e e'
 have hF:∀k,FB V (B++H') k→FB V (B++H) k∨w.heap.size≤k:=fun k hk=>by
  rcases (Xdq B H' k).2 hk with hk|⟨x,hx,e⟩
  ·exact .inl ((Xdq B H k).1 (.inl hk))
  ·rcases r'.own x hx k e with ⟨y,hy,e'⟩|h
   ·exact .inl ((Xdq B H k).1 (.inr ⟨y,hy,e'⟩))
   ·exact .inr h
 have hw:∀k,k < w.heap.size→¬FB V (B++H) k→w'.heap[k]?=w.heap[k]?:=fun k hk hn=>r'.fr.block k hk fun ⟨y,hy,e⟩=>hn (.inr ⟨y,by simp [hy],e⟩)
 refine ⟨⟨r'.tmps.weak (fun k hk=>(Xdq B H' k).2 hk),⟨fun x hx=>?_,List.pairwise_append.2 ⟨hap.1,r'.hok.apart,fun x hx y hy k hk e=>(r'.hok.lt y hy k e).2 (.inr ⟨x,hx,hk⟩)⟩,fun x hx k hk=>?_⟩,?_,fun x hx k hk=>?_,r'.defers,r.vlt,r.gl⟩,hsame⟩
 ·rcases List.mem_append.1 hx with hx|hx
  ·exact (r.hok.ok x (by simp [hx])).conv hF hw r'.fr.size fun k hk=>hsame k ⟨x,hx,hk⟩
  ·exact (r'.hok.ok x hx).weak fun k hk=>(Xdq B H' k).2 hk
 ·rcases List.mem_append.1 hx with hx|hx
  ·exact ⟨Nat.lt_of_lt_of_le (r.hok.lt x (by simp [hx]) k hk).1 r'.fr.size,(r.hok.lt x (by simp [hx]) k hk).2⟩
  ·exact ⟨(r'.hok.lt x hx k hk).1,fun hv=>(r'.hok.lt x hx k hk).2 (.inl hv)⟩
 ·exact r.fr.trans r'.fr fun i hi ⟨y,hy,e⟩=>(r.own y (by simp [hy]) i e).resolve_right (by omega)
 ·rcases List.mem_append.1 hx with hx|hx
  ·exact r.own x (by simp [hx]) k hk
  ·rcases r'.own x hx k hk with ⟨y,hy,e⟩|h
   ·exact r.own y (by simp [hy]) k e
   ·exact .inr (Nat.le_trans r.fr.size h)
def Xd0 (P:Program) (ops:Array Oper) (Q:Xb9) (D:List Nat) (B:List Hp) (fuel:Nat) (listed:Array Bool) (T:List AV) (H:List Hp):Prop:=
 ∀Δ V O w0 wr a w,Rel Δ V O w0 (B++H) T a w→Xdn wr B w→Xb7 P .any ops (Xee Δ V O w0 Q) D (Xdn wr B) fuel listed a w
theorem Xbl {id:Nat} {l:List Oper} (hm:P.follows .mixedOrders=true) (D:List Nat) (B R:List Hp) (hp:H.Perm (B++R)) (h:Xd0 P l.toArray Q D B l.length (Array.replicate l.length false) T R):awp P (.region id l.toArray true) Q T H:=
 Xch hm fun Δ V O w0 a w r=>(h Δ V O w0 w a w (r.perm hp) (fun _ _=>rfl)).any
theorem Xae {T':List AV} {H':List Hp} (hT:T=T') (hH:H=H') (h:Xd0 P ops Q D B fuel listed T' H'):Xd0 P ops Q D B fuel listed T H:=hT▸hH▸h
def Xcg (ops:Array Oper) (listed:Array Bool) (i:Nat) (D:List Nat):Bool:=XdW ops listed i && D.all fun j=>match ops[j]? with|some o=>o.after.any fun e=>Region.binds .any e && e.on == i|none=>false
theorem Xe4 {i:Nat} (h:Xcg ops listed i D=true):∀j o,D.contains j=true→ops[j]?=some o→∃e∈o.after,Region.binds .any e=true∧e.on=i:=fun j o hj ho=>by
 unfold Xcg at h
 rw [Bool.and_eq_true,List.all_eq_true] at h
 have:=h.2 j (by simpa using hj)
 rw [ho] at this
 obtain ⟨e,he,hb⟩:=Array.any_eq_true'.1 this
 rw [Bool.and_eq_true,beq_iff_eq] at hb
 exact ⟨e,he,hb⟩
theorem Xfk (i:Nat) {o:Oper} {l:List Oper} (hi:Xdp l i=some o) (hg:o.guard=none) (hc:Xcg l.toArray listed i D=true) (hpan:∀c T H,¬Q (.panic c) T H) (av:AV)
  (h:∀V wr a w,OK V (B++H) (ev T) o a w→Xdn wr B w→∃v,(∀w',Xdn wr B w'→(execOp a.eval o).run P w'=.ok (.value v) w')∧Den (FB V (B++H)) w av v) (hK:Xd0 P l.toArray Q D B fuel (listed.setIfInBounds i true) (XbH T o.dst av) H):Xd0 P l.toArray Q D B (fuel+1) listed T H:=by
 have hi:l.toArray[i]?=some o:=by rw [List.getElem?_toArray,←Xb3];exact hi
 intro Δ V O w0 wr a w r hS
 obtain ⟨v,hv,hd⟩:=h V wr a w (r.oks o) hS
 have hD:=Xe4 hc
 unfold Xcg XdW at hc
 simp only [Bool.and_eq_true] at hc
 exact Xb7.first hi hc.1.1.1 (fun c a w ⟨T,H,_,hq⟩=>absurd hq (hpan c T H)) hD (Region.free_spec hi hc.1.1.2) (by simpa using hc.1.2) (.inl ⟨by simp [Region.wanted,hg],hv⟩) hS (hK Δ V O w0 wr _ w (r.put _ hd) hS)
theorem XaN (i:Nat) {o:Oper} {l:List Oper} (hi:Xdp l i=some o) (hg:o.guard=none) (hc:Xcg l.toArray listed i D=true) (hpan:∀c T H,¬Q (.panic c) T H) (av:AV) (h:XgD P o (ev T) (B++H) av) (hK:Xd0 P l.toArray Q D B fuel (listed.setIfInBounds i true) (XbH T o.dst av) H):Xd0 P l.toArray Q D B (fuel+1) listed T H:=
 Xfk i hi hg hc hpan av (fun V wr a w ok _=>by obtain ⟨v,hv,hd⟩:=h V a w ok;exact ⟨v,fun w' _=>hv w',hd⟩) hK
theorem Xcr (t:TypeId) (b:Bool) (n:Nat) (h:XgF P t=some (b,n)) (w:World) (F:Nat→Prop) (g off:Nat) (cells:List AV) (vals:List Value) (hd:DenL F w cells vals) (hn:n≤cells.length) (hn0:b=false→0 < cells.length) :
  ∃v,(∀w',(∀j u,vals[j]?=some u→w'.cell? ⟨g,off+j,none⟩=some u)→(loadVar t ⟨g,off,none⟩).run P w'=.ok v w')∧Den F w (ldA b n cells) v:=by
 have hadd:∀j,(⟨g,off,none⟩:Addr).add j=⟨g,off+j,none⟩:=fun j=>by unfold Addr.add;split<;>simp_all
 cases b with
 | true=>
   refine ⟨.agg (vals.take n).toArray,fun w' hc=>?_,?_⟩
   ·obtain ⟨h1,h2⟩:=XdU t true n h w'
    have hl:(loadCells ⟨g,off,none⟩ (vals.take n).length).run P w'=.ok (vals.take n).toArray w':=run_loadCells_list (P:=P) w' _ _ fun j v hj=>by
     rw [hadd]
     rw [List.getElem?_take] at hj
     split at hj
     ·exact hc j v hj
     ·cases hj
    have hlen:(vals.take n).length=n:=by rw [List.length_take,hd.len];omega
    rw [hlen] at hl
    simp [loadVar,h1,h2,hl]
   ·simp only [ldA,if_true];exact Den.mkA (hd.take n)
 | false=>
   have h0:=hn0 rfl
   obtain ⟨u,hu,hdu⟩:=hd.get 0 cells[0] (by simp [h0])
   refine ⟨u,fun w' hc=>?_,?_⟩
   ·obtain ⟨h1,h2⟩:=XdU t false n h w'
    have:=hc 0 u hu
    rw [Nat.add_zero] at this
    simp [loadVar,h1,run_load,this]
   ·simp only [ldA,Bool.false_eq_true,if_false]
    rwa [List.getD_eq_getElem?_getD,List.getElem?_eq_getElem h0]
theorem XbN (i:Nat) {o:Oper} {l:List Oper} (hi:Xdp l i=some o) (hg:o.guard=none) (hc:Xcg l.toArray listed i D=true) (hpan:∀c T H,¬Q (.panic c) T H) (p:Nat) (t:TypeId) (x:Operand) (b off:Nat) (cells:List AV) (agg:Bool) (n:Nat)
  (ho:o.op=.load t x) (hx:ev T x=.x (.pointer (some ⟨b,off,none⟩))) (hb:B[p]?=some (.box b cells)) (ht:XgF P t=some (agg,n)) (hn:off+n≤cells.length) (hn0:off < cells.length)
  (hK:Xd0 P l.toArray Q D B fuel (listed.setIfInBounds i true) (XbH T o.dst (ldA agg n (cells.drop off))) H):Xd0 P l.toArray Q D B (fuel+1) listed T H:=
 Xfk i hi hg hc hpan _ (fun V wr a w ok hS=>by
  obtain ⟨vals,hd,hl,hcl⟩:=ok.hok.ok (.box b cells) (List.mem_append_left _ (List.mem_of_getElem? hb))
  obtain ⟨v,hr,hdv⟩:=Xcr (P:=P) t agg n ht w _ b off (cells.drop off) (vals.drop off) (hd.drop off) (by simp;omega) (fun _=>by simp;omega)
  refine ⟨v,fun w' hS'=>?_,hdv⟩
  have hbk:XbO B b:=⟨_,List.mem_of_getElem? hb,rfl⟩
  have hsame:w'.heap[b]?=w.heap[b]?:=(hS' b hbk).trans (hS b hbk).symm
  have:=hr w' fun j u hj=>by
   rw [World.cell?_of_block (a:=⟨b,off+j,none⟩) hsame];exact (hcl (off+j) u (by rwa [List.getElem?_drop] at hj)).1
  simp [execOp,ho,ok.evx (x:=x) (by simp [ho,Op.operands]) hx,Instr.loadAt,Instr.sureAddr,this]) hK
theorem Xgy {j:Nat} (hi:ops[j]?=some o) (hg:o.guard=none) (h:Stp P o T H (Xd0 P ops Q D B fuel (listed.setIfInBounds j true))) (Δ:List Deferred) (V O:Nat→Prop) (w0 wr:World) (r:Rel Δ V O w0 (B++H) T a w) (hS:Xdn wr B w) :
  wpOp P ops (Xee Δ V O w0 Q) j (fun a' w'=>(D.contains j=false→Xdn wr B w→Xdn wr B w')∧Xb7 P .any ops (Xee Δ V O w0 Q) D (Xdn wr B) fuel (listed.setIfInBounds j true) a' w') a w:=by
 unfold wpOp
 simp only [hi]
 rw [if_pos (by simp [Region.wanted,hg])]
 refine .inl (h _ _ _ _ a w _ _ r.aside fun T' H' a' w' hk hr=>?_)
 obtain ⟨r',hs⟩:=r.rejoin hr
 have hS':Xdn wr B w':=fun k hk=>(hs k hk).trans (hS k hk)
 exact ⟨fun _ _=>hS',hk Δ V O w0 wr a' w' r' hS'⟩
theorem XaY (i:Nat) {o:Oper} {l:List Oper} (hr:Region.ready .any l.toArray listed=[i]) (hi:Xdp l i=some o) (hg:o.guard=none) (h:Stp P o T H (Xd0 P l.toArray Q D B fuel (listed.setIfInBounds i true))):Xd0 P l.toArray Q D B (fuel+1) listed T H:=fun Δ V O w0 wr a w r hS=>
 ⟨fun h0=>(by rw [hr] at h0;cases h0),fun j hj=>by
  rw [hr,List.mem_singleton] at hj;subst hj
  exact Xgy (by rw [List.getElem?_toArray,←Xb3];exact hi) hg h Δ V O w0 wr r hS⟩
theorem Xbu {l:List Oper} (hr:((List.range l.toArray.size).all fun j=>listed.getD j true || D.contains j)=true) (h:Xf1 P l.toArray Q fuel listed T (B++H)):Xd0 P l.toArray Q D B fuel listed T H:=fun Δ V O w0 wr a w r _=>
 Xb7.rest (fun j hj h0=>by
  rw [List.all_eq_true] at hr
  have:=hr j (List.mem_range.2 hj)
  rwa [h0,Bool.false_or] at this) (h Δ V O w0 a w r)
end
open Go.RowKit
def fvT (P:Program) (s:TypeId) (f:Nat):Option (Nat × Bool × Nat):=do
 match P.underlying s with
 | some (.struct fs)=>
   let f ←fs[f]?
   let r ←XgF P f.type
   some (f.offset,r.1,r.2)
 | _=>none
class HFv (P:Program) (s:TypeId) (f:Nat) (off:outParam Nat) (agg:outParam Bool) (n:outParam Nat):Prop where out:fvT P s f=some (off,agg,n)
section
variable {P:Program} {H:List Hp} {o:Oper}
theorem Xkb (s:TypeId) (f off:Nat) (agg:Bool) (n:Nat) (h:fvT P s f=some (off,agg,n)) (w:World) (F:Nat→Prop) (cells:List AV) (vals:List Value) (hd:DenL F w cells vals) (hn:off+n≤cells.length) (hn0:off < cells.length) :
  ∃v,(Instr.field s (.agg vals.toArray) f).run P w=.ok v w∧Den F w (ldA agg n (cells.drop off)) v:=by
 unfold fvT at h
 split at h
 ·rename_i fs hu
  cases hf:fs[f]? with
  | none=>simp [hf] at h
  | some fd=>
    cases hi:XgF P fd.type with
    | none=>simp [hf,hi] at h
    | some i=>
      obtain ⟨b,m⟩:=i
      simp [hf,hi] at h
      obtain ⟨rfl,rfl,rfl⟩:=h
      obtain ⟨h1,h2⟩:=XdU fd.type b m hi w
      have hl:=hd.len
      cases b with
      | true=>
        refine ⟨.agg ((vals.drop fd.offset).take m).toArray,?_,?_⟩
        ·simp [Instr.field,run_underlying hu,hf,asAgg,part,h1,h2]
        ·simp only [ldA,if_true];exact Den.mkA ((hd.drop fd.offset).take m)
      | false=>
        obtain ⟨u,hu',hdu⟩:=hd.get fd.offset cells[fd.offset] (by simp [hn0])
        refine ⟨u,?_,?_⟩
        ·simp [Instr.field,run_underlying hu,hf,asAgg,part,h1,hu']
        ·simp only [ldA,Bool.false_eq_true,if_false]
         rw [List.getD_eq_getElem?_getD,List.getElem?_drop]
         simpa [List.getElem?_eq_getElem hn0] using hdu
 ·cases h
theorem Xkv {ρ:Operand→AV} (s:TypeId) (x:Operand) (f off:Nat) (agg:Bool) (n:Nat) (cells:List AV) (ho:o.op=.field s x f) (hx:∀F w v,Den F w (ρ x) v→∃vals:List Value,v=.agg vals.toArray∧DenL F w cells vals) (ht:fvT P s f=some (off,agg,n)) (hn:off+n≤cells.length) (hn0:off < cells.length) :
  Evl P o ρ H (ldA agg n (cells.drop off)):=by
 intro V a w Kc Q r hKc
 obtain ⟨vals,hv,hd⟩:=hx _ _ _ (r.ops x (by simp [ho,Op.operands]))
 obtain ⟨v,hr,hdv⟩:=Xkb (P:=P) s f off agg n ht w _ cells vals hd hn hn0
 unfold Oper.wp execOp
 simp only [ho,hv,Sem.run_bind,Sem.run_pure,Result.andThen_ok,hr]
 exact hKc _ _ (Below.refl _ _) hdv
theorem XlZ {ρ:Operand→AV} (s:TypeId) (x:Operand) (f off:Nat) (agg:Bool) (n:Nat) (l:List Value) (ho:o.op=.field s x f) (hx:ρ x=.x (.agg ⟨l⟩)) (ht:fvT P s f=some (off,agg,n)) (hn:off+n≤l.length) (hn0:off < l.length) :
  Evl P o ρ H (ldA agg n ((l.drop off).map AV.x)):=by
 rw [List.map_drop]
 exact Xkv s x f off agg n (l.map AV.x) ho (fun F w v h=>by rw [hx,Den] at h;exact ⟨l,h,DenL.exact⟩) ht (by simpa using hn) (by simpa using hn0)
end
open Go.RowKit
section
variable {P:Program} {H:List Hp} {o:Oper}
theorem Xdl {av:AV} (h:av.one=true):av.cells=[av]:=by
 cases av with
 | x v=>
   simp only [AV.one] at h
   cases v<;>first|rfl|(simp [Value.oneCell'] at h)
 | sq=>rfl
 | at_=>rfl
 | ifc=>rfl
 | _=>simp [AV.one] at h
theorem Xkj (cells:List AV) (k:Nat) (v:AV) (h:k < cells.length):spl cells k [v]=cells.set k v:=by
 unfold spl
 rw [List.set_eq_take_append_cons_drop,if_pos h];simp
theorem Xhz (n:Nat) (place:Nat→Option (Nat × Nat)) (hp:∀i,i < n→place i=some (i,1)):∀(l:List (Nat × AV)) (cells:List AV),cells.length=n→(l.all fun p=>p.2.one && decide (p.1 < n))=true→Xen place cells l=some (l.foldl (fun c p=>c.set p.1 p.2) cells)
 | [],cells,_,_=>rfl
 | (i,v) :: l,cells,hn,h=>by
   simp only [List.all_cons,Bool.and_eq_true,decide_eq_true_eq] at h
   obtain ⟨⟨h1,h2⟩,h3⟩:=h
   have hc:=Xdl h1
   rw [Xen,hp i h2]
   simp only [hc,Xpq,Xpt]
   rw [if_neg (by omega),Xkj cells i v (by omega),Xhz n place hp l _ (by simpa using hn) h3]
   rfl
def Xn2 (places:List (Nat × Nat)):Bool:=places == (List.range places.length).map fun i=>(i,1)
theorem Xfh {ρ:Operand→AV} (t:TypeId) (parts:Array (Nat × Operand)) (places:List (Nat × Nat)) (z:List Value) (ho:o.op=.build t parts) (hpl:plT P t=some (places,z)) (h1:Xn2 places=true) (hz:places.length=z.length)
  (hone:((parts.toList.map fun p=>(p.1,ρ p.2)).all fun p=>p.2.one && decide (p.1 < z.length))=true):Evl P o ρ H (mkA ((parts.toList.map fun p=>(p.1,ρ p.2)).foldl (fun c p=>c.set p.1 p.2) (z.map .x))):=by
 refine XaZ t parts places z _ ho hpl ?_ (Xhz z.length _ (fun i hi=>?_) _ _ (by simp) hone)
 ·rw [List.all_eq_true] at hone ⊢
  intro p hp
  have:=hone (p.1,ρ p.2) (List.mem_map.2 ⟨p,hp,rfl⟩)
  rw [Bool.and_eq_true] at this
  rw [Xdl this.1];simp [this.1]
 ·have h1:=eq_of_beq h1
  rw [h1,List.getElem?_toArray,List.getElem?_map,List.getElem?_range (by omega)]
  rfl
end
end Go.Proofs.YtcmfamgnmehojaaGreatDoor

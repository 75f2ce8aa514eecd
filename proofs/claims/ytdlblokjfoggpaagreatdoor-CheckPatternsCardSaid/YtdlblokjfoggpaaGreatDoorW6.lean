import Derived.Test.YtdlblokjfoggpaaGreatDoorW5
import Derived.Lib.SliceRun
import Derived.Test.YtdlblokjfoggpaaGreatDoorRows
/- A walk over symbolic memory: 'clear'. No program in sight. -/
set_option linter.unusedSimpArgs false
set_option linter.unusedVariables false
set_option maxRecDepth 100000
set_option maxHeartbeats 8000000
namespace Go.Proofs.YtdlblokjfoggpaaGreatDoor
open Go.RowKit
section
variable {P:Program} {Δ:List Deferred} {V O:Nat→Prop} {w0 w w':World} {H H' D:List Hp} {T T':List AV} {a:Act} {o:Oper} {K:List AV→List Hp→Prop} {ρ:Operand→AV} {ops:Array Oper} {Q:Xb9} {F:Nat→Prop}
theorem Rel.rowset (P:Program) (r:Rel Δ V O w0 H T a w) (i:Nat) (b off n cap:Nat) (e:TypeId) (size:Nat) (cells new:List AV) (us:List Value) (hi:H[i]?=some (.row (some ⟨b,0,none⟩) n cap e size cells)) (hy:DenL (FB V H) w new us) (h1:∀u∈us,u.oneCell'=true) (hn:off+new.length≤cells.length) :
  ∃w',(storeCells ⟨b,off,none⟩ us).run P w=.ok () w'∧Rel Δ V O w0 (H.set i (.row (some ⟨b,0,none⟩) n cap e size (spl cells off new))) T a w':=by
 obtain ⟨vals,hd,hown,hones⟩:=r.hp i _ hi
 have hlen:us.length=new.length:=hy.len.symm▸rfl
 have hvl:=hd.len
 obtain ⟨hvn,hcase⟩:=hown
 rcases hcase with ⟨e0,_⟩|⟨g,cap',cur,e0,hbg,hg,hnc,hcm,hcs,htake⟩
 ·cases e0
 simp only [Value.slice.injEq,Option.some.injEq,Addr.mk.injEq] at e0
 obtain ⟨⟨rfl,-,-⟩,-,rfl⟩:=e0
 have hcurlen:vals.length≤cur.size:=by rw [hcs,hvn];exact Nat.mul_le_mul_right _ hnc
 have hst:=run_storeCells_at P b off e us 0 cur w hg (by simp;omega) h1
 simp only [Nat.add_zero] at hst
 have hset:=setRow_heap w b cur (cur.toList.take off++us++cur.toList.drop (off+us.length)).toArray e (0,0) hg
 have hF:∀k,FB V (H.set i (.row (some ⟨b,0,none⟩) n cap e size (spl cells off new))) k→FB V H k:=by
  intro k hk
  rcases hk with hk|⟨z,hz,e⟩
  ·exact .inl hk
  ·rcases List.mem_or_eq_of_mem_set hz with hz|rfl
   ·exact .inr ⟨z,hz,e⟩
   ·exact .inr ⟨_,List.mem_of_getElem? hi,e⟩
 have hother:∀k,k≠b→(w.setRow b (cur.toList.take off++us++cur.toList.drop (off+us.length)).toArray).heap[k]?=w.heap[k]?:=fun k hk=>setRow_other w b k _ hk
 have hsz:(w.setRow b (cur.toList.take off++us++cur.toList.drop (off+us.length)).toArray).heap.size=w.heap.size:=by simp [World.setRow]
 have hbl:b < w.heap.size:=(Array.getElem?_eq_some_iff.1 hg).1
 refine ⟨_,hst,Rel.turnAt (w':=w.setRow b (cur.toList.take off++us++cur.toList.drop (off+us.length)).toArray) (y:=.row (some ⟨b,0,none⟩) n cap e size (spl cells off new)) r i hi rfl rfl rfl (by omega) (fun k _ hk=>hother k (fun e=>hk (by rw [e];rfl))) (fun k hk=>⟨by simp [Hp.blk] at hk;omega,.inl hk⟩) ?_⟩
 have hw:∀k,k < w.heap.size→¬FB V H k→(w.setRow b (cur.toList.take off++us++cur.toList.drop (off+us.length)).toArray).heap[k]?=w.heap[k]?:=fun k _ hn=>hother k fun e=>hn (.inr ⟨_,List.mem_of_getElem? hi,by rw [e];rfl⟩)
 refine ⟨vals.take off++us++vals.drop (off+us.length),DenL.conv (fun k hk=>.inl (hF k hk)) hw _ _ (hd.spl hy off),⟨?_,.inr ⟨b,cap,_,rfl,Nat.zero_le _,hset,hnc,hcm,?_,?_⟩⟩,fun u hu=>?_⟩
 ·simp;omega
 ·simp;omega
 ·have hvt:vals=cur.toList.take vals.length:=by rw [hvn];exact htake.symm
  have hcl:cur.toList.length=cur.size:=Array.length_toList
  rw [←hvn]
  apply List.ext_getElem?
  intro j
  have hvj:∀j,j < vals.length→vals[j]?=cur.toList[j]?:=fun j hj=>by
   conv=>lhs;rw [hvt]
   rw [List.getElem?_take,if_pos hj]
  rw [List.getElem?_take]
  split
  ·rename_i hj
   rw [Xd4 _ _ _ _ (by omega),Xd4 _ _ _ _ (by omega)]
   split
   ·exact (hvj j hj).symm
   ·split
    ·rfl
    ·exact (hvj j hj).symm
  ·rename_i hj
   rw [List.getElem?_eq_none]
   simp;omega
 ·simp only [List.mem_append] at hu
  rcases hu with (hu|hu)|hu
  ·exact hones u (List.mem_of_mem_take hu)
  ·exact h1 u hu
  ·exact hones u (List.mem_of_mem_drop hu)
theorem Xm8 (i:Nat) (x:Operand) (t e:TypeId) (z:Value) (bytes b off m mc n cap:Nat) (cells:List AV) (ho:o.op=.call { callee:=.builtin .clear,args:=#[x],argTypes:=#[t] }) (hx:ev T x=.x (.slice (some ⟨b,off,none⟩) m mc)) (hi:H[i]?=some (.row (some ⟨b,0,none⟩) n cap e 1 cells))
  (hE:Xee P t e z 1 bytes) (hz:z.cells=#[z]) (hz1:z.oneCell'=true) (hn:off+m≤cells.length)
  (hK:K (Xa9 T o.dst .top) (H.set i (.row (some ⟨b,0,none⟩) n cap e 1 (spl cells off (List.replicate m (.x z)))))):Stp P o T H K:=by
 intro Δ V O w0 a w Kc Q r hKc
 obtain ⟨w',hst,hr⟩:=Rel.rowset P r i b off n cap e 1 cells (List.replicate m (.x z)) (List.replicate m z) hi (by rw [←List.map_replicate];exact DenL.exact) (fun u hu=>by rw [List.eq_of_mem_replicate hu];exact hz1) (by simpa using hn)
 have hzc:(Builtin.zeroCells z.cells m).toList=List.replicate m z:=by
  rw [hz]
  simp [Builtin.zeroCells]
  apply List.ext_getElem
  ·simp
  ·intro i h1 h2
   simp [Nat.mod_one]
 obtain ⟨it,hit,hz0,hsize,hby⟩:=info_parts hE.info
 have hrun:(Builtin.clear_ #[t] o.type #[.slice (some ⟨b,off,none⟩) m mc]).run P w=.ok (.tuple #[]) w':=by
  cases m with
  | zero=>
    simp only [Xyw,storeCells] at hst
    simp at hst
    simp [Builtin.clear_,run_underlying hE.under,hst]
  | succ m=>simp [Builtin.clear_,run_underlying hE.under,zeroValue,typeInfo,hit,hz0,hzc,hst]
 unfold Oper.wp execOp
 simp only [ho,resolve,invoke,builtin,Sem.run_bind,Sem.run_pure,Result.andThen_ok,List.map_toArray,Xyt,Xyx,r.evx hx,hrun,Oper.upon]
 exact hKc _ _ _ _ hK (Rel.put hr _ (by rw [Den];trivial))
theorem XgF (r:Rel Δ V O w0 H T a w) (i:Nat) {ad:Option Addr} {n cap:Nat} {e:TypeId} {size:Nat} {cells:List AV} (hi:H[i]?=some (.row ad n cap e size cells)) :
  n≤cap∧cells.length=n*size∧((ad=none∧n=0∧cap=0)∨∃b,ad=some ⟨b,0,none⟩):=by
 obtain ⟨vals,hd,hown,hones⟩:=r.hp i _ hi
 have hvl:=hd.len
 obtain ⟨hvn,hcase⟩:=hown
 rcases hcase with ⟨e0,hv⟩|⟨g,cap',cur,e0,hbg,hg,hnc,hcm,hcs,htake⟩
 ·simp only [Value.slice.injEq] at e0
  obtain ⟨rfl,rfl,rfl⟩:=e0
  exact ⟨Nat.le_refl _,by omega,.inl ⟨rfl,rfl,rfl⟩⟩
 ·simp only [Value.slice.injEq] at e0
  obtain ⟨rfl,-,rfl⟩:=e0
  exact ⟨hnc,by omega,.inr ⟨g,rfl⟩⟩
theorem Xcl {c:Code} (i:Nat) {ad:Option Addr} {n cap:Nat} {e:TypeId} {size:Nat} {cells:List AV} (hi:H[i]?=some (.row ad n cap e size cells))
  (h:n≤cap→cells.length=n*size→((ad=none∧n=0∧cap=0)∨∃b,ad=some ⟨b,0,none⟩)→awp P c Q T H):awp P c Q T H:=fun Δ V O w0 a w r=>
 h (XgF r i hi).1 (XgF r i hi).2.1 (XgF r i hi).2.2 Δ V O w0 a w r
theorem XvN {cap l:Nat} {x y:Addr} (h:¬cap=l):(if cap=l then some x else some y)=some y:=if_neg h
theorem Xb4 {c:Operand} {args:Array Operand} {tys:Array TypeId} {fs cs:Array Value} (f:FuncId) (fn:Func) (avs:List AV) (res:Value) (ho:o.op=.call { callee:=.value c,args:=args,argTypes:=tys }) (hc:ρ c=.x (.func (.func f) fs cs))
  (hf:P.funcs[f]?=some fn) (hn:fn.name≠ "runtime.NumGoroutine") (hb:fn.body.isSome=true) (hargs:VwL H (fs.toList.map .x++args.toList.map ρ++cs.toList.map .x) avs) (hS:Xay P f [] avs fun r H'=>r=.x res∧H'=[]):Evl P o ρ H (.x res):=by
 intro V a w Kc Qc r hKc
 have hmem:∀x∈args.toList,x∈o.op.operands:=fun x hx=>by simp [ho,Op.operands,Call.operands];exact .inr (by simpa using hx)
 have hFF:∀k,FB V [] k→V k:=fun k hk=>by
  rcases hk with hk|⟨x,hx,_⟩
  ·exact hk
  ·cases hx
 have hd:DenL (FB V []) w avs (fs.toList++args.toList.map a.eval++cs.toList):=hargs.den (fun k hk=>.inl (hFF k hk)) (fun h hh=>⟨r.hok.ok h hh,fun k e hk=>(r.hok.lt h hh k e).2 (hFF k hk)⟩) _ ((DenL.exact.app (XhE r _ hmem)).app DenL.exact)
 refine Xea ho (r.evx (by simp [ho,Op.operands,Call.operands]) hc) hf hn hb (vs:=(fs.toList++args.toList.map a.eval++cs.toList).toArray) (by apply Array.toList_inj.1;simp) ?_
 refine (hS V w _ r.vlt ⟨fun x hx=>(by cases hx),.nil,fun x hx=>(by cases hx)⟩ hd ⟨fun k _ ⟨x,hx,_⟩=>(by cases hx),r.gw⟩).mono ?_
 rintro e w' ⟨res',H',v,⟨rfl,rfl⟩,rfl,hdv,_,hfr,_⟩
 have hE:Ext w w':=⟨hfr.os,hfr.tape,hfr.output,hfr.size,fun k hk=>hfr.block k hk fun ⟨y,hy,_⟩=>by cases hy⟩
 exact ⟨v,rfl,hKc v w' hE (by simp only [Den] at hdv ⊢;exact hdv)⟩
theorem DenL.strip {l:List AV} {vs:List Value} (h:DenL F w l vs):DenL F w (l.map str) vs:=by
 refine DenL.of (by simp [h.len]) fun j av u h1 h2=>?_
 rw [List.getElem?_map] at h1
 cases hj:l[j]? with
 | none=>rw [hj] at h1;cases h1
 | some x=>
   rw [hj] at h1;cases h1
   exact (h.get' j x u hj h2).str
theorem Rel.strip (r:Rel Δ V O w0 H T a w):Rel Δ V O w0 H (T.map str) a w:={ r with tmps:=r.tmps.strip }
theorem Xhy {rest:List Oper} {j:Nat} {want:Bool} {t:Nat} (p:Bool) (hg:o.guard=some (j,want)) (hd:(ops[j]?).bind (·.dst)=some t) (hp:gdc want (T.getD t .top)=some p)
  (h1:p=true→Stp P o (T.map str) H (Xe8 P ops Q rest)) (h0:p=false→Xe8 P ops Q rest (Xa9 T o.dst (.x undef)) H):Xe8 P ops Q (o :: rest) T H:=fun Δ V O w0 a w r=>
 wpList_step fun K hKc=>by
  rw [XdR r hg hd hp]
  cases hpb:p with
  | true=>
    simp only [if_true]
    exact h1 hpb Δ V O w0 a w K _ r.strip fun T' H' a' w' hk hr=>hKc _ _ (hk Δ V O w0 a' w' hr)
  | false=>
    simp only [Bool.false_eq_true,if_false]
    exact hKc _ _ (h0 hpb Δ V O w0 _ _ (r.put _ (by rw [Den])))
theorem Xl6 {S:Type} {c rest:Code} (l:Nat) (Tf:S→List AV) (Hf:S→List Hp) (Inv:S→Prop) (m:S→Nat) (hf:findLabel c l=some (.seq .skip rest))
  (pass:∀s,Inv s→awp P rest (XbP l (fun T' H'=>∃s',m s' < m s∧Inv s'∧Xaj H' T' (Hf s') (Tf s')) Q) (Tf s) (Hf s))
  (first:(∀s,Inv s→awp P rest (XbP l (fun T' H'=>∃s',Inv s'∧Xaj H' T' (Hf s') (Tf s')) Q) (Tf s) (Hf s))→awp P c (XbP l (fun T' H'=>∃s',Inv s'∧Xaj H' T' (Hf s') (Tf s')) Q) T H):awp P (.scope c) Q T H:=
 Xl7 l Tf Hf Inv m hf (first fun s hs=>XkO (pass s hs) fun e T H q=>by
  cases e<;>simp only [XbP] at q ⊢<;>first
   | exact q
   | (obtain ⟨e,s',-,h1,h2⟩:=q;exact ⟨e,s',h1,h2⟩)) fun s hs=>XaH (Xa4 (Xac (pass s hs)))
end
open Go.RowKit
section
variable {P:Program} {Δ:List Deferred} {V O:Nat→Prop} {w0 w w':World} {H H' D:List Hp} {T T':List AV} {a:Act} {o:Oper} {K:List AV→List Hp→Prop} {ρ:Operand→AV} {ops:Array Oper} {Q:Xb9} {F:Nat→Prop}
theorem Xik (x:Operand) (t t2 e:TypeId) (size n:Nat) (cells:List AV) (ht:elT P t=some (e,size)) (ho:o.op=.binOp .eql t x (.const (.slice none 0 0)) t2) (hx:ρ x=.sq n cells) (hn:0 < n):Evl P o ρ H (.x (.bool false)):=by
 intro V a w Kc Q r hKc
 have hd:=r.ops x (by simp [ho,Op.operands])
 rw [hx,Den] at hd
 obtain ⟨ad,cap,vals,hv,h2,h3,h4,h5⟩:=hd
 cases ad with
 | none=>have:=h4 rfl;omega
 | some ad=>
   unfold Oper.wp
   have hrun:(execOp a.eval o).run P w=.ok (.value (.bool false)) w:=by
    simp only [execOp,ho]
    rw [hv]
    have key:∀d,(Op.equalIn (d+1) t (.slice (some ad) n cap) (.slice none 0 0)).run P w=.ok false w:=by
     intro d
     rw [Op.equalIn]
     simp [run_underlying (XdP ht)]
    simp [Act.eval,eqGuard,binOp,Op.equal,go_sem]
    rw [show Op.maxDepth=(Op.maxDepth - 1)+1 from rfl,key]
    rfl
   rw [hrun]
   exact hKc _ _ (Below.refl _ _) (by rw [Den])
end
open Go.RowKit
set_option linter.defProp false
/-! Where a block of the call's own stands. -/
class Xbt (H:List Hp) (b:Nat) (p:outParam Nat) (cells:outParam (List AV)):Prop where out:H[p]?=some (.box b cells)
instance {x:Hp} {H:List Hp} {b p:Nat} {cells:List AV} [h:Xbt H b p cells]:Xbt (x :: H) b (p+1) cells:=⟨by simpa using h.out⟩
instance {H:List Hp} {b:Nat} {cells:List AV}:Xbt (.box b cells :: H) b 0 cells:=⟨rfl⟩
class XfM (H:List Hp) (ad:Option Addr) (p n cap:outParam Nat) (e:outParam TypeId) (size:outParam Nat) (cells:outParam (List AV)):Prop where out:H[p]?=some (.row ad n cap e size cells)
instance {x:Hp} {H:List Hp} {ad:Option Addr} {p n cap:Nat} {e:TypeId} {size:Nat} {cells:List AV} [h:XfM H ad p n cap e size cells]:XfM (x :: H) ad (p+1) n cap e size cells:=⟨by simpa using h.out⟩
instance {H:List Hp} {ad:Option Addr} {n cap:Nat} {e:TypeId} {size:Nat} {cells:List AV}:XfM (.row ad n cap e size cells :: H) ad 0 n cap e size cells:=⟨rfl⟩
/-! The rules. -/
theorem Xvz (T:List AV) (t:Nat):ev T (.tmp t)=T.getD t .top:=rfl
theorem Xqr (T:List AV) (v:Value):ev T (.const v)=.x v:=rfl
theorem XnX (T:List AV) (g:Nat):ev T (.global g)=.x (.pointer (some ⟨g,0,none⟩)):=rfl
theorem Xts (T:List AV) (f:Nat):ev T (.func f)=.x (.func (.func f) #[] #[]):=rfl
theorem XvA (T:List AV) (x:Operand):evs T x=str (ev T x):=rfl
theorem XxH (v:AV):str (.g true v)=v:=rfl
theorem Xwz (v:AV):str (.g false v)=.g false v:=rfl
theorem XxI (v:Value):str (.x v)=.x v:=rfl
theorem XuM:str .top=.top:=rfl
theorem XwA (n:Nat) (l:List AV):str (.sq n l)=.sq n l:=rfl
theorem Xwy (l:List AV):str (.at_ l)=.at_ l:=rfl
theorem XuK (l:List AV):str (.agg l)=.agg l:=rfl
theorem XuN (l:List AV):str (.tup l)=.tup l:=rfl
theorem XuL (t:TypeId) (v:AV):str (.ifc t v)=.ifc t v:=rfl
theorem XoX (T:List AV) (d:Nat) (av:AV):Xa9 T (some d) av=T.set d av:=rfl
theorem XoW (T:List AV) (av:AV):Xa9 T none av=T:=rfl
theorem XxM (v:Value):AV.val (.x v)=v:=rfl
theorem Xxt (n:Nat) (l:List AV):ldA true n l=mkA (l.take n):=rfl
theorem Xxs (n:Nat) (l:List AV):ldA false n l=l.getD 0 .top:=rfl
theorem Xv0 (l:List AV):mkA l=if l.all AV.ex then .x (.agg (l.map AV.val).toArray) else .agg l:=rfl
def wtb:=And.intro Xvz (And.intro Xqr (And.intro XnX (And.intro Xts (And.intro XvA (And.intro XxH (And.intro Xwz (And.intro XxI (And.intro XuM (And.intro XwA (And.intro Xwy (And.intro XuK (And.intro XuN (And.intro XuL (And.intro XoX (And.intro XoW XxM)))))))))))))))
def wtc:=And.intro XnA (And.intro Xmc (And.intro XiE (And.intro XjL (And.intro XhD (And.intro XgX (And.intro XjK (And.intro Xmd (And.intro Xqk (And.intro Xqj (And.intro Xnz (And.intro Xny Xmb)))))))))))
def wtd:=And.intro Xxt (And.intro Xxs (And.intro Xv0 (And.intro Xyg (And.intro Xxl (And.intro Xxk (And.intro XvB (And.intro XwF (And.intro XuR (And.intro XpF (And.intro XrD (And.intro XwE (And.intro Xlv Xru))))))))))))
def wte:=And.intro (@Bool.and_false) (And.intro (@Bool.false_and) (And.intro (@Bool.and_true) (And.intro (@Bool.true_and) (And.intro Bool.false_eq_true (And.intro Bool.not_true (And.intro Bool.not_false Int.toNat_natCast))))))
def wtl:=And.intro (@List.all_cons.{0}) (And.intro (@List.all_nil.{0}) (And.intro (@Xyv.{0}) (And.intro (@Xyw.{0}) (And.intro (@List.flatten_cons.{0}) (And.intro (@List.flatten_nil.{0}) (And.intro (@List.drop_nil.{0}) (And.intro (@XyC.{0}) (And.intro (@XyD.{0}) (And.intro (@List.getD_cons_zero.{0}) (And.intro (@List.getD_cons_succ.{0}) (And.intro (@Xyy.{0}) (And.intro (@Xyz.{0}) (And.intro (@List.append_nil.{0}) (And.intro (@List.drop_zero.{0}) (And.intro (@List.drop_succ_cons.{0}) (And.intro (@List.take_zero.{0}) (And.intro (@List.take_succ_cons.{0}) (And.intro (@Xyt.{0,0}) (And.intro (@Xyx.{0,0}) (And.intro (@Xyr.{0}) (And.intro (@Xyu.{0}) (And.intro Nat.zero_add (And.intro Nat.mul_one Nat.add_zero)))))))))))))))))))))))
def wtn:=And.intro wtb (And.intro wtc (And.intro wtd (And.intro wte wtl)))
def won:=And.intro XxA (And.intro Xv5 (And.intro Xv4 Xub))
def wlq:=And.intro wtb wtc
def whn:=And.intro (@decide_eq_true_eq) (And.intro (@decide_eq_false_iff_not) (And.intro (@beq_iff_eq.{0}) (And.intro (@XyF.{0}) (And.intro (@bne_iff_ne.{0}) (And.intro (@bne_eq_false_iff_eq.{0}) (And.intro (@Bool.not_eq_true) (And.intro (@Bool.not_eq_false) (And.intro (@Bool.not_eq_true') (And.intro (@Bool.not_eq_false') (And.intro Bool.not_true (And.intro Bool.not_false (And.intro (@Bool.and_eq_true) (And.intro (@Bool.or_eq_true) (And.intro (@Bool.and_eq_false_iff) (And.intro (@Bool.or_eq_false_iff) (@ne_eq.{1}))))))))))))))))
set_option maxRecDepth 100000
instance:XaI Tryz.prog 3 false 1:=⟨by kernel_rfl⟩
instance:Xa1 Tryz.prog 3 1:=⟨by kernel_rfl⟩
instance:XaI Tryz.prog 4 false 1:=⟨by kernel_rfl⟩
instance:Xa1 Tryz.prog 4 1:=⟨by kernel_rfl⟩
instance:XaI Tryz.prog 5 false 1:=⟨by kernel_rfl⟩
instance:Xa1 Tryz.prog 5 1:=⟨by kernel_rfl⟩
instance:XaI Tryz.prog 9 false 1:=⟨by kernel_rfl⟩
instance:Xa1 Tryz.prog 9 1:=⟨by kernel_rfl⟩
instance:HEl Tryz.prog 22 5 1:=⟨by kernel_rfl⟩
instance:XbY Tryz.prog 22 5 (Value.int IntKind.u8 0) 1 1:=⟨⟨by kernel_rfl,by kernel_rfl,rfl,by decide⟩⟩
instance:XaI Tryz.prog 24 false 1:=⟨by kernel_rfl⟩
instance:Xa1 Tryz.prog 24 1:=⟨by kernel_rfl⟩
instance:XaI Tryz.prog 25 false 1:=⟨by kernel_rfl⟩
instance:Xa1 Tryz.prog 25 1:=⟨by kernel_rfl⟩
instance:HEl Tryz.prog 25 182 2:=⟨by kernel_rfl⟩
instance:XbY Tryz.prog 25 182 (Value.agg #[Value.string ⟨#[]⟩,Value.string ⟨#[]⟩]) 2 32:=⟨⟨by kernel_rfl,by kernel_rfl,rfl,by decide⟩⟩
instance:XaI Tryz.prog 26 false 1:=⟨by kernel_rfl⟩
instance:Xa1 Tryz.prog 26 1:=⟨by kernel_rfl⟩
instance:HEl Tryz.prog 26 9 1:=⟨by kernel_rfl⟩
instance:XbY Tryz.prog 26 9 (Value.string ⟨#[]⟩) 1 16:=⟨⟨by kernel_rfl,by kernel_rfl,rfl,by decide⟩⟩
instance:XaI Tryz.prog 27 false 1:=⟨by kernel_rfl⟩
instance:Xa1 Tryz.prog 27 1:=⟨by kernel_rfl⟩
instance:HEl Tryz.prog 27 100 2:=⟨by kernel_rfl⟩
instance:XbY Tryz.prog 27 100 (Value.agg #[Value.int IntKind.i64 0,Value.int IntKind.u64 0]) 2 16:=⟨⟨by kernel_rfl,by kernel_rfl,rfl,by decide⟩⟩
instance:XaI Tryz.prog 29 true 15:=⟨by kernel_rfl⟩
instance:Xa1 Tryz.prog 29 15:=⟨by kernel_rfl⟩
instance:HPl Tryz.prog 29 [(0,1),(1,1),(2,1),(3,1),(4,1),(5,1),(6,1),(7,1),(8,1),(9,1),(10,1),(11,1),(12,1),(13,1),(14,1)] [Value.string ⟨#[]⟩,Value.string ⟨#[]⟩,Value.slice none 0 0,Value.slice none 0 0,Value.bool false,Value.string ⟨#[]⟩,Value.int IntKind.i64 0,Value.int IntKind.u64 0,Value.int IntKind.u64 0,Value.int IntKind.u64 0,Value.int IntKind.i64 0,Value.int IntKind.u64 0,Value.slice none 0 0,Value.int IntKind.i64 0,Value.int IntKind.i64 0]:=⟨by kernel_rfl⟩
instance:XbT Tryz.prog 29 (Value.agg #[Value.string ⟨#[]⟩,Value.string ⟨#[]⟩,Value.slice none 0 0,Value.slice none 0 0,Value.bool false,Value.string ⟨#[]⟩,Value.int IntKind.i64 0,Value.int IntKind.u64 0,Value.int IntKind.u64 0,Value.int IntKind.u64 0,Value.int IntKind.i64 0,Value.int IntKind.u64 0,Value.slice none 0 0,Value.int IntKind.i64 0,Value.int IntKind.i64 0]):=⟨by kernel_rfl⟩
instance:Xbc Tryz.prog 29 0 0:=⟨by kernel_rfl⟩
instance:Xbc Tryz.prog 29 1 1:=⟨by kernel_rfl⟩
instance:Xbc Tryz.prog 29 2 2:=⟨by kernel_rfl⟩
instance:Xbc Tryz.prog 29 3 3:=⟨by kernel_rfl⟩
instance:Xbc Tryz.prog 29 4 4:=⟨by kernel_rfl⟩
instance:Xbc Tryz.prog 29 5 5:=⟨by kernel_rfl⟩
instance:Xbc Tryz.prog 29 6 6:=⟨by kernel_rfl⟩
instance:Xbc Tryz.prog 29 7 7:=⟨by kernel_rfl⟩
instance:Xbc Tryz.prog 29 8 8:=⟨by kernel_rfl⟩
instance:Xbc Tryz.prog 29 9 9:=⟨by kernel_rfl⟩
instance:Xbc Tryz.prog 29 10 10:=⟨by kernel_rfl⟩
instance:Xbc Tryz.prog 29 11 11:=⟨by kernel_rfl⟩
instance:Xbc Tryz.prog 29 12 12:=⟨by kernel_rfl⟩
instance:Xbc Tryz.prog 29 13 13:=⟨by kernel_rfl⟩
instance:Xbc Tryz.prog 29 14 14:=⟨by kernel_rfl⟩
instance:XaI Tryz.prog 30 false 1:=⟨by kernel_rfl⟩
instance:Xa1 Tryz.prog 30 1:=⟨by kernel_rfl⟩
instance:XaI Tryz.prog 32 true 3:=⟨by kernel_rfl⟩
instance:Xa1 Tryz.prog 32 3:=⟨by kernel_rfl⟩
instance:HPl Tryz.prog 32 [(0,1),(1,1),(2,1)] [Value.int IntKind.i64 0,Value.int IntKind.i64 0,Value.int IntKind.i64 0]:=⟨by kernel_rfl⟩
instance:XbT Tryz.prog 32 (Value.agg #[Value.int IntKind.i64 0,Value.int IntKind.i64 0,Value.int IntKind.i64 0]):=⟨by kernel_rfl⟩
instance:Xbc Tryz.prog 32 0 0:=⟨by kernel_rfl⟩
instance:Xbc Tryz.prog 32 1 1:=⟨by kernel_rfl⟩
instance:Xbc Tryz.prog 32 2 2:=⟨by kernel_rfl⟩
instance:XaI Tryz.prog 34 false 1:=⟨by kernel_rfl⟩
instance:Xa1 Tryz.prog 34 1:=⟨by kernel_rfl⟩
instance:HEl Tryz.prog 34 29 15:=⟨by kernel_rfl⟩
instance:XbY Tryz.prog 34 29 (Value.agg #[Value.string ⟨#[]⟩,Value.string ⟨#[]⟩,Value.slice none 0 0,Value.slice none 0 0,Value.bool false,Value.string ⟨#[]⟩,Value.int IntKind.i64 0,Value.int IntKind.u64 0,Value.int IntKind.u64 0,Value.int IntKind.u64 0,Value.int IntKind.i64 0,Value.int IntKind.u64 0,Value.slice none 0 0,Value.int IntKind.i64 0,Value.int IntKind.i64 0]) 15 192:=⟨⟨by kernel_rfl,by kernel_rfl,rfl,by decide⟩⟩
instance:XbT Tryz.prog 34 (Value.slice none 0 0):=⟨by kernel_rfl⟩
instance:XaI Tryz.prog 35 false 1:=⟨by kernel_rfl⟩
instance:Xa1 Tryz.prog 35 1:=⟨by kernel_rfl⟩
instance:HEl Tryz.prog 35 127 7:=⟨by kernel_rfl⟩
instance:XbY Tryz.prog 35 127 (Value.agg #[Value.int IntKind.i64 0,Value.int IntKind.i64 0,Value.int IntKind.i64 0,Value.int IntKind.u64 0,Value.int IntKind.u64 0,Value.int IntKind.u64 0,Value.int IntKind.u64 0]) 7 56:=⟨⟨by kernel_rfl,by kernel_rfl,rfl,by decide⟩⟩
instance:XaI Tryz.prog 38 false 1:=⟨by kernel_rfl⟩
instance:Xa1 Tryz.prog 38 1:=⟨by kernel_rfl⟩
instance:HEl Tryz.prog 38 76 7:=⟨by kernel_rfl⟩
instance:XbY Tryz.prog 38 76 (Value.agg #[Value.int IntKind.i64 0,Value.int IntKind.i64 0,Value.int IntKind.i64 0,Value.int IntKind.u64 0,Value.int IntKind.u64 0,Value.int IntKind.u64 0,Value.int IntKind.u64 0]) 7 56:=⟨⟨by kernel_rfl,by kernel_rfl,rfl,by decide⟩⟩
instance:XaI Tryz.prog 45 false 1:=⟨by kernel_rfl⟩
instance:Xa1 Tryz.prog 45 1:=⟨by kernel_rfl⟩
instance:HEl Tryz.prog 45 3 1:=⟨by kernel_rfl⟩
instance:XbY Tryz.prog 45 3 (Value.int IntKind.i64 0) 1 8:=⟨⟨by kernel_rfl,by kernel_rfl,rfl,by decide⟩⟩
instance:XaI Tryz.prog 55 false 1:=⟨by kernel_rfl⟩
instance:XaI Tryz.prog 58 false 1:=⟨by kernel_rfl⟩
instance:XbT Tryz.prog 58 (Value.pointer none):=⟨by kernel_rfl⟩
instance:HPl Tryz.prog 62 [(0,1),(1,1),(2,1)] [Value.int IntKind.i64 0,Value.int IntKind.i64 0,Value.nilIface]:=⟨by kernel_rfl⟩
instance:Xbc Tryz.prog 62 0 0:=⟨by kernel_rfl⟩
instance:Xbc Tryz.prog 62 1 1:=⟨by kernel_rfl⟩
instance:HPl Tryz.prog 65 [(0,1),(1,1),(2,1),(3,1)] [Value.string ⟨#[]⟩,Value.int IntKind.i64 0,Value.int IntKind.i64 0,Value.int IntKind.i64 0]:=⟨by kernel_rfl⟩
instance:Xbc Tryz.prog 65 0 0:=⟨by kernel_rfl⟩
instance:Xbc Tryz.prog 65 1 1:=⟨by kernel_rfl⟩
instance:Xbc Tryz.prog 65 2 2:=⟨by kernel_rfl⟩
instance:Xbc Tryz.prog 65 3 3:=⟨by kernel_rfl⟩
instance:HPl Tryz.prog 71 [(0,1),(1,1)] [Value.slice none 0 0,Value.slice none 0 0]:=⟨by kernel_rfl⟩
instance:Xbc Tryz.prog 71 0 0:=⟨by kernel_rfl⟩
instance:Xbc Tryz.prog 71 1 1:=⟨by kernel_rfl⟩
instance:XaI Tryz.prog 74 true 4:=⟨by kernel_rfl⟩
instance:Xa1 Tryz.prog 74 4:=⟨by kernel_rfl⟩
instance:XbT Tryz.prog 74 (Value.agg #[Value.int IntKind.u64 0,Value.int IntKind.u64 0,Value.int IntKind.u64 0,Value.int IntKind.u64 0]):=⟨by kernel_rfl⟩
instance:XaI Tryz.prog 76 true 7:=⟨by kernel_rfl⟩
instance:Xa1 Tryz.prog 76 7:=⟨by kernel_rfl⟩
instance:HPl Tryz.prog 76 [(0,1),(1,1),(2,1),(3,4)] [Value.int IntKind.i64 0,Value.int IntKind.i64 0,Value.int IntKind.i64 0,Value.int IntKind.u64 0,Value.int IntKind.u64 0,Value.int IntKind.u64 0,Value.int IntKind.u64 0]:=⟨by kernel_rfl⟩
instance:XbT Tryz.prog 76 (Value.agg #[Value.int IntKind.i64 0,Value.int IntKind.i64 0,Value.int IntKind.i64 0,Value.int IntKind.u64 0,Value.int IntKind.u64 0,Value.int IntKind.u64 0,Value.int IntKind.u64 0]):=⟨by kernel_rfl⟩
instance:Xbc Tryz.prog 76 0 0:=⟨by kernel_rfl⟩
instance:Xbc Tryz.prog 76 1 1:=⟨by kernel_rfl⟩
instance:Xbc Tryz.prog 76 2 2:=⟨by kernel_rfl⟩
instance:Xbc Tryz.prog 76 3 3:=⟨by kernel_rfl⟩
instance:XaI Tryz.prog 79 false 1:=⟨by kernel_rfl⟩
instance:XaI Tryz.prog 80 false 1:=⟨by kernel_rfl⟩
instance:HPl Tryz.prog 82 [(0,1),(1,1)] [Value.slice none 0 0,Value.map none]:=⟨by kernel_rfl⟩
instance:Xbc Tryz.prog 82 0 0:=⟨by kernel_rfl⟩
instance:Xbc Tryz.prog 82 1 1:=⟨by kernel_rfl⟩
instance:XaI Tryz.prog 83 false 1:=⟨by kernel_rfl⟩
instance:Xa1 Tryz.prog 83 1:=⟨by kernel_rfl⟩
instance:HEl Tryz.prog 83 86 3:=⟨by kernel_rfl⟩
instance:XbY Tryz.prog 83 86 (Value.agg #[Value.int IntKind.i64 0,Value.bool false,Value.bool false]) 3 16:=⟨⟨by kernel_rfl,by kernel_rfl,rfl,by decide⟩⟩
instance:XaI Tryz.prog 86 true 3:=⟨by kernel_rfl⟩
instance:Xa1 Tryz.prog 86 3:=⟨by kernel_rfl⟩
instance:HPl Tryz.prog 86 [(0,1),(1,1),(2,1)] [Value.int IntKind.i64 0,Value.bool false,Value.bool false]:=⟨by kernel_rfl⟩
instance:XbT Tryz.prog 86 (Value.agg #[Value.int IntKind.i64 0,Value.bool false,Value.bool false]):=⟨by kernel_rfl⟩
instance:Xbc Tryz.prog 86 0 0:=⟨by kernel_rfl⟩
instance:Xbc Tryz.prog 86 1 1:=⟨by kernel_rfl⟩
instance:Xbc Tryz.prog 86 2 2:=⟨by kernel_rfl⟩
instance:XaI Tryz.prog 88 true 6:=⟨by kernel_rfl⟩
instance:Xa1 Tryz.prog 88 6:=⟨by kernel_rfl⟩
instance:HPl Tryz.prog 88 [(0,3),(3,1),(4,1),(5,1)] [Value.int IntKind.i64 0,Value.bool false,Value.bool false,Value.bool false,Value.bool false,Value.int IntKind.u8 0]:=⟨by kernel_rfl⟩
instance:XbT Tryz.prog 88 (Value.agg #[Value.int IntKind.i64 0,Value.bool false,Value.bool false,Value.bool false,Value.bool false,Value.int IntKind.u8 0]):=⟨by kernel_rfl⟩
instance:Xbc Tryz.prog 88 0 0:=⟨by kernel_rfl⟩
instance:Xbc Tryz.prog 88 1 3:=⟨by kernel_rfl⟩
instance:Xbc Tryz.prog 88 2 4:=⟨by kernel_rfl⟩
instance:Xbc Tryz.prog 88 3 5:=⟨by kernel_rfl⟩
instance:XaI Tryz.prog 94 false 1:=⟨by kernel_rfl⟩
instance:HEl Tryz.prog 94 103 1:=⟨by kernel_rfl⟩
instance:XbY Tryz.prog 94 103 (Value.slice none 0 0) 1 24:=⟨⟨by kernel_rfl,by kernel_rfl,rfl,by decide⟩⟩
instance:XaI Tryz.prog 97 false 1:=⟨by kernel_rfl⟩
instance:XaI Tryz.prog 100 true 2:=⟨by kernel_rfl⟩
instance:HPl Tryz.prog 100 [(0,1),(1,1)] [Value.int IntKind.i64 0,Value.int IntKind.u64 0]:=⟨by kernel_rfl⟩
instance:Xbc Tryz.prog 100 0 0:=⟨by kernel_rfl⟩
instance:XaI Tryz.prog 103 false 1:=⟨by kernel_rfl⟩
instance:Xa1 Tryz.prog 103 1:=⟨by kernel_rfl⟩
instance:HEl Tryz.prog 103 4 1:=⟨by kernel_rfl⟩
instance:XbY Tryz.prog 103 4 (Value.bool false) 1 1:=⟨⟨by kernel_rfl,by kernel_rfl,rfl,by decide⟩⟩
instance:XbT Tryz.prog 103 (Value.slice none 0 0):=⟨by kernel_rfl⟩
instance:HEl Tryz.prog 106 45 1:=⟨by kernel_rfl⟩
instance:XbY Tryz.prog 106 45 (Value.slice none 0 0) 1 24:=⟨⟨by kernel_rfl,by kernel_rfl,rfl,by decide⟩⟩
instance:XaI Tryz.prog 127 true 7:=⟨by kernel_rfl⟩
instance:Xa1 Tryz.prog 127 7:=⟨by kernel_rfl⟩
instance:HPl Tryz.prog 127 [(0,1),(1,1),(2,1),(3,4)] [Value.int IntKind.i64 0,Value.int IntKind.i64 0,Value.int IntKind.i64 0,Value.int IntKind.u64 0,Value.int IntKind.u64 0,Value.int IntKind.u64 0,Value.int IntKind.u64 0]:=⟨by kernel_rfl⟩
instance:XbT Tryz.prog 127 (Value.agg #[Value.int IntKind.i64 0,Value.int IntKind.i64 0,Value.int IntKind.i64 0,Value.int IntKind.u64 0,Value.int IntKind.u64 0,Value.int IntKind.u64 0,Value.int IntKind.u64 0]):=⟨by kernel_rfl⟩
instance:Xbc Tryz.prog 127 0 0:=⟨by kernel_rfl⟩
instance:Xbc Tryz.prog 127 1 1:=⟨by kernel_rfl⟩
instance:Xbc Tryz.prog 127 2 2:=⟨by kernel_rfl⟩
instance:Xbc Tryz.prog 127 3 3:=⟨by kernel_rfl⟩
instance:XbT Tryz.prog 128 (Value.agg #[Value.int IntKind.i64 0,Value.int IntKind.i64 0]):=⟨by kernel_rfl⟩
instance:HEl Tryz.prog 138 94 1:=⟨by kernel_rfl⟩
instance:XbY Tryz.prog 138 94 (Value.slice none 0 0) 1 24:=⟨⟨by kernel_rfl,by kernel_rfl,rfl,by decide⟩⟩
instance:XaI Tryz.prog 146 false 1:=⟨by kernel_rfl⟩
instance:HEl Tryz.prog 146 154 4:=⟨by kernel_rfl⟩
instance:XbY Tryz.prog 146 154 (Value.agg #[Value.int IntKind.i64 0,Value.string ⟨#[]⟩,Value.int IntKind.i64 0,Value.int IntKind.i64 0]) 4 40:=⟨⟨by kernel_rfl,by kernel_rfl,rfl,by decide⟩⟩
instance:XaI Tryz.prog 150 false 1:=⟨by kernel_rfl⟩
instance:HPl Tryz.prog 152 [(0,1),(1,1)] [Value.slice none 0 0,Value.int IntKind.i64 0]:=⟨by kernel_rfl⟩
instance:Xbc Tryz.prog 152 0 0:=⟨by kernel_rfl⟩
instance:Xbc Tryz.prog 152 1 1:=⟨by kernel_rfl⟩
instance:XaI Tryz.prog 154 true 4:=⟨by kernel_rfl⟩
instance:Xa1 Tryz.prog 154 4:=⟨by kernel_rfl⟩
instance:HPl Tryz.prog 154 [(0,1),(1,1),(2,1),(3,1)] [Value.int IntKind.i64 0,Value.string ⟨#[]⟩,Value.int IntKind.i64 0,Value.int IntKind.i64 0]:=⟨by kernel_rfl⟩
instance:XbT Tryz.prog 154 (Value.agg #[Value.int IntKind.i64 0,Value.string ⟨#[]⟩,Value.int IntKind.i64 0,Value.int IntKind.i64 0]):=⟨by kernel_rfl⟩
instance:Xbc Tryz.prog 154 0 0:=⟨by kernel_rfl⟩
instance:Xbc Tryz.prog 154 1 1:=⟨by kernel_rfl⟩
instance:Xbc Tryz.prog 154 2 2:=⟨by kernel_rfl⟩
instance:Xbc Tryz.prog 154 3 3:=⟨by kernel_rfl⟩
instance:XaI Tryz.prog 182 true 2:=⟨by kernel_rfl⟩
instance:HPl Tryz.prog 182 [(0,1),(1,1)] [Value.string ⟨#[]⟩,Value.string ⟨#[]⟩]:=⟨by kernel_rfl⟩
instance:Xbc Tryz.prog 182 0 0:=⟨by kernel_rfl⟩
instance:XaI Tryz.prog 187 false 1:=⟨by kernel_rfl⟩
instance:XbT Tryz.prog 187 (Value.int IntKind.i64 0):=⟨by kernel_rfl⟩
instance:XaI Tryz.prog 189 false 1:=⟨by kernel_rfl⟩
instance:XbT Tryz.prog 189 (Value.pointer none):=⟨by kernel_rfl⟩
instance:HPl Tryz.prog 192 [(0,1),(1,1),(2,1)] [Value.int IntKind.i64 0,Value.int IntKind.i64 0,Value.nilIface]:=⟨by kernel_rfl⟩
instance:Xbc Tryz.prog 192 0 0:=⟨by kernel_rfl⟩
instance:Xbc Tryz.prog 192 1 1:=⟨by kernel_rfl⟩
instance:HPl Tryz.prog 210 [(0,1),(1,1),(2,1),(3,1)] [Value.string ⟨#[]⟩,Value.int IntKind.i64 0,Value.int IntKind.i64 0,Value.int IntKind.i64 0]:=⟨by kernel_rfl⟩
instance:Xbc Tryz.prog 210 0 0:=⟨by kernel_rfl⟩
instance:Xbc Tryz.prog 210 1 1:=⟨by kernel_rfl⟩
instance:Xbc Tryz.prog 210 2 2:=⟨by kernel_rfl⟩
instance:Xbc Tryz.prog 210 3 3:=⟨by kernel_rfl⟩
instance:HPl Tryz.prog 224 [(0,1),(1,1),(2,1),(3,1)] [Value.string ⟨#[]⟩,Value.int IntKind.i64 0,Value.int IntKind.i64 0,Value.slice none 0 0]:=⟨by kernel_rfl⟩
instance:Xbc Tryz.prog 224 0 0:=⟨by kernel_rfl⟩
instance:Xbc Tryz.prog 224 1 1:=⟨by kernel_rfl⟩
instance:Xbc Tryz.prog 224 2 2:=⟨by kernel_rfl⟩
instance:Xbc Tryz.prog 224 3 3:=⟨by kernel_rfl⟩
theorem mixed:Tryz.prog.follows .mixedOrders=true:=by kernel_rfl
end Go.Proofs.YtdlblokjfoggpaaGreatDoor

import Derived.Test.YtdlblokjfoggpaaGreatDoorRows
import Derived.Test.YtdlblokjfoggpaaGreatDoorW0
import Derived.Test.YtdlblokjfoggpaaGreatDoorW13
import Derived.Test.YtdlblokjfoggpaaGreatDoorW7
import Derived.Test.YtdlblokjfoggpaaGreatDoorW44
import Derived.ChangeSame
import Derived.ChangeVars
import Derived.JoinedOf
import Derived.LaidLaws
import Derived.LaidHandle
import Derived.Stop.Joined
import Derived.Stop.LaidErr
import Derived.Deep.Strs
import Derived.Lay
import Derived.RowKit
import Derived.ProofKit
/- What the listed variables of the laws of scripts give a walk; a world in which they lie. -/
set_option linter.unusedSimpArgs false
set_option linter.unusedVariables false
set_option maxRecDepth 100000
set_option maxHeartbeats 8000000
namespace Go.Proofs.YtdlblokjfoggpaaGreatDoor
open Go.RowKit Go Go.ChangeShapes Go.Deep
abbrev LL:List (String × DataW Unit):=Rows.checkStartsRow.laid
theorem Xrh:Tryz.prog.globalNamed "errors.errorType"=some 7:=by kernel_rfl
theorem Xri:(Tryz.prog.cutTypes.find? (·.1 == "internal/reflectlite.rtype")).map (·.2)=some 167:=by kernel_rfl
theorem XmT:Tryz.prog.types.size=332:=by kernel_rfl
theorem XoM:((List.range 332).filter fun t=>Tryz.prog.rowNamed t [101,114,114,111,114])=[55]:=by kernel_rfl
theorem Xg5 {w:World} {base:Nat} {sp:Nat→Bool} {held:Bool} {fuel:Nat} {t:TypeId} {ms:Array (String × TypeId)} {cs:List Value} {nm:String} {d:DataW Unit} {p:List MemPlace} (hi:Tryz.prog.underlying t=some (.interface ms))
  (h:DataW.trod (fun _=>()) Tryz.prog w base sp held fuel t cs=some (.iface nm d,p)):∃u v,cs=[.iface u v]:=by
 cases fuel with
 | zero=>simp [DataW.trod] at h
 | succ n=>
   unfold DataW.trod at h
   rw [hi] at h
   split at h<;>simp_all
theorem Xex {W:World} {n nm:String} {d:DataW Unit} {r:List (String × DataW Unit)} {g:Nat} {ti:TypeId} {ms:Array (String × TypeId)} (h:laidMet Tryz.prog ((n,.iface nm d) :: r) W)
  (hg:Tryz.prog.globalNamed n=some g) (ht:(Tryz.prog.globals[g]?).map (·.type)=some ti) (hi:Tryz.prog.underlying ti=some (.interface ms)):∃u v,W.cell? ⟨g,0,none⟩=some (.iface u v):=by
 obtain ⟨ps,⟨g0,t0,cs0,f0,p0,q0,hg0,ht0,hv0,hd0,-⟩,-⟩:=h
 obtain rfl:=Option.some.inj (hg.symm.trans hg0)
 obtain rfl:=Option.some.inj (ht.symm.trans ht0)
 obtain ⟨l0⟩:=cs0
 obtain ⟨u,v,hcs⟩:=Xg5 hi hd0
 simp only at hcs
 subst hcs
 exact ⟨u,v,by simpa using World.var?_cell hg0 hv0 0⟩
def XrU:List (String × Nat × List UInt8):=[("strconv.ErrRange",10,[118,97,108,117,101,32,111,117,116,32,111,102,32,114,97,110,103,101]),("strconv.ErrSyntax",9,[105,110,118,97,108,105,100,32,115,121,110,116,97,120]),("jobmux/check.errLimit",0,[116,111,111,32,109,97,110,121,32,106,111,98,115]),("jobmux/check.errTwice",2,[116,104,101,32,110,97,109,101,32,105,115,32,117,115,101,100,32,116,119,105,99,101]),("jobmux/check.errUnknown",3,[97,32,110,101,101,100,32,105,115,32,110,111,32,106,111,98]),("jobmux/check.errRange",4,[97,32,118,97,108,117,101,32,105,115,32,111,117,116,32,111,102,32,105,116,115,32,114,97,110,103,101]),("jobmux/check.errPattern",5,[116,104,101,32,112,97,116,116,101,114,110,32,105,115,32,119,114,111,110,103]),("jobmux/check.errNever",6,[116,104,101,32,112,97,116,116,101,114,110,32,109,97,116,99,104,101,115,32,110,111,116,104,105,110,103]),("jobmux/check.errCycle",1,[106,111,98,115,32,110,101,101,100,32,111,110,101,32,97,110,111,116,104,101,114])]
theorem Xic:∀x∈XrU,Tryz.prog.globalNamed x.1=some x.2.1∧(Tryz.prog.globals[x.2.1]?).map (·.type)=some 55:=by
 have h:(XrU.all fun x=>decide (Tryz.prog.globalNamed x.1=some x.2.1) && decide ((Tryz.prog.globals[x.2.1]?).map (·.type)=some 55))=true:=by kernel_rfl
 intro x hx
 have:=List.all_eq_true.1 h x hx
 rw [Bool.and_eq_true,decide_eq_true_eq,decide_eq_true_eq] at this
 exact this
theorem XrW:∀u,Tryz.prog.typeName? 3 u=some "*errors.errorString"→u=XrV:=fun u h=>typeName_ptr_named (nm:= "errors.errorString") (by kernel_rfl) (by kernel_rfl) (by decide) u h
theorem Xjr {W:World} (h:laidMetH Tryz.prog LL W):∃ad,Xgr ad W∧Xfg ad:=by
 have hf:(LL.filter fun x=>x.2.handleName?.isSome)=[("errors.errorType",Rows.laid_errors_errorType)]:=by kernel_rfl
 have hn:(LL.filter fun x=>x.2.handleName?.isNone)=[("math/bits.deBruijn32tab",Rows.laid_math_bits_deBruijn32tab),("math/bits.deBruijn64tab",Rows.laid_math_bits_deBruijn64tab),("internal/strconv.uint64pow10",Rows.laid_internal_strconv_uint64pow10)]++XrU.map (fun x=>(x.1,DataW.iface "*errors.errorString" (.ptr (.agg [.lit (.string x.2.2)]))))++[]:=by kernel_rfl
 unfold laidMetH at h
 rw [hf] at h
 have h1:laidMet Tryz.prog (LL.filter fun x=>x.2.handleName?.isNone) W:=h.1
 rw [hn] at h1
 have t3:laidMet Tryz.prog (XrU.map (fun x=>(x.1,DataW.iface "*errors.errorString" (.ptr (.agg [.lit (.string x.2.2)]))))++[]) W:=h1.tail.tail.tail
 obtain ⟨al,a1,a2,a4,a3⟩:=Xpl (ti:=55) (tp:=XrV) (te:=295) (ts:=9) (nm:= "*errors.errorString") Tryz.underlying55 XrW Tryz.underlying293 Tryz.underlying295 rfl rfl Tryz.underlying9 (by kernel_rfl) (by kernel_rfl) [] XrU Xic t3
 exact Xjs al XrU 2 (by decide) a1 a2 a4 a3 (by decide)
theorem Xk3 {W:World} (h:laidMetH Tryz.prog LL W) (hS:W.ShapedOpen Tryz.prog):Gw W:=by
 have hf:(LL.filter fun x=>x.2.handleName?.isSome)=[("errors.errorType",Rows.laid_errors_errorType)]:=by kernel_rfl
 have hn:(LL.filter fun x=>x.2.handleName?.isNone)=[("math/bits.deBruijn32tab",Rows.laid_math_bits_deBruijn32tab),("math/bits.deBruijn64tab",Rows.laid_math_bits_deBruijn64tab),("internal/strconv.uint64pow10",Rows.laid_internal_strconv_uint64pow10)]++XrU.map (fun x=>(x.1,DataW.iface "*errors.errorString" (.ptr (.agg [.lit (.string x.2.2)]))))++[]:=by kernel_rfl
 unfold laidMetH at h
 rw [hf] at h
 obtain ⟨h1,h2⟩:=(show laidMet Tryz.prog (LL.filter fun x=>x.2.handleName?.isNone) W∧handlesMet Tryz.prog [("errors.errorType",Rows.laid_errors_errorType)] W from h)
 rw [hn] at h1
 obtain ⟨name,u,ty,e1,e2,e3,e4,e5⟩:=h2 _ (List.mem_singleton.2 rfl)
 have en:name=[101,114,114,111,114]:=(Option.some.inj e1).symm
 subst en
 obtain rfl:=Option.some.inj (Xri.symm.trans e2)
 have hm:ty∈(List.range 332).filter fun t=>Tryz.prog.rowNamed t [101,114,114,111,114]:=List.mem_filter.2 ⟨List.mem_range.2 (by rw [←XmT];exact e3),e4⟩
 rw [XoM] at hm
 obtain rfl:=List.mem_singleton.1 hm
 have hh:typeHandle Tryz.prog 55=.pointer (some ⟨14,55,none⟩):=by kernel_rfl
 rw [hh] at e5
 have t1:=h1.tail
 have t2:=t1.tail
 have t3:=t2.tail
 have t4:=t3.tail
 have t5:=t4.tail
 obtain ⟨t,v,hr⟩:=Xex (g:=10) (ti:=55) t3 (by kernel_rfl) (by kernel_rfl) Tryz.underlying55
 obtain ⟨t',v',hs⟩:=Xex (g:=9) (ti:=55) t4 (by kernel_rfl) (by kernel_rfl) Tryz.underlying55
 refine ⟨by simpa using World.var?_cell Xrh e5 0,⟨_,_,hs⟩,⟨_,_,hr⟩,?_,?_⟩
 ·exact Lib.tabIs_of_head (g:=11) (t:=302) (e:=24) (n:=20) (by kernel_rfl) (by kernel_rfl) (by kernel_rfl) (by kernel_rfl) (by kernel_rfl) (by kernel_rfl) t2
 ·have h0:(((begin Tryz.prog (fun _ _=>0) default).world.heap[gN - 1]?).bind Obj.row?).isSome=true:=by kernel_rfl
  obtain ⟨⟨z,t⟩,hz⟩:=Option.isSome_iff_exists.1 h0
  obtain ⟨cs,hh,-⟩:=hS.1 (gN - 1) z t (of_decide_eq_true (by kernel_rfl)) hz
  have h1:=(Array.getElem?_eq_some_iff.1 hh).1
  have h2:1≤gN:=by decide
  omega
noncomputable def laidWorld (os:Os):World:=
 let w0:=World.holding Tryz.prog os ⟨#[],#[],[]⟩
 { w0 with heap:=w0.heap.modify 7 fun
   | .cells _ t frozen=>.cells #[.iface 167 (.agg #[.pointer (some ⟨14,55,none⟩)])] t frozen
   | o=>o }
noncomputable def laidWorldL (os:Os) (L:List (String × DataW Unit)):World:=(laidWorld os).layVars Tryz.prog (L.filter fun x=>x.2.handleName?.isNone)
theorem Xg9 (os:Os) (L:List (String × DataW Unit)):(laidWorldL os L).os=os:=(World.layVars_os _ _ _).trans rfl
theorem Xgv {os:Os} {L:List (String × DataW Unit)} (args:Array Value) (hf:(laidWorld os).layFits Tryz.prog (L.filter fun x=>x.2.handleName?.isNone) []=true) (hi:(laidWorld os).layIfaces Tryz.prog (L.filter fun x=>x.2.handleName?.isNone) (laidWorldL os L)=true)
  (hh:(L.filter fun x=>x.2.handleName?.isSome).all (handleAtB Tryz.prog (laidWorldL os L))=true):laidMetH Tryz.prog L ((laidWorldL os L).forCall (fun _ _=>0) ⟨#[],args,[]⟩).memory:=by
 have h:laidMetH Tryz.prog L (laidWorldL os L):=by
  refine laidMetH_of_parts ?_ hh
  generalize hL:(L.filter fun x=>x.2.handleName?.isNone)=L' at *
  have e1:(L'.filter fun x=>(L'.map (·.1)).contains x.1)=L':=List.filter_eq_self.2 fun x hx=>List.contains_iff_mem.2 (List.mem_map.2 ⟨x,hx,rfl⟩)
  have e2:(L'.filter fun x=>!(L'.map (·.1)).contains x.1)=[]:=List.filter_eq_nil_iff.2 fun x hx=>by rw [List.contains_iff_mem.2 (List.mem_map.2 ⟨x,hx,rfl⟩)];simp
  exact laidMet_layVars (w0:=laidWorld os) (L'.map (·.1)) [] (by rw [e1];unfold laidWorldL;rw [hL]) (by rw [e1];exact hf) (by rw [e1];exact hi) (by rw [e2];exact LaidIn.none)
 exact h.of_heap (by simp [World.memory,World.forCall,Input.heap])
section
variable {H:Type} {enc:TypeId × Value→H}
theorem Xgw {a:Assume} {C:Checked} {os:Os} {f:FuncId} {fn:Func} {s:ChangeSpec} {conds:List PathCond} {apart fresh handsOn again:Bool} {X:World→Array Value→Prop}
  (hX:∀(w w':World) (args:Array Value),w.heap=w'.heap→X w args→X w' args)
  (own:ownKnob C.prog.godebug=none) (started:os.Started) (noInit:C.prog.inits.idxOf? f=none) (hfn:C.prog.funcs[f]?=some fn)
  (witness:∃(w:World) (tape:Tape) (i:Input),w.os=os∧(w.forCall tape i).Shaped C.prog∧i.vars=[]∧Input.okWide C.prog (w.forCall tape i) .any w.heap.size f i ∧
   ((s.pre enc C.prog fn conds apart (w.forCall tape i).memory i.args∧X (w.forCall tape i).memory i.args)∧sizedMet enc C.prog fn (OpenSpec.ofChange s) apart (w.forCall tape i).memory i.args)∧a.holds C.prog (lone (Frame.enter C.prog f i.args .normal) [] (w.forCall tape i)))
  (contract:∀(W:World) (base:Nat) (args:Array Value) (ds gs:List (DataW H)) (before:List MemPlace),
   (∀(j:Nat) t v,fn.params[j]?=some t→args[j]?=some v→Value.okWide C.prog W .any base t v) →
   DataW.Whole enc C.prog fn.params.toList s.vars apart W args.toList ds gs before →
   conds.all (PathCond.test C.prog ⟨fn.params.toList,ds,s.plain.varTypes C.prog,gs⟩)=true →
   (DataW.weightsEach C.prog (fn.params.toList++s.plain.varTypes C.prog) (ds++gs)).all (·≤reachBytes)=true→X W args→W.ShapedOpen C.prog →
   Calls C.prog f args W fun e W'=>∃v,e=.returned v∧s.post enc C.prog fn apart fresh handsOn again W args v W') :
  ReturnsInHanded a C os f .any (fun w args=>(s.pre enc C.prog fn conds apart w args∧X w args)∧sizedMet enc C.prog fn (OpenSpec.ofChange s) apart w args) (s.post enc C.prog fn apart fresh handsOn again):=by
 refine returnsInHanded_of_calls own started noInit witness fun w tape i _ hsh _ hok hpre _=>?_
 obtain ⟨_,_,_,fn',hfn',_,_,_,_,hval⟩:=hok
 obtain rfl:fn'=fn:=Option.some.inj (hfn'.symm.trans hfn)
 obtain ⟨⟨⟨ds,gs,before,hw,hc⟩,hx⟩,hz⟩:=hpre
 refine (contract (w.forCall tape i) w.heap.size i.args ds gs before hval (DataW.Whole.of_heap (w':=w.forCall tape i) (by rfl) hw) hc (hz.weights hw) (hX _ _ _ (by rfl) hx) hsh).mono fun e W' ⟨v,he,hp⟩=>?_
 subst he
 exact ChangeSpec.post_blind hp
end
end Go.Proofs.YtdlblokjfoggpaaGreatDoor

import Derived.Test.YtdpobjakdplljaaGreatDoorU0
import Derived.ProofKit
import Derived.OpenShut
import Derived.ShutString
import Derived.ChangeOld
import Derived.Lib.SmallJoins
import Derived.SizedLaws
import Derived.Test.YtdpobjakdplljaaGreatDoorRows
import Derived.Test.YtdpobjakdplljaaGreatDoorU9
import Derived.Test.YtdpobjakdplljaaGreatDoorU8
import Derived.ChangeSame
import Derived.ChangeVars
import Derived.JoinedOf
import Derived.LaidLaws
import Derived.LaidHandle
import Derived.Stop.Joined
import Derived.Stop.LaidErr
import Derived.Deep.Strs
import Derived.Lay
import Derived.RowKit
/- How a law's arguments are opened: what the reading of a []byte, a []int or a struct gives the walk. No program in sight. -/
set_option linter.unusedSimpArgs false
set_option linter.unusedVariables false
set_option maxRecDepth 100000
set_option maxHeartbeats 8000000
namespace Go.Proofs.YtdpobjakdplljaaGreatDoor
open Go.ChangeShapes Go.WideShapes Go.ChangeAt Go.RowKit Go.Joins
def Is (lo:Nat) (w:World) (v:Value) (l:List Int):Prop:=Sl lo w v l.length (l.map (Value.int .i64))
theorem Is.mono {lo:Nat} {w w':World} {v:Value} {l:List Int} (h:Is lo w v l) (hb:Ext w w'):Is lo w' v l:=Sl.mono h hb
theorem Is.shape {lo:Nat} {w:World} {v:Value} {l:List Int} (h:Is lo w v l):∃ad cap,v=.slice ad l.length cap∧l.length≤cap:=Sl.shape h
section
variable {H:Type} {enc:TypeId × Value→H} {P:Program} {W:World} {fuel:Nat} {t e:TypeId} {v:Value} {x:DataW H × List MemPlace}
end
theorem Xjn {a:Int} (h:(Lit.int .i64 a).wf=true) : -9223372036854775808≤a∧a≤9223372036854775807:=by
 simp [Lit.wf,IntKind.min,IntKind.max,IntKind.signed,IntKind.bits] at h
 omega
theorem XjB {H:Type} {P:Program} {ts:List TypeId} {ds:List (DataW H)} (h:(DataW.weightsEach P ts ds).all (·≤reachBytes)=true) {j:Nat} {t:TypeId} {d:DataW H} (ht:ts[j]?=some t) (hd:ds[j]?=some d):∀n∈d.weights P t,n≤reachBytes:=fun n hn=>by
 have:=List.all_eq_true.1 h _ (DataW.weights_mem_each ht hd n hn)
 simpa using this
open Go.RowKit Go Go.ChangeShapes Go.Deep
abbrev LL:List (String × DataW Unit):=Rows.consoleParsesRow.laid
theorem XnY:Tryz.prog.globalNamed "errors.errorType"=some 1:=by kernel_rfl
theorem XnZ:(Tryz.prog.cutTypes.find? (·.1 == "internal/reflectlite.rtype")).map (·.2)=some 196:=by kernel_rfl
theorem XkN:Tryz.prog.types.size=297:=by kernel_rfl
theorem Xma:((List.range 297).filter fun t=>Tryz.prog.rowNamed t [101,114,114,111,114])=[81]:=by kernel_rfl
theorem Xf7 {w:World} {base:Nat} {sp:Nat→Bool} {held:Bool} {fuel:Nat} {t:TypeId} {ms:Array (String × TypeId)} {cs:List Value} {nm:String} {d:DataW Unit} {p:List MemPlace} (hi:Tryz.prog.underlying t=some (.interface ms))
  (h:DataW.trod (fun _=>()) Tryz.prog w base sp held fuel t cs=some (.iface nm d,p)):∃u v,cs=[.iface u v]:=by
 cases fuel with
 | zero=>simp [DataW.trod] at h
 | succ n=>
   unfold DataW.trod at h
   rw [hi] at h
   split at h<;>simp_all
theorem XdX {W:World} {n nm:String} {d:DataW Unit} {r:List (String × DataW Unit)} {g:Nat} {ti:TypeId} {ms:Array (String × TypeId)} (h:laidMet Tryz.prog ((n,.iface nm d) :: r) W)
  (hg:Tryz.prog.globalNamed n=some g) (ht:(Tryz.prog.globals[g]?).map (·.type)=some ti) (hi:Tryz.prog.underlying ti=some (.interface ms)):∃u v,W.cell? ⟨g,0,none⟩=some (.iface u v):=by
 obtain ⟨ps,⟨g0,t0,cs0,f0,p0,q0,hg0,ht0,hv0,hd0,-⟩,-⟩:=h
 obtain rfl:=Option.some.inj (hg.symm.trans hg0)
 obtain rfl:=Option.some.inj (ht.symm.trans ht0)
 obtain ⟨l0⟩:=cs0
 obtain ⟨u,v,hcs⟩:=Xf7 hi hd0
 simp only at hcs
 subst hcs
 exact ⟨u,v,by simpa using World.var?_cell hg0 hv0 0⟩
/-! ### The table of forms -/
theorem Xjk {w:World} {base:Nat} {sp:Nat→Bool} {held:Bool} {fuel:Nat} {c:List Value} {b:DataW Unit × List MemPlace} {wd fs:List UInt8} {k:Int} (h:DataW.trod (fun _=>()) Tryz.prog w base sp held fuel 76 c=some b)
  (hb:b.1=.agg [.lit (.string wd),.lit (.int .i64 k),.lit (.string fs)]):c=[.string (bs wd),.int .i64 k,.string (bs fs)]:=by
 obtain ⟨y0,y1,y2,n,rfl,hl,h0,h1,h2⟩:=trod_struct3 Tryz.underlying76 h
 obtain ⟨s0,e0,rfl,-⟩:=DataW.trod_string Tryz.underlying9 h0
 obtain ⟨n1,e1,rfl,-⟩:=DataW.trod_int Tryz.underlying3 h1
 obtain ⟨s2,e2,rfl,-⟩:=DataW.trod_string Tryz.underlying9 h2
 have hl3:c.length=3:=hl.trans (by kernel_rfl)
 simp only [DataW.agg.injEq,List.cons.injEq,DataW.lit.injEq,Lit.string.injEq,Lit.int.injEq,true_and,and_true] at hb
 obtain ⟨b0,b1,b2⟩:=hb
 have c9:Tryz.prog.cellsOf 9=1:=by kernel_rfl
 have c3:Tryz.prog.cellsOf 3=1:=by kernel_rfl
 match c,hl3 with
 | [x,y,z],_=>
   have e0':[x]=[Value.string s0]:=by rw [←e0];show _=([x,y,z].drop 0).take (Tryz.prog.cellsOf 9);rw [c9];rfl
   have e1':[y]=[Value.int .i64 n1]:=by rw [←e1];show _=([x,y,z].drop 1).take (Tryz.prog.cellsOf 3);rw [c3];rfl
   have e2':[z]=[Value.string s2]:=by rw [←e2];show _=([x,y,z].drop 2).take (Tryz.prog.cellsOf 9);rw [c9];rfl
   cases e0'
   cases e1'
   cases e2'
   subst b1
   have q:∀(s:ByteArray) (l:List UInt8),s.data.toList=l→s=bs l:=fun s l h=>by subst h;rfl
   rw [q _ _ b0,q _ _ b2]
theorem XmT {α:Type} (c:Nat) (f:Nat→List α):∀(n:Nat) (cs:List α),cs.length=n*c→(∀i,i < n→(cs.drop (i*c)).take c=f i)→cs=(List.range n).flatMap f
 | 0,cs,h,_=>by simpa using h
 | n+1,cs,h,hf=>by
   rw [Nat.succ_mul] at h
   have ih:=XmT c f n (cs.take (n*c)) (by rw [List.length_take];omega) fun i hi=>by
    rw [←hf i (by omega),List.drop_take,List.take_take]
    have:i*c+c≤n*c:=by rw [←Nat.succ_mul];exact Nat.mul_le_mul_right _ hi
    rw [Nat.min_eq_left (by omega)]
   have hl:=hf n (by omega)
   rw [List.take_of_length_le (by rw [List.length_drop];omega)] at hl
   rw [List.range_succ,List.flatMap_append,←ih,List.flatMap_cons,List.flatMap_nil,List.append_nil,←hl,List.take_append_drop]
def XlZ (i:Nat):List UInt8 × Int × List UInt8:=XkH.getD i ([],0,[])
theorem Xf4 {W:World} {r:List (String × DataW Unit)} (h:laidMet Tryz.prog (("jobmux/console.forms",Rows.laid_jobmux_console_forms) :: r) W):W.var? Tryz.prog "jobmux/console.forms"=some Xbm.toArray:=by
 obtain ⟨ps,⟨g0,t0,cs,fuel,p0,q0,hg0,ht0,hv0,hd0,-⟩,-⟩:=h
 obtain rfl:=Option.some.inj ((show Tryz.prog.globalNamed "jobmux/console.forms"=some 0 by kernel_rfl).symm.trans hg0)
 obtain rfl:=Option.some.inj ((show (Tryz.prog.globals[0]?).map (·.type)=some 129 by kernel_rfl).symm.trans ht0)
 rw [hv0]
 obtain ⟨l⟩:=cs
 simp only at hd0
 have hl:l=Xbm:=by
  cases fuel with
  | zero=>simp [DataW.trod] at hd0
  | succ n=>
    unfold DataW.trod at hd0
    rw [Tryz.underlying129] at hd0
    simp only at hd0
    split at hd0
    ·rename_i hlen
     obtain ⟨xs,hm,hx⟩:=Option.map_eq_some_iff.1 hd0
     have hxs:xs.map (·.1)=XkH.map fun f=>(.agg [.lit (.string f.1),.lit (.int .i64 f.2.1),.lit (.string f.2.2)]:DataW Unit):=by
      have:=congrArg Prod.fst hx
      exact DataW.agg.inj this
     have hce:Tryz.prog.cellsOf 76=3:=by kernel_rfl
     have hlen':l.length=14*3:=hlen.trans (by kernel_rfl)
     have hc:=XmT 3 (fun i=>[Value.string (bs (XlZ i).1),.int .i64 (XlZ i).2.1,.string (bs (XlZ i).2.2)]) 14 l hlen' fun i hi=>by
      obtain ⟨b,hb,hf⟩:=Lib.mapM_at hm i i (by rw [List.getElem?_range hi])
      rw [hce] at hf
      refine Xjk hf ?_
      have h1:=congrArg (fun z=>z[i]?) hxs
      simp only [List.getElem?_map,hb,Option.map_some] at h1
      have hi':i < XkH.length:=hi
      rw [List.getElem?_eq_getElem hi',Option.map_some] at h1
      have h2:=Option.some.inj h1
      rw [h2]
      simp only [XlZ,List.getD_eq_getElem?_getD,List.getElem?_eq_getElem hi',Option.getD_some]
     rw [hc]
     rfl
    ·cases hd0
 rw [hl]
theorem Xjm {W:World} (h:laidMetH Tryz.prog LL W) (hS:W.ShapedOpen Tryz.prog):Gw W:=by
 have hf:(LL.filter fun x=>x.2.handleName?.isSome)=[("errors.errorType",Rows.laid_errors_errorType)]:=by kernel_rfl
 have hn:(LL.filter fun x=>x.2.handleName?.isNone)=[("math/bits.deBruijn32tab",Rows.laid_math_bits_deBruijn32tab),("math/bits.deBruijn64tab",Rows.laid_math_bits_deBruijn64tab),("internal/strconv.uint64pow10",Rows.laid_internal_strconv_uint64pow10),("strconv.ErrRange",Rows.laid_strconv_ErrRange),("strconv.ErrSyntax",Rows.laid_strconv_ErrSyntax),("jobmux/console.forms",Rows.laid_jobmux_console_forms)]:=by kernel_rfl
 unfold laidMetH at h
 rw [hf] at h
 obtain ⟨h1,h2⟩:=(show laidMet Tryz.prog (LL.filter fun x=>x.2.handleName?.isNone) W∧handlesMet Tryz.prog [("errors.errorType",Rows.laid_errors_errorType)] W from h)
 rw [hn] at h1
 obtain ⟨name,u,ty,e1,e2,e3,e4,e5⟩:=h2 _ (List.mem_singleton.2 rfl)
 have en:name=[101,114,114,111,114]:=(Option.some.inj e1).symm
 subst en
 obtain rfl:=Option.some.inj (XnZ.symm.trans e2)
 have hm:ty∈(List.range 297).filter fun t=>Tryz.prog.rowNamed t [101,114,114,111,114]:=List.mem_filter.2 ⟨List.mem_range.2 (by rw [←XkN];exact e3),e4⟩
 rw [Xma] at hm
 obtain rfl:=List.mem_singleton.1 hm
 have hh:typeHandle Tryz.prog 81=.pointer (some ⟨10,81,none⟩):=by kernel_rfl
 rw [hh] at e5
 have t1:=h1.tail
 have t2:=t1.tail
 have t3:=t2.tail
 have t4:=t3.tail
 have t5:=t4.tail
 obtain ⟨t,v,hr⟩:=XdX (g:=5) (ti:=81) t3 (by kernel_rfl) (by kernel_rfl) Tryz.underlying81
 obtain ⟨t',v',hs⟩:=XdX (g:=4) (ti:=81) t4 (by kernel_rfl) (by kernel_rfl) Tryz.underlying81
 refine ⟨by simpa using World.var?_cell XnY e5 0,⟨_,_,hs⟩,⟨_,_,hr⟩,?_,Xf4 t5,?_⟩
 ·exact Lib.tabIs_of_head (g:=3) (t:=236) (e:=38) (n:=20) (by kernel_rfl) (by kernel_rfl) (by kernel_rfl) (by kernel_rfl) (by kernel_rfl) (by kernel_rfl) t2
 ·have h0:(((begin Tryz.prog (fun _ _=>0) default).world.heap[gN - 1]?).bind Obj.row?).isSome=true:=by kernel_rfl
  obtain ⟨⟨z,t⟩,hz⟩:=Option.isSome_iff_exists.1 h0
  obtain ⟨cs,hh,-⟩:=hS.1 (gN - 1) z t (of_decide_eq_true (by kernel_rfl)) hz
  have h1:=(Array.getElem?_eq_some_iff.1 hh).1
  have h2:1≤gN:=by decide
  omega
noncomputable def laidWorld (os:Os):World:=
 let w0:=World.holding Tryz.prog os ⟨#[],#[],[]⟩
 { w0 with heap:=w0.heap.modify 1 fun
   | .cells _ t frozen=>.cells #[.iface 196 (.agg #[.pointer (some ⟨10,81,none⟩)])] t frozen
   | o=>o }
noncomputable def laidWorldL (os:Os) (L:List (String × DataW Unit)):World:=(laidWorld os).layVars Tryz.prog (L.filter fun x=>x.2.handleName?.isNone)
theorem Xf9 (os:Os) (L:List (String × DataW Unit)):(laidWorldL os L).os=os:=(World.layVars_os _ _ _).trans rfl
theorem Xfx {os:Os} {L:List (String × DataW Unit)} (args:Array Value) (hf:(laidWorld os).layFits Tryz.prog (L.filter fun x=>x.2.handleName?.isNone) []=true) (hi:(laidWorld os).layIfaces Tryz.prog (L.filter fun x=>x.2.handleName?.isNone) (laidWorldL os L)=true)
  (hh:(L.filter fun x=>x.2.handleName?.isSome).all (handleAtB Tryz.prog (laidWorldL os L))=true):laidMetH Tryz.prog L ((laidWorldL os L).forCall (fun _ _=>0) ⟨#[],args,[]⟩).memory:=by
 have h:laidMetH Tryz.prog L (laidWorldL os L):=by
  refine laidMetH_of_parts ?_ hh
  generalize hL:(L.filter fun x=>x.2.handleName?.isNone)=L' at *
  have e1:(L'.filter fun x=>(L'.map (·.1)).contains x.1)=L':=List.filter_eq_self.2 fun x hx=>List.contains_iff_mem.2 (List.mem_map.2 ⟨x,hx,rfl⟩)
  have e2:(L'.filter fun x=>!(L'.map (·.1)).contains x.1)=[]:=List.filter_eq_nil_iff.2 fun x hx=>by rw [List.contains_iff_mem.2 (List.mem_map.2 ⟨x,hx,rfl⟩)];simp
  exact laidMet_layVars (w0:=laidWorld os) (L'.map (·.1)) [] (by rw [e1];unfold laidWorldL;rw [hL]) (by rw [e1];exact hf) (by rw [e1];exact hi) (by rw [e2];exact LaidIn.none)
 exact h.of_heap (by simp [World.memory,World.forCall,Input.heap])
section
variable {H:Type} {enc:TypeId × Value→H}
theorem Xfy {a:Assume} {C:Checked} {os:Os} {f:FuncId} {fn:Func} {s:ChangeSpec} {conds:List PathCond} {apart fresh handsOn again:Bool} {X:World→Array Value→Prop}
  (hX:∀(w w':World) (args:Array Value),w.heap=w'.heap→X w args→X w' args)
  (own:ownKnob C.prog.godebug=none) (started:os.Started) (noInit:C.prog.inits.idxOf? f=none) (hfn:C.prog.funcs[f]?=some fn)
  (witness:∃(w:World) (tape:Tape) (i:Input),w.os=os∧(w.forCall tape i).Shaped C.prog∧i.vars=[]∧Input.okWide C.prog (w.forCall tape i) .any w.heap.size f i ∧
   ((s.pre enc C.prog fn conds apart (w.forCall tape i).memory i.args∧X (w.forCall tape i).memory i.args)∧sizedMet enc C.prog fn (OpenSpec.ofChange s) apart (w.forCall tape i).memory i.args)∧a.holds C.prog (lone (Frame.enter C.prog f i.args .normal) [] (w.forCall tape i)))
  (contract:∀(W:World) (base:Nat) (args:Array Value) (ds gs:List (DataW H)) (before:List MemPlace),
   (∀(j:Nat) t v,fn.params[j]?=some t→args[j]?=some v→Value.okWide C.prog W .any base t v) →
   DataW.Whole enc C.prog fn.params.toList s.vars apart W args.toList ds gs before →
   conds.all (PathCond.test C.prog ⟨fn.params.toList,ds,s.plain.varTypes C.prog,gs⟩)=true →
   (DataW.weightsEach C.prog (fn.params.toList++s.plain.varTypes C.prog) (ds++gs)).all (·≤reachBytes)=true→X W args→W.ShapedOpen C.prog →
   Calls C.prog f args W fun e W'=>∃v,e=.returned v∧s.post enc C.prog fn apart fresh handsOn again W args v W') :
  ReturnsInHanded a C os f .any (fun w args=>(s.pre enc C.prog fn conds apart w args∧X w args)∧sizedMet enc C.prog fn (OpenSpec.ofChange s) apart w args) (s.post enc C.prog fn apart fresh handsOn again):=by
 refine returnsInHanded_of_calls own started noInit witness fun w tape i _ hsh _ hok hpre _=>?_
 obtain ⟨_,_,_,fn',hfn',_,_,_,_,hval⟩:=hok
 obtain rfl:fn'=fn:=Option.some.inj (hfn'.symm.trans hfn)
 obtain ⟨⟨⟨ds,gs,before,hw,hc⟩,hx⟩,hz⟩:=hpre
 refine (contract (w.forCall tape i) w.heap.size i.args ds gs before hval (DataW.Whole.of_heap (w':=w.forCall tape i) (by rfl) hw) hc (hz.weights hw) (hX _ _ _ (by rfl) hx) hsh).mono fun e W' ⟨v,he,hp⟩=>?_
 subst he
 exact ChangeSpec.post_blind hp
end
end Go.Proofs.YtdpobjakdplljaaGreatDoor

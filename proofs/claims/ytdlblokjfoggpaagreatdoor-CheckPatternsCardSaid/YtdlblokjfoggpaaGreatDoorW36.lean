import Derived.Test.YtdlblokjfoggpaaGreatDoorW7
import Derived.Test.YtdlblokjfoggpaaGreatDoorW10
import Derived.Test.YtdlblokjfoggpaaGreatDoorW35
import Derived.Test.YtdlblokjfoggpaaGreatDoorW26
import Derived.Test.YtdlblokjfoggpaaGreatDoorW8
import Derived.Test.YtdlblokjfoggpaaGreatDoorW25
import Derived.Test.YtdlblokjfoggpaaGreatDoorW12
import Derived.WalkKit
import Derived.LaidEql
import Derived.Stop.Asserts
import Derived.RowKitTokens
import Derived.Test.YtdlblokjfoggpaaGreatDoorW24
/- The program's lexer: scan. -/
set_option linter.unusedSimpArgs false
set_option linter.unusedVariables false
set_option maxRecDepth 100000
set_option maxHeartbeats 8000000
namespace Go.Proofs.YtdlblokjfoggpaaGreatDoor
open Go.RowKit
def Flt.cells (f:Flt):List AV:=[.x (.int .i64 (f.line:Nat)),.x (.int .i64 (f.col:Nat)),.x (.iface 187 (.int .i64 f.code))]
def Xu4 (x:Except Flt (List Tok)) (q:AV) (H':List Hp):Prop:=match x with
 | .ok ts=>q=.tup [.sq ts.length (ta ts),.x .nilIface]∧H'=[]
 | .error f=>∃b,q=.tup [.x (.slice none 0 0),.x (.iface 189 (.pointer (some ⟨b,0,none⟩)))]∧H'=[.box b f.cells]
theorem Xwl (t:List UInt8) (ht:t.length≤50000):Xay Tryz.prog 99 [] [.x (.string (bs t))] (Xu4 (Xct (1,1) 0 t)):=by
 refine XaV Tryz.func99 Tryz.ntmps99 ?_
 (repeat' (first|refine Wkx.go ?_|refine Xad ?_|(refine Xab rfl ?_;(refine Xd9 (fun b=>?_)))|fail))
 refine Xa3 154 4 ?_
 refine Xah (S:=Nat × List Tok × Option Addr × Nat) (fun s=>frm 85 [(0,.x (.string (bs t))),(4,.x (.pointer (some ⟨b,0,none⟩))),(5,.x (.slice s.2.2.1 s.2.1.length s.2.2.2))])
  (fun s=>[.box b [.x (.string (bs t)),.x (.int .i64 s.1),.x (.int .i64 ((plc (1,1) (t.take s.1)).1:Nat)),.x (.int .i64 ((plc (1,1) (t.take s.1)).2:Nat))],.row s.2.2.1 s.2.1.length s.2.2.2 154 4 (ta s.2.1)]) (fun s=>Xjl t s.1 s.2.1) (fun s=>t.length - s.1) (0,[],none,0) ?a (Xjl.start t) fun s hs=>?_
 case a=>exact (Xaj.mk' [] [.box b _,.row _ _ _ _ _ _] (List.Perm.swap ..) (Xak.refl _ _) (by (repeat' (first|exact VwL.nil|(refine VwL.cons ?_ ?_)|exact Vw.refl _|exact Vw.top _|fail))))
 obtain ⟨k,ts,ad,cap⟩:=s
 simp only at hs
 have hk:=hs.le
 have hnk:=Xv3 (l:=t) hk
 have hcn:=hs.cnt
 have hk2:k≤nxk t k:=by unfold nxk;omega
 have hpl:=Xlj (t.take (nxk t k)) (1,1)
 rw [List.length_take,Nat.min_eq_left hnk] at hpl
 have hs':=Lib.hid hs
 clear hs
 simp only [wfr]
 by_cases he:t.length≤nxk t k
 ·have hfin:=Lib.hid (hs'.out.fin he)
  have he2:nxk t k=t.length:=by omega
  (have wx:=And.intro @sc.eq_1 @scc.eq_1;(repeat' (first|refine Wkx.go ?_|(refine Xaz (fun h=>?_) (fun h=>?_)<;>first|(exfalso;omega;done)|skip)|refine Xad ?_|(refine Xab rfl ?_;((refine Xa7 Tryz.func116 [_] rfl rfl (.refl _) (XhU b t k (by assumption) (by omega)) ?_;rintro _ _ rfl);refine XaJ ?_))|fail)))<;>(try clear wx)
  refine XaE mixed [] [_] _ (Xyo _) ?_
  ((first|refine XbQ 0 ?_|fail);(first|refine XbQ 1 ?_|fail);(first|refine XbQ 2 ?_|fail);(first|refine XbQ 3 ?_|fail);(first|refine Xdr 4 ?_|fail);(first|refine XbQ 5 ?_|fail);(first|refine XbQ 6 ?_|fail);(first|refine XbQ 7 ?_|fail);(first|refine Xdr 8 ?_|fail))
  (repeat ((first|refine XcV 9 ?_|refine XcV 10 ?_|refine XcV 11 ?_|refine XcV 12 ?_|refine XcV 13 ?_|fail);(first|refine Xd5 ?_|refine XfK (fun ad cap=>?_)|refine Xfr (fun b=>?_)|fail)))
  refine XaG (by decide +kernel) ?_
  refine Xai rfl (by simp only [Xyz,Xyy];rfl) ?_
  refine Xao (by decide +kernel) ?_
  (repeat' (first|refine Wkx.go ?_|fail))
  rw [hfin.out]
  refine Xaa _ _ (XbR rfl (RV.tmp _) (RV.tmp _) (Xaj.mk' [_,_,_] [] (Xyo _) Xak.nil (VwL.cons (Vw.row (List.Mem.tail _ (List.Mem.tail _ (List.Mem.head _))) (VwL.refl _ _)) (VwL.refl _ _)))) ?_
  refine ⟨?_,rfl⟩
  simp only [XsC,XyA,Xyr,Xyu]
  rfl
 ·obtain ⟨c,r,hc1,hc2⟩:=hs'.out.cons (by omega)
  have ho:=XmR c r (by have:=congrArg List.length hc1;simp at this;omega)
  rw [←hc1] at ho
  have hkl:nxk t k < t.length:=by omega
  cases h1:one (t.drop (nxk t k)) with
  | error e=>
    have hb:=Lib.hid (hs'.out.bad hc2 (by rw [←hc1];exact h1))
    rw [h1] at ho
    simp only [Xm2] at ho
    clear hc1 hc2 h1
    (have wx:=And.intro @sc.eq_1 (And.intro @scc.eq_1 (@List.take_length.{0}));(repeat' (first|refine Wkx.go ?_|(refine Xaz (fun h=>?_) (fun h=>?_)<;>first|(exact absurd h (by decide))|(exfalso;omega;done)|skip)|refine XlL ?_|refine Xad ?_ (h:=by exact fun _=>Xbb rfl rfl Tryz.func117 (ho))|refine Xad ?_|(refine Xab rfl ?_;((refine Xa7 Tryz.func116 [_] rfl rfl (.refl _) (XhU b t k (by assumption) (by omega)) ?_;rintro _ _ rfl);refine XaJ ?_))|fail)))<;>(try clear wx)
    refine XaE mixed [] [_] _ (Xyo _) ?_
    ((first|refine XbQ 0 ?_|fail);(first|refine XbQ 1 ?_|fail);(first|refine XbQ 2 ?_|fail);(first|refine Xdr 3 ?_|fail);(first|refine XbQ 4 ?_|fail);(first|refine XbQ 5 ?_|fail);(first|refine XbQ 6 ?_|fail);(first|refine Xdr 7 ?_|fail);(first|refine XbQ 8 ?_|fail);(first|refine XbQ 12 ?_|fail))
    (repeat ((first|refine XcV 9 ?_|refine XcV 10 ?_|refine XcV 11 ?_|refine XcV 13 ?_|fail);(first|refine Xd5 ?_|refine Xd9 (fun b=>?_)|fail)))
    refine XaG (by decide +kernel) ?_
    refine Xai rfl (by simp only [Xyz,Xyy];rfl) ?_
    refine Xao (by decide +kernel) ?_
    (repeat' (first|refine Wkx.go ?_|fail))
    rw [hb.out]
    refine Xaa _ _ (XbR rfl (RV.tmp _) (RV.tmp _) (Xaj.mk' [_,_] [.box b _] (XyE _ (List.Perm.swap _ _ _)) (Xak.refl _ _) (VwL.refl _ _))) ⟨_,rfl,rfl⟩
  | ok x=>
    obtain ⟨a,tx,m⟩:=x
    have hpt:=Xun h1
    rw [h1] at ho
    simp only [Xm2] at ho
    obtain ⟨g1,g2,g3,g4⟩:=Xgy h1
    simp only [List.length_drop] at g1 g2 g3
    by_cases hf:2000≤ts.length
    ·have hb:=Lib.hid (hs'.out.full hc2 (by rw [←hc1];exact h1) hf)
     clear hc1 hc2 h1
     (have wx:=And.intro @sc.eq_1 (And.intro @scc.eq_1 (@List.take_length.{0}));(repeat' (first|refine Wkx.go ?_|(refine Xaz (fun h=>?_) (fun h=>?_)<;>first|(exact absurd h (by decide))|(exfalso;omega;done)|skip)|refine Xad ?_ (h:=by exact fun _=>Xbb rfl rfl Tryz.func117 (ho))|refine Xad ?_|(refine Xab rfl ?_;((refine Xa7 Tryz.func116 [_] rfl rfl (.refl _) (XhU b t k (by assumption) (by omega)) ?_;rintro _ _ rfl);refine XaJ ?_))|fail)))<;>(try clear wx)
     refine XaE mixed [] [_] _ (Xyo _) ?_
     ((first|refine XbQ 0 ?_|fail);(first|refine XbQ 1 ?_|fail);(first|refine XbQ 2 ?_|fail);(first|refine Xdr 3 ?_|fail);(first|refine XbQ 4 ?_|fail);(first|refine XbQ 5 ?_|fail);(first|refine XbQ 6 ?_|fail);(first|refine Xdr 7 ?_|fail);(first|refine XbQ 8 ?_|fail);(first|refine XbQ 12 ?_|fail))
     (repeat ((first|refine XcV 9 ?_|refine XcV 10 ?_|refine XcV 11 ?_|refine XcV 13 ?_|fail);(first|refine Xd5 ?_|refine Xd9 (fun b=>?_)|fail)))
     refine XaG (by decide +kernel) ?_
     refine Xai rfl (by simp only [Xyz,Xyy];rfl) ?_
     refine Xao (by decide +kernel) ?_
     (repeat' (first|refine Wkx.go ?_|fail))
     rw [hb.out]
     refine Xaa _ _ (XbR rfl (RV.tmp _) (RV.tmp _) (Xaj.mk' [_,_] [.box b _] (XyE _ (List.Perm.swap _ _ _)) (Xak.refl _ _) (VwL.refl _ _))) ⟨_,rfl,rfl⟩
    ·have hb:=Lib.hid (hs'.out.next hc2 (by rw [←hc1];exact h1) (by omega))
     clear hc1 hc2 h1
     (have wx:=And.intro @sc.eq_1 (And.intro @scc.eq_1 (@List.take_length.{0}));(repeat' (first|refine Wkx.go ?_|(refine Xaz (fun h=>?_) (fun h=>?_)<;>first|(exact absurd h (by decide))|(exfalso;omega;done)|skip)|refine Xad ?_ (h:=by exact fun _=>Xbb rfl rfl Tryz.func117 (ho))|refine Xad ?_|(refine Xab rfl ?_;((refine Xa7 Tryz.func116 [_] rfl rfl (.refl _) (XhU b t k (by assumption) (by omega)) ?_;rintro _ _ rfl);refine XaJ ?_))|fail)))<;>(try clear wx)
     refine XaE mixed [] [_] _ (Xyo _) ?_
     ((first|refine XbQ 0 ?_|fail);(first|refine XbQ 1 ?_|fail);(first|refine XbQ 2 ?_|fail);(first|refine XbQ 3 ?_|fail);(first|refine XbQ 4 ?_|fail);(first|refine XbQ 5 ?_|fail);(first|refine Xdr 6 ?_|fail);(first|refine XbQ 7 ?_|fail);(first|refine XbQ 8 ?_|fail);(first|refine XbQ 9 ?_|fail);(first|refine Xdr 10 ?_|fail))
     (repeat ((first|refine XcV 11 ?_|refine XcV 12 ?_|refine XcV 13 ?_|refine XcV 14 ?_|fail);(first|refine Xd5 ?_|refine XfK (fun ad cap=>?_)|refine Xfr (fun b=>?_)|fail)))
     refine XaG (by decide +kernel) ?_
     refine Xai rfl (by simp only [Xyz,Xyy];rfl) ?_
     refine Xao (by decide +kernel) ?_
     (have wx:=@scc.eq_1;(repeat' (first|refine Wkx.go ?_|refine Xad ?_|(refine Xab rfl ?_;((refine Xa7 Tryz.func118 [_] rfl rfl (.refl _) (XdE _ t _ _ _ m (by omega) (by omega) (by omega)) ?_;rintro _ _ rfl);refine XaJ ?_))|fail)))<;>(try clear wx)
     refine ⟨(nxk t k+m,_,ad,cap),by simp only;omega,hb.out,?_⟩
     simp only [hpt,XsC,XyA,Xyr,Xyu,Int.natCast_add]
     exact (Xaj.mk' [_] [_,_] (List.Perm.swap _ _ _) (Xak.refl _ _) (by (repeat' (first|exact VwL.nil|(refine VwL.cons ?_ ?_)|exact Vw.refl _|exact Vw.top _|fail))))
open Go.RowKit Go.Extern.Stop Go.Stop Go.Extern
theorem XwR (z:Sem Value) (f:TypeId→Addr→Nat→Nat→Sem Value) (v:Value) :
  ReflectliteValue.method z f #[v]=(do match ←ReflectliteValue.parts v with|none=>z|some (t,a,fl)=>f t a fl (fl % 32)):=rfl
theorem XrK (v x:Value):ReflectliteValue.set #[v,x]=(do
  let (some (dst,a,fl),some (src,b,_)):=(←ReflectliteValue.parts v,←ReflectliteValue.parts x)
   | unsupported (.noEntry "extern/(internal/reflectlite.Value).Set.zeroValue")
  if fl / ReflectliteValue.flagAddr % 2 == 0 then unsupported (.noEntry "extern/(internal/reflectlite.Value).Set.unaddressable")
  let val ←loadVar src b
  if ←Rtype.directlyAssignable dst src then storeVar dst a val
  else if ←Rtype.implements dst src then
   if (←Rtype.kind src) == 20 then
    match val with
    | .nilIface=>unsupported (.noEntry "extern/reflectlite: a nil value of one interface type handed on as a value of another")
    | _=>storeVar dst a val
   else storeVar dst a (.iface src val)
  else panicString ("reflectlite.Set: value of type "++(←Rtype.spelt src)++ " is not assignable to type "++(←Rtype.spelt dst))
  pure (.tuple #[])):=rfl
theorem XeH (h:Value) (w:World):(Go.method 432 167 (.agg #[h]) "Kind").run Tryz.prog w=.ok (232,h) w:=by kernel_rfl
theorem XeF (h:Value) (w:World):(Go.method 432 167 (.agg #[h]) "Elem").run Tryz.prog w=.ok (243,.agg #[h]) w:=by kernel_rfl
theorem XeG (h:Value) (w:World):(Go.method 432 167 (.agg #[h]) "Implements").run Tryz.prog w=.ok (244,.agg #[h]) w:=by kernel_rfl
theorem XdF (h:Value) (w:World):(Go.method 432 167 (.agg #[h]) "AssignableTo").run Tryz.prog w=.ok (241,.agg #[h]) w:=by kernel_rfl
theorem Xf6 (v:Value) (w:World):(Go.method 432 189 v "Unwrap").run Tryz.prog w=.ok (253,v) w:=by kernel_rfl
theorem Xs6 (v:Value) (xT:TypeId) (w:World):(Instr.typeAssert (.iface 189 v) xT 171 true).run Tryz.prog w=.ok (.tuple #[.nilIface,.bool false]) w:=run_typeAssert_lacksB Tryz.underlying171 (by kernel_rfl) (by kernel_rfl) v xT w
theorem Xiw (v:Value) (xT:TypeId) (w:World):(Instr.typeAssert (.iface 189 v) xT 174 true).run Tryz.prog w=.ok (.tuple #[.iface 189 v,.bool true]) w:=run_typeAssert_hasB Tryz.underlying174 (by kernel_rfl) v xT w
/-! the target *codeError -/
theorem Xiy (t:Addr) (w:World):(ReflectliteValue.unpack (.iface 188 (.pointer (some t)))).run Tryz.prog w
  = .ok (.agg #[.pointer (some ⟨14,188,none⟩),.pointer (some ⟨w.heap.size,0,none⟩),.int .u64 150]) (w.alloc (.cells #[.pointer (some t)] 188)):=by kernel_rfl
theorem Xno (a:Addr) (w:World):(ReflectliteValue.methodAny (ReflectliteValue.valueError "reflectlite.Value.Type" 0) (fun t _ _ _=>ReflectliteType.toType t) #[.agg #[.pointer (some ⟨14,188,none⟩),.pointer (some a),.int .u64 150]]).run Tryz.prog w
  = .ok (.iface 167 (.agg #[.pointer (some ⟨14,188,none⟩)])) w:=by kernel_rfl
theorem Xnl (w:World):((ReflectliteType.abiMethod fun t=>(fun a:Nat=>Value.int IntKind.u8 (a:Int)) <$> Rtype.kind t) #[.pointer (some ⟨14,188,none⟩)]).run Tryz.prog w=.ok (.int .u8 22) w:=by kernel_rfl
theorem Xnk (w:World):((ReflectliteType.abiMethod fun t=>(fun a:Nat=>Value.int IntKind.u8 (a:Int)) <$> Rtype.kind t) #[.pointer (some ⟨14,187,none⟩)]).run Tryz.prog w=.ok (.int .u8 2) w:=by kernel_rfl
theorem Xg5 (a:Addr) (w:World):(ReflectliteValue.parts (.agg #[.pointer (some ⟨14,188,none⟩),.pointer (some a),.int .u64 150])).run Tryz.prog w=.ok (some (188,a,150)) w:=by kernel_rfl
theorem XlZ (a p:Addr) (W:World) (ha:W.cell? a=some (.pointer (some p))) :
  (ReflectliteValue.method (ReflectliteValue.valueError "reflectlite.Value.IsNil" 0) ReflectliteValue.isNil #[.agg #[.pointer (some ⟨14,188,none⟩),.pointer (some a),.int .u64 150]]).run Tryz.prog W=.ok (.bool false) W:=by
 rw [XwR]
 simp only [Sem.run_bind,Xg5,Result.andThen]
 simp [ReflectliteValue.isNil,loadVar,isAgg,underlying,Tryz.underlying188,ha,Result.andThen]
theorem Xng (w:World):(ReflectliteType.method ReflectliteType.elem #[.agg #[.pointer (some ⟨14,188,none⟩)]]).run Tryz.prog w=.ok (.iface 167 (.agg #[.pointer (some ⟨14,187,none⟩)])) w:=by kernel_rfl
theorem Xni (w:World):(ReflectliteType.relation "Implements" ReflectliteType.implements_ #[.agg #[.pointer (some ⟨14,187,none⟩)],.iface 167 (.agg #[.pointer (some ⟨14,55,none⟩)])]).run Tryz.prog w=.ok (.bool true) w:=by kernel_rfl
theorem XjE (v:Value) (w:World):(ReflectliteType.typeOf #[.iface 187 v]).run Tryz.prog w=.ok (.iface 167 (.agg #[.pointer (some ⟨14,187,none⟩)])) w:=by kernel_rfl
theorem Xf7 (v:Value) (w:World):(ReflectliteType.typeOf #[.iface 189 v]).run Tryz.prog w=.ok (.iface 167 (.agg #[.pointer (some ⟨14,189,none⟩)])) w:=by kernel_rfl
theorem Xjv (w:World):(ReflectliteType.relation "AssignableTo" ReflectliteType.assignableTo #[.agg #[.pointer (some ⟨14,187,none⟩)],.iface 167 (.agg #[.pointer (some ⟨14,187,none⟩)])]).run Tryz.prog w=.ok (.bool true) w:=by kernel_rfl
theorem Xjw (w:World):(ReflectliteType.relation "AssignableTo" ReflectliteType.assignableTo #[.agg #[.pointer (some ⟨14,189,none⟩)],.iface 167 (.agg #[.pointer (some ⟨14,187,none⟩)])]).run Tryz.prog w=.ok (.bool false) w:=by kernel_rfl
theorem Xix (c:Int) (w:World):(ReflectliteValue.unpack (.iface 187 (.int .i64 c))).run Tryz.prog w
  = .ok (.agg #[.pointer (some ⟨14,187,none⟩),.pointer (some ⟨w.heap.size,0,none⟩),.int .u64 130]) (w.alloc (.cells #[.int .i64 c] 187)):=by kernel_rfl
theorem XjA (w:World):(Rtype.elem? 188).run Tryz.prog w=.ok (some 187) w:=by kernel_rfl
theorem Xs4 (p:Addr) (w:World):(ReflectliteValue.mk 187 p ReflectliteValue.flagAddr).run Tryz.prog w=.ok (.agg #[.pointer (some ⟨14,187,none⟩),.pointer (some p),.int .u64 386]) w:=by kernel_rfl
theorem XlX (a p:Addr) (W:World) (ha:W.cell? a=some (.pointer (some p))) :
  (ReflectliteValue.method (ReflectliteValue.valueError "reflectlite.Value.Elem" 0) ReflectliteValue.elem #[.agg #[.pointer (some ⟨14,188,none⟩),.pointer (some a),.int .u64 150]]).run Tryz.prog W
   = .ok (.agg #[.pointer (some ⟨14,187,none⟩),.pointer (some p),.int .u64 386]) W:=by
 rw [XwR]
 simp only [Sem.run_bind,Xg5,Result.andThen]
 simp [ReflectliteValue.elem,loadVar,isAgg,underlying,Tryz.underlying188,ha,Result.andThen,XjA,Xs4]
theorem XjC (a:Addr) (w:World):(ReflectliteValue.parts (.agg #[.pointer (some ⟨14,187,none⟩),.pointer (some a),.int .u64 386])).run Tryz.prog w=.ok (some (187,a,386)) w:=by kernel_rfl
theorem Xl1 (a:Addr) (w:World):(ReflectliteValue.parts (.agg #[.pointer (some ⟨14,187,none⟩),.pointer (some a),.int .u64 130])).run Tryz.prog w=.ok (some (187,a,130)) w:=by kernel_rfl
theorem Xjy (w:World):(Rtype.directlyAssignable 187 187).run Tryz.prog w=.ok true w:=by kernel_rfl
theorem Xp2 (ta b:Addr) (c:Int) (old:Value) (W:World) (hb:W.cell? b=some (.int .i64 c)) (ht:W.cell? ta=some old) (hf:W.frozen? ta=false) :
  (ReflectliteValue.set #[.agg #[.pointer (some ⟨14,187,none⟩),.pointer (some ta),.int .u64 386],.agg #[.pointer (some ⟨14,187,none⟩),.pointer (some b),.int .u64 130]]).run Tryz.prog W
   = .ok (.tuple #[]) (W.setCell ta (.int .i64 c)):=by
 rw [XrK]
 simp only [Sem.run_bind,XjC,Xl1,Result.andThen]
 simp [ReflectliteValue.flagAddr,loadVar,isAgg,underlying,Tryz.underlying187,hb,Result.andThen,Xjy,storeVar,Value.cells,storeCells,Addr.add]
 rw [run_store Tryz.prog W ta _ _ (by rfl)]
 simp [ht,hf]
/-! the target **placeError -/
theorem XiA (t:Addr) (w:World):(ReflectliteValue.unpack (.iface 190 (.pointer (some t)))).run Tryz.prog w
  = .ok (.agg #[.pointer (some ⟨14,190,none⟩),.pointer (some ⟨w.heap.size,0,none⟩),.int .u64 150]) (w.alloc (.cells #[.pointer (some t)] 190)):=by kernel_rfl
theorem Xnp (a:Addr) (w:World):(ReflectliteValue.methodAny (ReflectliteValue.valueError "reflectlite.Value.Type" 0) (fun t _ _ _=>ReflectliteType.toType t) #[.agg #[.pointer (some ⟨14,190,none⟩),.pointer (some a),.int .u64 150]]).run Tryz.prog w
  = .ok (.iface 167 (.agg #[.pointer (some ⟨14,190,none⟩)])) w:=by kernel_rfl
theorem Xnn (w:World):((ReflectliteType.abiMethod fun t=>(fun a:Nat=>Value.int IntKind.u8 (a:Int)) <$> Rtype.kind t) #[.pointer (some ⟨14,190,none⟩)]).run Tryz.prog w=.ok (.int .u8 22) w:=by kernel_rfl
theorem Xnm (w:World):((ReflectliteType.abiMethod fun t=>(fun a:Nat=>Value.int IntKind.u8 (a:Int)) <$> Rtype.kind t) #[.pointer (some ⟨14,189,none⟩)]).run Tryz.prog w=.ok (.int .u8 22) w:=by kernel_rfl
theorem Xg6 (a:Addr) (w:World):(ReflectliteValue.parts (.agg #[.pointer (some ⟨14,190,none⟩),.pointer (some a),.int .u64 150])).run Tryz.prog w=.ok (some (190,a,150)) w:=by kernel_rfl
theorem Xl0 (a p:Addr) (W:World) (ha:W.cell? a=some (.pointer (some p))) :
  (ReflectliteValue.method (ReflectliteValue.valueError "reflectlite.Value.IsNil" 0) ReflectliteValue.isNil #[.agg #[.pointer (some ⟨14,190,none⟩),.pointer (some a),.int .u64 150]]).run Tryz.prog W=.ok (.bool false) W:=by
 rw [XwR]
 simp only [Sem.run_bind,Xg6,Result.andThen]
 simp [ReflectliteValue.isNil,loadVar,isAgg,underlying,Tryz.underlying190,ha,Result.andThen]
theorem Xnh (w:World):(ReflectliteType.method ReflectliteType.elem #[.agg #[.pointer (some ⟨14,190,none⟩)]]).run Tryz.prog w=.ok (.iface 167 (.agg #[.pointer (some ⟨14,189,none⟩)])) w:=by kernel_rfl
theorem Xnj (w:World):(ReflectliteType.relation "Implements" ReflectliteType.implements_ #[.agg #[.pointer (some ⟨14,189,none⟩)],.iface 167 (.agg #[.pointer (some ⟨14,55,none⟩)])]).run Tryz.prog w=.ok (.bool true) w:=by kernel_rfl
theorem Xjx (w:World):(ReflectliteType.relation "AssignableTo" ReflectliteType.assignableTo #[.agg #[.pointer (some ⟨14,189,none⟩)],.iface 167 (.agg #[.pointer (some ⟨14,189,none⟩)])]).run Tryz.prog w=.ok (.bool true) w:=by kernel_rfl
theorem Xiz (e:Addr) (w:World):(ReflectliteValue.unpack (.iface 189 (.pointer (some e)))).run Tryz.prog w
  = .ok (.agg #[.pointer (some ⟨14,189,none⟩),.pointer (some ⟨w.heap.size,0,none⟩),.int .u64 150]) (w.alloc (.cells #[.pointer (some e)] 189)):=by kernel_rfl
theorem XjB (w:World):(Rtype.elem? 190).run Tryz.prog w=.ok (some 189) w:=by kernel_rfl
theorem Xs5 (p:Addr) (w:World):(ReflectliteValue.mk 189 p ReflectliteValue.flagAddr).run Tryz.prog w=.ok (.agg #[.pointer (some ⟨14,189,none⟩),.pointer (some p),.int .u64 406]) w:=by kernel_rfl
theorem XlY (a p:Addr) (W:World) (ha:W.cell? a=some (.pointer (some p))) :
  (ReflectliteValue.method (ReflectliteValue.valueError "reflectlite.Value.Elem" 0) ReflectliteValue.elem #[.agg #[.pointer (some ⟨14,190,none⟩),.pointer (some a),.int .u64 150]]).run Tryz.prog W
   = .ok (.agg #[.pointer (some ⟨14,189,none⟩),.pointer (some p),.int .u64 406]) W:=by
 rw [XwR]
 simp only [Sem.run_bind,Xg6,Result.andThen]
 simp [ReflectliteValue.elem,loadVar,isAgg,underlying,Tryz.underlying190,ha,Result.andThen,XjB,Xs5]
theorem XjD (a:Addr) (w:World):(ReflectliteValue.parts (.agg #[.pointer (some ⟨14,189,none⟩),.pointer (some a),.int .u64 406])).run Tryz.prog w=.ok (some (189,a,406)) w:=by kernel_rfl
theorem Xl2 (a:Addr) (w:World):(ReflectliteValue.parts (.agg #[.pointer (some ⟨14,189,none⟩),.pointer (some a),.int .u64 150])).run Tryz.prog w=.ok (some (189,a,150)) w:=by kernel_rfl
theorem Xjz (w:World):(Rtype.directlyAssignable 189 189).run Tryz.prog w=.ok true w:=by kernel_rfl
theorem Xp3 (ta b e:Addr) (old:Value) (W:World) (hb:W.cell? b=some (.pointer (some e))) (ht:W.cell? ta=some old) (hf:W.frozen? ta=false) :
  (ReflectliteValue.set #[.agg #[.pointer (some ⟨14,189,none⟩),.pointer (some ta),.int .u64 406],.agg #[.pointer (some ⟨14,189,none⟩),.pointer (some b),.int .u64 150]]).run Tryz.prog W
   = .ok (.tuple #[]) (W.setCell ta (.pointer (some e))):=by
 rw [XrK]
 simp only [Sem.run_bind,XjD,Xl2,Result.andThen]
 simp [ReflectliteValue.flagAddr,loadVar,isAgg,underlying,Tryz.underlying189,hb,Result.andThen,Xjz,storeVar,Value.cells,storeCells,Addr.add]
 rw [run_store Tryz.prog W ta _ _ (by rfl)]
 simp [ht,hf]
open Go.RowKit Go.Extern.Stop Go.Stop Go.Extern
theorem Xp1 (e t:Addr) (old:Value) (w:World) (hg:Gw w) (ht0:w.cell? t=some old) (hf0:w.frozen? t=false) :
  Calls Tryz.prog 18 #[.iface 189 (.pointer (some e)),.iface 190 (.pointer (some t))] w fun ev w'=>ev=.returned (.bool true)∧w'=((((w.alloc (.cells #[.pointer (some t)] 190)).alloc (.cells #[.pointer (some ⟨14,190,none⟩),.pointer (some ⟨w.heap.size,0,none⟩),.int .u64 150] 116)).alloc (.cells #[.pointer (some ⟨14,190,none⟩),.pointer (some ⟨w.heap.size,0,none⟩),.int .u64 150] 116)).alloc (.cells #[.pointer (some e)] 189)).setCell t (.pointer (some e)):=by
 replace hg:=hg.errs
 have h6:=@run_callFunc_extern Tryz.prog 45 _ (fun args=>ReflectliteValue.unpack (args.getD 0 (.tuple #[]))) Tryz.func45 (by kernel_rfl) (by kernel_rfl) (by kernel_rfl) (by kernel_rfl);have h7:=@run_callFunc_extern Tryz.prog 46 _ (ReflectliteValue.methodAny (ReflectliteValue.valueError "reflectlite.Value.Type" 0) (fun t _ _ _=>ReflectliteType.toType t)) Tryz.func46 (by kernel_rfl) (by kernel_rfl) (by kernel_rfl) (by kernel_rfl);have h8:=@run_callFunc_extern Tryz.prog 47 _ (ReflectliteValue.method (ReflectliteValue.valueError "reflectlite.Value.IsNil" 0) ReflectliteValue.isNil) Tryz.func47 (by kernel_rfl) (by kernel_rfl) (by kernel_rfl) (by kernel_rfl);have h27:=@run_callFunc_extern Tryz.prog 232 _ (ReflectliteType.abiMethod fun t=>do pure (.int .u8 (←Rtype.kind t))) Tryz.func232 (by kernel_rfl) (by kernel_rfl) (by kernel_rfl) (by kernel_rfl);have h37:=@run_callFunc_extern Tryz.prog 243 _ (ReflectliteType.method ReflectliteType.elem) Tryz.func243 (by kernel_rfl) (by kernel_rfl) (by kernel_rfl) (by kernel_rfl);have h38:=@run_callFunc_extern Tryz.prog 244 _ (ReflectliteType.relation "Implements" ReflectliteType.implements_) Tryz.func244 (by kernel_rfl) (by kernel_rfl) (by kernel_rfl) (by kernel_rfl);have h10:=@run_callFunc_extern Tryz.prog 86 _ ReflectliteType.typeOf Tryz.func86 (by kernel_rfl) (by kernel_rfl) (by kernel_rfl) (by kernel_rfl);have h35:=@run_callFunc_extern Tryz.prog 241 _ (ReflectliteType.relation "AssignableTo" ReflectliteType.assignableTo) Tryz.func241 (by kernel_rfl) (by kernel_rfl) (by kernel_rfl) (by kernel_rfl);have h11:=@run_callFunc_extern Tryz.prog 88 _ (ReflectliteValue.method (ReflectliteValue.valueError "reflectlite.Value.Elem" 0) ReflectliteValue.elem) Tryz.func88 (by kernel_rfl) (by kernel_rfl) (by kernel_rfl) (by kernel_rfl);have h12:=@run_callFunc_extern Tryz.prog 89 _ ReflectliteValue.set Tryz.func89 (by kernel_rfl) (by kernel_rfl) (by kernel_rfl) (by kernel_rfl)
 have tO:=Xf7
 have mA:=XdF
 have a25:=Xjx
 have v25:=Xiz
 have f6:=XiA
 have f7:=Xnp
 have mK:=XeH
 have mE:=XeF
 have mI:=XeG
 have k27:=Xnn
 have k25:=Xnm
 have e27:=Xnh
 have i25:=Xnj
 have n8:=Xl0 ⟨w.heap.size,0,none⟩ t ((w.alloc (.cells #[.pointer (some t)] 190)).alloc (.cells #[.pointer (some ⟨14,190,none⟩),.pointer (some ⟨w.heap.size,0,none⟩),.int .u64 150] 116)) (by simp)
 have hlt:7 < w.heap.size:=World.block_lt_of_cell? w _ hg
 have hg2:((w.alloc (.cells #[.pointer (some t)] 190)).alloc (.cells #[.pointer (some ⟨14,190,none⟩),.pointer (some ⟨w.heap.size,0,none⟩),.int .u64 150] 116)).cell? ⟨7,0,none⟩=some (.iface 167 (.agg #[.pointer (some ⟨14,55,none⟩)])):=by
  rw [World.cell?_alloc_lt _ _ ⟨7,0,none⟩ (by simp<;>omega),World.cell?_alloc_lt _ _ ⟨7,0,none⟩ hlt];exact hg
 have htl:t.block < w.heap.size:=World.block_lt_of_cell? w _ ht0
 have el:=XlY ⟨w.heap.size,0,none⟩ t (((w.alloc (.cells #[.pointer (some t)] 190)).alloc (.cells #[.pointer (some ⟨14,190,none⟩),.pointer (some ⟨w.heap.size,0,none⟩),.int .u64 150] 116)).alloc (.cells #[.pointer (some ⟨14,190,none⟩),.pointer (some ⟨w.heap.size,0,none⟩),.int .u64 150] 116)) (by rw [World.cell?_alloc_lt _ _ ⟨w.heap.size,0,none⟩ (by simp;omega)];simp)
 have st:=Xp3 t ⟨w.heap.size+1+1+1,0,none⟩ e old ((((w.alloc (.cells #[.pointer (some t)] 190)).alloc (.cells #[.pointer (some ⟨14,190,none⟩),.pointer (some ⟨w.heap.size,0,none⟩),.int .u64 150] 116)).alloc (.cells #[.pointer (some ⟨14,190,none⟩),.pointer (some ⟨w.heap.size,0,none⟩),.int .u64 150] 116)).alloc (.cells #[.pointer (some e)] 189))
  (by rw [World.cell?_alloc_at _ _ _ _ (by simp)];rfl)
  (by rw [World.cell?_alloc_lt _ _ t (by simp;omega),World.cell?_alloc_lt _ _ t (by simp;omega),World.cell?_alloc_lt _ _ t (by simp;omega),World.cell?_alloc_lt _ _ t htl];exact ht0)
  (by rw [World.frozen?_alloc_old _ _ t (by simp;omega),World.frozen?_alloc_old _ _ t (by simp;omega),World.frozen?_alloc_old _ _ t (by simp;omega),World.frozen?_alloc_old _ _ t (Nat.ne_of_lt htl)];exact hf0)
 go_enter Tryz.func18,Tryz.ntmps18
 go_wp2
 refine wp_loop_rounds 1 ?_
 rw [rounds_succ]
 go_wp2
 go_ret
 exact ⟨rfl,rfl⟩
theorem Xs3 (b:Nat) (c:Int) (t:Addr) (old:Value) (w:World) (hg:Gw w) (hb0:w.cell? ⟨b,2,none⟩=some (.iface 187 (.int .i64 c))) (ht0:w.cell? t=some old) (hf0:w.frozen? t=false) :
  Calls Tryz.prog 18 #[.iface 189 (.pointer (some ⟨b,0,none⟩)),.iface 188 (.pointer (some t))] w fun ev w'=>ev=.returned (.bool true)∧w'=((((w.alloc (.cells #[.pointer (some t)] 188)).alloc (.cells #[.pointer (some ⟨14,188,none⟩),.pointer (some ⟨w.heap.size,0,none⟩),.int .u64 150] 116)).alloc (.cells #[.pointer (some ⟨14,188,none⟩),.pointer (some ⟨w.heap.size,0,none⟩),.int .u64 150] 116)).alloc (.cells #[.int .i64 c] 187)).setCell t (.int .i64 c):=by
 replace hg:=hg.errs
 have h6:=@run_callFunc_extern Tryz.prog 45 _ (fun args=>ReflectliteValue.unpack (args.getD 0 (.tuple #[]))) Tryz.func45 (by kernel_rfl) (by kernel_rfl) (by kernel_rfl) (by kernel_rfl);have h7:=@run_callFunc_extern Tryz.prog 46 _ (ReflectliteValue.methodAny (ReflectliteValue.valueError "reflectlite.Value.Type" 0) (fun t _ _ _=>ReflectliteType.toType t)) Tryz.func46 (by kernel_rfl) (by kernel_rfl) (by kernel_rfl) (by kernel_rfl);have h8:=@run_callFunc_extern Tryz.prog 47 _ (ReflectliteValue.method (ReflectliteValue.valueError "reflectlite.Value.IsNil" 0) ReflectliteValue.isNil) Tryz.func47 (by kernel_rfl) (by kernel_rfl) (by kernel_rfl) (by kernel_rfl);have h27:=@run_callFunc_extern Tryz.prog 232 _ (ReflectliteType.abiMethod fun t=>do pure (.int .u8 (←Rtype.kind t))) Tryz.func232 (by kernel_rfl) (by kernel_rfl) (by kernel_rfl) (by kernel_rfl);have h37:=@run_callFunc_extern Tryz.prog 243 _ (ReflectliteType.method ReflectliteType.elem) Tryz.func243 (by kernel_rfl) (by kernel_rfl) (by kernel_rfl) (by kernel_rfl);have h38:=@run_callFunc_extern Tryz.prog 244 _ (ReflectliteType.relation "Implements" ReflectliteType.implements_) Tryz.func244 (by kernel_rfl) (by kernel_rfl) (by kernel_rfl) (by kernel_rfl);have h10:=@run_callFunc_extern Tryz.prog 86 _ ReflectliteType.typeOf Tryz.func86 (by kernel_rfl) (by kernel_rfl) (by kernel_rfl) (by kernel_rfl);have h35:=@run_callFunc_extern Tryz.prog 241 _ (ReflectliteType.relation "AssignableTo" ReflectliteType.assignableTo) Tryz.func241 (by kernel_rfl) (by kernel_rfl) (by kernel_rfl) (by kernel_rfl);have h11:=@run_callFunc_extern Tryz.prog 88 _ (ReflectliteValue.method (ReflectliteValue.valueError "reflectlite.Value.Elem" 0) ReflectliteValue.elem) Tryz.func88 (by kernel_rfl) (by kernel_rfl) (by kernel_rfl) (by kernel_rfl);have h12:=@run_callFunc_extern Tryz.prog 89 _ ReflectliteValue.set Tryz.func89 (by kernel_rfl) (by kernel_rfl) (by kernel_rfl) (by kernel_rfl)
 have tO:=Xf7
 have tO2:=XjE
 have mA:=XdF
 have mU:=Xf6
 have nA:=Xs6
 have hU:=Xiw
 have a24:=Xjw
 have a25:=Xjv
 have v25:=Xix
 have f6:=Xiy
 have f7:=Xno
 have mK:=XeH
 have mE:=XeF
 have mI:=XeG
 have k27:=Xnl
 have k25:=Xnk
 have e27:=Xng
 have i25:=Xni
 have n8:=XlZ ⟨w.heap.size,0,none⟩ t ((w.alloc (.cells #[.pointer (some t)] 188)).alloc (.cells #[.pointer (some ⟨14,188,none⟩),.pointer (some ⟨w.heap.size,0,none⟩),.int .u64 150] 116)) (by simp)
 have hlt:7 < w.heap.size:=World.block_lt_of_cell? w _ hg
 have hg2:((w.alloc (.cells #[.pointer (some t)] 188)).alloc (.cells #[.pointer (some ⟨14,188,none⟩),.pointer (some ⟨w.heap.size,0,none⟩),.int .u64 150] 116)).cell? ⟨7,0,none⟩=some (.iface 167 (.agg #[.pointer (some ⟨14,55,none⟩)])):=by
  rw [World.cell?_alloc_lt _ _ ⟨7,0,none⟩ (by simp<;>omega),World.cell?_alloc_lt _ _ ⟨7,0,none⟩ hlt];exact hg
 have htl:t.block < w.heap.size:=World.block_lt_of_cell? w _ ht0
 have hbl:b < w.heap.size:=World.block_lt_of_cell? w _ hb0
 have hb2:(((w.alloc (.cells #[.pointer (some t)] 188)).alloc (.cells #[.pointer (some ⟨14,188,none⟩),.pointer (some ⟨w.heap.size,0,none⟩),.int .u64 150] 116)).alloc (.cells #[.pointer (some ⟨14,188,none⟩),.pointer (some ⟨w.heap.size,0,none⟩),.int .u64 150] 116)).cell? ⟨b,2,none⟩=some (.iface 187 (.int .i64 c)):=by
  rw [World.cell?_alloc_lt _ _ ⟨b,2,none⟩ (by simp;omega),World.cell?_alloc_lt _ _ ⟨b,2,none⟩ (by simp;omega),World.cell?_alloc_lt _ _ ⟨b,2,none⟩ hbl];exact hb0
 have el:=XlX ⟨w.heap.size,0,none⟩ t (((w.alloc (.cells #[.pointer (some t)] 188)).alloc (.cells #[.pointer (some ⟨14,188,none⟩),.pointer (some ⟨w.heap.size,0,none⟩),.int .u64 150] 116)).alloc (.cells #[.pointer (some ⟨14,188,none⟩),.pointer (some ⟨w.heap.size,0,none⟩),.int .u64 150] 116)) (by rw [World.cell?_alloc_lt _ _ ⟨w.heap.size,0,none⟩ (by simp;omega)];simp)
 have st:=Xp2 t ⟨w.heap.size+1+1+1,0,none⟩ c old ((((w.alloc (.cells #[.pointer (some t)] 188)).alloc (.cells #[.pointer (some ⟨14,188,none⟩),.pointer (some ⟨w.heap.size,0,none⟩),.int .u64 150] 116)).alloc (.cells #[.pointer (some ⟨14,188,none⟩),.pointer (some ⟨w.heap.size,0,none⟩),.int .u64 150] 116)).alloc (.cells #[.int .i64 c] 187))
  (by rw [World.cell?_alloc_at _ _ _ _ (by simp)];rfl)
  (by rw [World.cell?_alloc_lt _ _ t (by simp;omega),World.cell?_alloc_lt _ _ t (by simp;omega),World.cell?_alloc_lt _ _ t (by simp;omega),World.cell?_alloc_lt _ _ t htl];exact ht0)
  (by rw [World.frozen?_alloc_old _ _ t (by simp;omega),World.frozen?_alloc_old _ _ t (by simp;omega),World.frozen?_alloc_old _ _ t (by simp;omega),World.frozen?_alloc_old _ _ t (Nat.ne_of_lt htl)];exact hf0)
 clear hb0
 go_enter Tryz.func18,Tryz.ntmps18
 go_wp2
 refine wp_loop_rounds 2 ?_
 rw [rounds_succ]
 go_wp2
 rw [rounds_succ]
 go_wp2
 go_ret
 exact ⟨rfl,rfl⟩
theorem al4 (w:World) (o1 o2 o3 o4:Obj):Ext w ((((w.alloc o1).alloc o2).alloc o3).alloc o4):=(((Ext.al _ _).tr (Ext.al _ _)).tr (Ext.al _ _)).tr (Ext.al _ _)
theorem Xnf (b t:Nat) (v0 v1 old:Value) (c:Int) (R:List Hp):Xay Tryz.prog 18 (.box t [.x old] :: .box b [.x v0,.x v1,.x (.iface 187 (.int .i64 c))] :: R) [.x (.iface 189 (.pointer (some ⟨b,0,none⟩))),.x (.iface 188 (.pointer (some ⟨t,0,none⟩)))] fun r H'=>r=.x (.bool true)∧H'=.box t [.x (.int .i64 c)] :: .box b [.x v0,.x v1,.x (.iface 187 (.int .i64 c))] :: R:=by
 refine Xf3 (args:=[_,_]) rfl fun w hg hR ht hf=>?_
 refine (Xs3 b c ⟨t,0,none⟩ old w hg (hR b [v0,v1,_] (List.mem_cons_self ..) 2 _ rfl) ht hf).mono ?_
 rintro e w' ⟨rfl,rfl⟩
 exact ⟨rfl,_,al4 _ _ _ _ _,rfl⟩
theorem Xl3 (b t:Nat) (old:Value) (R:List Hp):Xay Tryz.prog 18 (.box t [.x old] :: R) [.x (.iface 189 (.pointer (some ⟨b,0,none⟩))),.x (.iface 190 (.pointer (some ⟨t,0,none⟩)))] fun r H'=>r=.x (.bool true)∧H'=.box t [.x (.pointer (some ⟨b,0,none⟩))] :: R:=by
 refine Xf3 (args:=[_,_]) rfl fun w hg hR ht hf=>?_
 refine (Xp1 ⟨b,0,none⟩ ⟨t,0,none⟩ old w hg ht hf).mono ?_
 rintro e w' ⟨rfl,rfl⟩
 exact ⟨rfl,_,al4 _ _ _ _ _,rfl⟩
theorem Xon (l:List UInt8) (hl:l.length≤1000000) (h8:8192 < l.length):Xay Tryz.prog 73 [] [.x (.string (bs l))] (fun r H'=>r=.tup [.sq 0 [],.x (.agg #[.int .i64 1,.int .i64 0,.int .i64 0])]∧H'=[]):=by
 refine XaV Tryz.func73 Tryz.ntmps73 ?_
 (repeat' (first|refine Wkx.go ?_|(refine Xaz (fun h=>?_) (fun h=>?_)<;>first|(exfalso;omega;done)|skip)|refine Xad ?_|(refine Xab rfl ?_;(first|refine Xbh ?_|refine Xb8 (fun b=>?_)))|fail))
 refine Xaa _ _ (XbR rfl (RV.tmp _) (RV.cell 0 rfl rfl XaI.out (by simp) (by simp)) (Xaj.mk' [_] [] (Xyo _) Xak.nil (VwL.cons Vw.nil (VwL.refl _ _)))) ?_
 exact ⟨rfl,rfl⟩
theorem XtN (l:List UInt8) (h8:l.length≤8192) (ts:List Tok) (hs:Xay Tryz.prog 99 [] [.x (.string (bs l))] (fun q H'=>q=.tup [.sq ts.length (ta ts),.x .nilIface]∧H'=[])):Xay Tryz.prog 73 [] [.x (.string (bs l))] (fun r H'=>r=.tup [.sq ts.length (ta ts),.x (.agg #[.int .i64 0,.int .i64 0,.int .i64 0])]∧H'=[]):=by
 refine XaV Tryz.func73 Tryz.ntmps73 ?_
 (repeat' (first|refine Wkx.go ?_|(refine Xaz (fun h=>?_) (fun h=>?_)<;>first|(exact absurd h (by decide))|(exfalso;omega;done)|skip)|refine Xad ?_ (h:=by exact fun _=>Xbb rfl rfl Tryz.func99 (hs))|refine Xad ?_|(refine Xab rfl ?_;(first|refine Xbh ?_|refine Xb8 (fun b=>?_)))|fail))
 refine Xaa _ _ (XbR rfl (RV.tmp _) (RV.cell 0 rfl rfl XaI.out (by simp) (by simp)) (Xaj.mk' [_] [] (Xyo _) Xak.nil (VwL.refl _ _))) ?_
 exact ⟨rfl,rfl⟩
theorem XqK (l:List UInt8) (h8:l.length≤8192) (c:Int) (x y:Int) (hs:Xay Tryz.prog 99 [] [.x (.string (bs l))] (fun q H'=>∃b,q=.tup [.x (.slice none 0 0),.x (.iface 189 (.pointer (some ⟨b,0,none⟩)))]∧H'=[.box b [.x (.int .i64 x),.x (.int .i64 y),.x (.iface 187 (.int .i64 c))]])):Xay Tryz.prog 73 [] [.x (.string (bs l))] (fun r H'=>r=.tup [.sq 0 [],.x (.agg #[.int .i64 c,.int .i64 x,.int .i64 y])]∧H'=[]):=by
 refine XaV Tryz.func73 Tryz.ntmps73 ?_
 (repeat' (first|refine Wkx.go ?_|(refine Xaz (fun h=>?_) (fun h=>?_)<;>first|(exact absurd h (by decide))|(exfalso;omega;done)|skip)|refine Xad ?_|(refine Xab rfl ?_;(first|((refine Xa7 Tryz.func99 ([]) rfl rfl (.refl _) (hs) ?_;rintro _ _ ⟨b2,rfl,rfl⟩);refine XaJ ?_)|((refine Xau 18 Tryz.f18 [_,_] [_,_] _ _ rfl rfl Tryz.func18 (by decide) rfl (XyE _ (List.Perm.swap _ _ _)) (VwL.refl _ _) (Xnf _ _ _ _ _ _ []) ?_;rintro _ _ ⟨rfl,rfl⟩);refine XaJ ?_)|((refine Xau 18 Tryz.f18 [_] _ _ _ rfl rfl Tryz.func18 (by decide) rfl (Xyo _) (VwL.refl _ _) (Xl3 _ _ _ []) ?_;rintro _ _ ⟨rfl,rfl⟩);refine XaJ ?_)|refine Xbh ?_|refine Xb8 (fun b=>?_)))|fail))
 refine XaE mixed [] [_,_] _ (XyE _ (List.Perm.swap _ _ _)) ?_
 ((first|refine Xdr 0 ?_|fail);(first|refine XbQ 1 ?_|fail);(first|refine XbQ 2 ?_|fail);(first|refine Xdr 3 ?_|fail);(first|refine Xdr 4 ?_|fail);(first|refine XbQ 5 ?_|fail);(first|refine XbQ 6 ?_|fail);(first|refine Xdr 7 ?_|fail);(first|refine XbQ 8 ?_|fail))
 (repeat ((first|refine XcV 9 ?_|refine XcV 10 ?_|refine XcV 11 ?_|fail);(first|refine Xd5 ?_|refine Xbh ?_|fail)))
 refine XaG (by decide +kernel) ?_
 refine Xai rfl (by simp only [Xyz,Xyy];rfl) ?_
 refine Xao (by decide +kernel) ?_
 (repeat' (first|refine Wkx.go ?_|fail))
 refine XaE mixed [] [_] [_,_,_,_] (XyB (l₁:=[_,_,_])) ?_
 ((first|refine Xdr 0 ?_|fail);(first|refine XbQ 1 ?_|fail))
 (refine XcV 2 ?_;(first|refine Xbh ?_|fail))
 refine XaG (by decide +kernel) ?_
 refine Xai rfl (by simp only [Xyz,Xyy];rfl) ?_
 refine Xao (by decide +kernel) ?_
 (repeat' (first|refine Wkx.go ?_|fail))
 refine Xaa _ _ (XbR rfl (RV.tmp _) (RV.cell 4 rfl rfl XaI.out (by simp) (by simp)) (Xaj.mk' [_,_,_,_,_] [] (Xyo _) Xak.nil (VwL.cons Vw.nil (VwL.refl _ _)))) ?_
 exact ⟨rfl,rfl⟩
theorem Xsb (l:List UInt8) (hl:l.length≤1000000):Xay Tryz.prog 73 [] [.x (.string (bs l))] (fun r H'=>r=.tup [.sq (XlD (lex l)).length (ta (XlD (lex l))),(Xtx (lex l)).av]∧H'=[]):=by
 by_cases h8:8192 < l.length
 ·have e:lex l=.error ⟨1,0,0⟩:=by unfold lex;rw [if_pos (by omega)]
  rw [e]
  exact Xon l hl h8
 ·have e:lex l=Xct (1,1) 0 l:=by unfold lex;rw [if_neg (by omega)]
  have hs:=Xwl l (by omega)
  rw [e]
  cases hx:Xct (1,1) 0 l with
  | ok ts=>rw [hx] at hs;exact XtN l (by omega) ts hs
  | error f=>rw [hx] at hs;exact XqK l (by omega) _ _ _ hs
end Go.Proofs.YtdlblokjfoggpaaGreatDoor

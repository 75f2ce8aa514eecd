import Derived.Test.YtdlblokjfoggpaaGreatDoorW7
import Derived.Test.YtdlblokjfoggpaaGreatDoorW10
import Derived.Test.YtdlblokjfoggpaaGreatDoorW38
import Derived.Test.YtdlblokjfoggpaaGreatDoorW27
import Derived.Test.YtdlblokjfoggpaaGreatDoorW8
import Derived.Test.YtdlblokjfoggpaaGreatDoorW26
import Derived.Test.YtdlblokjfoggpaaGreatDoorW13
import Derived.WalkKit
import Derived.LaidEql
import Derived.Stop.Asserts
import Derived.RowKitTokens
import Derived.Test.YtdlblokjfoggpaaGreatDoorW25
/- The program's lexer: scan. -/
set_option linter.unusedSimpArgs false
set_option linter.unusedVariables false
set_option maxRecDepth 100000
set_option maxHeartbeats 8000000
namespace Go.Proofs.YtdlblokjfoggpaaGreatDoor
open Go.RowKit
def Flt.cells (f:Flt):List AV:=[.x (.int .i64 (f.line:Nat)),.x (.int .i64 (f.col:Nat)),.x (.iface 187 (.int .i64 f.code))]
def Xss (x:Except Flt (List Tok)) (q:AV) (H':List Hp):Prop:=match x with
 | .ok ts=>q=.tup [.sq ts.length (ta ts),.x .nilIface]∧H'=[]
 | .error f=>∃b,q=.tup [.x (.slice none 0 0),.x (.iface 189 (.pointer (some ⟨b,0,none⟩)))]∧H'=[.box b f.cells]
theorem XtD (t:List UInt8) (ht:t.length≤50000):XaM Tryz.prog 99 [] [.x (.string (bs t))] (Xss (Xcu (1,1) 0 t)):=by
 refine Xbs Tryz.func99 Tryz.ntmps99 ?_
 (repeat' (first|refine Wkx.go ?_|refine XaJ ?_|refine XaG ?_|(refine XaE (fun h=>?_) (fun h=>?_)<;>first|(exact absurd h (by decide))|(exfalso;omega;done)|skip)|refine XaF ?_|refine Xai ?_|(refine Xaa rfl ?_;(first|refine Xax ?_|refine Xaw ?_|refine Xav (fun ad cap=>?_)|refine Xat (fun b=>?_)|refine Xas (fun b=>?_)|refine Xau (fun b=>?_)|fail))|fail))
 refine Xa7 154 4 ?_
 refine XaA (S:=Nat × List Tok × Option Addr × Nat) (fun s=>frm 85 [(0,.x (.string (bs t))),(4,.x (.pointer (some ⟨b,0,none⟩))),(5,.x (.slice s.2.2.1 s.2.1.length s.2.2.2))])
  (fun s=>[.box b [.x (.string (bs t)),.x (.int .i64 s.1),.x (.int .i64 ((plc (1,1) (t.take s.1)).1:Nat)),.x (.int .i64 ((plc (1,1) (t.take s.1)).2:Nat))],.row s.2.2.1 s.2.1.length s.2.2.2 154 4 (ta s.2.1)]) (fun s=>Xio t s.1 s.2.1) (fun s=>t.length - s.1) (0,[],none,0) ?a (Xio.start t) fun s hs=>?_
 case a=>exact (Xaq.mk' [] [.box b _,.row _ _ _ _ _ _] (List.Perm.swap ..) (Xap.refl _ _) (by (repeat' (first|exact VwL.nil|(refine VwL.cons ?_ ?_)|exact Vw.refl _|exact Vw.top _|exact Vw.nil|(refine Vw.eq ?_;first|rfl|(simp;done)|(congr 3;omega)|(congr 2;omega))))))
 obtain ⟨k,ts,ad,cap⟩:=s
 simp only at hs
 have hk:=hs.le
 have hnk:=Xtt (l:=t) hk
 have hcn:=hs.cnt
 have hk2:k≤nxk t k:=by unfold nxk;omega
 have hpl:=Xkd (t.take (nxk t k)) (1,1)
 rw [List.length_take,Nat.min_eq_left hnk] at hpl
 have hs':=Lib.hid hs
 clear hs
 simp only [wfr]
 by_cases he:t.length≤nxk t k
 ·have hfin:=Lib.hid (hs'.out.fin he)
  have he2:nxk t k=t.length:=by omega
  (have wx:=And.intro @sc.eq_1 @scc.eq_1;(repeat' (first|refine Wkx.go ?_|refine XaG ?_|(refine XaE (fun h=>?_) (fun h=>?_)<;>first|(exact absurd h (by decide))|(exfalso;omega;done)|skip)|refine XaF ?_|refine Xai ?_|(refine Xaa rfl ?_;(first|((refine Xa5 Tryz.func116 [_] rfl rfl (.refl _) (Xhd b t k (by assumption) (by omega)) ?_;rintro _ _ rfl);refine XaO ?_)|refine Xax ?_|refine Xaw ?_|refine Xav (fun ad cap=>?_)|refine Xat (fun b=>?_)|refine Xas (fun b=>?_)|refine Xau (fun b=>?_)|fail))|fail)))<;>(try clear wx)
  refine XaP mixed [] [_] _ (Xvt _) ?_
  ((first|refine Xbj 0 ?_|refine Xbt 0 ?_);(first|refine Xbj 1 ?_|refine Xbt 1 ?_);(first|refine Xbj 2 ?_|refine Xbt 2 ?_);(first|refine Xbj 3 ?_|refine Xbt 3 ?_);(first|refine Xbj 4 ?_|refine Xbt 4 ?_);(first|refine Xbj 5 ?_|refine Xbt 5 ?_);(first|refine Xbj 6 ?_|refine Xbt 6 ?_);(first|refine Xbj 7 ?_|refine Xbt 7 ?_);(first|refine Xbj 8 ?_|refine Xbt 8 ?_))
  (repeat ((first|refine Xdd 9 ?_|refine Xdd 10 ?_|refine Xdd 11 ?_|refine Xdd 12 ?_|refine Xdd 13 ?_);(first|refine Xcb ?_|refine Xax ?_|refine Xaw ?_|refine Xav (fun ad cap=>?_)|refine Xat (fun b=>?_)|refine Xas (fun b=>?_)|refine Xau (fun b=>?_)|fail)))
  refine XaV (by decide +kernel) ?_
  refine Xag rfl (by simp only [XvE,XvD];rfl) ?_
  refine Xar (by decide +kernel) ?_
  (repeat' (first|refine Wkx.go ?_|refine XaJ ?_|refine XaG ?_|(refine XaE (fun h=>?_) (fun h=>?_)<;>first|(exact absurd h (by decide))|(exfalso;omega;done)|skip)|refine XaF ?_|refine Xai ?_|(refine Xaa rfl ?_;(first|refine Xax ?_|refine Xaw ?_|refine Xav (fun ad cap=>?_)|refine Xat (fun b=>?_)|refine Xas (fun b=>?_)|refine Xau (fun b=>?_)|fail))|fail))
  rw [hfin.out]
  refine Xab _ _ (Xcn rfl (RV.tmp _) (RV.tmp _) (Xaq.mk' [_,_,_] [] (Xvt _) Xap.nil (VwL.cons (Vw.row (List.Mem.tail _ (List.Mem.tail _ (List.Mem.head _))) (VwL.refl _ _)) (VwL.refl _ _)))) ?_
  refine ⟨?_,rfl⟩
  simp only [Xqo,XvF,Xvw,Xvz]
  rfl
 ·obtain ⟨c,r,hc1,hc2⟩:=hs'.out.cons (by omega)
  have ho:=Xlq c r (by have:=congrArg List.length hc1;simp at this;omega)
  rw [←hc1] at ho
  have hkl:nxk t k < t.length:=by omega
  cases h1:one (t.drop (nxk t k)) with
  | error e=>
    have hb:=Lib.hid (hs'.out.bad hc2 (by rw [←hc1];exact h1))
    rw [h1] at ho
    simp only [XlF] at ho
    clear hc1 hc2 h1
    (have wx:=And.intro @sc.eq_1 (And.intro @scc.eq_1 (@List.take_length.{0}));(repeat' (first|refine Wkx.go ?_|refine XaG ?_|(refine XaE (fun h=>?_) (fun h=>?_)<;>first|(exact absurd h (by decide))|(exfalso;omega;done)|skip)|refine XaF ?_|refine Xai ?_ (h:=by first|exact fun _=>Xb3 rfl rfl Tryz.func117 (ho)|fail)|refine Xai ?_|(refine Xaa rfl ?_;(first|((refine Xa5 Tryz.func116 [_] rfl rfl (.refl _) (Xhd b t k (by assumption) (by omega)) ?_;rintro _ _ rfl);refine XaO ?_)|refine Xax ?_|refine Xaw ?_|refine Xav (fun ad cap=>?_)|refine Xat (fun b=>?_)|refine Xas (fun b=>?_)|refine Xau (fun b=>?_)|fail))|fail)))<;>(try clear wx)
    refine XaP mixed [] [_] _ (Xvt _) ?_
    ((first|refine Xbj 0 ?_|refine Xbt 0 ?_);(first|refine Xbj 1 ?_|refine Xbt 1 ?_);(first|refine Xbj 2 ?_|refine Xbt 2 ?_);(first|refine Xbj 3 ?_|refine Xbt 3 ?_);(first|refine Xbj 4 ?_|refine Xbt 4 ?_);(first|refine Xbj 5 ?_|refine Xbt 5 ?_);(first|refine Xbj 6 ?_|refine Xbt 6 ?_);(first|refine Xbj 7 ?_|refine Xbt 7 ?_);(first|refine Xbj 8 ?_|refine Xbt 8 ?_);(first|refine Xbj 12 ?_|refine Xbt 12 ?_))
    (repeat ((first|refine Xdd 9 ?_|refine Xdd 10 ?_|refine Xdd 11 ?_|refine Xdd 13 ?_);(first|refine Xcb ?_|refine Xax ?_|refine Xaw ?_|refine Xav (fun ad cap=>?_)|refine Xat (fun b=>?_)|refine Xas (fun b=>?_)|refine Xau (fun b=>?_)|fail)))
    refine XaV (by decide +kernel) ?_
    refine Xag rfl (by simp only [XvE,XvD];rfl) ?_
    refine Xar (by decide +kernel) ?_
    (repeat' (first|refine Wkx.go ?_|refine XaJ ?_|refine XaG ?_|(refine XaE (fun h=>?_) (fun h=>?_)<;>first|(exact absurd h (by decide))|(exfalso;omega;done)|skip)|refine XaF ?_|refine Xai ?_|(refine Xaa rfl ?_;(first|refine Xax ?_|refine Xaw ?_|refine Xav (fun ad cap=>?_)|refine Xat (fun b=>?_)|refine Xas (fun b=>?_)|refine Xau (fun b=>?_)|fail))|fail))
    rw [hb.out]
    refine Xab _ _ (Xcn rfl (RV.tmp _) (RV.tmp _) (Xaq.mk' [_,_] [.box b _] (XvJ _ (List.Perm.swap _ _ _)) (Xap.refl _ _) (VwL.refl _ _))) ⟨_,rfl,rfl⟩
  | ok x=>
    obtain ⟨a,tx,m⟩:=x
    have hpt:=XrQ h1
    rw [h1] at ho
    simp only [XlF] at ho
    obtain ⟨g1,g2,g3,g4⟩:=Xgb h1
    simp only [List.length_drop] at g1 g2 g3
    by_cases hf:2000≤ts.length
    ·have hb:=Lib.hid (hs'.out.full hc2 (by rw [←hc1];exact h1) hf)
     clear hc1 hc2 h1
     (have wx:=And.intro @sc.eq_1 (And.intro @scc.eq_1 (@List.take_length.{0}));(repeat' (first|refine Wkx.go ?_|refine XaG ?_|(refine XaE (fun h=>?_) (fun h=>?_)<;>first|(exact absurd h (by decide))|(exfalso;omega;done)|skip)|refine XaF ?_|refine Xai ?_ (h:=by first|exact fun _=>Xb3 rfl rfl Tryz.func117 (ho)|fail)|refine Xai ?_|(refine Xaa rfl ?_;(first|((refine Xa5 Tryz.func116 [_] rfl rfl (.refl _) (Xhd b t k (by assumption) (by omega)) ?_;rintro _ _ rfl);refine XaO ?_)|refine Xax ?_|refine Xaw ?_|refine Xav (fun ad cap=>?_)|refine Xat (fun b=>?_)|refine Xas (fun b=>?_)|refine Xau (fun b=>?_)|fail))|fail)))<;>(try clear wx)
     refine XaP mixed [] [_] _ (Xvt _) ?_
     ((first|refine Xbj 0 ?_|refine Xbt 0 ?_);(first|refine Xbj 1 ?_|refine Xbt 1 ?_);(first|refine Xbj 2 ?_|refine Xbt 2 ?_);(first|refine Xbj 3 ?_|refine Xbt 3 ?_);(first|refine Xbj 4 ?_|refine Xbt 4 ?_);(first|refine Xbj 5 ?_|refine Xbt 5 ?_);(first|refine Xbj 6 ?_|refine Xbt 6 ?_);(first|refine Xbj 7 ?_|refine Xbt 7 ?_);(first|refine Xbj 8 ?_|refine Xbt 8 ?_);(first|refine Xbj 12 ?_|refine Xbt 12 ?_))
     (repeat ((first|refine Xdd 9 ?_|refine Xdd 10 ?_|refine Xdd 11 ?_|refine Xdd 13 ?_);(first|refine Xcb ?_|refine Xax ?_|refine Xaw ?_|refine Xav (fun ad cap=>?_)|refine Xat (fun b=>?_)|refine Xas (fun b=>?_)|refine Xau (fun b=>?_)|fail)))
     refine XaV (by decide +kernel) ?_
     refine Xag rfl (by simp only [XvE,XvD];rfl) ?_
     refine Xar (by decide +kernel) ?_
     (repeat' (first|refine Wkx.go ?_|refine XaJ ?_|refine XaG ?_|(refine XaE (fun h=>?_) (fun h=>?_)<;>first|(exact absurd h (by decide))|(exfalso;omega;done)|skip)|refine XaF ?_|refine Xai ?_|(refine Xaa rfl ?_;(first|refine Xax ?_|refine Xaw ?_|refine Xav (fun ad cap=>?_)|refine Xat (fun b=>?_)|refine Xas (fun b=>?_)|refine Xau (fun b=>?_)|fail))|fail))
     rw [hb.out]
     refine Xab _ _ (Xcn rfl (RV.tmp _) (RV.tmp _) (Xaq.mk' [_,_] [.box b _] (XvJ _ (List.Perm.swap _ _ _)) (Xap.refl _ _) (VwL.refl _ _))) ⟨_,rfl,rfl⟩
    ·have hb:=Lib.hid (hs'.out.next hc2 (by rw [←hc1];exact h1) (by omega))
     clear hc1 hc2 h1
     (have wx:=And.intro @sc.eq_1 (And.intro @scc.eq_1 (@List.take_length.{0}));(repeat' (first|refine Wkx.go ?_|refine XaG ?_|(refine XaE (fun h=>?_) (fun h=>?_)<;>first|(exact absurd h (by decide))|(exfalso;omega;done)|skip)|refine XaF ?_|refine Xai ?_ (h:=by first|exact fun _=>Xb3 rfl rfl Tryz.func117 (ho)|fail)|refine Xai ?_|(refine Xaa rfl ?_;(first|((refine Xa5 Tryz.func116 [_] rfl rfl (.refl _) (Xhd b t k (by assumption) (by omega)) ?_;rintro _ _ rfl);refine XaO ?_)|refine Xax ?_|refine Xaw ?_|refine Xav (fun ad cap=>?_)|refine Xat (fun b=>?_)|refine Xas (fun b=>?_)|refine Xau (fun b=>?_)|fail))|fail)))<;>(try clear wx)
     refine XaP mixed [] [_] _ (Xvt _) ?_
     ((first|refine Xbj 0 ?_|refine Xbt 0 ?_);(first|refine Xbj 1 ?_|refine Xbt 1 ?_);(first|refine Xbj 2 ?_|refine Xbt 2 ?_);(first|refine Xbj 3 ?_|refine Xbt 3 ?_);(first|refine Xbj 4 ?_|refine Xbt 4 ?_);(first|refine Xbj 5 ?_|refine Xbt 5 ?_);(first|refine Xbj 6 ?_|refine Xbt 6 ?_);(first|refine Xbj 7 ?_|refine Xbt 7 ?_);(first|refine Xbj 8 ?_|refine Xbt 8 ?_);(first|refine Xbj 9 ?_|refine Xbt 9 ?_);(first|refine Xbj 10 ?_|refine Xbt 10 ?_))
     (repeat ((first|refine Xdd 11 ?_|refine Xdd 12 ?_|refine Xdd 13 ?_|refine Xdd 14 ?_);(first|refine Xcb ?_|refine Xax ?_|refine Xaw ?_|refine Xav (fun ad cap=>?_)|refine Xat (fun b=>?_)|refine Xas (fun b=>?_)|refine Xau (fun b=>?_)|fail)))
     refine XaV (by decide +kernel) ?_
     refine Xag rfl (by simp only [XvE,XvD];rfl) ?_
     refine Xar (by decide +kernel) ?_
     (have wx:=@scc.eq_1;(repeat' (first|refine Wkx.go ?_|refine XaJ ?_|refine XaG ?_|(refine XaE (fun h=>?_) (fun h=>?_)<;>first|(exact absurd h (by decide))|(exfalso;omega;done)|skip)|refine XaF ?_|refine Xai ?_|(refine Xaa rfl ?_;(first|((refine Xa5 Tryz.func118 [_] rfl rfl (.refl _) (XdD _ t _ _ _ m (by omega) (by omega) (by omega)) ?_;rintro _ _ rfl);refine XaO ?_)|refine Xax ?_|refine Xaw ?_|refine Xav (fun ad cap=>?_)|refine Xat (fun b=>?_)|refine Xas (fun b=>?_)|refine Xau (fun b=>?_)|fail))|fail)))<;>(try clear wx)
     refine ⟨(nxk t k+m,_,ad,cap),by simp only;omega,hb.out,?_⟩
     simp only [hpt,Xqo,XvF,Xvw,Xvz,Int.natCast_add]
     exact (Xaq.mk' [_] [_,_] (List.Perm.swap _ _ _) (Xap.refl _ _) (by (repeat' (first|exact VwL.nil|(refine VwL.cons ?_ ?_)|exact Vw.refl _|exact Vw.top _|exact Vw.nil|(refine Vw.eq ?_;first|rfl|(simp;done)|(congr 3;omega)|(congr 2;omega))))))
open Go.RowKit Go.Extern.Stop Go.Stop Go.Extern
theorem Xt4 (z:Sem Value) (f:TypeId→Addr→Nat→Nat→Sem Value) (v:Value) :
  ReflectliteValue.method z f #[v]=(do match ←ReflectliteValue.parts v with|none=>z|some (t,a,fl)=>f t a fl (fl % 32)):=rfl
theorem XpL (v x:Value):ReflectliteValue.set #[v,x]=(do
  let (some (dst,a,fl),some (src,b,_)):=(←ReflectliteValue.parts v,←ReflectliteValue.parts x)
   | unsupported (.noEntry "extern/(internal/reflectlite.Value).Set.zeroValue")
  if fl / ReflectliteValue.flagAddr % 2 == 0 then unsupported (.noEntry "extern/(internal/reflectlite.Value).Set.unaddressable")
  let val ←loadVar src b
  if ←Rtype.directlyAssignable dst src then storeVar dst a val
  else if ←Rtype.implements dst src then
   if (←Rtype.kind src) == 20 then
    match val with
    | .nilIface=>unsupported (.noEntry "extern/reflectlite: a nil value of one interface type handed on as a value of another")
    | _=>storeVar dst a val
   else storeVar dst a (.iface src val)
  else panicString ("reflectlite.Set: value of type "++(←Rtype.spelt src)++ " is not assignable to type "++(←Rtype.spelt dst))
  pure (.tuple #[])):=rfl
theorem Xeq (h:Value) (w:World):(Go.method 432 167 (.agg #[h]) "Kind").run Tryz.prog w=.ok (232,h) w:=by kernel_rfl
theorem Xeo (h:Value) (w:World):(Go.method 432 167 (.agg #[h]) "Elem").run Tryz.prog w=.ok (243,.agg #[h]) w:=by kernel_rfl
theorem Xep (h:Value) (w:World):(Go.method 432 167 (.agg #[h]) "Implements").run Tryz.prog w=.ok (244,.agg #[h]) w:=by kernel_rfl
theorem XdE (h:Value) (w:World):(Go.method 432 167 (.agg #[h]) "AssignableTo").run Tryz.prog w=.ok (241,.agg #[h]) w:=by kernel_rfl
theorem XfI (v:Value) (w:World):(Go.method 432 189 v "Unwrap").run Tryz.prog w=.ok (253,v) w:=by kernel_rfl
theorem XqD (v:Value) (xT:TypeId) (w:World):(Instr.typeAssert (.iface 189 v) xT 171 true).run Tryz.prog w=.ok (.tuple #[.nilIface,.bool false]) w:=run_typeAssert_lacksB Tryz.underlying171 (by kernel_rfl) (by kernel_rfl) v xT w
theorem Xhz (v:Value) (xT:TypeId) (w:World):(Instr.typeAssert (.iface 189 v) xT 174 true).run Tryz.prog w=.ok (.tuple #[.iface 189 v,.bool true]) w:=run_typeAssert_hasB Tryz.underlying174 (by kernel_rfl) v xT w
/-! the target *codeError -/
theorem XhB (t:Addr) (w:World):(ReflectliteValue.unpack (.iface 188 (.pointer (some t)))).run Tryz.prog w
  = .ok (.agg #[.pointer (some ⟨14,188,none⟩),.pointer (some ⟨w.heap.size,0,none⟩),.int .u64 150]) (w.alloc (.cells #[.pointer (some t)] 188)):=by kernel_rfl
theorem Xl2 (a:Addr) (w:World):(ReflectliteValue.methodAny (ReflectliteValue.valueError "reflectlite.Value.Type" 0) (fun t _ _ _=>ReflectliteType.toType t) #[.agg #[.pointer (some ⟨14,188,none⟩),.pointer (some a),.int .u64 150]]).run Tryz.prog w
  = .ok (.iface 167 (.agg #[.pointer (some ⟨14,188,none⟩)])) w:=by kernel_rfl
theorem XlZ (w:World):((ReflectliteType.abiMethod fun t=>(fun a:Nat=>Value.int IntKind.u8 (a:Int)) <$> Rtype.kind t) #[.pointer (some ⟨14,188,none⟩)]).run Tryz.prog w=.ok (.int .u8 22) w:=by kernel_rfl
theorem XlY (w:World):((ReflectliteType.abiMethod fun t=>(fun a:Nat=>Value.int IntKind.u8 (a:Int)) <$> Rtype.kind t) #[.pointer (some ⟨14,187,none⟩)]).run Tryz.prog w=.ok (.int .u8 2) w:=by kernel_rfl
theorem Xgz (a:Addr) (w:World):(ReflectliteValue.parts (.agg #[.pointer (some ⟨14,188,none⟩),.pointer (some a),.int .u64 150])).run Tryz.prog w=.ok (some (188,a,150)) w:=by kernel_rfl
theorem XkF (a p:Addr) (W:World) (ha:W.cell? a=some (.pointer (some p))) :
  (ReflectliteValue.method (ReflectliteValue.valueError "reflectlite.Value.IsNil" 0) ReflectliteValue.isNil #[.agg #[.pointer (some ⟨14,188,none⟩),.pointer (some a),.int .u64 150]]).run Tryz.prog W=.ok (.bool false) W:=by
 rw [Xt4]
 simp only [Sem.run_bind,Xgz,Result.andThen]
 simp [ReflectliteValue.isNil,loadVar,isAgg,underlying,Tryz.underlying188,ha,Result.andThen]
theorem XlU (w:World):(ReflectliteType.method ReflectliteType.elem #[.agg #[.pointer (some ⟨14,188,none⟩)]]).run Tryz.prog w=.ok (.iface 167 (.agg #[.pointer (some ⟨14,187,none⟩)])) w:=by kernel_rfl
theorem XlW (w:World):(ReflectliteType.relation "Implements" ReflectliteType.implements_ #[.agg #[.pointer (some ⟨14,187,none⟩)],.iface 167 (.agg #[.pointer (some ⟨14,55,none⟩)])]).run Tryz.prog w=.ok (.bool true) w:=by kernel_rfl
theorem XiF (v:Value) (w:World):(ReflectliteType.typeOf #[.iface 187 v]).run Tryz.prog w=.ok (.iface 167 (.agg #[.pointer (some ⟨14,187,none⟩)])) w:=by kernel_rfl
theorem XfJ (v:Value) (w:World):(ReflectliteType.typeOf #[.iface 189 v]).run Tryz.prog w=.ok (.iface 167 (.agg #[.pointer (some ⟨14,189,none⟩)])) w:=by kernel_rfl
theorem Xiw (w:World):(ReflectliteType.relation "AssignableTo" ReflectliteType.assignableTo #[.agg #[.pointer (some ⟨14,187,none⟩)],.iface 167 (.agg #[.pointer (some ⟨14,187,none⟩)])]).run Tryz.prog w=.ok (.bool true) w:=by kernel_rfl
theorem Xix (w:World):(ReflectliteType.relation "AssignableTo" ReflectliteType.assignableTo #[.agg #[.pointer (some ⟨14,189,none⟩)],.iface 167 (.agg #[.pointer (some ⟨14,187,none⟩)])]).run Tryz.prog w=.ok (.bool false) w:=by kernel_rfl
theorem XhA (c:Int) (w:World):(ReflectliteValue.unpack (.iface 187 (.int .i64 c))).run Tryz.prog w
  = .ok (.agg #[.pointer (some ⟨14,187,none⟩),.pointer (some ⟨w.heap.size,0,none⟩),.int .u64 130]) (w.alloc (.cells #[.int .i64 c] 187)):=by kernel_rfl
theorem XiB (w:World):(Rtype.elem? 188).run Tryz.prog w=.ok (some 187) w:=by kernel_rfl
theorem XqB (p:Addr) (w:World):(ReflectliteValue.mk 187 p ReflectliteValue.flagAddr).run Tryz.prog w=.ok (.agg #[.pointer (some ⟨14,187,none⟩),.pointer (some p),.int .u64 386]) w:=by kernel_rfl
theorem XkD (a p:Addr) (W:World) (ha:W.cell? a=some (.pointer (some p))) :
  (ReflectliteValue.method (ReflectliteValue.valueError "reflectlite.Value.Elem" 0) ReflectliteValue.elem #[.agg #[.pointer (some ⟨14,188,none⟩),.pointer (some a),.int .u64 150]]).run Tryz.prog W
   = .ok (.agg #[.pointer (some ⟨14,187,none⟩),.pointer (some p),.int .u64 386]) W:=by
 rw [Xt4]
 simp only [Sem.run_bind,Xgz,Result.andThen]
 simp [ReflectliteValue.elem,loadVar,isAgg,underlying,Tryz.underlying188,ha,Result.andThen,XiB,XqB]
theorem XiD (a:Addr) (w:World):(ReflectliteValue.parts (.agg #[.pointer (some ⟨14,187,none⟩),.pointer (some a),.int .u64 386])).run Tryz.prog w=.ok (some (187,a,386)) w:=by kernel_rfl
theorem XkH (a:Addr) (w:World):(ReflectliteValue.parts (.agg #[.pointer (some ⟨14,187,none⟩),.pointer (some a),.int .u64 130])).run Tryz.prog w=.ok (some (187,a,130)) w:=by kernel_rfl
theorem Xiz (w:World):(Rtype.directlyAssignable 187 187).run Tryz.prog w=.ok true w:=by kernel_rfl
theorem Xoj (ta b:Addr) (c:Int) (old:Value) (W:World) (hb:W.cell? b=some (.int .i64 c)) (ht:W.cell? ta=some old) (hf:W.frozen? ta=false) :
  (ReflectliteValue.set #[.agg #[.pointer (some ⟨14,187,none⟩),.pointer (some ta),.int .u64 386],.agg #[.pointer (some ⟨14,187,none⟩),.pointer (some b),.int .u64 130]]).run Tryz.prog W
   = .ok (.tuple #[]) (W.setCell ta (.int .i64 c)):=by
 rw [XpL]
 simp only [Sem.run_bind,XiD,XkH,Result.andThen]
 simp [ReflectliteValue.flagAddr,loadVar,isAgg,underlying,Tryz.underlying187,hb,Result.andThen,Xiz,storeVar,Value.cells,storeCells,Addr.add]
 rw [run_store Tryz.prog W ta _ _ (by rfl)]
 simp [ht,hf]
/-! the target **placeError -/
theorem XhD (t:Addr) (w:World):(ReflectliteValue.unpack (.iface 190 (.pointer (some t)))).run Tryz.prog w
  = .ok (.agg #[.pointer (some ⟨14,190,none⟩),.pointer (some ⟨w.heap.size,0,none⟩),.int .u64 150]) (w.alloc (.cells #[.pointer (some t)] 190)):=by kernel_rfl
theorem Xl3 (a:Addr) (w:World):(ReflectliteValue.methodAny (ReflectliteValue.valueError "reflectlite.Value.Type" 0) (fun t _ _ _=>ReflectliteType.toType t) #[.agg #[.pointer (some ⟨14,190,none⟩),.pointer (some a),.int .u64 150]]).run Tryz.prog w
  = .ok (.iface 167 (.agg #[.pointer (some ⟨14,190,none⟩)])) w:=by kernel_rfl
theorem Xl1 (w:World):((ReflectliteType.abiMethod fun t=>(fun a:Nat=>Value.int IntKind.u8 (a:Int)) <$> Rtype.kind t) #[.pointer (some ⟨14,190,none⟩)]).run Tryz.prog w=.ok (.int .u8 22) w:=by kernel_rfl
theorem Xl0 (w:World):((ReflectliteType.abiMethod fun t=>(fun a:Nat=>Value.int IntKind.u8 (a:Int)) <$> Rtype.kind t) #[.pointer (some ⟨14,189,none⟩)]).run Tryz.prog w=.ok (.int .u8 22) w:=by kernel_rfl
theorem XgA (a:Addr) (w:World):(ReflectliteValue.parts (.agg #[.pointer (some ⟨14,190,none⟩),.pointer (some a),.int .u64 150])).run Tryz.prog w=.ok (some (190,a,150)) w:=by kernel_rfl
theorem XkG (a p:Addr) (W:World) (ha:W.cell? a=some (.pointer (some p))) :
  (ReflectliteValue.method (ReflectliteValue.valueError "reflectlite.Value.IsNil" 0) ReflectliteValue.isNil #[.agg #[.pointer (some ⟨14,190,none⟩),.pointer (some a),.int .u64 150]]).run Tryz.prog W=.ok (.bool false) W:=by
 rw [Xt4]
 simp only [Sem.run_bind,XgA,Result.andThen]
 simp [ReflectliteValue.isNil,loadVar,isAgg,underlying,Tryz.underlying190,ha,Result.andThen]
theorem XlV (w:World):(ReflectliteType.method ReflectliteType.elem #[.agg #[.pointer (some ⟨14,190,none⟩)]]).run Tryz.prog w=.ok (.iface 167 (.agg #[.pointer (some ⟨14,189,none⟩)])) w:=by kernel_rfl
theorem XlX (w:World):(ReflectliteType.relation "Implements" ReflectliteType.implements_ #[.agg #[.pointer (some ⟨14,189,none⟩)],.iface 167 (.agg #[.pointer (some ⟨14,55,none⟩)])]).run Tryz.prog w=.ok (.bool true) w:=by kernel_rfl
theorem Xiy (w:World):(ReflectliteType.relation "AssignableTo" ReflectliteType.assignableTo #[.agg #[.pointer (some ⟨14,189,none⟩)],.iface 167 (.agg #[.pointer (some ⟨14,189,none⟩)])]).run Tryz.prog w=.ok (.bool true) w:=by kernel_rfl
theorem XhC (e:Addr) (w:World):(ReflectliteValue.unpack (.iface 189 (.pointer (some e)))).run Tryz.prog w
  = .ok (.agg #[.pointer (some ⟨14,189,none⟩),.pointer (some ⟨w.heap.size,0,none⟩),.int .u64 150]) (w.alloc (.cells #[.pointer (some e)] 189)):=by kernel_rfl
theorem XiC (w:World):(Rtype.elem? 190).run Tryz.prog w=.ok (some 189) w:=by kernel_rfl
theorem XqC (p:Addr) (w:World):(ReflectliteValue.mk 189 p ReflectliteValue.flagAddr).run Tryz.prog w=.ok (.agg #[.pointer (some ⟨14,189,none⟩),.pointer (some p),.int .u64 406]) w:=by kernel_rfl
theorem XkE (a p:Addr) (W:World) (ha:W.cell? a=some (.pointer (some p))) :
  (ReflectliteValue.method (ReflectliteValue.valueError "reflectlite.Value.Elem" 0) ReflectliteValue.elem #[.agg #[.pointer (some ⟨14,190,none⟩),.pointer (some a),.int .u64 150]]).run Tryz.prog W
   = .ok (.agg #[.pointer (some ⟨14,189,none⟩),.pointer (some p),.int .u64 406]) W:=by
 rw [Xt4]
 simp only [Sem.run_bind,XgA,Result.andThen]
 simp [ReflectliteValue.elem,loadVar,isAgg,underlying,Tryz.underlying190,ha,Result.andThen,XiC,XqC]
theorem XiE (a:Addr) (w:World):(ReflectliteValue.parts (.agg #[.pointer (some ⟨14,189,none⟩),.pointer (some a),.int .u64 406])).run Tryz.prog w=.ok (some (189,a,406)) w:=by kernel_rfl
theorem XkI (a:Addr) (w:World):(ReflectliteValue.parts (.agg #[.pointer (some ⟨14,189,none⟩),.pointer (some a),.int .u64 150])).run Tryz.prog w=.ok (some (189,a,150)) w:=by kernel_rfl
theorem XiA (w:World):(Rtype.directlyAssignable 189 189).run Tryz.prog w=.ok true w:=by kernel_rfl
theorem Xok (ta b e:Addr) (old:Value) (W:World) (hb:W.cell? b=some (.pointer (some e))) (ht:W.cell? ta=some old) (hf:W.frozen? ta=false) :
  (ReflectliteValue.set #[.agg #[.pointer (some ⟨14,189,none⟩),.pointer (some ta),.int .u64 406],.agg #[.pointer (some ⟨14,189,none⟩),.pointer (some b),.int .u64 150]]).run Tryz.prog W
   = .ok (.tuple #[]) (W.setCell ta (.pointer (some e))):=by
 rw [XpL]
 simp only [Sem.run_bind,XiE,XkI,Result.andThen]
 simp [ReflectliteValue.flagAddr,loadVar,isAgg,underlying,Tryz.underlying189,hb,Result.andThen,XiA,storeVar,Value.cells,storeCells,Addr.add]
 rw [run_store Tryz.prog W ta _ _ (by rfl)]
 simp [ht,hf]
open Go.RowKit Go.Extern.Stop Go.Stop Go.Extern
theorem Xoi (e t:Addr) (old:Value) (w:World) (hg:Gw w) (ht0:w.cell? t=some old) (hf0:w.frozen? t=false) :
  Calls Tryz.prog 18 #[.iface 189 (.pointer (some e)),.iface 190 (.pointer (some t))] w fun ev w'=>ev=.returned (.bool true)∧w'=((((w.alloc (.cells #[.pointer (some t)] 190)).alloc (.cells #[.pointer (some ⟨14,190,none⟩),.pointer (some ⟨w.heap.size,0,none⟩),.int .u64 150] 116)).alloc (.cells #[.pointer (some ⟨14,190,none⟩),.pointer (some ⟨w.heap.size,0,none⟩),.int .u64 150] 116)).alloc (.cells #[.pointer (some e)] 189)).setCell t (.pointer (some e)):=by
 replace hg:=hg.errs
 have h6:=@run_callFunc_extern Tryz.prog 45 _ (fun args=>ReflectliteValue.unpack (args.getD 0 (.tuple #[]))) Tryz.func45 (by kernel_rfl) (by kernel_rfl) (by kernel_rfl) (by kernel_rfl);have h7:=@run_callFunc_extern Tryz.prog 46 _ (ReflectliteValue.methodAny (ReflectliteValue.valueError "reflectlite.Value.Type" 0) (fun t _ _ _=>ReflectliteType.toType t)) Tryz.func46 (by kernel_rfl) (by kernel_rfl) (by kernel_rfl) (by kernel_rfl);have h8:=@run_callFunc_extern Tryz.prog 47 _ (ReflectliteValue.method (ReflectliteValue.valueError "reflectlite.Value.IsNil" 0) ReflectliteValue.isNil) Tryz.func47 (by kernel_rfl) (by kernel_rfl) (by kernel_rfl) (by kernel_rfl);have h27:=@run_callFunc_extern Tryz.prog 232 _ (ReflectliteType.abiMethod fun t=>do pure (.int .u8 (←Rtype.kind t))) Tryz.func232 (by kernel_rfl) (by kernel_rfl) (by kernel_rfl) (by kernel_rfl);have h37:=@run_callFunc_extern Tryz.prog 243 _ (ReflectliteType.method ReflectliteType.elem) Tryz.func243 (by kernel_rfl) (by kernel_rfl) (by kernel_rfl) (by kernel_rfl);have h38:=@run_callFunc_extern Tryz.prog 244 _ (ReflectliteType.relation "Implements" ReflectliteType.implements_) Tryz.func244 (by kernel_rfl) (by kernel_rfl) (by kernel_rfl) (by kernel_rfl);have h10:=@run_callFunc_extern Tryz.prog 86 _ ReflectliteType.typeOf Tryz.func86 (by kernel_rfl) (by kernel_rfl) (by kernel_rfl) (by kernel_rfl);have h35:=@run_callFunc_extern Tryz.prog 241 _ (ReflectliteType.relation "AssignableTo" ReflectliteType.assignableTo) Tryz.func241 (by kernel_rfl) (by kernel_rfl) (by kernel_rfl) (by kernel_rfl);have h11:=@run_callFunc_extern Tryz.prog 88 _ (ReflectliteValue.method (ReflectliteValue.valueError "reflectlite.Value.Elem" 0) ReflectliteValue.elem) Tryz.func88 (by kernel_rfl) (by kernel_rfl) (by kernel_rfl) (by kernel_rfl);have h12:=@run_callFunc_extern Tryz.prog 89 _ ReflectliteValue.set Tryz.func89 (by kernel_rfl) (by kernel_rfl) (by kernel_rfl) (by kernel_rfl)
 have tO:=XfJ
 have mA:=XdE
 have a25:=Xiy
 have v25:=XhC
 have f6:=XhD
 have f7:=Xl3
 have mK:=Xeq
 have mE:=Xeo
 have mI:=Xep
 have k27:=Xl1
 have k25:=Xl0
 have e27:=XlV
 have i25:=XlX
 have n8:=XkG ⟨w.heap.size,0,none⟩ t ((w.alloc (.cells #[.pointer (some t)] 190)).alloc (.cells #[.pointer (some ⟨14,190,none⟩),.pointer (some ⟨w.heap.size,0,none⟩),.int .u64 150] 116)) (by simp)
 have hlt:7 < w.heap.size:=World.block_lt_of_cell? w _ hg
 have hg2:((w.alloc (.cells #[.pointer (some t)] 190)).alloc (.cells #[.pointer (some ⟨14,190,none⟩),.pointer (some ⟨w.heap.size,0,none⟩),.int .u64 150] 116)).cell? ⟨7,0,none⟩=some (.iface 167 (.agg #[.pointer (some ⟨14,55,none⟩)])):=by
  rw [World.cell?_alloc_lt _ _ ⟨7,0,none⟩ (by simp<;>omega),World.cell?_alloc_lt _ _ ⟨7,0,none⟩ hlt];exact hg
 have htl:t.block < w.heap.size:=World.block_lt_of_cell? w _ ht0
 have el:=XkE ⟨w.heap.size,0,none⟩ t (((w.alloc (.cells #[.pointer (some t)] 190)).alloc (.cells #[.pointer (some ⟨14,190,none⟩),.pointer (some ⟨w.heap.size,0,none⟩),.int .u64 150] 116)).alloc (.cells #[.pointer (some ⟨14,190,none⟩),.pointer (some ⟨w.heap.size,0,none⟩),.int .u64 150] 116)) (by rw [World.cell?_alloc_lt _ _ ⟨w.heap.size,0,none⟩ (by simp;omega)];simp)
 have st:=Xok t ⟨w.heap.size+1+1+1,0,none⟩ e old ((((w.alloc (.cells #[.pointer (some t)] 190)).alloc (.cells #[.pointer (some ⟨14,190,none⟩),.pointer (some ⟨w.heap.size,0,none⟩),.int .u64 150] 116)).alloc (.cells #[.pointer (some ⟨14,190,none⟩),.pointer (some ⟨w.heap.size,0,none⟩),.int .u64 150] 116)).alloc (.cells #[.pointer (some e)] 189))
  (by rw [World.cell?_alloc_at _ _ _ _ (by simp)];rfl)
  (by rw [World.cell?_alloc_lt _ _ t (by simp;omega),World.cell?_alloc_lt _ _ t (by simp;omega),World.cell?_alloc_lt _ _ t (by simp;omega),World.cell?_alloc_lt _ _ t htl];exact ht0)
  (by rw [World.frozen?_alloc_old _ _ t (by simp;omega),World.frozen?_alloc_old _ _ t (by simp;omega),World.frozen?_alloc_old _ _ t (by simp;omega),World.frozen?_alloc_old _ _ t (Nat.ne_of_lt htl)];exact hf0)
 go_enter Tryz.func18,Tryz.ntmps18
 go_wp2
 refine wp_loop_rounds 1 ?_
 rw [rounds_succ]
 go_wp2
 go_ret
 exact ⟨rfl,rfl⟩
theorem XqA (b:Nat) (c:Int) (t:Addr) (old:Value) (w:World) (hg:Gw w) (hb0:w.cell? ⟨b,2,none⟩=some (.iface 187 (.int .i64 c))) (ht0:w.cell? t=some old) (hf0:w.frozen? t=false) :
  Calls Tryz.prog 18 #[.iface 189 (.pointer (some ⟨b,0,none⟩)),.iface 188 (.pointer (some t))] w fun ev w'=>ev=.returned (.bool true)∧w'=((((w.alloc (.cells #[.pointer (some t)] 188)).alloc (.cells #[.pointer (some ⟨14,188,none⟩),.pointer (some ⟨w.heap.size,0,none⟩),.int .u64 150] 116)).alloc (.cells #[.pointer (some ⟨14,188,none⟩),.pointer (some ⟨w.heap.size,0,none⟩),.int .u64 150] 116)).alloc (.cells #[.int .i64 c] 187)).setCell t (.int .i64 c):=by
 replace hg:=hg.errs
 have h6:=@run_callFunc_extern Tryz.prog 45 _ (fun args=>ReflectliteValue.unpack (args.getD 0 (.tuple #[]))) Tryz.func45 (by kernel_rfl) (by kernel_rfl) (by kernel_rfl) (by kernel_rfl);have h7:=@run_callFunc_extern Tryz.prog 46 _ (ReflectliteValue.methodAny (ReflectliteValue.valueError "reflectlite.Value.Type" 0) (fun t _ _ _=>ReflectliteType.toType t)) Tryz.func46 (by kernel_rfl) (by kernel_rfl) (by kernel_rfl) (by kernel_rfl);have h8:=@run_callFunc_extern Tryz.prog 47 _ (ReflectliteValue.method (ReflectliteValue.valueError "reflectlite.Value.IsNil" 0) ReflectliteValue.isNil) Tryz.func47 (by kernel_rfl) (by kernel_rfl) (by kernel_rfl) (by kernel_rfl);have h27:=@run_callFunc_extern Tryz.prog 232 _ (ReflectliteType.abiMethod fun t=>do pure (.int .u8 (←Rtype.kind t))) Tryz.func232 (by kernel_rfl) (by kernel_rfl) (by kernel_rfl) (by kernel_rfl);have h37:=@run_callFunc_extern Tryz.prog 243 _ (ReflectliteType.method ReflectliteType.elem) Tryz.func243 (by kernel_rfl) (by kernel_rfl) (by kernel_rfl) (by kernel_rfl);have h38:=@run_callFunc_extern Tryz.prog 244 _ (ReflectliteType.relation "Implements" ReflectliteType.implements_) Tryz.func244 (by kernel_rfl) (by kernel_rfl) (by kernel_rfl) (by kernel_rfl);have h10:=@run_callFunc_extern Tryz.prog 86 _ ReflectliteType.typeOf Tryz.func86 (by kernel_rfl) (by kernel_rfl) (by kernel_rfl) (by kernel_rfl);have h35:=@run_callFunc_extern Tryz.prog 241 _ (ReflectliteType.relation "AssignableTo" ReflectliteType.assignableTo) Tryz.func241 (by kernel_rfl) (by kernel_rfl) (by kernel_rfl) (by kernel_rfl);have h11:=@run_callFunc_extern Tryz.prog 88 _ (ReflectliteValue.method (ReflectliteValue.valueError "reflectlite.Value.Elem" 0) ReflectliteValue.elem) Tryz.func88 (by kernel_rfl) (by kernel_rfl) (by kernel_rfl) (by kernel_rfl);have h12:=@run_callFunc_extern Tryz.prog 89 _ ReflectliteValue.set Tryz.func89 (by kernel_rfl) (by kernel_rfl) (by kernel_rfl) (by kernel_rfl)
 have tO:=XfJ
 have tO2:=XiF
 have mA:=XdE
 have mU:=XfI
 have nA:=XqD
 have hU:=Xhz
 have a24:=Xix
 have a25:=Xiw
 have v25:=XhA
 have f6:=XhB
 have f7:=Xl2
 have mK:=Xeq
 have mE:=Xeo
 have mI:=Xep
 have k27:=XlZ
 have k25:=XlY
 have e27:=XlU
 have i25:=XlW
 have n8:=XkF ⟨w.heap.size,0,none⟩ t ((w.alloc (.cells #[.pointer (some t)] 188)).alloc (.cells #[.pointer (some ⟨14,188,none⟩),.pointer (some ⟨w.heap.size,0,none⟩),.int .u64 150] 116)) (by simp)
 have hlt:7 < w.heap.size:=World.block_lt_of_cell? w _ hg
 have hg2:((w.alloc (.cells #[.pointer (some t)] 188)).alloc (.cells #[.pointer (some ⟨14,188,none⟩),.pointer (some ⟨w.heap.size,0,none⟩),.int .u64 150] 116)).cell? ⟨7,0,none⟩=some (.iface 167 (.agg #[.pointer (some ⟨14,55,none⟩)])):=by
  rw [World.cell?_alloc_lt _ _ ⟨7,0,none⟩ (by simp<;>omega),World.cell?_alloc_lt _ _ ⟨7,0,none⟩ hlt];exact hg
 have htl:t.block < w.heap.size:=World.block_lt_of_cell? w _ ht0
 have hbl:b < w.heap.size:=World.block_lt_of_cell? w _ hb0
 have hb2:(((w.alloc (.cells #[.pointer (some t)] 188)).alloc (.cells #[.pointer (some ⟨14,188,none⟩),.pointer (some ⟨w.heap.size,0,none⟩),.int .u64 150] 116)).alloc (.cells #[.pointer (some ⟨14,188,none⟩),.pointer (some ⟨w.heap.size,0,none⟩),.int .u64 150] 116)).cell? ⟨b,2,none⟩=some (.iface 187 (.int .i64 c)):=by
  rw [World.cell?_alloc_lt _ _ ⟨b,2,none⟩ (by simp;omega),World.cell?_alloc_lt _ _ ⟨b,2,none⟩ (by simp;omega),World.cell?_alloc_lt _ _ ⟨b,2,none⟩ hbl];exact hb0
 have el:=XkD ⟨w.heap.size,0,none⟩ t (((w.alloc (.cells #[.pointer (some t)] 188)).alloc (.cells #[.pointer (some ⟨14,188,none⟩),.pointer (some ⟨w.heap.size,0,none⟩),.int .u64 150] 116)).alloc (.cells #[.pointer (some ⟨14,188,none⟩),.pointer (some ⟨w.heap.size,0,none⟩),.int .u64 150] 116)) (by rw [World.cell?_alloc_lt _ _ ⟨w.heap.size,0,none⟩ (by simp;omega)];simp)
 have st:=Xoj t ⟨w.heap.size+1+1+1,0,none⟩ c old ((((w.alloc (.cells #[.pointer (some t)] 188)).alloc (.cells #[.pointer (some ⟨14,188,none⟩),.pointer (some ⟨w.heap.size,0,none⟩),.int .u64 150] 116)).alloc (.cells #[.pointer (some ⟨14,188,none⟩),.pointer (some ⟨w.heap.size,0,none⟩),.int .u64 150] 116)).alloc (.cells #[.int .i64 c] 187))
  (by rw [World.cell?_alloc_at _ _ _ _ (by simp)];rfl)
  (by rw [World.cell?_alloc_lt _ _ t (by simp;omega),World.cell?_alloc_lt _ _ t (by simp;omega),World.cell?_alloc_lt _ _ t (by simp;omega),World.cell?_alloc_lt _ _ t htl];exact ht0)
  (by rw [World.frozen?_alloc_old _ _ t (by simp;omega),World.frozen?_alloc_old _ _ t (by simp;omega),World.frozen?_alloc_old _ _ t (by simp;omega),World.frozen?_alloc_old _ _ t (Nat.ne_of_lt htl)];exact hf0)
 clear hb0
 go_enter Tryz.func18,Tryz.ntmps18
 go_wp2
 refine wp_loop_rounds 2 ?_
 rw [rounds_succ]
 go_wp2
 rw [rounds_succ]
 go_wp2
 go_ret
 exact ⟨rfl,rfl⟩
theorem al4 (w:World) (o1 o2 o3 o4:Obj):Ext w ((((w.alloc o1).alloc o2).alloc o3).alloc o4):=(((Ext.al _ _).tr (Ext.al _ _)).tr (Ext.al _ _)).tr (Ext.al _ _)
theorem XlT (b t:Nat) (v0 v1 old:Value) (c:Int) (R:List Hp):XaM Tryz.prog 18 (.box t [.x old] :: .box b [.x v0,.x v1,.x (.iface 187 (.int .i64 c))] :: R) [.x (.iface 189 (.pointer (some ⟨b,0,none⟩))),.x (.iface 188 (.pointer (some ⟨t,0,none⟩)))] fun r H'=>r=.x (.bool true)∧H'=.box t [.x (.int .i64 c)] :: .box b [.x v0,.x v1,.x (.iface 187 (.int .i64 c))] :: R:=by
 refine XfG (args:=[_,_]) rfl fun w hg hR ht hf=>?_
 refine (XqA b c ⟨t,0,none⟩ old w hg (hR b [v0,v1,_] (List.mem_cons_self ..) 2 _ rfl) ht hf).mono ?_
 rintro e w' ⟨rfl,rfl⟩
 exact ⟨rfl,_,al4 _ _ _ _ _,rfl⟩
theorem XkJ (b t:Nat) (old:Value) (R:List Hp):XaM Tryz.prog 18 (.box t [.x old] :: R) [.x (.iface 189 (.pointer (some ⟨b,0,none⟩))),.x (.iface 190 (.pointer (some ⟨t,0,none⟩)))] fun r H'=>r=.x (.bool true)∧H'=.box t [.x (.pointer (some ⟨b,0,none⟩))] :: R:=by
 refine XfG (args:=[_,_]) rfl fun w hg hR ht hf=>?_
 refine (Xoi ⟨b,0,none⟩ ⟨t,0,none⟩ old w hg ht hf).mono ?_
 rintro e w' ⟨rfl,rfl⟩
 exact ⟨rfl,_,al4 _ _ _ _ _,rfl⟩
end Go.Proofs.YtdlblokjfoggpaaGreatDoor

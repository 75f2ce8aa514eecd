import Derived.Test.YtdlblokjfoggpaaGreatDoorW25
import Derived.Test.YtdlblokjfoggpaaGreatDoorW6
import Derived.WalkKit
import Derived.LaidEql
import Derived.Stop.Asserts
import Derived.RowKitTokens
import Derived.Test.YtdlblokjfoggpaaGreatDoorW7
import Derived.Test.YtdlblokjfoggpaaGreatDoorW10
import Derived.Test.YtdlblokjfoggpaaGreatDoorW24
import Derived.Test.YtdlblokjfoggpaaGreatDoorW11
import Derived.Test.YtdlblokjfoggpaaGreatDoorW9
/- errors.As at a **check.jobError: err is a *check.jobError. -/
set_option linter.unusedSimpArgs false
set_option linter.unusedVariables false
set_option maxRecDepth 100000
set_option maxHeartbeats 8000000
namespace Go.Proofs.YtdlblokjfoggpaaGreatDoor
open Go.RowKit Go.Extern.Stop Go.Stop Go.Extern
theorem Xu2 (z:Sem Value) (f:TypeId→Addr→Nat→Nat→Sem Value) (v:Value) :
  ReflectliteValue.method z f #[v]=(do match ←ReflectliteValue.parts v with|none=>z|some (t,a,fl)=>f t a fl (fl % 32)):=rfl
theorem Xsw (v x:Value):ReflectliteValue.set #[v,x]=(do
  let (some (dst,a,fl),some (src,b,_)):=(←ReflectliteValue.parts v,←ReflectliteValue.parts x)
   | unsupported (.noEntry "extern/(internal/reflectlite.Value).Set.zeroValue")
  if fl / ReflectliteValue.flagAddr % 2 == 0 then unsupported (.noEntry "extern/(internal/reflectlite.Value).Set.unaddressable")
  let val ←loadVar src b
  if ←Rtype.directlyAssignable dst src then storeVar dst a val
  else if ←Rtype.implements dst src then
   if (←Rtype.kind src) == 20 then
    match val with
    | .nilIface=>unsupported (.noEntry "extern/reflectlite: a nil value of one interface type handed on as a value of another")
    | _=>storeVar dst a val
   else storeVar dst a (.iface src val)
  else panicString ("reflectlite.Set: value of type "++(←Rtype.spelt src)++ " is not assignable to type "++(←Rtype.spelt dst))
  pure (.tuple #[])):=rfl
theorem XgT (h:Value) (w:World):(Go.method 432 167 (.agg #[h]) "Kind").run Tryz.prog w=.ok (232,h) w:=by kernel_rfl
theorem XgR (h:Value) (w:World):(Go.method 432 167 (.agg #[h]) "Elem").run Tryz.prog w=.ok (243,.agg #[h]) w:=by kernel_rfl
theorem XgS (h:Value) (w:World):(Go.method 432 167 (.agg #[h]) "Implements").run Tryz.prog w=.ok (244,.agg #[h]) w:=by kernel_rfl
theorem XfH (h:Value) (w:World):(Go.method 432 167 (.agg #[h]) "AssignableTo").run Tryz.prog w=.ok (241,.agg #[h]) w:=by kernel_rfl
theorem Xiu (v:Value) (w:World):(ReflectliteType.typeOf #[.iface 58 v]).run Tryz.prog w=.ok (.iface 167 (.agg #[.pointer (some ⟨14,58,none⟩)])) w:=by kernel_rfl
theorem Xhx (t:Addr) (w:World):(ReflectliteValue.unpack (.iface 60 (.pointer (some t)))).run Tryz.prog w
  = .ok (.agg #[.pointer (some ⟨14,60,none⟩),.pointer (some ⟨w.heap.size,0,none⟩),.int .u64 150]) (w.alloc (.cells #[.pointer (some t)] 60)):=by kernel_rfl
theorem XlS (a:Addr) (w:World):(ReflectliteValue.methodAny (ReflectliteValue.valueError "reflectlite.Value.Type" 0) (fun t _ _ _=>ReflectliteType.toType t) #[.agg #[.pointer (some ⟨14,60,none⟩),.pointer (some a),.int .u64 150]]).run Tryz.prog w
  = .ok (.iface 167 (.agg #[.pointer (some ⟨14,60,none⟩)])) w:=by kernel_rfl
theorem XlR (w:World):((ReflectliteType.abiMethod fun t=>(fun a:Nat=>Value.int IntKind.u8 (a:Int)) <$> Rtype.kind t) #[.pointer (some ⟨14,60,none⟩)]).run Tryz.prog w=.ok (.int .u8 22) w:=by kernel_rfl
theorem XlQ (w:World):((ReflectliteType.abiMethod fun t=>(fun a:Nat=>Value.int IntKind.u8 (a:Int)) <$> Rtype.kind t) #[.pointer (some ⟨14,58,none⟩)]).run Tryz.prog w=.ok (.int .u8 22) w:=by kernel_rfl
theorem Xgy (a:Addr) (w:World):(ReflectliteValue.parts (.agg #[.pointer (some ⟨14,60,none⟩),.pointer (some a),.int .u64 150])).run Tryz.prog w=.ok (some (60,a,150)) w:=by kernel_rfl
theorem XkA (a p:Addr) (W:World) (ha:W.cell? a=some (.pointer (some p))) :
  (ReflectliteValue.method (ReflectliteValue.valueError "reflectlite.Value.IsNil" 0) ReflectliteValue.isNil #[.agg #[.pointer (some ⟨14,60,none⟩),.pointer (some a),.int .u64 150]]).run Tryz.prog W=.ok (.bool false) W:=by
 rw [Xu2]
 simp only [Sem.run_bind,Xgy,Result.andThen]
 simp [ReflectliteValue.isNil,loadVar,isAgg,underlying,Tryz.underlying60,ha,Result.andThen]
theorem XlO (w:World):(ReflectliteType.method ReflectliteType.elem #[.agg #[.pointer (some ⟨14,60,none⟩)]]).run Tryz.prog w=.ok (.iface 167 (.agg #[.pointer (some ⟨14,58,none⟩)])) w:=by kernel_rfl
theorem XlP (w:World):(ReflectliteType.relation "Implements" ReflectliteType.implements_ #[.agg #[.pointer (some ⟨14,58,none⟩)],.iface 167 (.agg #[.pointer (some ⟨14,55,none⟩)])]).run Tryz.prog w=.ok (.bool true) w:=by kernel_rfl
theorem Xiq (w:World):(ReflectliteType.relation "AssignableTo" ReflectliteType.assignableTo #[.agg #[.pointer (some ⟨14,58,none⟩)],.iface 167 (.agg #[.pointer (some ⟨14,58,none⟩)])]).run Tryz.prog w=.ok (.bool true) w:=by kernel_rfl
theorem Xhw (e:Addr) (w:World):(ReflectliteValue.unpack (.iface 58 (.pointer (some e)))).run Tryz.prog w
  = .ok (.agg #[.pointer (some ⟨14,58,none⟩),.pointer (some ⟨w.heap.size,0,none⟩),.int .u64 150]) (w.alloc (.cells #[.pointer (some e)] 58)):=by kernel_rfl
theorem Xis (w:World):(Rtype.elem? 60).run Tryz.prog w=.ok (some 58) w:=by kernel_rfl
theorem Xqz (p:Addr) (w:World):(ReflectliteValue.mk 58 p ReflectliteValue.flagAddr).run Tryz.prog w=.ok (.agg #[.pointer (some ⟨14,58,none⟩),.pointer (some p),.int .u64 406]) w:=by kernel_rfl
theorem Xkz (a p:Addr) (W:World) (ha:W.cell? a=some (.pointer (some p))) :
  (ReflectliteValue.method (ReflectliteValue.valueError "reflectlite.Value.Elem" 0) ReflectliteValue.elem #[.agg #[.pointer (some ⟨14,60,none⟩),.pointer (some a),.int .u64 150]]).run Tryz.prog W
   = .ok (.agg #[.pointer (some ⟨14,58,none⟩),.pointer (some p),.int .u64 406]) W:=by
 rw [Xu2]
 simp only [Sem.run_bind,Xgy,Result.andThen]
 simp [ReflectliteValue.elem,loadVar,isAgg,underlying,Tryz.underlying60,ha,Result.andThen,Xis,Xqz]
theorem Xit (a:Addr) (w:World):(ReflectliteValue.parts (.agg #[.pointer (some ⟨14,58,none⟩),.pointer (some a),.int .u64 406])).run Tryz.prog w=.ok (some (58,a,406)) w:=by kernel_rfl
theorem XkB (a:Addr) (w:World):(ReflectliteValue.parts (.agg #[.pointer (some ⟨14,58,none⟩),.pointer (some a),.int .u64 150])).run Tryz.prog w=.ok (some (58,a,150)) w:=by kernel_rfl
theorem Xir (w:World):(Rtype.directlyAssignable 58 58).run Tryz.prog w=.ok true w:=by kernel_rfl
theorem Xoh (ta b e:Addr) (old:Value) (W:World) (hb:W.cell? b=some (.pointer (some e))) (ht:W.cell? ta=some old) (hf:W.frozen? ta=false) :
  (ReflectliteValue.set #[.agg #[.pointer (some ⟨14,58,none⟩),.pointer (some ta),.int .u64 406],.agg #[.pointer (some ⟨14,58,none⟩),.pointer (some b),.int .u64 150]]).run Tryz.prog W
   = .ok (.tuple #[]) (W.setCell ta (.pointer (some e))):=by
 rw [Xsw]
 simp only [Sem.run_bind,Xit,XkB,Result.andThen]
 simp [ReflectliteValue.flagAddr,loadVar,isAgg,underlying,Tryz.underlying58,hb,Result.andThen,Xir,storeVar,Value.cells,storeCells,Addr.add]
 rw [run_store Tryz.prog W ta _ _ (by rfl)]
 simp [ht,hf]
theorem Xog (e t:Addr) (old:Value) (w:World) (hg:Gw w) (ht0:w.cell? t=some old) (hf0:w.frozen? t=false) :
  Calls Tryz.prog 18 #[.iface 58 (.pointer (some e)),.iface 60 (.pointer (some t))] w fun ev w'=>ev=.returned (.bool true)∧w'=((((w.alloc (.cells #[.pointer (some t)] 60)).alloc (.cells #[.pointer (some ⟨14,60,none⟩),.pointer (some ⟨w.heap.size,0,none⟩),.int .u64 150] 116)).alloc (.cells #[.pointer (some ⟨14,60,none⟩),.pointer (some ⟨w.heap.size,0,none⟩),.int .u64 150] 116)).alloc (.cells #[.pointer (some e)] 58)).setCell t (.pointer (some e)):=by
 replace hg:=hg.errs
 have h6:=@run_callFunc_extern Tryz.prog 45 _ (fun args=>ReflectliteValue.unpack (args.getD 0 (.tuple #[]))) Tryz.func45 (by kernel_rfl) (by kernel_rfl) (by kernel_rfl) (by kernel_rfl);have h7:=@run_callFunc_extern Tryz.prog 46 _ (ReflectliteValue.methodAny (ReflectliteValue.valueError "reflectlite.Value.Type" 0) (fun t _ _ _=>ReflectliteType.toType t)) Tryz.func46 (by kernel_rfl) (by kernel_rfl) (by kernel_rfl) (by kernel_rfl);have h8:=@run_callFunc_extern Tryz.prog 47 _ (ReflectliteValue.method (ReflectliteValue.valueError "reflectlite.Value.IsNil" 0) ReflectliteValue.isNil) Tryz.func47 (by kernel_rfl) (by kernel_rfl) (by kernel_rfl) (by kernel_rfl);have h27:=@run_callFunc_extern Tryz.prog 232 _ (ReflectliteType.abiMethod fun t=>do pure (.int .u8 (←Rtype.kind t))) Tryz.func232 (by kernel_rfl) (by kernel_rfl) (by kernel_rfl) (by kernel_rfl);have h37:=@run_callFunc_extern Tryz.prog 243 _ (ReflectliteType.method ReflectliteType.elem) Tryz.func243 (by kernel_rfl) (by kernel_rfl) (by kernel_rfl) (by kernel_rfl);have h38:=@run_callFunc_extern Tryz.prog 244 _ (ReflectliteType.relation "Implements" ReflectliteType.implements_) Tryz.func244 (by kernel_rfl) (by kernel_rfl) (by kernel_rfl) (by kernel_rfl);have h10:=@run_callFunc_extern Tryz.prog 86 _ ReflectliteType.typeOf Tryz.func86 (by kernel_rfl) (by kernel_rfl) (by kernel_rfl) (by kernel_rfl);have h35:=@run_callFunc_extern Tryz.prog 241 _ (ReflectliteType.relation "AssignableTo" ReflectliteType.assignableTo) Tryz.func241 (by kernel_rfl) (by kernel_rfl) (by kernel_rfl) (by kernel_rfl);have h11:=@run_callFunc_extern Tryz.prog 88 _ (ReflectliteValue.method (ReflectliteValue.valueError "reflectlite.Value.Elem" 0) ReflectliteValue.elem) Tryz.func88 (by kernel_rfl) (by kernel_rfl) (by kernel_rfl) (by kernel_rfl);have h12:=@run_callFunc_extern Tryz.prog 89 _ ReflectliteValue.set Tryz.func89 (by kernel_rfl) (by kernel_rfl) (by kernel_rfl) (by kernel_rfl)
 have tO:=Xiu
 have mA:=XfH
 have a25:=Xiq
 have v25:=Xhw
 have f6:=Xhx
 have f7:=XlS
 have mK:=XgT
 have mE:=XgR
 have mI:=XgS
 have k27:=XlR
 have k25:=XlQ
 have e27:=XlO
 have i25:=XlP
 have n8:=XkA ⟨w.heap.size,0,none⟩ t ((w.alloc (.cells #[.pointer (some t)] 60)).alloc (.cells #[.pointer (some ⟨14,60,none⟩),.pointer (some ⟨w.heap.size,0,none⟩),.int .u64 150] 116)) (by simp)
 have hlt:7 < w.heap.size:=World.block_lt_of_cell? w _ hg
 have hg2:((w.alloc (.cells #[.pointer (some t)] 60)).alloc (.cells #[.pointer (some ⟨14,60,none⟩),.pointer (some ⟨w.heap.size,0,none⟩),.int .u64 150] 116)).cell? ⟨7,0,none⟩=some (.iface 167 (.agg #[.pointer (some ⟨14,55,none⟩)])):=by
  rw [World.cell?_alloc_lt _ _ ⟨7,0,none⟩ (by simp<;>omega),World.cell?_alloc_lt _ _ ⟨7,0,none⟩ hlt];exact hg
 have htl:t.block < w.heap.size:=World.block_lt_of_cell? w _ ht0
 have el:=Xkz ⟨w.heap.size,0,none⟩ t (((w.alloc (.cells #[.pointer (some t)] 60)).alloc (.cells #[.pointer (some ⟨14,60,none⟩),.pointer (some ⟨w.heap.size,0,none⟩),.int .u64 150] 116)).alloc (.cells #[.pointer (some ⟨14,60,none⟩),.pointer (some ⟨w.heap.size,0,none⟩),.int .u64 150] 116)) (by rw [World.cell?_alloc_lt _ _ ⟨w.heap.size,0,none⟩ (by simp;omega)];simp)
 have st:=Xoh t ⟨w.heap.size+1+1+1,0,none⟩ e old ((((w.alloc (.cells #[.pointer (some t)] 60)).alloc (.cells #[.pointer (some ⟨14,60,none⟩),.pointer (some ⟨w.heap.size,0,none⟩),.int .u64 150] 116)).alloc (.cells #[.pointer (some ⟨14,60,none⟩),.pointer (some ⟨w.heap.size,0,none⟩),.int .u64 150] 116)).alloc (.cells #[.pointer (some e)] 58))
  (by rw [World.cell?_alloc_at _ _ _ _ (by simp)];rfl)
  (by rw [World.cell?_alloc_lt _ _ t (by simp;omega),World.cell?_alloc_lt _ _ t (by simp;omega),World.cell?_alloc_lt _ _ t (by simp;omega),World.cell?_alloc_lt _ _ t htl];exact ht0)
  (by rw [World.frozen?_alloc_old _ _ t (by simp;omega),World.frozen?_alloc_old _ _ t (by simp;omega),World.frozen?_alloc_old _ _ t (by simp;omega),World.frozen?_alloc_old _ _ t (Nat.ne_of_lt htl)];exact hf0)
 go_enter Tryz.func18,Tryz.ntmps18
 go_wp2
 refine wp_loop_rounds 1 ?_
 rw [rounds_succ]
 go_wp2
 go_ret
 exact ⟨rfl,rfl⟩
theorem Xsv (w:World) (o1 o2 o3 o4:Obj):Ext w ((((w.alloc o1).alloc o2).alloc o3).alloc o4):=(((Ext.al _ _).tr (Ext.al _ _)).tr (Ext.al _ _)).tr (Ext.al _ _)
theorem XkC (b t:Nat) (old:Value) (R:List Hp):XaM Tryz.prog 18 (.box t [.x old] :: R) [.x (.iface 58 (.pointer (some ⟨b,0,none⟩))),.x (.iface 60 (.pointer (some ⟨t,0,none⟩)))] fun r H'=>r=.x (.bool true)∧H'=.box t [.x (.pointer (some ⟨b,0,none⟩))] :: R:=by
 refine XfG (args:=[_,_]) rfl fun w hg hR ht hf=>?_
 refine (Xog ⟨b,0,none⟩ ⟨t,0,none⟩ old w hg ht hf).mono ?_
 rintro e w' ⟨rfl,rfl⟩
 exact ⟨rfl,_,Xsv _ _ _ _ _,rfl⟩
open Go.RowKit
def XcP:Nat→Int
 | 0=>1
 | 1=>5
 | 2=>4
 | 3=>2
 | 4=>52
 | 5=>120
 | 6=>70
 | _=>0
theorem XsI (ad:Nat→Addr) (hinj:Xfg ad) (i pb:Nat) (v0 v1:Value) (hi:i < 7):XaM Tryz.prog 17 [.box pb [.x v0,.x v1,.x (Xhg ad i)],.sen ad] [.x (.iface 58 (.pointer (some ⟨pb,0,none⟩)))] (fun r H'=>r=.x (.int .i64 (XcP i))∧H'=[.box pb [.x v0,.x v1,.x (Xhg ad i)],.sen ad]):=by
 have hIs:=fun j (hj:j < 7)=>XmN ad hinj i j pb v0 v1 hi hj []
 have hIs:=Lib.hid hIs
 refine Xbs Tryz.func17 Tryz.ntmps17 ?_
 (repeat' (first|refine Wkx.go ?_|refine XaJ ?_|refine XaG ?_|(refine XaE (fun h=>?_) (fun h=>?_)<;>first|(exact absurd h (by decide))|(exfalso;omega;done)|skip)|refine XaF ?_|refine Xai ?_ (h:=by first|exact fun _=>XfW|fail)|refine Xai ?_|(refine Xaa rfl ?_;(first|((refine Xa5 Tryz.func44 [_,_] rfl rfl (Xvt _) (hIs.out _ (by decide)) ?_;rintro _ _ ⟨rfl,rfl⟩);refine XaO ?_)|refine Xax ?_|refine Xaw ?_|refine Xav (fun ad cap=>?_)|refine Xat (fun b=>?_)|refine Xas (fun b=>?_)|refine Xau (fun b=>?_)|fail))|fail))
 all_goals first
  | (exfalso;omega)
  | (refine Xab _ _ (Xa0 rfl (RV.tmp _) (Xaq.mk' [] [_,_] (Xvt _) (Xap.refl _ _) (VwL.refl _ _))) ⟨?_,rfl⟩;first|(rw [show XcP i=XcP 0 from congrArg XcP (by omega)];rfl)|(rw [show XcP i=XcP 1 from congrArg XcP (by omega)];rfl)|(rw [show XcP i=XcP 2 from congrArg XcP (by omega)];rfl)|(rw [show XcP i=XcP 3 from congrArg XcP (by omega)];rfl)|(rw [show XcP i=XcP 4 from congrArg XcP (by omega)];rfl)|(rw [show XcP i=XcP 5 from congrArg XcP (by omega)];rfl)|(rw [show XcP i=XcP 6 from congrArg XcP (by omega)];rfl)|fail)
  | fail
def Xly (l:List JF):Int × Int × Int:=match Xe5 l with
 | none=>(0,0,0)
 | some (i,j)=>(XcP i,j.line,j.col)
theorem Xh0 (l:List JF):∀(t:List JF) (i:Nat) (e:Nat) (j:JF),XdB l i t=some (e,j)→e < 7
 | [],_,_,_,h=>by simp [XdB] at h
 | x :: t,i,e,j,h=>by
   rw [XdB] at h
   split at h
   ·rename_i e' he
    cases h
    exact Xrc he
   ·exact Xh0 l t _ _ _ h
theorem Xj4 {l:List JF} {e:Nat} {j:JF} (h:Xe5 l=some (e,j)):e < 7:=by
 unfold Xe5 Xe6 at h
 split at h
 ·rename_i x hx;cases h;exact Xh0 l _ _ _ _ hx
 ·split at h
  ·cases h
  ·obtain ⟨y,_,hy⟩:=Option.map_eq_some_iff.1 h
   cases hy;decide
theorem Xme (ad:Nat→Addr) (hinj:Xfg ad) (l:List JF) (hl:l.length≤32) (hj:∀j∈l,Xt1 j):XaM Tryz.prog 6 [.sen ad] [.sq l.length (jfa l)] (fun r H'=>r=.x (.agg #[.int .i64 (Xly l).1,.int .i64 (Xly l).2.1,.int .i64 (Xly l).2.2])∧H'=[.sen ad]):=by
 have h1:=Xth ad l hl hj
 unfold Xly
 cases hE:Xe5 l with
 | none=>
   rw [hE] at h1
   unfold Xqw at h1
   have h1:=Lib.hid h1
   refine Xbs Tryz.func6 Tryz.ntmps6 ?_
   (repeat' (first|refine Wkx.go ?_|refine XaJ ?_|refine XaG ?_|(refine XaE (fun h=>?_) (fun h=>?_)<;>first|(exact absurd h (by decide))|(exfalso;omega;done)|skip)|refine XaF ?_|refine Xai ?_|(refine Xaa rfl ?_;(first|((refine Xa5 Tryz.func16 [_] rfl rfl (by (repeat' (first|exact Xvt _|exact List.Perm.nil|refine XvJ _ ?_|refine (XvG (l₁:=[_])).trans (XvJ _ ?_)|refine (XvG (l₁:=[_,_])).trans (XvJ _ ?_)|refine (XvG (l₁:=[_,_,_])).trans (XvJ _ ?_)|refine (XvG (l₁:=[_,_,_,_])).trans (XvJ _ ?_)|refine (XvG (l₁:=[_,_,_,_,_])).trans (XvJ _ ?_)|refine (XvG (l₁:=[_,_,_,_,_,_])).trans (XvJ _ ?_)|refine (XvG (l₁:=[_,_,_,_,_,_,_])).trans (XvJ _ ?_)|refine (XvG (l₁:=[_,_,_,_,_,_,_,_])).trans (XvJ _ ?_)))) h1.out ?_;rintro _ _ ⟨rfl,rfl⟩);refine XaO ?_)|refine Xax ?_|refine Xaw ?_|refine Xav (fun ad cap=>?_)|refine Xat (fun b=>?_)|refine Xas (fun b=>?_)|refine Xau (fun b=>?_)|fail))|fail))
   refine Xab _ _ (Xa0 rfl (RV.cell 1 rfl rfl XaR.out (by simp) (by simp)) (Xaq.mk' [.box _ _] [.sen ad] (by (repeat' (first|exact Xvt _|exact List.Perm.nil|refine XvJ _ ?_|refine (XvG (l₁:=[_])).trans (XvJ _ ?_)|refine (XvG (l₁:=[_,_])).trans (XvJ _ ?_)|refine (XvG (l₁:=[_,_,_])).trans (XvJ _ ?_)|refine (XvG (l₁:=[_,_,_,_])).trans (XvJ _ ?_)|refine (XvG (l₁:=[_,_,_,_,_])).trans (XvJ _ ?_)|refine (XvG (l₁:=[_,_,_,_,_,_])).trans (XvJ _ ?_)|refine (XvG (l₁:=[_,_,_,_,_,_,_])).trans (XvJ _ ?_)|refine (XvG (l₁:=[_,_,_,_,_,_,_,_])).trans (XvJ _ ?_)))) (Xap.refl _ _) (VwL.refl _ _))) ⟨rfl,rfl⟩
 | some x=>
   obtain ⟨i,j⟩:=x
   have hi:=Xj4 hE
   rw [hE] at h1
   unfold Xqw at h1
   have h1:=Lib.hid h1
   have h2:=Lib.hid (fun b=>XsI ad hinj i b (.int .i64 j.line) (.int .i64 j.col) hi)
   have h3:=Lib.hid (fun b t=>XkC b t (.pointer none) [])
   refine Xbs Tryz.func6 Tryz.ntmps6 ?_
   (repeat' (first|refine Wkx.go ?_|refine XaG ?_|(refine XaE (fun h=>?_) (fun h=>?_)<;>first|(exact absurd h (by decide))|(exfalso;omega;done)|skip)|refine XaF ?_|refine Xai ?_|(refine Xaa rfl ?_;(first|((refine Xa5 Tryz.func16 [_] rfl rfl (by (repeat' (first|exact Xvt _|exact List.Perm.nil|refine XvJ _ ?_|refine (XvG (l₁:=[_])).trans (XvJ _ ?_)|refine (XvG (l₁:=[_,_])).trans (XvJ _ ?_)|refine (XvG (l₁:=[_,_,_])).trans (XvJ _ ?_)|refine (XvG (l₁:=[_,_,_,_])).trans (XvJ _ ?_)|refine (XvG (l₁:=[_,_,_,_,_])).trans (XvJ _ ?_)|refine (XvG (l₁:=[_,_,_,_,_,_])).trans (XvJ _ ?_)|refine (XvG (l₁:=[_,_,_,_,_,_,_])).trans (XvJ _ ?_)|refine (XvG (l₁:=[_,_,_,_,_,_,_,_])).trans (XvJ _ ?_)))) h1.out ?_;rintro _ _ ⟨b,rfl,rfl⟩);refine XaO ?_)|((refine Xa5 Tryz.func17 [_,_] rfl rfl (by (repeat' (first|exact Xvt _|exact List.Perm.nil|refine XvJ _ ?_|refine (XvG (l₁:=[_])).trans (XvJ _ ?_)|refine (XvG (l₁:=[_,_])).trans (XvJ _ ?_)|refine (XvG (l₁:=[_,_,_])).trans (XvJ _ ?_)|refine (XvG (l₁:=[_,_,_,_])).trans (XvJ _ ?_)|refine (XvG (l₁:=[_,_,_,_,_])).trans (XvJ _ ?_)|refine (XvG (l₁:=[_,_,_,_,_,_])).trans (XvJ _ ?_)|refine (XvG (l₁:=[_,_,_,_,_,_,_])).trans (XvJ _ ?_)|refine (XvG (l₁:=[_,_,_,_,_,_,_,_])).trans (XvJ _ ?_)))) (h2.out _) ?_;rintro _ _ ⟨rfl,rfl⟩);refine XaO ?_)|((refine Xa5 Tryz.func18 [_] rfl rfl (by (repeat' (first|exact Xvt _|exact List.Perm.nil|refine XvJ _ ?_|refine (XvG (l₁:=[_])).trans (XvJ _ ?_)|refine (XvG (l₁:=[_,_])).trans (XvJ _ ?_)|refine (XvG (l₁:=[_,_,_])).trans (XvJ _ ?_)|refine (XvG (l₁:=[_,_,_,_])).trans (XvJ _ ?_)|refine (XvG (l₁:=[_,_,_,_,_])).trans (XvJ _ ?_)|refine (XvG (l₁:=[_,_,_,_,_,_])).trans (XvJ _ ?_)|refine (XvG (l₁:=[_,_,_,_,_,_,_])).trans (XvJ _ ?_)|refine (XvG (l₁:=[_,_,_,_,_,_,_,_])).trans (XvJ _ ?_)))) (h3.out _ _) ?_;rintro _ _ ⟨rfl,rfl⟩);refine XaO ?_)|refine Xax ?_|refine Xaw ?_|refine Xav (fun ad cap=>?_)|refine Xat (fun b=>?_)|refine Xas (fun b=>?_)|refine Xau (fun b=>?_)|fail))|fail))
   rename_i b1 b2 _ b3
   refine XaP mixed [] [.box b _,.box b2 _] [.box b3 _,.sen ad,.box b1 _] (by (repeat' (first|exact Xvt _|exact List.Perm.nil|refine XvJ _ ?_|refine (XvG (l₁:=[_])).trans (XvJ _ ?_)|refine (XvG (l₁:=[_,_])).trans (XvJ _ ?_)|refine (XvG (l₁:=[_,_,_])).trans (XvJ _ ?_)|refine (XvG (l₁:=[_,_,_,_])).trans (XvJ _ ?_)|refine (XvG (l₁:=[_,_,_,_,_])).trans (XvJ _ ?_)|refine (XvG (l₁:=[_,_,_,_,_,_])).trans (XvJ _ ?_)|refine (XvG (l₁:=[_,_,_,_,_,_,_])).trans (XvJ _ ?_)|refine (XvG (l₁:=[_,_,_,_,_,_,_,_])).trans (XvJ _ ?_)))) ?_
   ((first|refine Xbj 0 ?_|refine Xbt 0 ?_);(first|refine Xbj 1 ?_|refine Xbt 1 ?_);(first|refine Xbj 2 ?_|refine Xbt 2 ?_);(first|refine Xbj 3 ?_|refine Xbt 3 ?_);(first|refine Xbj 4 ?_|refine Xbt 4 ?_);(first|refine Xbj 5 ?_|refine Xbt 5 ?_);(first|refine Xbj 6 ?_|refine Xbt 6 ?_);(first|refine Xbj 7 ?_|refine Xbt 7 ?_))
   (refine Xdd 8 ?_;(first|refine Xcb ?_|refine Xax ?_|refine Xaw ?_|refine Xav (fun ad cap=>?_)|refine Xat (fun b=>?_)|refine Xas (fun b=>?_)|refine Xau (fun b=>?_)|fail))
   (refine Xdd 9 ?_;(first|refine Xcb ?_|refine Xax ?_|refine Xaw ?_|refine Xav (fun ad cap=>?_)|refine Xat (fun b=>?_)|refine Xas (fun b=>?_)|refine Xau (fun b=>?_)|fail))
   (refine Xdd 10 ?_;(first|refine Xcb ?_|refine Xax ?_|refine Xaw ?_|refine Xav (fun ad cap=>?_)|refine Xat (fun b=>?_)|refine Xas (fun b=>?_)|refine Xau (fun b=>?_)|fail))
   (refine Xdd 11 ?_;(first|refine Xcb ?_|refine Xax ?_|refine Xaw ?_|refine Xav (fun ad cap=>?_)|refine Xat (fun b=>?_)|refine Xas (fun b=>?_)|refine Xau (fun b=>?_)|fail))
   refine XaV (by decide +kernel) ?_
   refine Xag rfl (by simp only [XvE,XvD];rfl) ?_
   refine Xar (by decide +kernel) ?_
   (repeat' (first|refine Wkx.go ?_|refine XaJ ?_|refine XaG ?_|(refine XaE (fun h=>?_) (fun h=>?_)<;>first|(exact absurd h (by decide))|(exfalso;omega;done)|skip)|refine XaF ?_|refine Xai ?_|(refine Xaa rfl ?_;(first|refine Xax ?_|refine Xaw ?_|refine Xav (fun ad cap=>?_)|refine Xat (fun b=>?_)|refine Xas (fun b=>?_)|refine Xau (fun b=>?_)|fail))|fail))
   refine Xab _ _ (Xa0 rfl (RV.cell 4 rfl rfl XaR.out (by simp) (by simp)) (Xaq.mk' [.box b _,.box b2 _,.box b3 _,.box b1 _] [.sen ad] (by (repeat' (first|exact Xvt _|exact List.Perm.nil|refine XvJ _ ?_|refine (XvG (l₁:=[_])).trans (XvJ _ ?_)|refine (XvG (l₁:=[_,_])).trans (XvJ _ ?_)|refine (XvG (l₁:=[_,_,_])).trans (XvJ _ ?_)|refine (XvG (l₁:=[_,_,_,_])).trans (XvJ _ ?_)|refine (XvG (l₁:=[_,_,_,_,_])).trans (XvJ _ ?_)|refine (XvG (l₁:=[_,_,_,_,_,_])).trans (XvJ _ ?_)|refine (XvG (l₁:=[_,_,_,_,_,_,_])).trans (XvJ _ ?_)|refine (XvG (l₁:=[_,_,_,_,_,_,_,_])).trans (XvJ _ ?_)))) (Xap.refl _ _) (VwL.refl _ _))) ⟨rfl,rfl⟩
theorem Xf7 {l:List JF}:∀(t:List JF) (i:Nat),XdB l i t=none→∀(k:Nat) (hk:k < t.length),XmR l (i+k) t[k]=none
 | [],_,_,k,hk=>absurd hk (Nat.not_lt_zero k)
 | j :: t,i,h,k,hk=>by
   rw [XdB] at h
   cases he:XmR l i j with
   | some e=>rw [he] at h;cases h
   | none=>
     rw [he] at h
     cases k with
     | zero=>exact he
     | succ k=>
       have:=Xf7 t (i+1) h k (by simpa using hk)
       rw [List.getElem_cons_succ,show i+(k+1)=i+1+k from by omega]
       exact this
theorem XeC {l:List JF} {i:Nat} {j:JF} (h:XmR l i j=none):(i:Int)≤XiV l j.name∧(∀n∈j.needs,0≤XiV l n)∧inR j=true∧(j.hasr=true→Xqb j.ready=none):=by
 unfold XmR at h
 split at h
 ·cases h
 split at h
 ·cases h
 split at h
 ·cases h
 rename_i h1 h2 h3
 refine ⟨by omega,fun n hn=>?_,by simpa using h3,fun hr=>?_⟩
 ·rw [List.any_eq_true] at h2
  have:=fun hx=>h2 ⟨n,hn,hx⟩
  simp at this
  omega
 ·rw [if_pos hr] at h;exact h
theorem Xk6 {l:List JF} (h:Xe5 l=none):(∀(k:Nat) (hk:k < l.length),XmR l k l[k]=none)∧cyc (l.map JF.toJA)=[]:=by
 unfold Xe5 at h
 cases hg:XdB l 0 l with
 | some x=>rw [hg] at h;cases h
 | none=>
   rw [hg] at h
   refine ⟨fun k hk=>by simpa using Xf7 l 0 hg k hk,?_⟩
   unfold Xe6 at h
   simp only at h
   cases hc:cyc (l.map JF.toJA) with
   | nil=>rfl
   | cons c t=>
     rw [hc] at h
     simp only at h
     have h1:=XpT (l.map JF.toJA) c (by rw [hc];exact List.mem_cons_self ..)
     rw [List.length_map] at h1
     rw [List.getElem?_eq_getElem (by omega)] at h
     cases h
theorem XmI (l:List JF) (k:Nat) (hk:k < l.length):XiV l l[k].name≤k:=by
 have hm:(l.map JF.toJA)[k]?=some l[k].toJA:=by rw [List.getElem?_map,List.getElem?_eq_getElem hk];rfl
 unfold XiV idx
 cases hf:(l.map JF.toJA).findIdx? (fun j=>j.name == l[k].name) with
 | none=>exact Int.le_trans (by decide:(-1:Int)≤0) (Int.natCast_nonneg k)
 | some a=>
   obtain ⟨h1,h2,h3⟩:=List.findIdx?_eq_some_iff_getElem.1 hf
   show (a:Int)≤k
   rcases Nat.lt_or_ge k a with h4|h4
   ·have:=h3 k h4
    obtain ⟨_,e⟩:=List.getElem?_eq_some_iff.1 hm
    rw [e] at this
    simp [JF.toJA] at this
   ·omega
structure Xvf (l:List JF):Prop where
 idx:∀(k:Nat) (hk:k < l.length),XiV l l[k].name=k
 needs:∀(k:Nat) (hk:k < l.length),∀n∈l[k].needs,0≤XiV l n
 cap:∀(k:Nat) (hk:k < l.length),l[k].base≤l[k].cap∧l[k].window≠0
 order:(ord (l.map JF.toJA)).length=l.length
 pat:∀(k:Nat) (hk:k < l.length),l[k].hasr=true→Xqb l[k].ready=none
theorem XqX {l:List JF} (h:Xe5 l=none):Xvf l:=by
 obtain ⟨h1,h2⟩:=Xk6 h
 refine ⟨fun k hk=>?_,fun k hk=>(XeC (h1 k hk)).2.1,fun k hk=>?_,?_,fun k hk=>(XeC (h1 k hk)).2.2.2⟩
 ·have e1:=(XeC (h1 k hk)).1
  have e2:=XmI l k hk
  omega
 ·have e1:=(XeC (h1 k hk)).2.2.1
  unfold inR at e1
  rw [Bool.and_eq_true,decide_eq_true_iff] at e1
  exact ⟨e1.1.1,e1.1.2.1⟩
 ·apply Classical.byContradiction
  intro hc
  have hr:=XjS (l.map JF.toJA) (by rw [List.length_map];exact hc)
  have:=hr.pos
  rw [h2] at this
  cases this
theorem Xot (l:List JF):(Xly l=(0,0,0)∧Xe5 l=none)∨((Xly l).1≠0∧Xe5 l≠none):=by
 unfold Xly
 cases h:Xe5 l with
 | none=>exact .inl ⟨rfl,rfl⟩
 | some x=>
   obtain ⟨i,j⟩:=x
   have hi:=Xj4 h
   refine .inr ⟨?_,by simp⟩
   show XcP i≠0
   match i,hi with
   | 0,_|1,_|2,_|3,_|4,_|5,_|6,_=>decide
theorem WInd_index_str {P:Program} {o:Oper} {ρ:Operand→AV} {H:List Hp} (t:TypeId) (x y:Operand) (k:IntKind) (i:Int) (j:Nat) (l:List UInt8) (ho:o.op=.index t x y) (hx:ρ x=.x (.string (bs l))) (hy:ρ y=.x (.int k i)) (ht:P.underlying t=some .string) (hi:i=(j:Int)) (h1:j < l.length):XeR P o ρ H (.x (.int .u8 (l.getD j 0).toNat)):=by
 subst hi
 intro V a w r
 have hg:(bs l)[j]?=some l[j]:=by rw [getElem?_pos (bs l) j (by simpa using h1)];simp
 refine ⟨.int .u8 (l.getD j 0).toNat,fun w'=>?_,by rw [Den]⟩
 have hrun:(Instr.index t (.string (bs l)) (.int k (j:Int))).run P w'=.ok (.int .u8 (l.getD j 0).toNat) w':=by simp [Instr.index,asIntOf,run_underlying ht,hg,h1,List.getD]
 simp [execOp,ho,r.evx (x:=x) (by simp [ho,Op.operands]) hx,r.evx (x:=y) (by simp [ho,Op.operands]) hy,hrun]
theorem Xq4 {α:Type} (s:List α) (k:Nat) (d:α) (h:k < s.length):s.getD k d=s[k]:=by simp [List.getD,h]
section
variable {P:Program} {Δ:List Deferred} {V O:Nat→Prop} {w0 w w':World} {H H' D:List Hp} {T T':List AV} {a:Act} {o:Oper} {ρ:Operand→AV} {Q:Xcl}
end
section
variable {P:Program} {H:List Hp} {T:List AV} {o:Oper} {ops:Array Oper} {Q:Xcl}
end
open Go.RowKit
section
variable {P:Program} {Δ:List Deferred} {V O:Nat→Prop} {w0 w w':World} {H H' D:List Hp} {T T':List AV} {a:Act} {o:Oper} {ops:Array Oper} {Q:Xcl}
def Xn8 (pv:Value):List PanicEntry:=[{ v:=pv,recovered:=false }]
def XcF (P:Program) (f:FuncId) (H:List Hp) (args:List AV) (Q:AV→List Hp→Prop) (QP:Value→List Hp→Prop):Prop:=
 ∀(V:Nat→Prop) (w:World) (vs:List Value),(∀k,V k→k < w.heap.size)→HOk V w H→DenL (FB V H) w args vs→GL (Xcm H) w →
  Calls P f vs.toArray w fun e w'=>(∃r H' v,Q r H'∧e=.returned v∧Den (FB V H') w' r v∧HOk V w' H'∧Fr (Xcm H) w w'∧∀h∈H',∀k,h.blk=some k→Xcm H k∨w.heap.size≤k) ∨
   ∃pv H',QP pv H'∧e=.panicked (Xn8 pv)∧HOk V w' H'∧Fr (Xcm H) w w'∧∀h∈H',∀k,h.blk=some k→Xcm H k∨w.heap.size≤k
theorem XcF.mono {f:FuncId} {args:List AV} {Q Q':AV→List Hp→Prop} {QP QP':Value→List Hp→Prop} (h:XcF P f H args Q QP) (hq:∀r H',Q r H'→Q' r H') (hp:∀v H',QP v H'→QP' v H'):XcF P f H args Q' QP':=fun V w vs h1 h2 h3 h4=>
 (h V w vs h1 h2 h3 h4).mono fun e w' he=>by
  rcases he with ⟨r,H',v,q,rest⟩|⟨pv,H',q,rest⟩
  ·exact .inl ⟨r,H',v,hq _ _ q,rest⟩
  ·exact .inr ⟨pv,H',hp _ _ q,rest⟩
theorem XaM.p {f:FuncId} {args:List AV} {Q:AV→List Hp→Prop} (h:XaM P f H args Q):XcF P f H args Q fun _ _=>False:=fun V w vs h1 h2 h3 h4=>(h V w vs h1 h2 h3 h4).mono fun e w' he=>.inl he
theorem XcF.no {f:FuncId} {args:List AV} {Q:AV→List Hp→Prop} (h:XcF P f H args Q fun _ _=>False):XaM P f H args Q:=fun V w vs h1 h2 h3 h4=>(h V w vs h1 h2 h3 h4).mono fun e w' he=>by
 rcases he with he|⟨pv,H',q,_⟩
 ·exact he
 ·exact q.elim
def Xt6 (P:Program) (fn:Func) (Q:AV→List Hp→Prop) (QP:Value→List Hp→Prop):Xcl
 | .panic ch,T,H=>∃pv H',ch=Xn8 pv∧Xaq H [] H' []∧QP pv H'
 | e,T,H=>XcQ P fn Q e T H
theorem Xc2 {fn:Func} {Q:AV→List Hp→Prop} {QP:Value→List Hp→Prop} (r:AV) (H':List Hp) (h:Res P fn T H r H') (q:Q r H'):Xt6 P fn Q QP .ret T H:=⟨.inl rfl,r,H',h,q⟩
theorem Xba {fn:Func} {Q:AV→List Hp→Prop} {QP:Value→List Hp→Prop} (r:AV) (H':List Hp) (h:Res P fn T H r H') (q:Q r H'):Xt6 P fn Q QP .normal T H:=⟨.inr rfl,r,H',h,q⟩
theorem Xan {fn:Func} {Q:AV→List Hp→Prop} {QP:Value→List Hp→Prop} (pv:Value) (H':List Hp) (h:Xaq H [] H' []) (q:QP pv H'):Xt6 P fn Q QP (.panic (Xn8 pv)) T H:=⟨pv,H',rfl,h,q⟩
theorem XbT {f:FuncId} {fn:Func} {c:Code} {args:List AV} {Q:AV→List Hp→Prop} {QP:Value→List Hp→Prop} (hf:P.funcs[f]?=some fn) (hb:fn.body=some c)
  (h:awp P c (Xt6 P fn Q QP) (args++List.replicate (fn.ntmps - args.length) .top) H):XcF P f H args Q QP:=by
 intro V w vs hV hH hd hgl
 have hlen:=hd.len
 refine calls_of_wp hf hb ?_
 have r:Rel [] V (Xcm H) w H (args++List.replicate (fn.ntmps - args.length) .top) { tmps:=vs.toArray++Array.replicate (fn.ntmps - vs.toArray.size) undef,defers:=[] } w:=by
  refine ⟨?_,hH,Fr.refl _ _,fun x hx k hk=>.inl ⟨x,hx,hk⟩,rfl,hV,hgl⟩
  simp only [Array.toList_append,Array.toList_replicate,List.size_toArray,hlen]
  refine hd.app (DenL.of (by simp) fun j av u h1 h2=>?_)
  rw [List.getElem?_replicate] at h1
  split at h1
  ·cases h1;rw [Den];trivial
  ·cases h1
 refine wp_mono (h [] V (Xcm H) w _ w r) ?_
 rintro e a' w' ⟨T',H1,r1,he⟩
 have hret:XcQ P fn Q e T' H1→(e=.ret∨e=.normal)→bodyPost P fn (fun e w'=>(∃r H' v,Q r H'∧e=.returned v∧Den (FB V H') w' r v∧HOk V w' H'∧Fr (Xcm H) w w'∧∀h∈H',∀k,h.blk=some k→Xcm H k∨w.heap.size≤k) ∨
   ∃pv H',QP pv H'∧e=.panicked (Xn8 pv)∧HOk V w' H'∧Fr (Xcm H) w w'∧∀h∈H',∀k,h.blk=some k→Xcm H k∨w.heap.size≤k) e a' w':=by
  rintro ⟨_,res,H',hres,hq⟩ he
  obtain ⟨v,g1,g2,g3,g4⟩:=hres [] V (Xcm H) w a' w' r1
  have:=(⟨res,H',v,hq,rfl,g2,g3,r1.fr,fun x hx k hk=>by obtain ⟨y,hy,e⟩:=g4 x hx k hk;exact r1.own y hy k e⟩:∃r H' v',Q r H'∧Ending.returned v=.returned v'∧Den (FB V H') w' r v'∧HOk V w' H'∧Fr (Xcm H) w w'∧∀h∈H',∀k,h.blk=some k→Xcm H k∨w.heap.size≤k)
  rcases he with rfl|rfl
  ·exact ⟨r1.defers,v,g1,.inl this⟩
  ·exact ⟨r1.defers,v,g1,.inl this⟩
 cases e with
 | panic ch=>
   obtain ⟨pv,H',rfl,hw,hq⟩:=he
   obtain ⟨k1,-,k3⟩:=Xed (vs:=[]) r1.hok (by rw [DenL]) hw
   exact ⟨r1.defers,.inr ⟨pv,H',hq,rfl,k1,r1.fr,fun x hx k hk=>by obtain ⟨y,hy,e⟩:=k3 x hx k hk;exact r1.own y hy k e⟩⟩
 | ret=>exact hret he (.inl rfl)
 | normal=>exact hret he (.inr rfl)
 | _=>rcases he.1 with h|h<;>cases h
theorem XjH {Kc:Act→World→Prop} {Qc:Exit→Act→World→Prop} {c:Operand} {args:Array Operand} {tys:Array TypeId} {f:FuncId} {fn:Func} {fs cs vs:Array Value} (ho:o.op=.call { callee:=.value c,args:=args,argTypes:=tys }) (hc:a.eval c=.func (.func f) fs cs)
  (hf:P.funcs[f]?=some fn) (hn:fn.name≠ "runtime.NumGoroutine") (hb:fn.body.isSome=true) (hv:fs++args.map a.eval++cs=vs)
  (h:Calls P f vs w fun e w'=>(∃v,e=.returned v∧Kc (a.put o.dst v) w')∨∃ch,e=.panicked ch∧Qc (.panic ch) a w'):o.wp P a w Kc Qc:=by
 have hrun:(execOp a.eval o).run P w=.ok (.enter f vs) w:=by
  cases hbb:fn.body with
  | none=>rw [hbb] at hb;cases hb
  | some c=>simp [execOp,ho,resolve,hc,Deferred.ofValue,invoke,callFunc,hf,hn,hbb,←hv]
 unfold Oper.wp
 rw [hrun]
 simp only [Oper.upon]
 refine h.mono ?_
 rintro e w' (⟨v,rfl,hk⟩|⟨ch,rfl,hk⟩)
 ·exact hk
 ·exact hk
theorem Rel.called {H1 R:List Hp} (r1:Rel Δ V O w0 (H1++R) T a w) (hok':HOk (FB V R) w' H') (hfr:Fr (Xcm H1) w w') (hown:∀h∈H',∀k,h.blk=some k→Xcm H1 k∨w.heap.size≤k) :
  Rel Δ V O w0 (H'++R) T a w'∧∀res v,Den (FB (FB V R) H') w' res v→Den (FB V (H'++R)) w' res v:=by
 have hap:=List.pairwise_append.1 r1.hok.apart
 have hVF':∀H1 k,FB (FB V R) H1 k↔FB V (H1++R) k:=fun H1 k=>by
  simp only [FB,List.mem_append]
  constructor
  ·rintro ((h|⟨x,hx,e⟩)|⟨x,hx,e⟩)
   ·exact .inl h
   ·exact .inr ⟨x,.inr hx,e⟩
   ·exact .inr ⟨x,.inl hx,e⟩
  ·rintro (h|⟨x,hx|hx,e⟩)
   ·exact .inl (.inl h)
   ·exact .inr ⟨x,hx,e⟩
   ·exact .inl (.inr ⟨x,hx,e⟩)
 have hF:∀k,FB V (H'++R) k→FB V (H1++R) k∨w.heap.size≤k:=fun k hk=>by
  rcases (hVF' H' k).2 hk with hk|⟨x,hx,e⟩
  ·exact .inl ((hVF' H1 k).1 (.inl hk))
  ·rcases hown x hx k e with ⟨y,hy,e'⟩|h
   ·exact .inl ((hVF' H1 k).1 (.inr ⟨y,hy,e'⟩))
   ·exact .inr h
 have hw:∀k,k < w.heap.size→¬FB V (H1++R) k→w'.heap[k]?=w.heap[k]?:=fun k hk hn=>hfr.block k hk fun ⟨y,hy,e⟩=>hn (.inr ⟨y,by simp [hy],e⟩)
 refine ⟨⟨DenL.conv hF hw _ _ r1.tmps,⟨fun x hx=>?_,List.pairwise_append.2 ⟨hok'.apart,hap.2.1,fun x hx y hy k hk e=>?_⟩,fun x hx k hk=>?_⟩,?_,fun x hx k hk=>?_,r1.defers,r1.vlt,r1.gl⟩,fun res v hdv=>hdv.weak fun k hk=>(hVF' H' k).2 hk⟩
 ·rcases List.mem_append.1 hx with hx|hx
  ·exact (hok'.ok x hx).weak fun k hk=>(hVF' H' k).2 hk
  ·exact (r1.hok.ok x (by simp [hx])).conv hF hw hfr.size fun k hk=>hfr.block k (r1.hok.lt x (by simp [hx]) k hk).1 fun ⟨y,hy,e⟩=>hap.2.2 y hy x hx k e hk
 ·exact (hok'.lt x hx k hk).2 (.inr ⟨y,hy,e⟩)
 ·rcases List.mem_append.1 hx with hx|hx
  ·exact ⟨(hok'.lt x hx k hk).1,fun hv=>(hok'.lt x hx k hk).2 (.inl hv)⟩
  ·exact ⟨Nat.lt_of_lt_of_le (r1.hok.lt x (by simp [hx]) k hk).1 hfr.size,(r1.hok.lt x (by simp [hx]) k hk).2⟩
 ·refine r1.fr.trans hfr fun k hk hb=>?_
  obtain ⟨y,hy,e⟩:=hb
  rcases r1.own y (by simp [hy]) k e with h|h
  ·exact h
  ·omega
 ·rcases List.mem_append.1 hx with hx|hx
  ·rcases hown x hx k hk with ⟨y,hy,e⟩|h
   ·exact r1.own y (by simp [hy]) k e
   ·exact .inr (Nat.le_trans r1.fr.size h)
  ·exact r1.own x (by simp [hx]) k hk
theorem XkK {rest:List Oper} {x:Operand} {t:TypeId} {v:Value} (hg:o.guard=none) (ho:o.op=.panic x) (hx:ev T x=.x (.iface t v)) (h:Q (.panic (Xn8 (.iface t v))) T H):XeS P ops Q (o :: rest) T H:=fun Δ V O w0 a w r=>wpList_plain hg fun Kc hKc=>by
 have hrun:(execOp a.eval o).run P w=.halt (.panic (.iface t v)) w:=by
  simp [execOp,ho,r.evx hx,Instr.panic]
 unfold Oper.wp
 rw [hrun,Oper.upon_panic]
 exact ⟨T,H,r,h⟩
theorem Xae {Kc:List AV→List Hp→Prop} {ch:List PanicEntry} (h:Q (.panic ch) T H):Xbx Kc Q (.panic ch) T H:=h
theorem XaU {id:Nat} {ch:List PanicEntry} (h:Q (.panic ch) T H):XaC id Q (.panic ch) T H:=h
end
end Go.Proofs.YtdlblokjfoggpaaGreatDoor

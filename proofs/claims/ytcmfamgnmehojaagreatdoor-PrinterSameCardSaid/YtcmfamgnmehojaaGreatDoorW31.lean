import Derived.Test.YtcmfamgnmehojaaGreatDoorW12
import Derived.WalkKit
import Derived.LaidEql
import Derived.Stop.Asserts
import Derived.RowKitTokens
/- errors.As at the lexer's two targets: a *codeError behind a *placeError; a **placeError. -/
set_option linter.unusedSimpArgs false
set_option linter.unusedVariables false
set_option maxRecDepth 100000
set_option maxHeartbeats 8000000
namespace Go.Proofs.YtcmfamgnmehojaaGreatDoor
open Go.RowKit Go.Extern.Stop Go.Stop Go.Extern
theorem Xom (z:Sem Value) (f:TypeId→Addr→Nat→Nat→Sem Value) (v:Value) :
  ReflectliteValue.method z f #[v]=(do match ←ReflectliteValue.parts v with|none=>z|some (t,a,fl)=>f t a fl (fl % 32)):=rfl
theorem Xlz (v x:Value):ReflectliteValue.set #[v,x]=(do
  let (some (dst,a,fl),some (src,b,_)):=(←ReflectliteValue.parts v,←ReflectliteValue.parts x)
   | unsupported (.noEntry "extern/(internal/reflectlite.Value).Set.zeroValue")
  if fl / ReflectliteValue.flagAddr % 2 == 0 then unsupported (.noEntry "extern/(internal/reflectlite.Value).Set.unaddressable")
  let val ←loadVar src b
  if ←Rtype.directlyAssignable dst src then storeVar dst a val
  else if ←Rtype.implements dst src then
   if (←Rtype.kind src) == 20 then
    match val with
    | .nilIface=>unsupported (.noEntry "extern/reflectlite: a nil value of one interface type handed on as a value of another")
    | _=>storeVar dst a val
   else storeVar dst a (.iface src val)
  else panicString ("reflectlite.Set: value of type "++(←Rtype.spelt src)++ " is not assignable to type "++(←Rtype.spelt dst))
  pure (.tuple #[])):=rfl
theorem XdK (h:Value) (w:World):(Go.method 325 139 (.agg #[h]) "Kind").run Tryz.prog w=.ok (145,h) w:=by kernel_rfl
theorem XdI (h:Value) (w:World):(Go.method 325 139 (.agg #[h]) "Elem").run Tryz.prog w=.ok (158,.agg #[h]) w:=by kernel_rfl
theorem XdJ (h:Value) (w:World):(Go.method 325 139 (.agg #[h]) "Implements").run Tryz.prog w=.ok (159,.agg #[h]) w:=by kernel_rfl
theorem Xc6 (h:Value) (w:World):(Go.method 325 139 (.agg #[h]) "AssignableTo").run Tryz.prog w=.ok (156,.agg #[h]) w:=by kernel_rfl
theorem Xex (v:Value) (w:World):(Go.method 325 83 v "Unwrap").run Tryz.prog w=.ok (151,v) w:=by kernel_rfl
theorem Xl4 (v:Value) (xT:TypeId) (w:World):(Instr.typeAssert (.iface 83 v) xT 144 true).run Tryz.prog w=.ok (.tuple #[.nilIface,.bool false]) w:=run_typeAssert_lacksB Tryz.underlying144 (by kernel_rfl) (by kernel_rfl) v xT w
theorem XfW (v:Value) (xT:TypeId) (w:World):(Instr.typeAssert (.iface 83 v) xT 147 true).run Tryz.prog w=.ok (.tuple #[.iface 83 v,.bool true]) w:=run_typeAssert_hasB Tryz.underlying147 (by kernel_rfl) v xT w
/-! the target *codeError -/
theorem XfY (t:Addr) (w:World):(ReflectliteValue.unpack (.iface 82 (.pointer (some t)))).run Tryz.prog w
  = .ok (.agg #[.pointer (some ⟨9,82,none⟩),.pointer (some ⟨w.heap.size,0,none⟩),.int .u64 150]) (w.alloc (.cells #[.pointer (some t)] 82)):=by kernel_rfl
theorem Xi4 (a:Addr) (w:World):(ReflectliteValue.methodAny (ReflectliteValue.valueError "reflectlite.Value.Type" 0) (fun t _ _ _=>ReflectliteType.toType t) #[.agg #[.pointer (some ⟨9,82,none⟩),.pointer (some a),.int .u64 150]]).run Tryz.prog w
  = .ok (.iface 139 (.agg #[.pointer (some ⟨9,82,none⟩)])) w:=by kernel_rfl
theorem Xi1 (w:World):((ReflectliteType.abiMethod fun t=>(fun a:Nat=>Value.int IntKind.u8 (a:Int)) <$> Rtype.kind t) #[.pointer (some ⟨9,82,none⟩)]).run Tryz.prog w=.ok (.int .u8 22) w:=by kernel_rfl
theorem Xi0 (w:World):((ReflectliteType.abiMethod fun t=>(fun a:Nat=>Value.int IntKind.u8 (a:Int)) <$> Rtype.kind t) #[.pointer (some ⟨9,80,none⟩)]).run Tryz.prog w=.ok (.int .u8 2) w:=by kernel_rfl
theorem Xfi (a:Addr) (w:World):(ReflectliteValue.parts (.agg #[.pointer (some ⟨9,82,none⟩),.pointer (some a),.int .u64 150])).run Tryz.prog w=.ok (some (82,a,150)) w:=by kernel_rfl
theorem Xid (a p:Addr) (W:World) (ha:W.cell? a=some (.pointer (some p))) :
  (ReflectliteValue.method (ReflectliteValue.valueError "reflectlite.Value.IsNil" 0) ReflectliteValue.isNil #[.agg #[.pointer (some ⟨9,82,none⟩),.pointer (some a),.int .u64 150]]).run Tryz.prog W=.ok (.bool false) W:=by
 rw [Xom]
 simp only [Sem.run_bind,Xfi,Result.andThen]
 simp [ReflectliteValue.isNil,loadVar,isAgg,underlying,Tryz.underlying82,ha,Result.andThen]
theorem XiW (w:World):(ReflectliteType.method ReflectliteType.elem #[.agg #[.pointer (some ⟨9,82,none⟩)]]).run Tryz.prog w=.ok (.iface 139 (.agg #[.pointer (some ⟨9,80,none⟩)])) w:=by kernel_rfl
theorem XiY (w:World):(ReflectliteType.relation "Implements" ReflectliteType.implements_ #[.agg #[.pointer (some ⟨9,80,none⟩)],.iface 139 (.agg #[.pointer (some ⟨9,77,none⟩)])]).run Tryz.prog w=.ok (.bool true) w:=by kernel_rfl
theorem XgQ (v:Value) (w:World):(ReflectliteType.typeOf #[.iface 80 v]).run Tryz.prog w=.ok (.iface 139 (.agg #[.pointer (some ⟨9,80,none⟩)])) w:=by kernel_rfl
theorem Xey (v:Value) (w:World):(ReflectliteType.typeOf #[.iface 83 v]).run Tryz.prog w=.ok (.iface 139 (.agg #[.pointer (some ⟨9,83,none⟩)])) w:=by kernel_rfl
theorem XgH (w:World):(ReflectliteType.relation "AssignableTo" ReflectliteType.assignableTo #[.agg #[.pointer (some ⟨9,80,none⟩)],.iface 139 (.agg #[.pointer (some ⟨9,80,none⟩)])]).run Tryz.prog w=.ok (.bool true) w:=by kernel_rfl
theorem XgI (w:World):(ReflectliteType.relation "AssignableTo" ReflectliteType.assignableTo #[.agg #[.pointer (some ⟨9,83,none⟩)],.iface 139 (.agg #[.pointer (some ⟨9,80,none⟩)])]).run Tryz.prog w=.ok (.bool false) w:=by kernel_rfl
theorem XfX (c:Int) (w:World):(ReflectliteValue.unpack (.iface 80 (.int .i64 c))).run Tryz.prog w
  = .ok (.agg #[.pointer (some ⟨9,80,none⟩),.pointer (some ⟨w.heap.size,0,none⟩),.int .u64 130]) (w.alloc (.cells #[.int .i64 c] 80)):=by kernel_rfl
theorem XgM (w:World):(Rtype.elem? 82).run Tryz.prog w=.ok (some 80) w:=by kernel_rfl
theorem Xl2 (p:Addr) (w:World):(ReflectliteValue.mk 80 p ReflectliteValue.flagAddr).run Tryz.prog w=.ok (.agg #[.pointer (some ⟨9,80,none⟩),.pointer (some p),.int .u64 386]) w:=by kernel_rfl
theorem Xib (a p:Addr) (W:World) (ha:W.cell? a=some (.pointer (some p))) :
  (ReflectliteValue.method (ReflectliteValue.valueError "reflectlite.Value.Elem" 0) ReflectliteValue.elem #[.agg #[.pointer (some ⟨9,82,none⟩),.pointer (some a),.int .u64 150]]).run Tryz.prog W
   = .ok (.agg #[.pointer (some ⟨9,80,none⟩),.pointer (some p),.int .u64 386]) W:=by
 rw [Xom]
 simp only [Sem.run_bind,Xfi,Result.andThen]
 simp [ReflectliteValue.elem,loadVar,isAgg,underlying,Tryz.underlying82,ha,Result.andThen,XgM,Xl2]
theorem XgO (a:Addr) (w:World):(ReflectliteValue.parts (.agg #[.pointer (some ⟨9,80,none⟩),.pointer (some a),.int .u64 386])).run Tryz.prog w=.ok (some (80,a,386)) w:=by kernel_rfl
theorem Xif (a:Addr) (w:World):(ReflectliteValue.parts (.agg #[.pointer (some ⟨9,80,none⟩),.pointer (some a),.int .u64 130])).run Tryz.prog w=.ok (some (80,a,130)) w:=by kernel_rfl
theorem XgK (w:World):(Rtype.directlyAssignable 80 80).run Tryz.prog w=.ok true w:=by kernel_rfl
theorem XkA (ta b:Addr) (c:Int) (old:Value) (W:World) (hb:W.cell? b=some (.int .i64 c)) (ht:W.cell? ta=some old) (hf:W.frozen? ta=false) :
  (ReflectliteValue.set #[.agg #[.pointer (some ⟨9,80,none⟩),.pointer (some ta),.int .u64 386],.agg #[.pointer (some ⟨9,80,none⟩),.pointer (some b),.int .u64 130]]).run Tryz.prog W
   = .ok (.tuple #[]) (W.setCell ta (.int .i64 c)):=by
 rw [Xlz]
 simp only [Sem.run_bind,XgO,Xif,Result.andThen]
 simp [ReflectliteValue.flagAddr,loadVar,isAgg,underlying,Tryz.underlying80,hb,Result.andThen,XgK,storeVar,Value.cells,storeCells,Addr.add]
 rw [run_store Tryz.prog W ta _ _ (by rfl)]
 simp [ht,hf]
/-! the target **placeError -/
theorem Xf0 (t:Addr) (w:World):(ReflectliteValue.unpack (.iface 84 (.pointer (some t)))).run Tryz.prog w
  = .ok (.agg #[.pointer (some ⟨9,84,none⟩),.pointer (some ⟨w.heap.size,0,none⟩),.int .u64 150]) (w.alloc (.cells #[.pointer (some t)] 84)):=by kernel_rfl
theorem Xi5 (a:Addr) (w:World):(ReflectliteValue.methodAny (ReflectliteValue.valueError "reflectlite.Value.Type" 0) (fun t _ _ _=>ReflectliteType.toType t) #[.agg #[.pointer (some ⟨9,84,none⟩),.pointer (some a),.int .u64 150]]).run Tryz.prog w
  = .ok (.iface 139 (.agg #[.pointer (some ⟨9,84,none⟩)])) w:=by kernel_rfl
theorem Xi3 (w:World):((ReflectliteType.abiMethod fun t=>(fun a:Nat=>Value.int IntKind.u8 (a:Int)) <$> Rtype.kind t) #[.pointer (some ⟨9,84,none⟩)]).run Tryz.prog w=.ok (.int .u8 22) w:=by kernel_rfl
theorem Xi2 (w:World):((ReflectliteType.abiMethod fun t=>(fun a:Nat=>Value.int IntKind.u8 (a:Int)) <$> Rtype.kind t) #[.pointer (some ⟨9,83,none⟩)]).run Tryz.prog w=.ok (.int .u8 22) w:=by kernel_rfl
theorem Xfj (a:Addr) (w:World):(ReflectliteValue.parts (.agg #[.pointer (some ⟨9,84,none⟩),.pointer (some a),.int .u64 150])).run Tryz.prog w=.ok (some (84,a,150)) w:=by kernel_rfl
theorem Xie (a p:Addr) (W:World) (ha:W.cell? a=some (.pointer (some p))) :
  (ReflectliteValue.method (ReflectliteValue.valueError "reflectlite.Value.IsNil" 0) ReflectliteValue.isNil #[.agg #[.pointer (some ⟨9,84,none⟩),.pointer (some a),.int .u64 150]]).run Tryz.prog W=.ok (.bool false) W:=by
 rw [Xom]
 simp only [Sem.run_bind,Xfj,Result.andThen]
 simp [ReflectliteValue.isNil,loadVar,isAgg,underlying,Tryz.underlying84,ha,Result.andThen]
theorem XiX (w:World):(ReflectliteType.method ReflectliteType.elem #[.agg #[.pointer (some ⟨9,84,none⟩)]]).run Tryz.prog w=.ok (.iface 139 (.agg #[.pointer (some ⟨9,83,none⟩)])) w:=by kernel_rfl
theorem XiZ (w:World):(ReflectliteType.relation "Implements" ReflectliteType.implements_ #[.agg #[.pointer (some ⟨9,83,none⟩)],.iface 139 (.agg #[.pointer (some ⟨9,77,none⟩)])]).run Tryz.prog w=.ok (.bool true) w:=by kernel_rfl
theorem XgJ (w:World):(ReflectliteType.relation "AssignableTo" ReflectliteType.assignableTo #[.agg #[.pointer (some ⟨9,83,none⟩)],.iface 139 (.agg #[.pointer (some ⟨9,83,none⟩)])]).run Tryz.prog w=.ok (.bool true) w:=by kernel_rfl
theorem XfZ (e:Addr) (w:World):(ReflectliteValue.unpack (.iface 83 (.pointer (some e)))).run Tryz.prog w
  = .ok (.agg #[.pointer (some ⟨9,83,none⟩),.pointer (some ⟨w.heap.size,0,none⟩),.int .u64 150]) (w.alloc (.cells #[.pointer (some e)] 83)):=by kernel_rfl
theorem XgN (w:World):(Rtype.elem? 84).run Tryz.prog w=.ok (some 83) w:=by kernel_rfl
theorem Xl3 (p:Addr) (w:World):(ReflectliteValue.mk 83 p ReflectliteValue.flagAddr).run Tryz.prog w=.ok (.agg #[.pointer (some ⟨9,83,none⟩),.pointer (some p),.int .u64 406]) w:=by kernel_rfl
theorem Xic (a p:Addr) (W:World) (ha:W.cell? a=some (.pointer (some p))) :
  (ReflectliteValue.method (ReflectliteValue.valueError "reflectlite.Value.Elem" 0) ReflectliteValue.elem #[.agg #[.pointer (some ⟨9,84,none⟩),.pointer (some a),.int .u64 150]]).run Tryz.prog W
   = .ok (.agg #[.pointer (some ⟨9,83,none⟩),.pointer (some p),.int .u64 406]) W:=by
 rw [Xom]
 simp only [Sem.run_bind,Xfj,Result.andThen]
 simp [ReflectliteValue.elem,loadVar,isAgg,underlying,Tryz.underlying84,ha,Result.andThen,XgN,Xl3]
theorem XgP (a:Addr) (w:World):(ReflectliteValue.parts (.agg #[.pointer (some ⟨9,83,none⟩),.pointer (some a),.int .u64 406])).run Tryz.prog w=.ok (some (83,a,406)) w:=by kernel_rfl
theorem Xig (a:Addr) (w:World):(ReflectliteValue.parts (.agg #[.pointer (some ⟨9,83,none⟩),.pointer (some a),.int .u64 150])).run Tryz.prog w=.ok (some (83,a,150)) w:=by kernel_rfl
theorem XgL (w:World):(Rtype.directlyAssignable 83 83).run Tryz.prog w=.ok true w:=by kernel_rfl
theorem XkB (ta b e:Addr) (old:Value) (W:World) (hb:W.cell? b=some (.pointer (some e))) (ht:W.cell? ta=some old) (hf:W.frozen? ta=false) :
  (ReflectliteValue.set #[.agg #[.pointer (some ⟨9,83,none⟩),.pointer (some ta),.int .u64 406],.agg #[.pointer (some ⟨9,83,none⟩),.pointer (some b),.int .u64 150]]).run Tryz.prog W
   = .ok (.tuple #[]) (W.setCell ta (.pointer (some e))):=by
 rw [Xlz]
 simp only [Sem.run_bind,XgP,Xig,Result.andThen]
 simp [ReflectliteValue.flagAddr,loadVar,isAgg,underlying,Tryz.underlying83,hb,Result.andThen,XgL,storeVar,Value.cells,storeCells,Addr.add]
 rw [run_store Tryz.prog W ta _ _ (by rfl)]
 simp [ht,hf]
open Go.RowKit Go.Extern.Stop Go.Stop Go.Extern
section
variable {P:Program} {Δ:List Deferred} {V O:Nat→Prop} {w0 w w':World} {H H':List Hp} {T:List AV} {a:Act}
theorem XfT {f:FuncId} {args:List Value} {t:Nat} {old new res:Value} {R:List Hp} (h1:new.oneCell'=true)
  (h:∀w,Gw w→(∀b (cells:List Value),Hp.box b (cells.map .x)∈R→∀j u,cells[j]?=some u→w.cell? ⟨b,j,none⟩=some u)→w.cell? ⟨t,0,none⟩=some old→w.frozen? ⟨t,0,none⟩=false →
   Calls P f args.toArray w fun e w'=>e=.returned res∧∃w1,Ext w w1∧w'=w1.setCell ⟨t,0,none⟩ new) :
  Xbv P f (.box t [.x old] :: R) (args.map .x) fun r H'=>r=.x res∧H'=.box t [.x new] :: R:=by
 intro V w vs hV hH hd hgl
 rw [hd.exact']
 have r:Rel [] V (XbO (.box t [.x old] :: R)) w (.box t [.x old] :: R) [] { tmps:=#[],defers:=[] } w:=⟨DenL.nil',hH,Fr.refl _ _,fun x hx k hk=>.inl ⟨x,hx,hk⟩,rfl,hV,hgl⟩
 have hbox:∀(b:Nat) (cells:List Value),Hp.box b (cells.map .x)∈(Hp.box t [.x old] :: R)→∀j u,cells[j]?=some u→w.cell? ⟨b,j,none⟩=some u∧w.frozen? ⟨b,j,none⟩=false:=fun b cells hm j u hj=>by
  obtain ⟨vals,hd,hl,hc⟩:=hH.ok _ hm
  rw [hd.exact'] at hc
  exact ⟨(hc j u hj).1,(hc j u hj).2.2⟩
 have ht:=hbox t [old] (List.mem_cons_self ..) 0 old rfl
 refine (h w hgl.2 (fun b cells hm j u hj=>(hbox b cells (List.mem_cons_of_mem _ hm) j u hj).1) ht.1 ht.2).mono ?_
 rintro e w' ⟨rfl,w1,hE,rfl⟩
 have hlt:t < w.heap.size:=(hH.lt _ (List.mem_cons_self ..) t rfl).1
 have hlt1:t < w1.heap.size:=Nat.lt_of_lt_of_le hlt hE.size
 have hc1:w1.cell? ⟨t,0,none⟩=some old:=by rw [World.cell?_of_block (a:=⟨t,0,none⟩) (hE.block t hlt)];exact ht.1
 have hf1:w1.frozen? ⟨t,0,none⟩=false:=by rw [World.frozen?_of_block (a:=⟨t,0,none⟩) (hE.block t hlt)];exact ht.2
 have r2:Rel [] V (XbO (.box t [.x old] :: R)) w (.box t [.x new] :: R) [] { tmps:=#[],defers:=[] } (w1.setCell ⟨t,0,none⟩ new):=by
  refine Rel.turn (r.quiet hE) rfl rfl rfl (by simp) (fun k _ hk=>?_) (fun k hk=>?_) ?_ (fun _ _ _=>trivial)
  ·simp only [Hp.blk] at hk
   have:t≠k:=fun e=>hk (by rw [e])
   simp [World.setCell,Array.getElem?_modify,this]
  ·cases hk;exact ⟨by simpa using hlt1,.inl rfl⟩
  ·refine ⟨[new],DenL.cons' (Xcu _) DenL.nil',by simpa using hlt1,fun j u hj=>?_⟩
   cases j with
   | succ j=>simp at hj
   | zero=>
     cases hj
     exact ⟨(by first|exact World.cell?_setCell_same _ _ _ hc1|fail),h1,by rw [World.frozen?_setCell];exact hf1⟩
 exact ⟨.x res,_,res,⟨rfl,rfl⟩,rfl,Xcu _,r2.hok,r2.fr,r2.own⟩
end
theorem Xkz (e t:Addr) (old:Value) (w:World) (hg:Gw w) (ht0:w.cell? t=some old) (hf0:w.frozen? t=false) :
  Calls Tryz.prog 32 #[.iface 83 (.pointer (some e)),.iface 84 (.pointer (some t))] w fun ev w'=>ev=.returned (.bool true)∧w'=((((w.alloc (.cells #[.pointer (some t)] 84)).alloc (.cells #[.pointer (some ⟨9,84,none⟩),.pointer (some ⟨w.heap.size,0,none⟩),.int .u64 150] 111)).alloc (.cells #[.pointer (some ⟨9,84,none⟩),.pointer (some ⟨w.heap.size,0,none⟩),.int .u64 150] 111)).alloc (.cells #[.pointer (some e)] 83)).setCell t (.pointer (some e)):=by
 replace hg:=hg.errs
 have h6:=@run_callFunc_extern Tryz.prog 52 _ (fun args=>ReflectliteValue.unpack (args.getD 0 (.tuple #[]))) Tryz.func52 (by kernel_rfl) (by kernel_rfl) (by kernel_rfl) (by kernel_rfl);have h7:=@run_callFunc_extern Tryz.prog 53 _ (ReflectliteValue.methodAny (ReflectliteValue.valueError "reflectlite.Value.Type" 0) (fun t _ _ _=>ReflectliteType.toType t)) Tryz.func53 (by kernel_rfl) (by kernel_rfl) (by kernel_rfl) (by kernel_rfl);have h8:=@run_callFunc_extern Tryz.prog 54 _ (ReflectliteValue.method (ReflectliteValue.valueError "reflectlite.Value.IsNil" 0) ReflectliteValue.isNil) Tryz.func54 (by kernel_rfl) (by kernel_rfl) (by kernel_rfl) (by kernel_rfl);have h27:=@run_callFunc_extern Tryz.prog 145 _ (ReflectliteType.abiMethod fun t=>do pure (.int .u8 (←Rtype.kind t))) Tryz.func145 (by kernel_rfl) (by kernel_rfl) (by kernel_rfl) (by kernel_rfl);have h37:=@run_callFunc_extern Tryz.prog 158 _ (ReflectliteType.method ReflectliteType.elem) Tryz.func158 (by kernel_rfl) (by kernel_rfl) (by kernel_rfl) (by kernel_rfl);have h38:=@run_callFunc_extern Tryz.prog 159 _ (ReflectliteType.relation "Implements" ReflectliteType.implements_) Tryz.func159 (by kernel_rfl) (by kernel_rfl) (by kernel_rfl) (by kernel_rfl);have h10:=@run_callFunc_extern Tryz.prog 79 _ ReflectliteType.typeOf Tryz.func79 (by kernel_rfl) (by kernel_rfl) (by kernel_rfl) (by kernel_rfl);have h35:=@run_callFunc_extern Tryz.prog 156 _ (ReflectliteType.relation "AssignableTo" ReflectliteType.assignableTo) Tryz.func156 (by kernel_rfl) (by kernel_rfl) (by kernel_rfl) (by kernel_rfl);have h11:=@run_callFunc_extern Tryz.prog 80 _ (ReflectliteValue.method (ReflectliteValue.valueError "reflectlite.Value.Elem" 0) ReflectliteValue.elem) Tryz.func80 (by kernel_rfl) (by kernel_rfl) (by kernel_rfl) (by kernel_rfl);have h12:=@run_callFunc_extern Tryz.prog 81 _ ReflectliteValue.set Tryz.func81 (by kernel_rfl) (by kernel_rfl) (by kernel_rfl) (by kernel_rfl)
 have tO:=Xey
 have mA:=Xc6
 have a25:=XgJ
 have v25:=XfZ
 have f6:=Xf0
 have f7:=Xi5
 have mK:=XdK
 have mE:=XdI
 have mI:=XdJ
 have k27:=Xi3
 have k25:=Xi2
 have e27:=XiX
 have i25:=XiZ
 have n8:=Xie ⟨w.heap.size,0,none⟩ t ((w.alloc (.cells #[.pointer (some t)] 84)).alloc (.cells #[.pointer (some ⟨9,84,none⟩),.pointer (some ⟨w.heap.size,0,none⟩),.int .u64 150] 111)) (by simp)
 have hlt:0 < w.heap.size:=World.block_lt_of_cell? w _ hg
 have hg2:((w.alloc (.cells #[.pointer (some t)] 84)).alloc (.cells #[.pointer (some ⟨9,84,none⟩),.pointer (some ⟨w.heap.size,0,none⟩),.int .u64 150] 111)).cell? ⟨0,0,none⟩=some (.iface 139 (.agg #[.pointer (some ⟨9,77,none⟩)])):=by
  rw [World.cell?_alloc_lt _ _ ⟨0,0,none⟩ (by simp<;>omega),World.cell?_alloc_lt _ _ ⟨0,0,none⟩ hlt];exact hg
 have htl:t.block < w.heap.size:=World.block_lt_of_cell? w _ ht0
 have el:=Xic ⟨w.heap.size,0,none⟩ t (((w.alloc (.cells #[.pointer (some t)] 84)).alloc (.cells #[.pointer (some ⟨9,84,none⟩),.pointer (some ⟨w.heap.size,0,none⟩),.int .u64 150] 111)).alloc (.cells #[.pointer (some ⟨9,84,none⟩),.pointer (some ⟨w.heap.size,0,none⟩),.int .u64 150] 111)) (by rw [World.cell?_alloc_lt _ _ ⟨w.heap.size,0,none⟩ (by simp;omega)];simp)
 have st:=XkB t ⟨w.heap.size+1+1+1,0,none⟩ e old ((((w.alloc (.cells #[.pointer (some t)] 84)).alloc (.cells #[.pointer (some ⟨9,84,none⟩),.pointer (some ⟨w.heap.size,0,none⟩),.int .u64 150] 111)).alloc (.cells #[.pointer (some ⟨9,84,none⟩),.pointer (some ⟨w.heap.size,0,none⟩),.int .u64 150] 111)).alloc (.cells #[.pointer (some e)] 83))
  (by rw [World.cell?_alloc_at _ _ _ _ (by simp)];rfl)
  (by rw [World.cell?_alloc_lt _ _ t (by simp;omega),World.cell?_alloc_lt _ _ t (by simp;omega),World.cell?_alloc_lt _ _ t (by simp;omega),World.cell?_alloc_lt _ _ t htl];exact ht0)
  (by rw [World.frozen?_alloc_old _ _ t (by simp;omega),World.frozen?_alloc_old _ _ t (by simp;omega),World.frozen?_alloc_old _ _ t (by simp;omega),World.frozen?_alloc_old _ _ t (Nat.ne_of_lt htl)];exact hf0)
 go_enter Tryz.func32,Tryz.ntmps32
 go_wp2
 refine wp_loop_rounds 1 ?_
 rw [rounds_succ]
 go_wp2
 go_ret
 exact ⟨rfl,rfl⟩
theorem Xl1 (b:Nat) (c:Int) (t:Addr) (old:Value) (w:World) (hg:Gw w) (hb0:w.cell? ⟨b,2,none⟩=some (.iface 80 (.int .i64 c))) (ht0:w.cell? t=some old) (hf0:w.frozen? t=false) :
  Calls Tryz.prog 32 #[.iface 83 (.pointer (some ⟨b,0,none⟩)),.iface 82 (.pointer (some t))] w fun ev w'=>ev=.returned (.bool true)∧w'=((((w.alloc (.cells #[.pointer (some t)] 82)).alloc (.cells #[.pointer (some ⟨9,82,none⟩),.pointer (some ⟨w.heap.size,0,none⟩),.int .u64 150] 111)).alloc (.cells #[.pointer (some ⟨9,82,none⟩),.pointer (some ⟨w.heap.size,0,none⟩),.int .u64 150] 111)).alloc (.cells #[.int .i64 c] 80)).setCell t (.int .i64 c):=by
 replace hg:=hg.errs
 have h6:=@run_callFunc_extern Tryz.prog 52 _ (fun args=>ReflectliteValue.unpack (args.getD 0 (.tuple #[]))) Tryz.func52 (by kernel_rfl) (by kernel_rfl) (by kernel_rfl) (by kernel_rfl);have h7:=@run_callFunc_extern Tryz.prog 53 _ (ReflectliteValue.methodAny (ReflectliteValue.valueError "reflectlite.Value.Type" 0) (fun t _ _ _=>ReflectliteType.toType t)) Tryz.func53 (by kernel_rfl) (by kernel_rfl) (by kernel_rfl) (by kernel_rfl);have h8:=@run_callFunc_extern Tryz.prog 54 _ (ReflectliteValue.method (ReflectliteValue.valueError "reflectlite.Value.IsNil" 0) ReflectliteValue.isNil) Tryz.func54 (by kernel_rfl) (by kernel_rfl) (by kernel_rfl) (by kernel_rfl);have h27:=@run_callFunc_extern Tryz.prog 145 _ (ReflectliteType.abiMethod fun t=>do pure (.int .u8 (←Rtype.kind t))) Tryz.func145 (by kernel_rfl) (by kernel_rfl) (by kernel_rfl) (by kernel_rfl);have h37:=@run_callFunc_extern Tryz.prog 158 _ (ReflectliteType.method ReflectliteType.elem) Tryz.func158 (by kernel_rfl) (by kernel_rfl) (by kernel_rfl) (by kernel_rfl);have h38:=@run_callFunc_extern Tryz.prog 159 _ (ReflectliteType.relation "Implements" ReflectliteType.implements_) Tryz.func159 (by kernel_rfl) (by kernel_rfl) (by kernel_rfl) (by kernel_rfl);have h10:=@run_callFunc_extern Tryz.prog 79 _ ReflectliteType.typeOf Tryz.func79 (by kernel_rfl) (by kernel_rfl) (by kernel_rfl) (by kernel_rfl);have h35:=@run_callFunc_extern Tryz.prog 156 _ (ReflectliteType.relation "AssignableTo" ReflectliteType.assignableTo) Tryz.func156 (by kernel_rfl) (by kernel_rfl) (by kernel_rfl) (by kernel_rfl);have h11:=@run_callFunc_extern Tryz.prog 80 _ (ReflectliteValue.method (ReflectliteValue.valueError "reflectlite.Value.Elem" 0) ReflectliteValue.elem) Tryz.func80 (by kernel_rfl) (by kernel_rfl) (by kernel_rfl) (by kernel_rfl);have h12:=@run_callFunc_extern Tryz.prog 81 _ ReflectliteValue.set Tryz.func81 (by kernel_rfl) (by kernel_rfl) (by kernel_rfl) (by kernel_rfl)
 have tO:=Xey
 have tO2:=XgQ
 have mA:=Xc6
 have mU:=Xex
 have nA:=Xl4
 have hU:=XfW
 have a24:=XgI
 have a25:=XgH
 have v25:=XfX
 have f6:=XfY
 have f7:=Xi4
 have mK:=XdK
 have mE:=XdI
 have mI:=XdJ
 have k27:=Xi1
 have k25:=Xi0
 have e27:=XiW
 have i25:=XiY
 have n8:=Xid ⟨w.heap.size,0,none⟩ t ((w.alloc (.cells #[.pointer (some t)] 82)).alloc (.cells #[.pointer (some ⟨9,82,none⟩),.pointer (some ⟨w.heap.size,0,none⟩),.int .u64 150] 111)) (by simp)
 have hlt:0 < w.heap.size:=World.block_lt_of_cell? w _ hg
 have hg2:((w.alloc (.cells #[.pointer (some t)] 82)).alloc (.cells #[.pointer (some ⟨9,82,none⟩),.pointer (some ⟨w.heap.size,0,none⟩),.int .u64 150] 111)).cell? ⟨0,0,none⟩=some (.iface 139 (.agg #[.pointer (some ⟨9,77,none⟩)])):=by
  rw [World.cell?_alloc_lt _ _ ⟨0,0,none⟩ (by simp<;>omega),World.cell?_alloc_lt _ _ ⟨0,0,none⟩ hlt];exact hg
 have htl:t.block < w.heap.size:=World.block_lt_of_cell? w _ ht0
 have hbl:b < w.heap.size:=World.block_lt_of_cell? w _ hb0
 have hb2:(((w.alloc (.cells #[.pointer (some t)] 82)).alloc (.cells #[.pointer (some ⟨9,82,none⟩),.pointer (some ⟨w.heap.size,0,none⟩),.int .u64 150] 111)).alloc (.cells #[.pointer (some ⟨9,82,none⟩),.pointer (some ⟨w.heap.size,0,none⟩),.int .u64 150] 111)).cell? ⟨b,2,none⟩=some (.iface 80 (.int .i64 c)):=by
  rw [World.cell?_alloc_lt _ _ ⟨b,2,none⟩ (by simp;omega),World.cell?_alloc_lt _ _ ⟨b,2,none⟩ (by simp;omega),World.cell?_alloc_lt _ _ ⟨b,2,none⟩ hbl];exact hb0
 have el:=Xib ⟨w.heap.size,0,none⟩ t (((w.alloc (.cells #[.pointer (some t)] 82)).alloc (.cells #[.pointer (some ⟨9,82,none⟩),.pointer (some ⟨w.heap.size,0,none⟩),.int .u64 150] 111)).alloc (.cells #[.pointer (some ⟨9,82,none⟩),.pointer (some ⟨w.heap.size,0,none⟩),.int .u64 150] 111)) (by rw [World.cell?_alloc_lt _ _ ⟨w.heap.size,0,none⟩ (by simp;omega)];simp)
 have st:=XkA t ⟨w.heap.size+1+1+1,0,none⟩ c old ((((w.alloc (.cells #[.pointer (some t)] 82)).alloc (.cells #[.pointer (some ⟨9,82,none⟩),.pointer (some ⟨w.heap.size,0,none⟩),.int .u64 150] 111)).alloc (.cells #[.pointer (some ⟨9,82,none⟩),.pointer (some ⟨w.heap.size,0,none⟩),.int .u64 150] 111)).alloc (.cells #[.int .i64 c] 80))
  (by rw [World.cell?_alloc_at _ _ _ _ (by simp)];rfl)
  (by rw [World.cell?_alloc_lt _ _ t (by simp;omega),World.cell?_alloc_lt _ _ t (by simp;omega),World.cell?_alloc_lt _ _ t (by simp;omega),World.cell?_alloc_lt _ _ t htl];exact ht0)
  (by rw [World.frozen?_alloc_old _ _ t (by simp;omega),World.frozen?_alloc_old _ _ t (by simp;omega),World.frozen?_alloc_old _ _ t (by simp;omega),World.frozen?_alloc_old _ _ t (Nat.ne_of_lt htl)];exact hf0)
 clear hb0
 go_enter Tryz.func32,Tryz.ntmps32
 go_wp2
 refine wp_loop_rounds 2 ?_
 rw [rounds_succ]
 go_wp2
 rw [rounds_succ]
 go_wp2
 go_ret
 exact ⟨rfl,rfl⟩
theorem al4 (w:World) (o1 o2 o3 o4:Obj):Ext w ((((w.alloc o1).alloc o2).alloc o3).alloc o4):=(((Ext.al _ _).tr (Ext.al _ _)).tr (Ext.al _ _)).tr (Ext.al _ _)
theorem XiV (b t:Nat) (v0 v1 old:Value) (c:Int) (R:List Hp):Xbv Tryz.prog 32 (.box t [.x old] :: .box b [.x v0,.x v1,.x (.iface 80 (.int .i64 c))] :: R) [.x (.iface 83 (.pointer (some ⟨b,0,none⟩))),.x (.iface 82 (.pointer (some ⟨t,0,none⟩)))] fun r H'=>r=.x (.bool true)∧H'=.box t [.x (.int .i64 c)] :: .box b [.x v0,.x v1,.x (.iface 80 (.int .i64 c))] :: R:=by
 refine XfT (args:=[_,_]) rfl fun w hg hR ht hf=>?_
 refine (Xl1 b c ⟨t,0,none⟩ old w hg (hR b [v0,v1,_] (List.mem_cons_self ..) 2 _ rfl) ht hf).mono ?_
 rintro e w' ⟨rfl,rfl⟩
 exact ⟨rfl,_,al4 _ _ _ _ _,rfl⟩
theorem Xih (b t:Nat) (old:Value) (R:List Hp):Xbv Tryz.prog 32 (.box t [.x old] :: R) [.x (.iface 83 (.pointer (some ⟨b,0,none⟩))),.x (.iface 84 (.pointer (some ⟨t,0,none⟩)))] fun r H'=>r=.x (.bool true)∧H'=.box t [.x (.pointer (some ⟨b,0,none⟩))] :: R:=by
 refine XfT (args:=[_,_]) rfl fun w hg hR ht hf=>?_
 refine (Xkz ⟨b,0,none⟩ ⟨t,0,none⟩ old w hg ht hf).mono ?_
 rintro e w' ⟨rfl,rfl⟩
 exact ⟨rfl,_,al4 _ _ _ _ _,rfl⟩
end Go.Proofs.YtcmfamgnmehojaaGreatDoor

import Derived.Test.YtdpobjakdplljaaGreatDoorY8
import Derived.WalkKit
import Derived.LaidEql
import Derived.Stop.Asserts
import Derived.RowKitTokens
import Derived.Test.YtdpobjakdplljaaGreatDoorY39
/- errors.As at the lexer's two targets: a *codeError behind a *placeError; a **placeError. -/
set_option linter.unusedSimpArgs false
set_option linter.unusedVariables false
set_option maxRecDepth 100000
set_option maxHeartbeats 8000000
namespace Go.Proofs.YtdpobjakdplljaaGreatDoor
open Go.RowKit Go.Extern.Stop Go.Stop Go.Extern
theorem XuD (z:Sem Value) (f:TypeId→Addr→Nat→Nat→Sem Value) (v:Value) :
  ReflectliteValue.method z f #[v]=(do match ←ReflectliteValue.parts v with|none=>z|some (t,a,fl)=>f t a fl (fl % 32)):=rfl
theorem Xrf (v x:Value):ReflectliteValue.set #[v,x]=(do
  let (some (dst,a,fl),some (src,b,_)):=(←ReflectliteValue.parts v,←ReflectliteValue.parts x)
   | unsupported (.noEntry "extern/(internal/reflectlite.Value).Set.zeroValue")
  if fl / ReflectliteValue.flagAddr % 2 == 0 then unsupported (.noEntry "extern/(internal/reflectlite.Value).Set.unaddressable")
  let val ←loadVar src b
  if ←Rtype.directlyAssignable dst src then storeVar dst a val
  else if ←Rtype.implements dst src then
   if (←Rtype.kind src) == 20 then
    match val with
    | .nilIface=>unsupported (.noEntry "extern/reflectlite: a nil value of one interface type handed on as a value of another")
    | _=>storeVar dst a val
   else storeVar dst a (.iface src val)
  else panicString ("reflectlite.Set: value of type "++(←Rtype.spelt src)++ " is not assignable to type "++(←Rtype.spelt dst))
  pure (.tuple #[])):=rfl
theorem XeN (h:Value) (w:World):(Go.method 397 196 (.agg #[h]) "Kind").run Tryz.prog w=.ok (229,h) w:=by kernel_rfl
theorem XeL (h:Value) (w:World):(Go.method 397 196 (.agg #[h]) "Elem").run Tryz.prog w=.ok (242,.agg #[h]) w:=by kernel_rfl
theorem XeM (h:Value) (w:World):(Go.method 397 196 (.agg #[h]) "Implements").run Tryz.prog w=.ok (243,.agg #[h]) w:=by kernel_rfl
theorem XdU (h:Value) (w:World):(Go.method 397 196 (.agg #[h]) "AssignableTo").run Tryz.prog w=.ok (240,.agg #[h]) w:=by kernel_rfl
theorem Xgc (v:Value) (w:World):(Go.method 397 106 v "Unwrap").run Tryz.prog w=.ok (235,v) w:=by kernel_rfl
theorem XrM (v:Value) (xT:TypeId) (w:World):(Instr.typeAssert (.iface 106 v) xT 201 true).run Tryz.prog w=.ok (.tuple #[.nilIface,.bool false]) w:=run_typeAssert_lacksB Tryz.underlying201 (by kernel_rfl) (by kernel_rfl) v xT w
theorem XiF (v:Value) (xT:TypeId) (w:World):(Instr.typeAssert (.iface 106 v) xT 204 true).run Tryz.prog w=.ok (.tuple #[.iface 106 v,.bool true]) w:=run_typeAssert_hasB Tryz.underlying204 (by kernel_rfl) v xT w
/-! the target *codeError -/
theorem XiH (t:Addr) (w:World):(ReflectliteValue.unpack (.iface 105 (.pointer (some t)))).run Tryz.prog w
  = .ok (.agg #[.pointer (some ⟨10,105,none⟩),.pointer (some ⟨w.heap.size,0,none⟩),.int .u64 150]) (w.alloc (.cells #[.pointer (some t)] 105)):=by kernel_rfl
theorem Xnf (a:Addr) (w:World):(ReflectliteValue.methodAny (ReflectliteValue.valueError "reflectlite.Value.Type" 0) (fun t _ _ _=>ReflectliteType.toType t) #[.agg #[.pointer (some ⟨10,105,none⟩),.pointer (some a),.int .u64 150]]).run Tryz.prog w
  = .ok (.iface 196 (.agg #[.pointer (some ⟨10,105,none⟩)])) w:=by kernel_rfl
theorem Xnc (w:World):((ReflectliteType.abiMethod fun t=>(fun a:Nat=>Value.int IntKind.u8 (a:Int)) <$> Rtype.kind t) #[.pointer (some ⟨10,105,none⟩)]).run Tryz.prog w=.ok (.int .u8 22) w:=by kernel_rfl
theorem Xnb (w:World):((ReflectliteType.abiMethod fun t=>(fun a:Nat=>Value.int IntKind.u8 (a:Int)) <$> Rtype.kind t) #[.pointer (some ⟨10,103,none⟩)]).run Tryz.prog w=.ok (.int .u8 2) w:=by kernel_rfl
theorem Xg7 (a:Addr) (w:World):(ReflectliteValue.parts (.agg #[.pointer (some ⟨10,105,none⟩),.pointer (some a),.int .u64 150])).run Tryz.prog w=.ok (some (105,a,150)) w:=by kernel_rfl
theorem XlW (a p:Addr) (W:World) (ha:W.cell? a=some (.pointer (some p))) :
  (ReflectliteValue.method (ReflectliteValue.valueError "reflectlite.Value.IsNil" 0) ReflectliteValue.isNil #[.agg #[.pointer (some ⟨10,105,none⟩),.pointer (some a),.int .u64 150]]).run Tryz.prog W=.ok (.bool false) W:=by
 rw [XuD]
 simp only [Sem.run_bind,Xg7,Result.andThen]
 simp [ReflectliteValue.isNil,loadVar,isAgg,underlying,Tryz.underlying105,ha,Result.andThen]
theorem Xm7 (w:World):(ReflectliteType.method ReflectliteType.elem #[.agg #[.pointer (some ⟨10,105,none⟩)]]).run Tryz.prog w=.ok (.iface 196 (.agg #[.pointer (some ⟨10,103,none⟩)])) w:=by kernel_rfl
theorem Xm9 (w:World):(ReflectliteType.relation "Implements" ReflectliteType.implements_ #[.agg #[.pointer (some ⟨10,103,none⟩)],.iface 196 (.agg #[.pointer (some ⟨10,81,none⟩)])]).run Tryz.prog w=.ok (.bool true) w:=by kernel_rfl
theorem XjZ (v:Value) (w:World):(ReflectliteType.typeOf #[.iface 103 v]).run Tryz.prog w=.ok (.iface 196 (.agg #[.pointer (some ⟨10,103,none⟩)])) w:=by kernel_rfl
theorem Xgd (v:Value) (w:World):(ReflectliteType.typeOf #[.iface 106 v]).run Tryz.prog w=.ok (.iface 196 (.agg #[.pointer (some ⟨10,106,none⟩)])) w:=by kernel_rfl
theorem XjQ (w:World):(ReflectliteType.relation "AssignableTo" ReflectliteType.assignableTo #[.agg #[.pointer (some ⟨10,103,none⟩)],.iface 196 (.agg #[.pointer (some ⟨10,103,none⟩)])]).run Tryz.prog w=.ok (.bool true) w:=by kernel_rfl
theorem XjR (w:World):(ReflectliteType.relation "AssignableTo" ReflectliteType.assignableTo #[.agg #[.pointer (some ⟨10,106,none⟩)],.iface 196 (.agg #[.pointer (some ⟨10,103,none⟩)])]).run Tryz.prog w=.ok (.bool false) w:=by kernel_rfl
theorem XiG (c:Int) (w:World):(ReflectliteValue.unpack (.iface 103 (.int .i64 c))).run Tryz.prog w
  = .ok (.agg #[.pointer (some ⟨10,103,none⟩),.pointer (some ⟨w.heap.size,0,none⟩),.int .u64 130]) (w.alloc (.cells #[.int .i64 c] 103)):=by kernel_rfl
theorem XjV (w:World):(Rtype.elem? 105).run Tryz.prog w=.ok (some 103) w:=by kernel_rfl
theorem XrK (p:Addr) (w:World):(ReflectliteValue.mk 103 p ReflectliteValue.flagAddr).run Tryz.prog w=.ok (.agg #[.pointer (some ⟨10,103,none⟩),.pointer (some p),.int .u64 386]) w:=by kernel_rfl
theorem XlU (a p:Addr) (W:World) (ha:W.cell? a=some (.pointer (some p))) :
  (ReflectliteValue.method (ReflectliteValue.valueError "reflectlite.Value.Elem" 0) ReflectliteValue.elem #[.agg #[.pointer (some ⟨10,105,none⟩),.pointer (some a),.int .u64 150]]).run Tryz.prog W
   = .ok (.agg #[.pointer (some ⟨10,103,none⟩),.pointer (some p),.int .u64 386]) W:=by
 rw [XuD]
 simp only [Sem.run_bind,Xg7,Result.andThen]
 simp [ReflectliteValue.elem,loadVar,isAgg,underlying,Tryz.underlying105,ha,Result.andThen,XjV,XrK]
theorem XjX (a:Addr) (w:World):(ReflectliteValue.parts (.agg #[.pointer (some ⟨10,103,none⟩),.pointer (some a),.int .u64 386])).run Tryz.prog w=.ok (some (103,a,386)) w:=by kernel_rfl
theorem XlY (a:Addr) (w:World):(ReflectliteValue.parts (.agg #[.pointer (some ⟨10,103,none⟩),.pointer (some a),.int .u64 130])).run Tryz.prog w=.ok (some (103,a,130)) w:=by kernel_rfl
theorem XjT (w:World):(Rtype.directlyAssignable 103 103).run Tryz.prog w=.ok true w:=by kernel_rfl
theorem XpA (ta b:Addr) (c:Int) (old:Value) (W:World) (hb:W.cell? b=some (.int .i64 c)) (ht:W.cell? ta=some old) (hf:W.frozen? ta=false) :
  (ReflectliteValue.set #[.agg #[.pointer (some ⟨10,103,none⟩),.pointer (some ta),.int .u64 386],.agg #[.pointer (some ⟨10,103,none⟩),.pointer (some b),.int .u64 130]]).run Tryz.prog W
   = .ok (.tuple #[]) (W.setCell ta (.int .i64 c)):=by
 rw [Xrf]
 simp only [Sem.run_bind,XjX,XlY,Result.andThen]
 simp [ReflectliteValue.flagAddr,loadVar,isAgg,underlying,Tryz.underlying103,hb,Result.andThen,XjT,storeVar,Value.cells,storeCells,Addr.add]
 rw [run_store Tryz.prog W ta _ _ (by rfl)]
 simp [ht,hf]
/-! the target **placeError -/
theorem XiJ (t:Addr) (w:World):(ReflectliteValue.unpack (.iface 107 (.pointer (some t)))).run Tryz.prog w
  = .ok (.agg #[.pointer (some ⟨10,107,none⟩),.pointer (some ⟨w.heap.size,0,none⟩),.int .u64 150]) (w.alloc (.cells #[.pointer (some t)] 107)):=by kernel_rfl
theorem Xng (a:Addr) (w:World):(ReflectliteValue.methodAny (ReflectliteValue.valueError "reflectlite.Value.Type" 0) (fun t _ _ _=>ReflectliteType.toType t) #[.agg #[.pointer (some ⟨10,107,none⟩),.pointer (some a),.int .u64 150]]).run Tryz.prog w
  = .ok (.iface 196 (.agg #[.pointer (some ⟨10,107,none⟩)])) w:=by kernel_rfl
theorem Xne (w:World):((ReflectliteType.abiMethod fun t=>(fun a:Nat=>Value.int IntKind.u8 (a:Int)) <$> Rtype.kind t) #[.pointer (some ⟨10,107,none⟩)]).run Tryz.prog w=.ok (.int .u8 22) w:=by kernel_rfl
theorem Xnd (w:World):((ReflectliteType.abiMethod fun t=>(fun a:Nat=>Value.int IntKind.u8 (a:Int)) <$> Rtype.kind t) #[.pointer (some ⟨10,106,none⟩)]).run Tryz.prog w=.ok (.int .u8 22) w:=by kernel_rfl
theorem Xg8 (a:Addr) (w:World):(ReflectliteValue.parts (.agg #[.pointer (some ⟨10,107,none⟩),.pointer (some a),.int .u64 150])).run Tryz.prog w=.ok (some (107,a,150)) w:=by kernel_rfl
theorem XlX (a p:Addr) (W:World) (ha:W.cell? a=some (.pointer (some p))) :
  (ReflectliteValue.method (ReflectliteValue.valueError "reflectlite.Value.IsNil" 0) ReflectliteValue.isNil #[.agg #[.pointer (some ⟨10,107,none⟩),.pointer (some a),.int .u64 150]]).run Tryz.prog W=.ok (.bool false) W:=by
 rw [XuD]
 simp only [Sem.run_bind,Xg8,Result.andThen]
 simp [ReflectliteValue.isNil,loadVar,isAgg,underlying,Tryz.underlying107,ha,Result.andThen]
theorem Xm8 (w:World):(ReflectliteType.method ReflectliteType.elem #[.agg #[.pointer (some ⟨10,107,none⟩)]]).run Tryz.prog w=.ok (.iface 196 (.agg #[.pointer (some ⟨10,106,none⟩)])) w:=by kernel_rfl
theorem Xna (w:World):(ReflectliteType.relation "Implements" ReflectliteType.implements_ #[.agg #[.pointer (some ⟨10,106,none⟩)],.iface 196 (.agg #[.pointer (some ⟨10,81,none⟩)])]).run Tryz.prog w=.ok (.bool true) w:=by kernel_rfl
theorem XjS (w:World):(ReflectliteType.relation "AssignableTo" ReflectliteType.assignableTo #[.agg #[.pointer (some ⟨10,106,none⟩)],.iface 196 (.agg #[.pointer (some ⟨10,106,none⟩)])]).run Tryz.prog w=.ok (.bool true) w:=by kernel_rfl
theorem XiI (e:Addr) (w:World):(ReflectliteValue.unpack (.iface 106 (.pointer (some e)))).run Tryz.prog w
  = .ok (.agg #[.pointer (some ⟨10,106,none⟩),.pointer (some ⟨w.heap.size,0,none⟩),.int .u64 150]) (w.alloc (.cells #[.pointer (some e)] 106)):=by kernel_rfl
theorem XjW (w:World):(Rtype.elem? 107).run Tryz.prog w=.ok (some 106) w:=by kernel_rfl
theorem XrL (p:Addr) (w:World):(ReflectliteValue.mk 106 p ReflectliteValue.flagAddr).run Tryz.prog w=.ok (.agg #[.pointer (some ⟨10,106,none⟩),.pointer (some p),.int .u64 406]) w:=by kernel_rfl
theorem XlV (a p:Addr) (W:World) (ha:W.cell? a=some (.pointer (some p))) :
  (ReflectliteValue.method (ReflectliteValue.valueError "reflectlite.Value.Elem" 0) ReflectliteValue.elem #[.agg #[.pointer (some ⟨10,107,none⟩),.pointer (some a),.int .u64 150]]).run Tryz.prog W
   = .ok (.agg #[.pointer (some ⟨10,106,none⟩),.pointer (some p),.int .u64 406]) W:=by
 rw [XuD]
 simp only [Sem.run_bind,Xg8,Result.andThen]
 simp [ReflectliteValue.elem,loadVar,isAgg,underlying,Tryz.underlying107,ha,Result.andThen,XjW,XrL]
theorem XjY (a:Addr) (w:World):(ReflectliteValue.parts (.agg #[.pointer (some ⟨10,106,none⟩),.pointer (some a),.int .u64 406])).run Tryz.prog w=.ok (some (106,a,406)) w:=by kernel_rfl
theorem XlZ (a:Addr) (w:World):(ReflectliteValue.parts (.agg #[.pointer (some ⟨10,106,none⟩),.pointer (some a),.int .u64 150])).run Tryz.prog w=.ok (some (106,a,150)) w:=by kernel_rfl
theorem XjU (w:World):(Rtype.directlyAssignable 106 106).run Tryz.prog w=.ok true w:=by kernel_rfl
theorem XpB (ta b e:Addr) (old:Value) (W:World) (hb:W.cell? b=some (.pointer (some e))) (ht:W.cell? ta=some old) (hf:W.frozen? ta=false) :
  (ReflectliteValue.set #[.agg #[.pointer (some ⟨10,106,none⟩),.pointer (some ta),.int .u64 406],.agg #[.pointer (some ⟨10,106,none⟩),.pointer (some b),.int .u64 150]]).run Tryz.prog W
   = .ok (.tuple #[]) (W.setCell ta (.pointer (some e))):=by
 rw [Xrf]
 simp only [Sem.run_bind,XjY,XlZ,Result.andThen]
 simp [ReflectliteValue.flagAddr,loadVar,isAgg,underlying,Tryz.underlying106,hb,Result.andThen,XjU,storeVar,Value.cells,storeCells,Addr.add]
 rw [run_store Tryz.prog W ta _ _ (by rfl)]
 simp [ht,hf]
open Go.RowKit Go.Extern.Stop Go.Stop Go.Extern
section
variable {P:Program} {Δ:List Deferred} {V O:Nat→Prop} {w0 w w':World} {H H':List Hp} {T:List AV} {a:Act}
theorem XiB {f:FuncId} {args:List Value} {t:Nat} {old new res:Value} {R:List Hp} (h1:new.oneCell'=true)
  (h:∀w,Gw w→(∀b (cells:List Value),Hp.box b (cells.map .x)∈R→∀j u,cells[j]?=some u→w.cell? ⟨b,j,none⟩=some u)→w.cell? ⟨t,0,none⟩=some old→w.frozen? ⟨t,0,none⟩=false →
   Calls P f args.toArray w fun e w'=>e=.returned res∧∃w1,Ext w w1∧w'=w1.setCell ⟨t,0,none⟩ new) :
  Xa3 P f (.box t [.x old] :: R) (args.map .x) fun r H'=>r=.x res∧H'=.box t [.x new] :: R:=by
 intro V w vs hV hH hd hgl
 rw [hd.exact']
 have r:Rel [] V (XcS (.box t [.x old] :: R)) w (.box t [.x old] :: R) [] { tmps:=#[],defers:=[] } w:=⟨XaV.nil',hH,Fr.refl _ _,fun x hx k hk=>.inl ⟨x,hx,hk⟩,rfl,hV,hgl⟩
 have hbox:∀(b:Nat) (cells:List Value),Hp.box b (cells.map .x)∈(Hp.box t [.x old] :: R)→∀j u,cells[j]?=some u→w.cell? ⟨b,j,none⟩=some u∧w.frozen? ⟨b,j,none⟩=false:=fun b cells hm j u hj=>by
  obtain ⟨vals,hd,hl,hc⟩:=hH.ok _ hm
  rw [hd.exact'] at hc
  exact ⟨(hc j u hj).1,(hc j u hj).2.2⟩
 have ht:=hbox t [old] (List.mem_cons_self ..) 0 old rfl
 refine (h w hgl.2 (fun b cells hm j u hj=>(hbox b cells (List.mem_cons_of_mem _ hm) j u hj).1) ht.1 ht.2).mono ?_
 rintro e w' ⟨rfl,w1,hE,rfl⟩
 have hlt:t < w.heap.size:=(hH.lt _ (List.mem_cons_self ..) t rfl).1
 have hlt1:t < w1.heap.size:=Nat.lt_of_lt_of_le hlt hE.size
 have hc1:w1.cell? ⟨t,0,none⟩=some old:=by rw [World.cell?_of_block (a:=⟨t,0,none⟩) (hE.block t hlt)];exact ht.1
 have hf1:w1.frozen? ⟨t,0,none⟩=false:=by rw [World.frozen?_of_block (a:=⟨t,0,none⟩) (hE.block t hlt)];exact ht.2
 have r2:Rel [] V (XcS (.box t [.x old] :: R)) w (.box t [.x new] :: R) [] { tmps:=#[],defers:=[] } (w1.setCell ⟨t,0,none⟩ new):=by
  refine Rel.turn (r.quiet hE) rfl rfl rfl (by simp) (fun k _ hk=>?_) (fun k hk=>?_) ?_ (fun _ _ _=>trivial)
  ·simp only [Hp.blk] at hk
   have:t≠k:=fun e=>hk (by rw [e])
   simp [World.setCell,Array.getElem?_modify,this]
  ·cases hk;exact ⟨by simpa using hlt1,.inl rfl⟩
  ·refine ⟨[new],XaV.cons' (XdP _) XaV.nil',by simpa using hlt1,fun j u hj=>?_⟩
   cases j with
   | succ j=>simp at hj
   | zero=>
     cases hj
     exact ⟨(by first|exact World.cell?_setCell_same _ _ _ hc1|fail),h1,by rw [World.frozen?_setCell];exact hf1⟩
 exact ⟨.x res,_,res,⟨rfl,rfl⟩,rfl,XdP _,r2.hok,r2.fr,r2.own⟩
end
theorem Xpz (e t:Addr) (old:Value) (w:World) (hg:Gw w) (ht0:w.cell? t=some old) (hf0:w.frozen? t=false) :
  Calls Tryz.prog 51 #[.iface 106 (.pointer (some e)),.iface 107 (.pointer (some t))] w fun ev w'=>ev=.returned (.bool true)∧w'=((((w.alloc (.cells #[.pointer (some t)] 107)).alloc (.cells #[.pointer (some ⟨10,107,none⟩),.pointer (some ⟨w.heap.size,0,none⟩),.int .u64 150] 156)).alloc (.cells #[.pointer (some ⟨10,107,none⟩),.pointer (some ⟨w.heap.size,0,none⟩),.int .u64 150] 156)).alloc (.cells #[.pointer (some e)] 106)).setCell t (.pointer (some e)):=by
 replace hg:=hg.errs
 have h6:=@run_callFunc_extern Tryz.prog 86 _ (fun args=>ReflectliteValue.unpack (args.getD 0 (.tuple #[]))) Tryz.func86 (by kernel_rfl) (by kernel_rfl) (by kernel_rfl) (by kernel_rfl);have h7:=@run_callFunc_extern Tryz.prog 87 _ (ReflectliteValue.methodAny (ReflectliteValue.valueError "reflectlite.Value.Type" 0) (fun t _ _ _=>ReflectliteType.toType t)) Tryz.func87 (by kernel_rfl) (by kernel_rfl) (by kernel_rfl) (by kernel_rfl);have h8:=@run_callFunc_extern Tryz.prog 88 _ (ReflectliteValue.method (ReflectliteValue.valueError "reflectlite.Value.IsNil" 0) ReflectliteValue.isNil) Tryz.func88 (by kernel_rfl) (by kernel_rfl) (by kernel_rfl) (by kernel_rfl);have h27:=@run_callFunc_extern Tryz.prog 229 _ (ReflectliteType.abiMethod fun t=>do pure (.int .u8 (←Rtype.kind t))) Tryz.func229 (by kernel_rfl) (by kernel_rfl) (by kernel_rfl) (by kernel_rfl);have h37:=@run_callFunc_extern Tryz.prog 242 _ (ReflectliteType.method ReflectliteType.elem) Tryz.func242 (by kernel_rfl) (by kernel_rfl) (by kernel_rfl) (by kernel_rfl);have h38:=@run_callFunc_extern Tryz.prog 243 _ (ReflectliteType.relation "Implements" ReflectliteType.implements_) Tryz.func243 (by kernel_rfl) (by kernel_rfl) (by kernel_rfl) (by kernel_rfl);have h10:=@run_callFunc_extern Tryz.prog 127 _ ReflectliteType.typeOf Tryz.func127 (by kernel_rfl) (by kernel_rfl) (by kernel_rfl) (by kernel_rfl);have h35:=@run_callFunc_extern Tryz.prog 240 _ (ReflectliteType.relation "AssignableTo" ReflectliteType.assignableTo) Tryz.func240 (by kernel_rfl) (by kernel_rfl) (by kernel_rfl) (by kernel_rfl);have h11:=@run_callFunc_extern Tryz.prog 128 _ (ReflectliteValue.method (ReflectliteValue.valueError "reflectlite.Value.Elem" 0) ReflectliteValue.elem) Tryz.func128 (by kernel_rfl) (by kernel_rfl) (by kernel_rfl) (by kernel_rfl);have h12:=@run_callFunc_extern Tryz.prog 129 _ ReflectliteValue.set Tryz.func129 (by kernel_rfl) (by kernel_rfl) (by kernel_rfl) (by kernel_rfl)
 have tO:=Xgd
 have mA:=XdU
 have a25:=XjS
 have v25:=XiI
 have f6:=XiJ
 have f7:=Xng
 have mK:=XeN
 have mE:=XeL
 have mI:=XeM
 have k27:=Xne
 have k25:=Xnd
 have e27:=Xm8
 have i25:=Xna
 have n8:=XlX ⟨w.heap.size,0,none⟩ t ((w.alloc (.cells #[.pointer (some t)] 107)).alloc (.cells #[.pointer (some ⟨10,107,none⟩),.pointer (some ⟨w.heap.size,0,none⟩),.int .u64 150] 156)) (by simp)
 have hlt:1 < w.heap.size:=World.block_lt_of_cell? w _ hg
 have hg2:((w.alloc (.cells #[.pointer (some t)] 107)).alloc (.cells #[.pointer (some ⟨10,107,none⟩),.pointer (some ⟨w.heap.size,0,none⟩),.int .u64 150] 156)).cell? ⟨1,0,none⟩=some (.iface 196 (.agg #[.pointer (some ⟨10,81,none⟩)])):=by
  rw [World.cell?_alloc_lt _ _ ⟨1,0,none⟩ (by simp<;>omega),World.cell?_alloc_lt _ _ ⟨1,0,none⟩ hlt];exact hg
 have htl:t.block < w.heap.size:=World.block_lt_of_cell? w _ ht0
 have el:=XlV ⟨w.heap.size,0,none⟩ t (((w.alloc (.cells #[.pointer (some t)] 107)).alloc (.cells #[.pointer (some ⟨10,107,none⟩),.pointer (some ⟨w.heap.size,0,none⟩),.int .u64 150] 156)).alloc (.cells #[.pointer (some ⟨10,107,none⟩),.pointer (some ⟨w.heap.size,0,none⟩),.int .u64 150] 156)) (by rw [World.cell?_alloc_lt _ _ ⟨w.heap.size,0,none⟩ (by simp;omega)];simp)
 have st:=XpB t ⟨w.heap.size+1+1+1,0,none⟩ e old ((((w.alloc (.cells #[.pointer (some t)] 107)).alloc (.cells #[.pointer (some ⟨10,107,none⟩),.pointer (some ⟨w.heap.size,0,none⟩),.int .u64 150] 156)).alloc (.cells #[.pointer (some ⟨10,107,none⟩),.pointer (some ⟨w.heap.size,0,none⟩),.int .u64 150] 156)).alloc (.cells #[.pointer (some e)] 106))
  (by rw [World.cell?_alloc_at _ _ _ _ (by simp)];rfl)
  (by rw [World.cell?_alloc_lt _ _ t (by simp;omega),World.cell?_alloc_lt _ _ t (by simp;omega),World.cell?_alloc_lt _ _ t (by simp;omega),World.cell?_alloc_lt _ _ t htl];exact ht0)
  (by rw [World.frozen?_alloc_old _ _ t (by simp;omega),World.frozen?_alloc_old _ _ t (by simp;omega),World.frozen?_alloc_old _ _ t (by simp;omega),World.frozen?_alloc_old _ _ t (Nat.ne_of_lt htl)];exact hf0)
 go_enter Tryz.func51,Tryz.ntmps51
 go_wp2
 refine wp_loop_rounds 1 ?_
 rw [rounds_succ]
 go_wp2
 go_ret
 exact ⟨rfl,rfl⟩
theorem XrJ (b:Nat) (c:Int) (t:Addr) (old:Value) (w:World) (hg:Gw w) (hb0:w.cell? ⟨b,2,none⟩=some (.iface 103 (.int .i64 c))) (ht0:w.cell? t=some old) (hf0:w.frozen? t=false) :
  Calls Tryz.prog 51 #[.iface 106 (.pointer (some ⟨b,0,none⟩)),.iface 105 (.pointer (some t))] w fun ev w'=>ev=.returned (.bool true)∧w'=((((w.alloc (.cells #[.pointer (some t)] 105)).alloc (.cells #[.pointer (some ⟨10,105,none⟩),.pointer (some ⟨w.heap.size,0,none⟩),.int .u64 150] 156)).alloc (.cells #[.pointer (some ⟨10,105,none⟩),.pointer (some ⟨w.heap.size,0,none⟩),.int .u64 150] 156)).alloc (.cells #[.int .i64 c] 103)).setCell t (.int .i64 c):=by
 replace hg:=hg.errs
 have h6:=@run_callFunc_extern Tryz.prog 86 _ (fun args=>ReflectliteValue.unpack (args.getD 0 (.tuple #[]))) Tryz.func86 (by kernel_rfl) (by kernel_rfl) (by kernel_rfl) (by kernel_rfl);have h7:=@run_callFunc_extern Tryz.prog 87 _ (ReflectliteValue.methodAny (ReflectliteValue.valueError "reflectlite.Value.Type" 0) (fun t _ _ _=>ReflectliteType.toType t)) Tryz.func87 (by kernel_rfl) (by kernel_rfl) (by kernel_rfl) (by kernel_rfl);have h8:=@run_callFunc_extern Tryz.prog 88 _ (ReflectliteValue.method (ReflectliteValue.valueError "reflectlite.Value.IsNil" 0) ReflectliteValue.isNil) Tryz.func88 (by kernel_rfl) (by kernel_rfl) (by kernel_rfl) (by kernel_rfl);have h27:=@run_callFunc_extern Tryz.prog 229 _ (ReflectliteType.abiMethod fun t=>do pure (.int .u8 (←Rtype.kind t))) Tryz.func229 (by kernel_rfl) (by kernel_rfl) (by kernel_rfl) (by kernel_rfl);have h37:=@run_callFunc_extern Tryz.prog 242 _ (ReflectliteType.method ReflectliteType.elem) Tryz.func242 (by kernel_rfl) (by kernel_rfl) (by kernel_rfl) (by kernel_rfl);have h38:=@run_callFunc_extern Tryz.prog 243 _ (ReflectliteType.relation "Implements" ReflectliteType.implements_) Tryz.func243 (by kernel_rfl) (by kernel_rfl) (by kernel_rfl) (by kernel_rfl);have h10:=@run_callFunc_extern Tryz.prog 127 _ ReflectliteType.typeOf Tryz.func127 (by kernel_rfl) (by kernel_rfl) (by kernel_rfl) (by kernel_rfl);have h35:=@run_callFunc_extern Tryz.prog 240 _ (ReflectliteType.relation "AssignableTo" ReflectliteType.assignableTo) Tryz.func240 (by kernel_rfl) (by kernel_rfl) (by kernel_rfl) (by kernel_rfl);have h11:=@run_callFunc_extern Tryz.prog 128 _ (ReflectliteValue.method (ReflectliteValue.valueError "reflectlite.Value.Elem" 0) ReflectliteValue.elem) Tryz.func128 (by kernel_rfl) (by kernel_rfl) (by kernel_rfl) (by kernel_rfl);have h12:=@run_callFunc_extern Tryz.prog 129 _ ReflectliteValue.set Tryz.func129 (by kernel_rfl) (by kernel_rfl) (by kernel_rfl) (by kernel_rfl)
 have tO:=Xgd
 have tO2:=XjZ
 have mA:=XdU
 have mU:=Xgc
 have nA:=XrM
 have hU:=XiF
 have a24:=XjR
 have a25:=XjQ
 have v25:=XiG
 have f6:=XiH
 have f7:=Xnf
 have mK:=XeN
 have mE:=XeL
 have mI:=XeM
 have k27:=Xnc
 have k25:=Xnb
 have e27:=Xm7
 have i25:=Xm9
 have n8:=XlW ⟨w.heap.size,0,none⟩ t ((w.alloc (.cells #[.pointer (some t)] 105)).alloc (.cells #[.pointer (some ⟨10,105,none⟩),.pointer (some ⟨w.heap.size,0,none⟩),.int .u64 150] 156)) (by simp)
 have hlt:1 < w.heap.size:=World.block_lt_of_cell? w _ hg
 have hg2:((w.alloc (.cells #[.pointer (some t)] 105)).alloc (.cells #[.pointer (some ⟨10,105,none⟩),.pointer (some ⟨w.heap.size,0,none⟩),.int .u64 150] 156)).cell? ⟨1,0,none⟩=some (.iface 196 (.agg #[.pointer (some ⟨10,81,none⟩)])):=by
  rw [World.cell?_alloc_lt _ _ ⟨1,0,none⟩ (by simp<;>omega),World.cell?_alloc_lt _ _ ⟨1,0,none⟩ hlt];exact hg
 have htl:t.block < w.heap.size:=World.block_lt_of_cell? w _ ht0
 have hbl:b < w.heap.size:=World.block_lt_of_cell? w _ hb0
 have hb2:(((w.alloc (.cells #[.pointer (some t)] 105)).alloc (.cells #[.pointer (some ⟨10,105,none⟩),.pointer (some ⟨w.heap.size,0,none⟩),.int .u64 150] 156)).alloc (.cells #[.pointer (some ⟨10,105,none⟩),.pointer (some ⟨w.heap.size,0,none⟩),.int .u64 150] 156)).cell? ⟨b,2,none⟩=some (.iface 103 (.int .i64 c)):=by
  rw [World.cell?_alloc_lt _ _ ⟨b,2,none⟩ (by simp;omega),World.cell?_alloc_lt _ _ ⟨b,2,none⟩ (by simp;omega),World.cell?_alloc_lt _ _ ⟨b,2,none⟩ hbl];exact hb0
 have el:=XlU ⟨w.heap.size,0,none⟩ t (((w.alloc (.cells #[.pointer (some t)] 105)).alloc (.cells #[.pointer (some ⟨10,105,none⟩),.pointer (some ⟨w.heap.size,0,none⟩),.int .u64 150] 156)).alloc (.cells #[.pointer (some ⟨10,105,none⟩),.pointer (some ⟨w.heap.size,0,none⟩),.int .u64 150] 156)) (by rw [World.cell?_alloc_lt _ _ ⟨w.heap.size,0,none⟩ (by simp;omega)];simp)
 have st:=XpA t ⟨w.heap.size+1+1+1,0,none⟩ c old ((((w.alloc (.cells #[.pointer (some t)] 105)).alloc (.cells #[.pointer (some ⟨10,105,none⟩),.pointer (some ⟨w.heap.size,0,none⟩),.int .u64 150] 156)).alloc (.cells #[.pointer (some ⟨10,105,none⟩),.pointer (some ⟨w.heap.size,0,none⟩),.int .u64 150] 156)).alloc (.cells #[.int .i64 c] 103))
  (by rw [World.cell?_alloc_at _ _ _ _ (by simp)];rfl)
  (by rw [World.cell?_alloc_lt _ _ t (by simp;omega),World.cell?_alloc_lt _ _ t (by simp;omega),World.cell?_alloc_lt _ _ t (by simp;omega),World.cell?_alloc_lt _ _ t htl];exact ht0)
  (by rw [World.frozen?_alloc_old _ _ t (by simp;omega),World.frozen?_alloc_old _ _ t (by simp;omega),World.frozen?_alloc_old _ _ t (by simp;omega),World.frozen?_alloc_old _ _ t (Nat.ne_of_lt htl)];exact hf0)
 clear hb0
 go_enter Tryz.func51,Tryz.ntmps51
 go_wp2
 refine wp_loop_rounds 2 ?_
 rw [rounds_succ]
 go_wp2
 rw [rounds_succ]
 go_wp2
 go_ret
 exact ⟨rfl,rfl⟩
theorem al4 (w:World) (o1 o2 o3 o4:Obj):Ext w ((((w.alloc o1).alloc o2).alloc o3).alloc o4):=(((Ext.al _ _).tr (Ext.al _ _)).tr (Ext.al _ _)).tr (Ext.al _ _)
theorem Xm6 (b t:Nat) (v0 v1 old:Value) (c:Int) (R:List Hp):Xa3 Tryz.prog 51 (.box t [.x old] :: .box b [.x v0,.x v1,.x (.iface 103 (.int .i64 c))] :: R) [.x (.iface 106 (.pointer (some ⟨b,0,none⟩))),.x (.iface 105 (.pointer (some ⟨t,0,none⟩)))] fun r H'=>r=.x (.bool true)∧H'=.box t [.x (.int .i64 c)] :: .box b [.x v0,.x v1,.x (.iface 103 (.int .i64 c))] :: R:=by
 refine XiB (args:=[_,_]) rfl fun w hg hR ht hf=>?_
 refine (XrJ b c ⟨t,0,none⟩ old w hg (hR b [v0,v1,_] (List.mem_cons_self ..) 2 _ rfl) ht hf).mono ?_
 rintro e w' ⟨rfl,rfl⟩
 exact ⟨rfl,_,al4 _ _ _ _ _,rfl⟩
theorem Xl0 (b t:Nat) (old:Value) (R:List Hp):Xa3 Tryz.prog 51 (.box t [.x old] :: R) [.x (.iface 106 (.pointer (some ⟨b,0,none⟩))),.x (.iface 107 (.pointer (some ⟨t,0,none⟩)))] fun r H'=>r=.x (.bool true)∧H'=.box t [.x (.pointer (some ⟨b,0,none⟩))] :: R:=by
 refine XiB (args:=[_,_]) rfl fun w hg hR ht hf=>?_
 refine (Xpz ⟨b,0,none⟩ ⟨t,0,none⟩ old w hg ht hf).mono ?_
 rintro e w' ⟨rfl,rfl⟩
 exact ⟨rfl,_,al4 _ _ _ _ _,rfl⟩
open Go.RowKit
theorem Xop (l:List UInt8) (hl:l.length≤1000000) (h8:8192 < l.length):Xa3 Tryz.prog 24 [] [.x (.string (bs l))] (fun r H'=>r=.tup [.sq 0 [],.x (.agg #[.int .i64 1,.int .i64 0,.int .i64 0])]∧H'=[]):=by
 refine XaD Tryz.func24 rfl ?_
 simp only [Tryz.ntmps24,Xvy,XvB,XvC,XvD,XvG,XvF,Nat.reduceAdd,Nat.reduceSub]
 (repeat' (first|with_reducible (first|refine Xag ?_|refine Xac ?_|refine Xar ?_|refine Xae ?_|refine Xaa ?_|refine Xax ?_)|(refine Xak _ rfl (fun h=>?_) (fun h=>?_)<;>((try (simp only [whn] at h));first|(exfalso;omega;done)|skip))|((apply Xad rfl);(case h=>(first|(apply Xab 0 rfl;(first|exact Xap _ rfl|exact Xan _ rfl))|(apply Xab 10 rfl;(exact Xa1 _ _ _ _ _ rfl HPl.out (by first|rfl|fail) rfl))|(apply XaC;(case hs=>(intro _ _ h;cases h));(case hx=>rfl);(case hrun=>(intro w;simp [wtb,AV.val,go_sem];skip;rfl)))));(case hT=>((try simp only [wtn,↓reduceIte]);rfl)))|(refine Xai rfl ?_;((first|(refine Xas 14 rfl ?_;(refine XaK _ _ rfl Xbk.out rfl (fun b=>?_)))|(refine Xas 16 rfl ?_;(refine Xaw _ _ _ _ _ _ _ rfl rfl XaS.out XaR.out (by first|rfl|fail) (by first|exact Xvu rfl|fail) ?_)));apply Xah;(case hT=>((try simp only [wtn]);rfl));(case hH=>((try simp only [wtn,Nat.reduceAdd]);rfl))))|fail))
 refine Xaf _ _ (XcB rfl (RV.tmp _) (RV.cell 0 rfl rfl XaN.out (by simp) (by simp)) (XaH.mk' [_] [] (Xvv _) XaB.nil (VwL.cons Vw.nil (VwL.refl _ _)))) ?_
 exact ⟨rfl,rfl⟩
theorem Xsv (l:List UInt8) (h8:l.length≤8192) (ts:List Tok) (hs:Xa3 Tryz.prog 50 [] [.x (.string (bs l))] (fun q H'=>q=.tup [.sq ts.length (ta ts),.x .nilIface]∧H'=[])):Xa3 Tryz.prog 24 [] [.x (.string (bs l))] (fun r H'=>r=.tup [.sq ts.length (ta ts),.x (.agg #[.int .i64 0,.int .i64 0,.int .i64 0])]∧H'=[]):=by
 refine XaD Tryz.func24 rfl ?_
 simp only [Tryz.ntmps24,Xvy,XvB,XvC,XvD,XvG,XvF,Nat.reduceAdd,Nat.reduceSub]
 (repeat' (first|with_reducible (first|refine Xag ?_|refine Xac ?_|refine Xar ?_|refine Xau ?_|refine Xae ?_|refine Xaa ?_|refine Xax ?_)|(refine Xak _ rfl (fun h=>?_) (fun h=>?_)<;>first|(exact absurd h (by decide))|((try (simp only [whn] at h));first|(exfalso;omega;done)|skip))|((apply Xad rfl);(case h=>(first|(apply Xab 0 rfl;(first|exact Xap _ rfl|exact Xan _ rfl))|(apply Xab 2 rfl;(exact XaM _ _ _ _ rfl rfl rfl))|(apply Xab 10 rfl;(exact Xa1 _ _ _ _ _ rfl HPl.out (by first|rfl|fail) rfl))|(apply Xab 11 rfl;(exact Xay 50 Tryz.f50 _ _ rfl rfl Tryz.func50 (by decide) rfl (VwL.refl _ _) (hs)))|(apply XaC;(case hs=>(intro _ _ h;cases h));(case hx=>rfl);(case hrun=>(intro w;simp [wtb,AV.val,go_sem];skip;rfl)))));(case hT=>((try simp only [wtn,↓reduceIte]);rfl)))|(refine Xai rfl ?_;((first|(refine Xas 14 rfl ?_;(refine XaK _ _ rfl Xbk.out rfl (fun b=>?_)))|(refine Xas 16 rfl ?_;(refine Xaw _ _ _ _ _ _ _ rfl rfl XaS.out XaR.out (by first|rfl|fail) (by first|exact Xvu rfl|fail) ?_)));apply Xah;(case hT=>((try simp only [wtn]);rfl));(case hH=>((try simp only [wtn,Nat.reduceAdd]);rfl))))|fail))
 refine Xaf _ _ (XcB rfl (RV.tmp _) (RV.cell 0 rfl rfl XaN.out (by simp) (by simp)) (XaH.mk' [_] [] (Xvv _) XaB.nil (VwL.refl _ _))) ?_
 exact ⟨rfl,rfl⟩
theorem Xql (l:List UInt8) (h8:l.length≤8192) (c:Int) (x y:Int) (hs:Xa3 Tryz.prog 50 [] [.x (.string (bs l))] (fun q H'=>∃b,q=.tup [.x (.slice none 0 0),.x (.iface 106 (.pointer (some ⟨b,0,none⟩)))]∧H'=[.box b [.x (.int .i64 x),.x (.int .i64 y),.x (.iface 103 (.int .i64 c))]])):Xa3 Tryz.prog 24 [] [.x (.string (bs l))] (fun r H'=>r=.tup [.sq 0 [],.x (.agg #[.int .i64 c,.int .i64 x,.int .i64 y])]∧H'=[]):=by
 refine XaD Tryz.func24 rfl ?_
 simp only [Tryz.ntmps24,Xvy,XvB,XvC,XvD,XvG,XvF,Nat.reduceAdd,Nat.reduceSub]
 (repeat' (first|with_reducible (first|refine Xag ?_|refine Xac ?_|refine Xau ?_|refine Xae ?_|refine Xaa ?_)|(refine Xak _ rfl (fun h=>?_) (fun h=>?_)<;>first|(exact absurd h (by decide))|((try (simp only [whn] at h));first|(exfalso;omega;done)|skip))|((apply Xad rfl);(case h=>(first|(apply Xab 0 rfl;(first|exact Xap _ rfl|exact Xan _ rfl))|(apply Xab 2 rfl;(exact XaM _ _ _ _ rfl rfl rfl))|(apply Xab 5 rfl;(exact Xal _ _ _ _ _ _ rfl rfl Xa5.out))|(apply Xab 6 rfl;(exact Xaz _ _ _ _ _ _ _ _ rfl rfl XaS.out XaN.out (by first|exact Xvu rfl|fail) (by first|exact Xvu rfl|fail)))|(apply XaC;(case hs=>(intro _ _ h;cases h));(case hx=>rfl);(case hrun=>(intro w;simp [wtb,AV.val,go_sem];skip;rfl)))));(case hT=>((try simp only [wtn]);rfl)))|(refine Xai rfl ?_;((first|(refine Xas 11 rfl ?_;(first|(refine Xam 50 Tryz.f50 ([]) _ _ _ rfl rfl Tryz.func50 (by decide) rfl (Xvv _) (VwL.refl _ _) (hs) ?_;rintro _ _ ⟨b2,rfl,rfl⟩)|(refine Xam 51 Tryz.f51 [_,_] [_,_] _ _ rfl rfl Tryz.func51 (by decide) rfl (XvL _ (List.Perm.swap _ _ _)) (VwL.refl _ _) (Xm6 _ _ _ _ _ _ []) ?_;rintro _ _ ⟨rfl,rfl⟩)|(refine Xam 51 Tryz.f51 [_] _ _ _ rfl rfl Tryz.func51 (by decide) rfl (Xvv _) (VwL.refl _ _) (Xl0 _ _ _ []) ?_;rintro _ _ ⟨rfl,rfl⟩)))|(refine Xas 14 rfl ?_;(refine XaK _ _ rfl Xbk.out rfl (fun b=>?_)))|(refine Xas 16 rfl ?_;(refine Xaw _ _ _ _ _ _ _ rfl rfl XaS.out XaR.out (by first|rfl|fail) (by first|exact Xvu rfl|fail) ?_)));apply Xah;(case hT=>((try simp only [wtn]);rfl));(case hH=>((try simp only [wtn,Nat.reduceAdd]);rfl))))|fail))
 refine Xb1 mixed [] [_,_] _ (XvL _ (List.Perm.swap _ _ _)) ?_
 (first|refine Xbc 0 rfl rfl (by kernel_rfl) (by intro c T H hp;simp [XaO,Xat,XaT,Xbr] at hp) _ _ _ _ _ _ _ _ rfl rfl XaS.out XaN.out (by first|exact Xvu rfl|fail) (by first|exact Xvu rfl|fail) ?_|fail);(apply Xaq;(case hT=>((try simp only [wtn]);rfl));(case hH=>rfl));(first|(apply XaI 1 rfl rfl (by kernel_rfl) (by intro c T H hp;simp [XaO,Xat,XaT,Xbr] at hp);(case h=>(exact Xcj _ _ _ rfl rfl)))|fail);(apply Xaq;(case hT=>((try simp only [wtn]);rfl));(case hH=>rfl));(first|(apply XaI 2 rfl rfl (by kernel_rfl) (by intro c T H hp;simp [XaO,Xat,XaT,Xbr] at hp);(case h=>(exact XaU _ _ _ _ _ _ rfl rfl Xa5.out)))|fail);(apply Xaq;(case hT=>((try simp only [wtn]);rfl));(case hH=>rfl));(first|refine Xbc 3 rfl rfl (by kernel_rfl) (by intro c T H hp;simp [XaO,Xat,XaT,Xbr] at hp) _ _ _ _ _ _ _ _ rfl rfl XaS.out XaN.out (by first|exact Xvu rfl|fail) (by first|exact Xvu rfl|fail) ?_|fail);(apply Xaq;(case hT=>((try simp only [wtn]);rfl));(case hH=>rfl));(first|refine Xbc 4 rfl rfl (by kernel_rfl) (by intro c T H hp;simp [XaO,Xat,XaT,Xbr] at hp) _ _ _ _ _ _ _ _ rfl rfl XaS.out XaN.out (by first|exact Xvu rfl|fail) (by first|exact Xvu rfl|fail) ?_|fail);(apply Xaq;(case hT=>((try simp only [wtn]);rfl));(case hH=>rfl));(first|(apply XaI 5 rfl rfl (by kernel_rfl) (by intro c T H hp;simp [XaO,Xat,XaT,Xbr] at hp);(case h=>(exact Xcj _ _ _ rfl rfl)))|fail);(apply Xaq;(case hT=>((try simp only [wtn]);rfl));(case hH=>rfl));(first|(apply XaI 6 rfl rfl (by kernel_rfl) (by intro c T H hp;simp [XaO,Xat,XaT,Xbr] at hp);(case h=>(exact XaU _ _ _ _ _ _ rfl rfl Xa5.out)))|fail);(apply Xaq;(case hT=>((try simp only [wtn]);rfl));(case hH=>rfl));(first|refine Xbc 7 rfl rfl (by kernel_rfl) (by intro c T H hp;simp [XaO,Xat,XaT,Xbr] at hp) _ _ _ _ _ _ _ _ rfl rfl XaS.out XaN.out (by first|exact Xvu rfl|fail) (by first|exact Xvu rfl|fail) ?_|fail);(apply Xaq;(case hT=>((try simp only [wtn]);rfl));(case hH=>rfl));(first|(apply XaI 8 rfl rfl (by kernel_rfl) (by intro c T H hp;simp [XaO,Xat,XaT,Xbr] at hp);(case h=>(exact XaU _ _ _ _ _ _ rfl rfl Xa5.out)))|fail);(apply Xaq;(case hT=>((try simp only [wtn]);rfl));(case hH=>rfl))
 (repeat ((first|refine Xbu 9 (by decide +kernel) rfl rfl ?_|refine Xbu 10 (by decide +kernel) rfl rfl ?_|refine Xbu 11 (by decide +kernel) rfl rfl ?_|fail);(first|(apply Xba;(case h=>(apply Xab 5 rfl;(exact Xal _ _ _ _ _ _ rfl rfl Xa5.out)));(apply Xaq;(case hT=>((try simp only [wtn]);rfl));(case hH=>rfl)))|((refine Xas 16 rfl ?_;(refine Xaw _ _ _ _ _ _ _ rfl rfl XaS.out XaR.out (by first|rfl|fail) (by first|exact Xvu rfl|fail) ?_));apply Xaq;(case hT=>((try simp only [wtn]);rfl));(case hH=>((try simp only [wtn]);rfl)))|fail)))
 refine XbL (by decide +kernel) ?_
 refine XaA rfl (by simp only [XvG,XvF];rfl) ?_
 refine Xa4 (by decide +kernel) ?_
 (repeat' (first|with_reducible (first|refine Xag ?_|refine Xaa ?_)|fail))
 refine Xb1 mixed [] [_] [_,_,_,_] (XvI (l₁:=[_,_,_])) ?_
 (first|refine Xbc 0 rfl rfl (by kernel_rfl) (by intro c T H hp;simp [XaO,Xat,XaT,Xbr] at hp) _ _ _ _ _ _ _ _ rfl rfl XaS.out XaN.out (by first|exact Xvu rfl|fail) (by first|exact Xvu rfl|fail) ?_|fail);(apply Xaq;(case hT=>((try simp only [wtn,↓reduceIte]);rfl));(case hH=>rfl));(first|(apply XaI 1 rfl rfl (by kernel_rfl) (by intro c T H hp;simp [XaO,Xat,XaT,Xbr] at hp);(case h=>(exact Xga _ rfl)))|fail);(apply Xaq;(case hT=>((try simp only [wtn]);rfl));(case hH=>rfl))
 (refine Xbu 2 (by decide +kernel) rfl rfl ?_;(first|((refine Xas 16 rfl ?_;(refine Xaw _ _ _ _ _ _ _ rfl rfl XaS.out XaR.out (by first|rfl|fail) (by first|exact Xvu rfl|fail) ?_));apply Xaq;(case hT=>((try simp only [wtn]);rfl));(case hH=>((try simp only [wtn,Nat.reduceAdd]);rfl)))|fail))
 refine XbL (by decide +kernel) ?_
 refine XaA rfl (by simp only [XvG,XvF];rfl) ?_
 refine Xa4 (by decide +kernel) ?_
 (repeat' (first|with_reducible (first|refine Xar ?_|refine Xaa ?_)|fail))
 refine Xaf _ _ (XcB rfl (RV.tmp _) (RV.cell 4 rfl rfl XaN.out (by simp) (by simp)) (XaH.mk' [_,_,_,_,_] [] (Xvv _) XaB.nil (VwL.cons Vw.nil (VwL.refl _ _)))) ?_
 exact ⟨rfl,rfl⟩
theorem Xt0 (l:List UInt8) (hl:l.length≤1000000):Xa3 Tryz.prog 24 [] [.x (.string (bs l))] (fun r H'=>r=.tup [.sq (Xd4 (lex l)).length (ta (Xd4 (lex l))),(XhY (lex l)).av]∧H'=[]):=by
 by_cases h8:8192 < l.length
 ·have e:lex l=.error ⟨1,0,0⟩:=by unfold lex;rw [if_pos (by omega)]
  rw [e]
  exact Xop l hl h8
 ·have e:lex l=Xci (1,1) 0 l:=by unfold lex;rw [if_neg (by omega)]
  have hs:=Xui l (by omega)
  rw [e]
  cases hx:Xci (1,1) 0 l with
  | ok ts=>rw [hx] at hs;exact Xsv l (by omega) ts hs
  | error f=>rw [hx] at hs;exact Xql l (by omega) _ _ _ hs
end Go.Proofs.YtdpobjakdplljaaGreatDoor

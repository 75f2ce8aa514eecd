import Derived.Test.YtdlblokjfoggpaaGreatDoorW23
import Derived.WalkKit
import Derived.LaidEql
import Derived.Stop.Asserts
import Derived.RowKitTokens
import Derived.Test.YtdlblokjfoggpaaGreatDoorW7
import Derived.Test.YtdlblokjfoggpaaGreatDoorW0
import Derived.Test.YtdlblokjfoggpaaGreatDoorW6
import Derived.Test.YtdlblokjfoggpaaGreatDoorW10
/- errors.Is at the sentinels of package check: a sentinel; a sentinel behind a *jobError. -/
set_option linter.unusedSimpArgs false
set_option linter.unusedVariables false
set_option maxRecDepth 100000
set_option maxHeartbeats 8000000
namespace Go.Proofs.YtdlblokjfoggpaaGreatDoor
open Go.RowKit Go.Extern.Stop Go.Stop Go.Extern
theorem XiJ (v:Value) (w:World):(Extern.ReflectliteType.typeOf #[.iface 293 v]).run Tryz.prog w=.ok (.iface 167 (.agg #[.pointer (some ⟨14,293,none⟩)])) w:=by kernel_rfl
theorem Xei (w:World):((Extern.ReflectliteType.method fun t=>do Rtype.noPackHeld "Comparable" t;pure (.bool (←typeInfo t).comparable)) #[.agg #[.pointer (some ⟨14,293,none⟩)]]).run Tryz.prog w=.ok (.bool true) w:=by kernel_rfl
theorem XeK (w:World):((Extern.ReflectliteType.method fun t=>do Rtype.noPackHeld "Comparable" t;(fun a=>Value.bool a.comparable) <$> typeInfo t) #[.agg #[.pointer (some ⟨14,293,none⟩)]]).run Tryz.prog w=.ok (.bool true) w:=by kernel_rfl
theorem XcY (v:Value) (w:World):(Go.method 432 167 v "Comparable").run Tryz.prog w=.ok (242,v) w:=by kernel_rfl
theorem XnQ:(Tryz.prog.info? 293).map (·.comparable)=some true:=by kernel_rfl
theorem XnR:(Tryz.prog.info? 295).map (·.size)=some 1:=by kernel_rfl
theorem XkW (v:Value) (xT:TypeId) (w:World):(Instr.typeAssert (.iface 293 v) xT 202 true).run Tryz.prog w=.ok (.tuple #[.nilIface,.bool false]) w:=run_typeAssert_lacksB Tryz.underlying202 (by kernel_rfl) (by kernel_rfl) v xT w
theorem Xfw (v:Value) (xT:TypeId) (w:World):(Instr.typeAssert (.iface 293 v) xT 174 true).run Tryz.prog w=.ok (.tuple #[.nilIface,.bool false]) w:=run_typeAssert_lacksB Tryz.underlying174 (by kernel_rfl) (by kernel_rfl) v xT w
theorem XeM (v:Value) (xT:TypeId) (w:World):(Instr.typeAssert (.iface 293 v) xT 176 true).run Tryz.prog w=.ok (.tuple #[.nilIface,.bool false]) w:=run_typeAssert_lacksB Tryz.underlying176 (by kernel_rfl) (by kernel_rfl) v xT w
theorem XkX (v:Value) (xT:TypeId) (w:World):(Instr.typeAssert (.iface 58 v) xT 202 true).run Tryz.prog w=.ok (.tuple #[.nilIface,.bool false]) w:=run_typeAssert_lacksB Tryz.underlying202 (by kernel_rfl) (by kernel_rfl) v xT w
theorem XeL (v:Value) (xT:TypeId) (w:World):(Instr.typeAssert (.iface 58 v) xT 174 true).run Tryz.prog w=.ok (.tuple #[.iface 58 v,.bool true]) w:=run_typeAssert_hasB Tryz.underlying174 (by kernel_rfl) v xT w
theorem XdG (v:Value) (w:World):(Go.method 432 58 v "Unwrap").run Tryz.prog w=.ok (236,v) w:=by kernel_rfl
theorem XiK (pb:Nat) (b:Addr) (w:World) (h1:w.cell? ⟨pb,2,none⟩=some (.iface 293 (.pointer (some b)))) :
  Calls Tryz.prog 44 #[.iface 58 (.pointer (some ⟨pb,0,none⟩)),.iface 293 (.pointer (some b))] w fun e w'=>e=.returned (.bool true)∧w'=w:=by
 (obtain ⟨i,hi,hcmp⟩:=Option.map_eq_some_iff.1 XnQ;obtain ⟨j,hj,hjs⟩:=Option.map_eq_some_iff.1 XnR;have h8:=@run_callFunc_extern Tryz.prog 86 _ Extern.ReflectliteType.typeOf Tryz.func86 (by kernel_rfl) (by kernel_rfl) (by kernel_rfl) (by kernel_rfl);have h32:=@run_callFunc_extern Tryz.prog 242 _ (Extern.ReflectliteType.method fun t=>do Rtype.noPackHeld "Comparable" t;pure (.bool (←typeInfo t).comparable)) Tryz.func242 (by kernel_rfl) (by kernel_rfl) (by kernel_rfl) (by kernel_rfl);have tT:=XiJ;have cT:=XeK;have cT0:=Xei;have mR:=XcY;have nE:=XkW;have uE:=Xfw;have vE:=XeM;have nW:=XkX;have uW:=XeL;have mU:=XdG)
 have heq:=run_eql_iface_ptr_same (P:=Tryz.prog) w b Tryz.underlying55 Tryz.underlying293 hi hcmp hj
 have hty:=run_eql_iface_types (P:=Tryz.prog) 58 293 (.pointer (some ⟨pb,0,none⟩)) (.pointer (some b)) Tryz.underlying55 (by decide) w
 go_enter Tryz.func44,Tryz.ntmps44
 go_wp2
 refine wp_loop_rounds 2 ?_
 rw [rounds_succ]
 go_wp2
 rw [rounds_succ]
 go_wp2
 go_ret
 exact ⟨rfl,rfl⟩
theorem XhG (pb:Nat) (b a:Addr) (ca cb:Array Value) (ta tb:TypeId) (w:World) (h1:w.cell? ⟨pb,2,none⟩=some (.iface 293 (.pointer (some a)))) (hne:a≠b) (ha:w.heap[a.block]?=some (.cells ca ta (0,0))) (hb:w.heap[b.block]?=some (.cells cb tb (0,0))) :
  Calls Tryz.prog 44 #[.iface 58 (.pointer (some ⟨pb,0,none⟩)),.iface 293 (.pointer (some b))] w fun e w'=>e=.returned (.bool false)∧w'=w:=by
 (obtain ⟨i,hi,hcmp⟩:=Option.map_eq_some_iff.1 XnQ;obtain ⟨j,hj,hjs⟩:=Option.map_eq_some_iff.1 XnR;have h8:=@run_callFunc_extern Tryz.prog 86 _ Extern.ReflectliteType.typeOf Tryz.func86 (by kernel_rfl) (by kernel_rfl) (by kernel_rfl) (by kernel_rfl);have h32:=@run_callFunc_extern Tryz.prog 242 _ (Extern.ReflectliteType.method fun t=>do Rtype.noPackHeld "Comparable" t;pure (.bool (←typeInfo t).comparable)) Tryz.func242 (by kernel_rfl) (by kernel_rfl) (by kernel_rfl) (by kernel_rfl);have tT:=XiJ;have cT:=XeK;have cT0:=Xei;have mR:=XcY;have nE:=XkW;have uE:=Xfw;have vE:=XeM;have nW:=XkX;have uW:=XeL;have mU:=XdG)
 have heq:=run_eql_iface_ptr_other (P:=Tryz.prog) w Tryz.underlying55 Tryz.underlying293 hi hcmp hj (by rw [hjs];decide) hne ha hb
 have hty:=run_eql_iface_types (P:=Tryz.prog) 58 293 (.pointer (some ⟨pb,0,none⟩)) (.pointer (some b)) Tryz.underlying55 (by decide) w
 go_enter Tryz.func44,Tryz.ntmps44
 go_wp2
 refine wp_loop_rounds 2 ?_
 rw [rounds_succ]
 go_wp2
 rw [rounds_succ]
 go_wp2
 go_ret
 exact ⟨rfl,rfl⟩
theorem Xlq:Xrk.length=7:=rfl
theorem Xog (ad:Nat→Addr) (hinj:XeD ad) (i j pb:Nat) (v0 v1:Value) (hi:i < 7) (hj:j < 7) (R:List Hp):Xay Tryz.prog 44 (.box pb [.x v0,.x v1,.x (Xh4 ad i)] :: .sen ad :: R) [.x (.iface 58 (.pointer (some ⟨pb,0,none⟩))),.x (Xh4 ad j)] fun r H'=>r=.x (.bool (decide (i=j)))∧H'=.box pb [.x v0,.x v1,.x (Xh4 ad i)] :: .sen ad :: R:=by
 refine Xm6 (args:=[_,_]) fun w hb hs=>?_
 have hs:=hs ad (List.mem_cons_of_mem _ (List.mem_cons_self ..))
 have h1:=hb pb [v0,v1,Xh4 ad i] (List.mem_cons_self ..) 2 _ rfl
 by_cases h:i=j
 ·subst h
  rw [decide_eq_true rfl]
  exact XiK pb _ w h1
 ·rw [decide_eq_false h]
  obtain ⟨c,t,e⟩:=hs.blk i (by rw [Xlq];exact hi)
  obtain ⟨c2,t2,e2⟩:=hs.blk j (by rw [Xlq];exact hj)
  exact XhG pb _ _ c c2 t t2 w h1 (fun e=>h (hinj i j hi hj e)) e e2
open Go.RowKit
section
variable {P:Program} {Δ:List Deferred} {V O:Nat→Prop} {w0 w w':World} {H H':List Hp} {T:List AV} {a:Act}
theorem Xf3 {f:FuncId} {args:List Value} {t:Nat} {old new res:Value} {R:List Hp} (h1:new.oneCell'=true)
  (h:∀w,Gw w→(∀b (cells:List Value),Hp.box b (cells.map .x)∈R→∀j u,cells[j]?=some u→w.cell? ⟨b,j,none⟩=some u)→w.cell? ⟨t,0,none⟩=some old→w.frozen? ⟨t,0,none⟩=false →
   Calls P f args.toArray w fun e w'=>e=.returned res∧∃w1,Ext w w1∧w'=w1.setCell ⟨t,0,none⟩ new) :
  Xay P f (.box t [.x old] :: R) (args.map .x) fun r H'=>r=.x res∧H'=.box t [.x new] :: R:=by
 intro V w vs hV hH hd hgl
 rw [hd.exact']
 have r:Rel [] V (Xch (.box t [.x old] :: R)) w (.box t [.x old] :: R) [] { tmps:=#[],defers:=[] } w:=⟨DenL.nil',hH,Fr.refl _ _,fun x hx k hk=>.inl ⟨x,hx,hk⟩,rfl,hV,hgl⟩
 have hbox:∀(b:Nat) (cells:List Value),Hp.box b (cells.map .x)∈(Hp.box t [.x old] :: R)→∀j u,cells[j]?=some u→w.cell? ⟨b,j,none⟩=some u∧w.frozen? ⟨b,j,none⟩=false:=fun b cells hm j u hj=>by
  obtain ⟨vals,hd,hl,hc⟩:=hH.ok _ hm
  rw [hd.exact'] at hc
  exact ⟨(hc j u hj).1,(hc j u hj).2.2⟩
 have ht:=hbox t [old] (List.mem_cons_self ..) 0 old rfl
 refine (h w hgl.2 (fun b cells hm j u hj=>(hbox b cells (List.mem_cons_of_mem _ hm) j u hj).1) ht.1 ht.2).mono ?_
 rintro e w' ⟨rfl,w1,hE,rfl⟩
 have hlt:t < w.heap.size:=(hH.lt _ (List.mem_cons_self ..) t rfl).1
 have hlt1:t < w1.heap.size:=Nat.lt_of_lt_of_le hlt hE.size
 have hc1:w1.cell? ⟨t,0,none⟩=some old:=by rw [World.cell?_of_block (a:=⟨t,0,none⟩) (hE.block t hlt)];exact ht.1
 have hf1:w1.frozen? ⟨t,0,none⟩=false:=by rw [World.frozen?_of_block (a:=⟨t,0,none⟩) (hE.block t hlt)];exact ht.2
 have r2:Rel [] V (Xch (.box t [.x old] :: R)) w (.box t [.x new] :: R) [] { tmps:=#[],defers:=[] } (w1.setCell ⟨t,0,none⟩ new):=by
  refine Rel.turn (r.quiet hE) rfl rfl rfl (by simp) (fun k _ hk=>?_) (fun k hk=>?_) ?_ (fun _ _ _=>trivial)
  ·simp only [Hp.blk] at hk
   have:t≠k:=fun e=>hk (by rw [e])
   simp [World.setCell,Array.getElem?_modify,this]
  ·cases hk;exact ⟨by simpa using hlt1,.inl rfl⟩
  ·refine ⟨[new],DenL.cons' (XnM _) DenL.nil',by simpa using hlt1,fun j u hj=>?_⟩
   cases j with
   | succ j=>simp at hj
   | zero=>
     cases hj
     exact ⟨(by first|exact World.cell?_setCell_same _ hc1|exact World.cell?_setCell_same _ _ hc1|exact World.cell?_setCell_same _ _ _ hc1),h1,by rw [World.frozen?_setCell];exact hf1⟩
 exact ⟨.x res,_,res,⟨rfl,rfl⟩,rfl,XnM _,r2.hok,r2.fr,r2.own⟩
end
open Go.RowKit Go.Extern.Stop Go.Stop Go.Extern
theorem XxU (z:Sem Value) (f:TypeId→Addr→Nat→Nat→Sem Value) (v:Value) :
  ReflectliteValue.method z f #[v]=(do match ←ReflectliteValue.parts v with|none=>z|some (t,a,fl)=>f t a fl (fl % 32)):=rfl
theorem Xu8 (v x:Value):ReflectliteValue.set #[v,x]=(do
  let (some (dst,a,fl),some (src,b,_)):=(←ReflectliteValue.parts v,←ReflectliteValue.parts x)
   | unsupported (.noEntry "extern/(internal/reflectlite.Value).Set.zeroValue")
  if fl / ReflectliteValue.flagAddr % 2 == 0 then unsupported (.noEntry "extern/(internal/reflectlite.Value).Set.unaddressable")
  let val ←loadVar src b
  if ←Rtype.directlyAssignable dst src then storeVar dst a val
  else if ←Rtype.implements dst src then
   if (←Rtype.kind src) == 20 then
    match val with
    | .nilIface=>unsupported (.noEntry "extern/reflectlite: a nil value of one interface type handed on as a value of another")
    | _=>storeVar dst a val
   else storeVar dst a (.iface src val)
  else panicString ("reflectlite.Set: value of type "++(←Rtype.spelt src)++ " is not assignable to type "++(←Rtype.spelt dst))
  pure (.tuple #[])):=rfl
theorem Xhx (h:Value) (w:World):(Go.method 432 167 (.agg #[h]) "Kind").run Tryz.prog w=.ok (232,h) w:=by kernel_rfl
theorem Xhv (h:Value) (w:World):(Go.method 432 167 (.agg #[h]) "Elem").run Tryz.prog w=.ok (243,.agg #[h]) w:=by kernel_rfl
theorem Xhw (h:Value) (w:World):(Go.method 432 167 (.agg #[h]) "Implements").run Tryz.prog w=.ok (244,.agg #[h]) w:=by kernel_rfl
theorem Xf5 (h:Value) (w:World):(Go.method 432 167 (.agg #[h]) "AssignableTo").run Tryz.prog w=.ok (241,.agg #[h]) w:=by kernel_rfl
theorem Xjs (v:Value) (w:World):(ReflectliteType.typeOf #[.iface 58 v]).run Tryz.prog w=.ok (.iface 167 (.agg #[.pointer (some ⟨14,58,none⟩)])) w:=by kernel_rfl
theorem Xiu (t:Addr) (w:World):(ReflectliteValue.unpack (.iface 60 (.pointer (some t)))).run Tryz.prog w
  = .ok (.agg #[.pointer (some ⟨14,60,none⟩),.pointer (some ⟨w.heap.size,0,none⟩),.int .u64 150]) (w.alloc (.cells #[.pointer (some t)] 60)):=by kernel_rfl
theorem Xnd (a:Addr) (w:World):(ReflectliteValue.methodAny (ReflectliteValue.valueError "reflectlite.Value.Type" 0) (fun t _ _ _=>ReflectliteType.toType t) #[.agg #[.pointer (some ⟨14,60,none⟩),.pointer (some a),.int .u64 150]]).run Tryz.prog w
  = .ok (.iface 167 (.agg #[.pointer (some ⟨14,60,none⟩)])) w:=by kernel_rfl
theorem Xnc (w:World):((ReflectliteType.abiMethod fun t=>(fun a:Nat=>Value.int IntKind.u8 (a:Int)) <$> Rtype.kind t) #[.pointer (some ⟨14,60,none⟩)]).run Tryz.prog w=.ok (.int .u8 22) w:=by kernel_rfl
theorem Xnb (w:World):((ReflectliteType.abiMethod fun t=>(fun a:Nat=>Value.int IntKind.u8 (a:Int)) <$> Rtype.kind t) #[.pointer (some ⟨14,58,none⟩)]).run Tryz.prog w=.ok (.int .u8 22) w:=by kernel_rfl
theorem Xg4 (a:Addr) (w:World):(ReflectliteValue.parts (.agg #[.pointer (some ⟨14,60,none⟩),.pointer (some a),.int .u64 150])).run Tryz.prog w=.ok (some (60,a,150)) w:=by kernel_rfl
theorem XlU (a p:Addr) (W:World) (ha:W.cell? a=some (.pointer (some p))) :
  (ReflectliteValue.method (ReflectliteValue.valueError "reflectlite.Value.IsNil" 0) ReflectliteValue.isNil #[.agg #[.pointer (some ⟨14,60,none⟩),.pointer (some a),.int .u64 150]]).run Tryz.prog W=.ok (.bool false) W:=by
 rw [XxU]
 simp only [Sem.run_bind,Xg4,Result.andThen]
 simp [ReflectliteValue.isNil,loadVar,isAgg,underlying,Tryz.underlying60,ha,Result.andThen]
theorem Xm9 (w:World):(ReflectliteType.method ReflectliteType.elem #[.agg #[.pointer (some ⟨14,60,none⟩)]]).run Tryz.prog w=.ok (.iface 167 (.agg #[.pointer (some ⟨14,58,none⟩)])) w:=by kernel_rfl
theorem Xna (w:World):(ReflectliteType.relation "Implements" ReflectliteType.implements_ #[.agg #[.pointer (some ⟨14,58,none⟩)],.iface 167 (.agg #[.pointer (some ⟨14,55,none⟩)])]).run Tryz.prog w=.ok (.bool true) w:=by kernel_rfl
theorem Xjo (w:World):(ReflectliteType.relation "AssignableTo" ReflectliteType.assignableTo #[.agg #[.pointer (some ⟨14,58,none⟩)],.iface 167 (.agg #[.pointer (some ⟨14,58,none⟩)])]).run Tryz.prog w=.ok (.bool true) w:=by kernel_rfl
theorem Xit (e:Addr) (w:World):(ReflectliteValue.unpack (.iface 58 (.pointer (some e)))).run Tryz.prog w
  = .ok (.agg #[.pointer (some ⟨14,58,none⟩),.pointer (some ⟨w.heap.size,0,none⟩),.int .u64 150]) (w.alloc (.cells #[.pointer (some e)] 58)):=by kernel_rfl
theorem Xjq (w:World):(Rtype.elem? 60).run Tryz.prog w=.ok (some 58) w:=by kernel_rfl
theorem Xs0 (p:Addr) (w:World):(ReflectliteValue.mk 58 p ReflectliteValue.flagAddr).run Tryz.prog w=.ok (.agg #[.pointer (some ⟨14,58,none⟩),.pointer (some p),.int .u64 406]) w:=by kernel_rfl
theorem XlT (a p:Addr) (W:World) (ha:W.cell? a=some (.pointer (some p))) :
  (ReflectliteValue.method (ReflectliteValue.valueError "reflectlite.Value.Elem" 0) ReflectliteValue.elem #[.agg #[.pointer (some ⟨14,60,none⟩),.pointer (some a),.int .u64 150]]).run Tryz.prog W
   = .ok (.agg #[.pointer (some ⟨14,58,none⟩),.pointer (some p),.int .u64 406]) W:=by
 rw [XxU]
 simp only [Sem.run_bind,Xg4,Result.andThen]
 simp [ReflectliteValue.elem,loadVar,isAgg,underlying,Tryz.underlying60,ha,Result.andThen,Xjq,Xs0]
theorem Xjr (a:Addr) (w:World):(ReflectliteValue.parts (.agg #[.pointer (some ⟨14,58,none⟩),.pointer (some a),.int .u64 406])).run Tryz.prog w=.ok (some (58,a,406)) w:=by kernel_rfl
theorem XlV (a:Addr) (w:World):(ReflectliteValue.parts (.agg #[.pointer (some ⟨14,58,none⟩),.pointer (some a),.int .u64 150])).run Tryz.prog w=.ok (some (58,a,150)) w:=by kernel_rfl
theorem Xjp (w:World):(Rtype.directlyAssignable 58 58).run Tryz.prog w=.ok true w:=by kernel_rfl
theorem XpX (ta b e:Addr) (old:Value) (W:World) (hb:W.cell? b=some (.pointer (some e))) (ht:W.cell? ta=some old) (hf:W.frozen? ta=false) :
  (ReflectliteValue.set #[.agg #[.pointer (some ⟨14,58,none⟩),.pointer (some ta),.int .u64 406],.agg #[.pointer (some ⟨14,58,none⟩),.pointer (some b),.int .u64 150]]).run Tryz.prog W
   = .ok (.tuple #[]) (W.setCell ta (.pointer (some e))):=by
 rw [Xu8]
 simp only [Sem.run_bind,Xjr,XlV,Result.andThen]
 simp [ReflectliteValue.flagAddr,loadVar,isAgg,underlying,Tryz.underlying58,hb,Result.andThen,Xjp,storeVar,Value.cells,storeCells,Addr.add]
 rw [run_store Tryz.prog W ta _ _ (by rfl)]
 simp [ht,hf]
theorem XpW (e t:Addr) (old:Value) (w:World) (hg:Gw w) (ht0:w.cell? t=some old) (hf0:w.frozen? t=false) :
  Calls Tryz.prog 18 #[.iface 58 (.pointer (some e)),.iface 60 (.pointer (some t))] w fun ev w'=>ev=.returned (.bool true)∧w'=((((w.alloc (.cells #[.pointer (some t)] 60)).alloc (.cells #[.pointer (some ⟨14,60,none⟩),.pointer (some ⟨w.heap.size,0,none⟩),.int .u64 150] 116)).alloc (.cells #[.pointer (some ⟨14,60,none⟩),.pointer (some ⟨w.heap.size,0,none⟩),.int .u64 150] 116)).alloc (.cells #[.pointer (some e)] 58)).setCell t (.pointer (some e)):=by
 replace hg:=hg.errs
 have h6:=@run_callFunc_extern Tryz.prog 45 _ (fun args=>ReflectliteValue.unpack (args.getD 0 (.tuple #[]))) Tryz.func45 (by kernel_rfl) (by kernel_rfl) (by kernel_rfl) (by kernel_rfl);have h7:=@run_callFunc_extern Tryz.prog 46 _ (ReflectliteValue.methodAny (ReflectliteValue.valueError "reflectlite.Value.Type" 0) (fun t _ _ _=>ReflectliteType.toType t)) Tryz.func46 (by kernel_rfl) (by kernel_rfl) (by kernel_rfl) (by kernel_rfl);have h8:=@run_callFunc_extern Tryz.prog 47 _ (ReflectliteValue.method (ReflectliteValue.valueError "reflectlite.Value.IsNil" 0) ReflectliteValue.isNil) Tryz.func47 (by kernel_rfl) (by kernel_rfl) (by kernel_rfl) (by kernel_rfl);have h27:=@run_callFunc_extern Tryz.prog 232 _ (ReflectliteType.abiMethod fun t=>do pure (.int .u8 (←Rtype.kind t))) Tryz.func232 (by kernel_rfl) (by kernel_rfl) (by kernel_rfl) (by kernel_rfl);have h37:=@run_callFunc_extern Tryz.prog 243 _ (ReflectliteType.method ReflectliteType.elem) Tryz.func243 (by kernel_rfl) (by kernel_rfl) (by kernel_rfl) (by kernel_rfl);have h38:=@run_callFunc_extern Tryz.prog 244 _ (ReflectliteType.relation "Implements" ReflectliteType.implements_) Tryz.func244 (by kernel_rfl) (by kernel_rfl) (by kernel_rfl) (by kernel_rfl);have h10:=@run_callFunc_extern Tryz.prog 86 _ ReflectliteType.typeOf Tryz.func86 (by kernel_rfl) (by kernel_rfl) (by kernel_rfl) (by kernel_rfl);have h35:=@run_callFunc_extern Tryz.prog 241 _ (ReflectliteType.relation "AssignableTo" ReflectliteType.assignableTo) Tryz.func241 (by kernel_rfl) (by kernel_rfl) (by kernel_rfl) (by kernel_rfl);have h11:=@run_callFunc_extern Tryz.prog 88 _ (ReflectliteValue.method (ReflectliteValue.valueError "reflectlite.Value.Elem" 0) ReflectliteValue.elem) Tryz.func88 (by kernel_rfl) (by kernel_rfl) (by kernel_rfl) (by kernel_rfl);have h12:=@run_callFunc_extern Tryz.prog 89 _ ReflectliteValue.set Tryz.func89 (by kernel_rfl) (by kernel_rfl) (by kernel_rfl) (by kernel_rfl)
 have tO:=Xjs
 have mA:=Xf5
 have a25:=Xjo
 have v25:=Xit
 have f6:=Xiu
 have f7:=Xnd
 have mK:=Xhx
 have mE:=Xhv
 have mI:=Xhw
 have k27:=Xnc
 have k25:=Xnb
 have e27:=Xm9
 have i25:=Xna
 have n8:=XlU ⟨w.heap.size,0,none⟩ t ((w.alloc (.cells #[.pointer (some t)] 60)).alloc (.cells #[.pointer (some ⟨14,60,none⟩),.pointer (some ⟨w.heap.size,0,none⟩),.int .u64 150] 116)) (by simp)
 have hlt:7 < w.heap.size:=World.block_lt_of_cell? w _ hg
 have hg2:((w.alloc (.cells #[.pointer (some t)] 60)).alloc (.cells #[.pointer (some ⟨14,60,none⟩),.pointer (some ⟨w.heap.size,0,none⟩),.int .u64 150] 116)).cell? ⟨7,0,none⟩=some (.iface 167 (.agg #[.pointer (some ⟨14,55,none⟩)])):=by
  rw [World.cell?_alloc_lt _ _ ⟨7,0,none⟩ (by simp<;>omega),World.cell?_alloc_lt _ _ ⟨7,0,none⟩ hlt];exact hg
 have htl:t.block < w.heap.size:=World.block_lt_of_cell? w _ ht0
 have el:=XlT ⟨w.heap.size,0,none⟩ t (((w.alloc (.cells #[.pointer (some t)] 60)).alloc (.cells #[.pointer (some ⟨14,60,none⟩),.pointer (some ⟨w.heap.size,0,none⟩),.int .u64 150] 116)).alloc (.cells #[.pointer (some ⟨14,60,none⟩),.pointer (some ⟨w.heap.size,0,none⟩),.int .u64 150] 116)) (by rw [World.cell?_alloc_lt _ _ ⟨w.heap.size,0,none⟩ (by simp;omega)];simp)
 have st:=XpX t ⟨w.heap.size+1+1+1,0,none⟩ e old ((((w.alloc (.cells #[.pointer (some t)] 60)).alloc (.cells #[.pointer (some ⟨14,60,none⟩),.pointer (some ⟨w.heap.size,0,none⟩),.int .u64 150] 116)).alloc (.cells #[.pointer (some ⟨14,60,none⟩),.pointer (some ⟨w.heap.size,0,none⟩),.int .u64 150] 116)).alloc (.cells #[.pointer (some e)] 58))
  (by rw [World.cell?_alloc_at _ _ _ _ (by simp)];rfl)
  (by rw [World.cell?_alloc_lt _ _ t (by simp;omega),World.cell?_alloc_lt _ _ t (by simp;omega),World.cell?_alloc_lt _ _ t (by simp;omega),World.cell?_alloc_lt _ _ t htl];exact ht0)
  (by rw [World.frozen?_alloc_old _ _ t (by simp;omega),World.frozen?_alloc_old _ _ t (by simp;omega),World.frozen?_alloc_old _ _ t (by simp;omega),World.frozen?_alloc_old _ _ t (Nat.ne_of_lt htl)];exact hf0)
 go_enter Tryz.func18,Tryz.ntmps18
 go_wp2
 refine wp_loop_rounds 1 ?_
 rw [rounds_succ]
 go_wp2
 go_ret
 exact ⟨rfl,rfl⟩
theorem Xu7 (w:World) (o1 o2 o3 o4:Obj):Ext w ((((w.alloc o1).alloc o2).alloc o3).alloc o4):=(((Ext.al _ _).tr (Ext.al _ _)).tr (Ext.al _ _)).tr (Ext.al _ _)
theorem XlW (b t:Nat) (old:Value) (R:List Hp):Xay Tryz.prog 18 (.box t [.x old] :: R) [.x (.iface 58 (.pointer (some ⟨b,0,none⟩))),.x (.iface 60 (.pointer (some ⟨t,0,none⟩)))] fun r H'=>r=.x (.bool true)∧H'=.box t [.x (.pointer (some ⟨b,0,none⟩))] :: R:=by
 refine Xf3 (args:=[_,_]) rfl fun w hg hR ht hf=>?_
 refine (XpW ⟨b,0,none⟩ ⟨t,0,none⟩ old w hg ht hf).mono ?_
 rintro e w' ⟨rfl,rfl⟩
 exact ⟨rfl,_,Xu7 _ _ _ _ _,rfl⟩
open Go.RowKit
def XcX:Nat→Int
 | 0=>1
 | 1=>5
 | 2=>4
 | 3=>2
 | 4=>52
 | 5=>120
 | 6=>70
 | _=>0
theorem Xvl (ad:Nat→Addr) (hinj:XeD ad) (i pb:Nat) (v0 v1:Value) (hi:i < 7):Xay Tryz.prog 17 [.box pb [.x v0,.x v1,.x (Xh4 ad i)],.sen ad] [.x (.iface 58 (.pointer (some ⟨pb,0,none⟩)))] (fun r H'=>r=.x (.int .i64 (XcX i))∧H'=[.box pb [.x v0,.x v1,.x (Xh4 ad i)],.sen ad]):=by
 have hIs:=fun j (hj:j < 7)=>Xog ad hinj i j pb v0 v1 hi hj []
 have hIs:=Lib.hid hIs
 refine XaV Tryz.func17 Tryz.ntmps17 ?_
 (repeat' (first|refine Wkx.go ?_|(refine Xaz (fun h=>?_) (fun h=>?_)<;>first|(exfalso;omega;done)|skip)|refine Xad ?_ (h:=by exact fun _=>Xha)|refine Xad ?_|(refine Xab rfl ?_;((refine Xa7 Tryz.func44 [_,_] rfl rfl (Xyo _) (hIs.out _ (by decide)) ?_;rintro _ _ ⟨rfl,rfl⟩);refine XaJ ?_))|fail))
 all_goals first
  | (exfalso;omega)
  | (refine Xaa _ _ (XaF rfl (RV.tmp _) (Xaj.mk' [] [_,_] (Xyo _) (Xak.refl _ _) (VwL.refl _ _))) ⟨?_,rfl⟩;first|(rw [show XcX i=XcX 0 from congrArg XcX (by omega)];rfl)|(rw [show XcX i=XcX 1 from congrArg XcX (by omega)];rfl)|(rw [show XcX i=XcX 2 from congrArg XcX (by omega)];rfl)|(rw [show XcX i=XcX 3 from congrArg XcX (by omega)];rfl)|(rw [show XcX i=XcX 4 from congrArg XcX (by omega)];rfl)|(rw [show XcX i=XcX 5 from congrArg XcX (by omega)];rfl)|(rw [show XcX i=XcX 6 from congrArg XcX (by omega)];rfl)|fail)
  | fail
def XjM (l:List JF):Int × Int × Int:=match XhP l with
 | none=>(0,0,0)
 | some (i,j)=>(XcX i,j.line,j.col)
theorem XiV (l:List JF):∀(t:List JF) (i:Nat) (e:Nat) (j:JF),XdI l i t=some (e,j)→e < 7
 | [],_,_,_,h=>by simp [XdI] at h
 | x :: t,i,e,j,h=>by
   rw [XdI] at h
   split at h
   ·rename_i e' he
    cases h
    exact XtK he
   ·exact XiV l t _ _ _ h
theorem XqH {l:List JF} {e:Nat} {j:JF} (h:XhP l=some (e,j)):e < 7:=by
 unfold XhP Xfl at h
 split at h
 ·rename_i x hx;cases h;exact XiV l _ _ _ _ hx
 ·split at h
  ·cases h
  ·obtain ⟨y,_,hy⟩:=Option.map_eq_some_iff.1 h
   cases hy;decide
theorem XnC (ad:Nat→Addr) (hinj:XeD ad) (l:List JF) (hl:l.length≤32) (hj:∀j∈l,XwM j):Xay Tryz.prog 6 [.sen ad] [.sq l.length (jfa l)] (fun r H'=>r=.x (.agg #[.int .i64 (XjM l).1,.int .i64 (XjM l).2.1,.int .i64 (XjM l).2.2])∧H'=[.sen ad]):=by
 have h1:=XvS ad l hl hj
 unfold XjM
 cases hE:XhP l with
 | none=>
   rw [hE] at h1
   unfold XsV at h1
   have h1:=Lib.hid h1
   refine XaV Tryz.func6 Tryz.ntmps6 ?_
   (repeat' (first|refine Wkx.go ?_|(refine Xaz (fun h=>?_) (fun h=>?_)<;>first|(exact absurd h (by decide))|skip)|refine Xad ?_|(refine Xab rfl ?_;(first|((refine Xa7 Tryz.func16 [_] rfl rfl (by (repeat' (first|exact Xyo _|refine (XyB (l₁:=[_])).trans (XyE _ ?_)|fail))) h1.out ?_;rintro _ _ ⟨rfl,rfl⟩);refine XaJ ?_)|refine Xbh ?_|refine Xb8 (fun b=>?_)))|fail))
   refine Xaa _ _ (XaF rfl (RV.cell 1 rfl rfl XaI.out (by simp) (by simp)) (Xaj.mk' [.box _ _] [.sen ad] (by (repeat' (first|exact Xyo _|refine (XyB (l₁:=[_])).trans (XyE _ ?_)|fail))) (Xak.refl _ _) (VwL.refl _ _))) ⟨rfl,rfl⟩
 | some x=>
   obtain ⟨i,j⟩:=x
   have hi:=XqH hE
   rw [hE] at h1
   unfold XsV at h1
   have h1:=Lib.hid h1
   have h2:=Lib.hid (fun b=>Xvl ad hinj i b (.int .i64 j.line) (.int .i64 j.col) hi)
   have h3:=Lib.hid (fun b t=>XlW b t (.pointer none) [])
   refine XaV Tryz.func6 Tryz.ntmps6 ?_
   (repeat' (first|refine Wkx.go ?_|(refine Xaz (fun h=>?_) (fun h=>?_)<;>first|(exact absurd h (by decide))|skip)|refine Xad ?_|(refine Xab rfl ?_;(first|((refine Xa7 Tryz.func16 [_] rfl rfl (by (repeat' (first|exact Xyo _|refine (XyB (l₁:=[_])).trans (XyE _ ?_)|fail))) h1.out ?_;rintro _ _ ⟨b,rfl,rfl⟩);refine XaJ ?_)|((refine Xa7 Tryz.func17 [_,_] rfl rfl (by (repeat' (first|exact Xyo _|refine XyE _ ?_|fail))) (h2.out _) ?_;rintro _ _ ⟨rfl,rfl⟩);refine XaJ ?_)|((refine Xa7 Tryz.func18 [_] rfl rfl (by (repeat' (first|exact Xyo _|fail))) (h3.out _ _) ?_;rintro _ _ ⟨rfl,rfl⟩);refine XaJ ?_)|refine Xbh ?_|refine Xb8 (fun b=>?_)))|fail))
   rename_i b1 b2 _ b3
   refine XaE mixed [] [.box b _,.box b2 _] [.box b3 _,.sen ad,.box b1 _] (by (repeat' (first|exact Xyo _|refine XyE _ ?_|refine (XyB (l₁:=[_])).trans (XyE _ ?_)|fail))) ?_
   ((first|refine Xdr 0 ?_|fail);(first|refine XbQ 1 ?_|fail);(first|refine XbQ 2 ?_|fail);(first|refine Xdr 3 ?_|fail);(first|refine Xdr 4 ?_|fail);(first|refine XbQ 5 ?_|fail);(first|refine XbQ 6 ?_|fail);(first|refine Xdr 7 ?_|fail))
   (refine XcV 8 ?_;(first|refine Xd5 ?_|fail))
   (refine XcV 9 ?_;(first|refine Xbh ?_|fail))
   (refine XcV 10 ?_;(first|refine Xd5 ?_|fail))
   (refine XcV 11 ?_;(first|refine Xbh ?_|fail))
   refine XaG (by decide +kernel) ?_
   refine Xai rfl (by simp only [Xyz,Xyy];rfl) ?_
   refine Xao (by decide +kernel) ?_
   (repeat' (first|refine Wkx.go ?_|refine Xad ?_|(refine Xab rfl ?_;(refine Xbh ?_))|fail))
   refine Xaa _ _ (XaF rfl (RV.cell 4 rfl rfl XaI.out (by simp) (by simp)) (Xaj.mk' [.box b _,.box b2 _,.box b3 _,.box b1 _] [.sen ad] (by (repeat' (first|exact Xyo _|refine XyE _ ?_|refine (XyB (l₁:=[_])).trans (XyE _ ?_)|fail))) (Xak.refl _ _) (VwL.refl _ _))) ⟨rfl,rfl⟩
end Go.Proofs.YtdlblokjfoggpaaGreatDoor

import Derived.Test.YtkhhlmonhapmaaaGreatDoorW7
import Derived.WalkKit
import Derived.LaidEql
import Derived.Stop.Asserts
import Derived.RowKitTokens
import Derived.Test.YtkhhlmonhapmaaaGreatDoorW41
/- errors.As at the lexer's two targets: a *codeError behind a *placeError; a **placeError. -/
set_option linter.unusedSimpArgs false
set_option linter.unusedVariables false
namespace Go.Proofs.YtkhhlmonhapmaaaGreatDoor
open Go.RowKit Go.Extern.Stop Go.Stop Go.Extern
theorem as_m (z : Sem Value) (f : TypeId → Addr → Nat → Nat → Sem Value) (v : Value) :
    ReflectliteValue.method z f #[v] = (do match ← ReflectliteValue.parts v with | none => z | some (t, a, fl) => f t a fl (fl % 32)) := rfl
theorem as_set (v x : Value) : ReflectliteValue.set #[v, x] = (do
    let (some (dst, a, fl), some (src, b, _)) := (← ReflectliteValue.parts v, ← ReflectliteValue.parts x)
      | unsupported (.noEntry "extern/(internal/reflectlite.Value).Set.zeroValue")
    if fl / ReflectliteValue.flagAddr % 2 == 0 then unsupported (.noEntry "extern/(internal/reflectlite.Value).Set.unaddressable")
    let val ← loadVar src b
    if ← Rtype.directlyAssignable dst src then storeVar dst a val
    else if ← Rtype.implements dst src then
      if (← Rtype.kind src) == 20 then
        match val with
        | .nilIface => unsupported (.noEntry "extern/reflectlite: a nil value of one interface type handed on as a value of another")
        | _ => storeVar dst a val
      else storeVar dst a (.iface src val)
    else panicString ("reflectlite.Set: value of type " ++ (← Rtype.spelt src) ++ " is not assignable to type " ++ (← Rtype.spelt dst))
    pure (.tuple #[])) := rfl
theorem as_methodKind (h : Value) (w : World) : (Go.method 351 158 (.agg #[h]) "Kind").run Tryz.prog w = .ok (194, h) w := by kernel_rfl
theorem as_methodElem (h : Value) (w : World) : (Go.method 351 158 (.agg #[h]) "Elem").run Tryz.prog w = .ok (207, .agg #[h]) w := by kernel_rfl
theorem as_methodImpl (h : Value) (w : World) : (Go.method 351 158 (.agg #[h]) "Implements").run Tryz.prog w = .ok (208, .agg #[h]) w := by kernel_rfl
theorem as_methodAssign (h : Value) (w : World) : (Go.method 351 158 (.agg #[h]) "AssignableTo").run Tryz.prog w = .ok (205, .agg #[h]) w := by kernel_rfl
theorem as_methodUnwrap (v : Value) (w : World) : (Go.method 351 88 v "Unwrap").run Tryz.prog w = .ok (199, v) w := by kernel_rfl
theorem as_noAs (v : Value) (xT : TypeId) (w : World) : (Instr.typeAssert (.iface 88 v) xT 163 true).run Tryz.prog w = .ok (.tuple #[.nilIface, .bool false]) w := run_typeAssert_lacksB Tryz.underlying163 (by kernel_rfl) (by kernel_rfl) v xT w
theorem as_hasUnwrap (v : Value) (xT : TypeId) (w : World) : (Instr.typeAssert (.iface 88 v) xT 166 true).run Tryz.prog w = .ok (.tuple #[.iface 88 v, .bool true]) w := run_typeAssert_hasB Tryz.underlying166 (by kernel_rfl) v xT w
/-! the target *codeError -/
theorem as_valueOfPC (t : Addr) (w : World) : (ReflectliteValue.unpack (.iface 87 (.pointer (some t)))).run Tryz.prog w
    = .ok (.agg #[.pointer (some ⟨9, 87, none⟩), .pointer (some ⟨w.heap.size, 0, none⟩), .int .u64 150]) (w.alloc (.cells #[.pointer (some t)] 87)) := by kernel_rfl
theorem as_typePC (a : Addr) (w : World) : (ReflectliteValue.methodAny (ReflectliteValue.valueError "reflectlite.Value.Type" 0) (fun t _ _ _ => ReflectliteType.toType t) #[.agg #[.pointer (some ⟨9, 87, none⟩), .pointer (some a), .int .u64 150]]).run Tryz.prog w
    = .ok (.iface 158 (.agg #[.pointer (some ⟨9, 87, none⟩)])) w := by kernel_rfl
theorem as_kindPC (w : World) : ((ReflectliteType.abiMethod fun t => (fun a : Nat => Value.int IntKind.u8 (a : Int)) <$> Rtype.kind t) #[.pointer (some ⟨9, 87, none⟩)]).run Tryz.prog w = .ok (.int .u8 22) w := by kernel_rfl
theorem as_kindCE (w : World) : ((ReflectliteType.abiMethod fun t => (fun a : Nat => Value.int IntKind.u8 (a : Int)) <$> Rtype.kind t) #[.pointer (some ⟨9, 85, none⟩)]).run Tryz.prog w = .ok (.int .u8 2) w := by kernel_rfl
theorem as_partsPC (a : Addr) (w : World) : (ReflectliteValue.parts (.agg #[.pointer (some ⟨9, 87, none⟩), .pointer (some a), .int .u64 150])).run Tryz.prog w = .ok (some (87, a, 150)) w := by kernel_rfl
theorem as_isNilPC (a p : Addr) (W : World) (ha : W.cell? a = some (.pointer (some p))) :
    (ReflectliteValue.method (ReflectliteValue.valueError "reflectlite.Value.IsNil" 0) ReflectliteValue.isNil #[.agg #[.pointer (some ⟨9, 87, none⟩), .pointer (some a), .int .u64 150]]).run Tryz.prog W = .ok (.bool false) W := by
  rw [as_m]
  simp only [Sem.run_bind, as_partsPC, Result.andThen]
  simp [ReflectliteValue.isNil, loadVar, isAgg, underlying, Tryz.underlying87, ha, Result.andThen]
theorem as_elemPC (w : World) : (ReflectliteType.method ReflectliteType.elem #[.agg #[.pointer (some ⟨9, 87, none⟩)]]).run Tryz.prog w = .ok (.iface 158 (.agg #[.pointer (some ⟨9, 85, none⟩)])) w := by kernel_rfl
theorem as_implCE (w : World) : (ReflectliteType.relation "Implements" ReflectliteType.implements_ #[.agg #[.pointer (some ⟨9, 85, none⟩)], .iface 158 (.agg #[.pointer (some ⟨9, 82, none⟩)])]).run Tryz.prog w = .ok (.bool true) w := by kernel_rfl
theorem as_typeOfCE (v : Value) (w : World) : (ReflectliteType.typeOf #[.iface 85 v]).run Tryz.prog w = .ok (.iface 158 (.agg #[.pointer (some ⟨9, 85, none⟩)])) w := by kernel_rfl
theorem as_typeOfPE (v : Value) (w : World) : (ReflectliteType.typeOf #[.iface 88 v]).run Tryz.prog w = .ok (.iface 158 (.agg #[.pointer (some ⟨9, 88, none⟩)])) w := by kernel_rfl
theorem as_assignCE (w : World) : (ReflectliteType.relation "AssignableTo" ReflectliteType.assignableTo #[.agg #[.pointer (some ⟨9, 85, none⟩)], .iface 158 (.agg #[.pointer (some ⟨9, 85, none⟩)])]).run Tryz.prog w = .ok (.bool true) w := by kernel_rfl
theorem as_assignPC (w : World) : (ReflectliteType.relation "AssignableTo" ReflectliteType.assignableTo #[.agg #[.pointer (some ⟨9, 88, none⟩)], .iface 158 (.agg #[.pointer (some ⟨9, 85, none⟩)])]).run Tryz.prog w = .ok (.bool false) w := by kernel_rfl
theorem as_valueOfCE (c : Int) (w : World) : (ReflectliteValue.unpack (.iface 85 (.int .i64 c))).run Tryz.prog w
    = .ok (.agg #[.pointer (some ⟨9, 85, none⟩), .pointer (some ⟨w.heap.size, 0, none⟩), .int .u64 130]) (w.alloc (.cells #[.int .i64 c] 85)) := by kernel_rfl
theorem as_elemOfPC (w : World) : (Rtype.elem? 87).run Tryz.prog w = .ok (some 85) w := by kernel_rfl
theorem as_mkCE (p : Addr) (w : World) : (ReflectliteValue.mk 85 p ReflectliteValue.flagAddr).run Tryz.prog w = .ok (.agg #[.pointer (some ⟨9, 85, none⟩), .pointer (some p), .int .u64 386]) w := by kernel_rfl
theorem as_elemVPC (a p : Addr) (W : World) (ha : W.cell? a = some (.pointer (some p))) :
    (ReflectliteValue.method (ReflectliteValue.valueError "reflectlite.Value.Elem" 0) ReflectliteValue.elem #[.agg #[.pointer (some ⟨9, 87, none⟩), .pointer (some a), .int .u64 150]]).run Tryz.prog W
      = .ok (.agg #[.pointer (some ⟨9, 85, none⟩), .pointer (some p), .int .u64 386]) W := by
  rw [as_m]
  simp only [Sem.run_bind, as_partsPC, Result.andThen]
  simp [ReflectliteValue.elem, loadVar, isAgg, underlying, Tryz.underlying87, ha, Result.andThen, as_elemOfPC, as_mkCE]
theorem as_partsCEa (a : Addr) (w : World) : (ReflectliteValue.parts (.agg #[.pointer (some ⟨9, 85, none⟩), .pointer (some a), .int .u64 386])).run Tryz.prog w = .ok (some (85, a, 386)) w := by kernel_rfl
theorem as_partsCE (a : Addr) (w : World) : (ReflectliteValue.parts (.agg #[.pointer (some ⟨9, 85, none⟩), .pointer (some a), .int .u64 130])).run Tryz.prog w = .ok (some (85, a, 130)) w := by kernel_rfl
theorem as_directCE (w : World) : (Rtype.directlyAssignable 85 85).run Tryz.prog w = .ok true w := by kernel_rfl
theorem as_setCE (ta b : Addr) (c : Int) (old : Value) (W : World) (hb : W.cell? b = some (.int .i64 c)) (ht : W.cell? ta = some old) (hf : W.frozen? ta = false) :
    (ReflectliteValue.set #[.agg #[.pointer (some ⟨9, 85, none⟩), .pointer (some ta), .int .u64 386], .agg #[.pointer (some ⟨9, 85, none⟩), .pointer (some b), .int .u64 130]]).run Tryz.prog W
      = .ok (.tuple #[]) (W.setCell ta (.int .i64 c)) := by
  rw [as_set]
  simp only [Sem.run_bind, as_partsCEa, as_partsCE, Result.andThen]
  simp [ReflectliteValue.flagAddr, loadVar, isAgg, underlying, Tryz.underlying85, hb, Result.andThen, as_directCE, storeVar, Value.cells, storeCells, Addr.add]
  rw [run_store Tryz.prog W ta _ _ (by rfl)]
  simp [ht, hf]
/-! the target **placeError -/
theorem as_valueOfPP (t : Addr) (w : World) : (ReflectliteValue.unpack (.iface 89 (.pointer (some t)))).run Tryz.prog w
    = .ok (.agg #[.pointer (some ⟨9, 89, none⟩), .pointer (some ⟨w.heap.size, 0, none⟩), .int .u64 150]) (w.alloc (.cells #[.pointer (some t)] 89)) := by kernel_rfl
theorem as_typePP (a : Addr) (w : World) : (ReflectliteValue.methodAny (ReflectliteValue.valueError "reflectlite.Value.Type" 0) (fun t _ _ _ => ReflectliteType.toType t) #[.agg #[.pointer (some ⟨9, 89, none⟩), .pointer (some a), .int .u64 150]]).run Tryz.prog w
    = .ok (.iface 158 (.agg #[.pointer (some ⟨9, 89, none⟩)])) w := by kernel_rfl
theorem as_kindPP (w : World) : ((ReflectliteType.abiMethod fun t => (fun a : Nat => Value.int IntKind.u8 (a : Int)) <$> Rtype.kind t) #[.pointer (some ⟨9, 89, none⟩)]).run Tryz.prog w = .ok (.int .u8 22) w := by kernel_rfl
theorem as_kindPE (w : World) : ((ReflectliteType.abiMethod fun t => (fun a : Nat => Value.int IntKind.u8 (a : Int)) <$> Rtype.kind t) #[.pointer (some ⟨9, 88, none⟩)]).run Tryz.prog w = .ok (.int .u8 22) w := by kernel_rfl
theorem as_partsPP (a : Addr) (w : World) : (ReflectliteValue.parts (.agg #[.pointer (some ⟨9, 89, none⟩), .pointer (some a), .int .u64 150])).run Tryz.prog w = .ok (some (89, a, 150)) w := by kernel_rfl
theorem as_isNilPP (a p : Addr) (W : World) (ha : W.cell? a = some (.pointer (some p))) :
    (ReflectliteValue.method (ReflectliteValue.valueError "reflectlite.Value.IsNil" 0) ReflectliteValue.isNil #[.agg #[.pointer (some ⟨9, 89, none⟩), .pointer (some a), .int .u64 150]]).run Tryz.prog W = .ok (.bool false) W := by
  rw [as_m]
  simp only [Sem.run_bind, as_partsPP, Result.andThen]
  simp [ReflectliteValue.isNil, loadVar, isAgg, underlying, Tryz.underlying89, ha, Result.andThen]
theorem as_elemPP (w : World) : (ReflectliteType.method ReflectliteType.elem #[.agg #[.pointer (some ⟨9, 89, none⟩)]]).run Tryz.prog w = .ok (.iface 158 (.agg #[.pointer (some ⟨9, 88, none⟩)])) w := by kernel_rfl
theorem as_implPE (w : World) : (ReflectliteType.relation "Implements" ReflectliteType.implements_ #[.agg #[.pointer (some ⟨9, 88, none⟩)], .iface 158 (.agg #[.pointer (some ⟨9, 82, none⟩)])]).run Tryz.prog w = .ok (.bool true) w := by kernel_rfl
theorem as_assignPE (w : World) : (ReflectliteType.relation "AssignableTo" ReflectliteType.assignableTo #[.agg #[.pointer (some ⟨9, 88, none⟩)], .iface 158 (.agg #[.pointer (some ⟨9, 88, none⟩)])]).run Tryz.prog w = .ok (.bool true) w := by kernel_rfl
theorem as_valueOfPE (e : Addr) (w : World) : (ReflectliteValue.unpack (.iface 88 (.pointer (some e)))).run Tryz.prog w
    = .ok (.agg #[.pointer (some ⟨9, 88, none⟩), .pointer (some ⟨w.heap.size, 0, none⟩), .int .u64 150]) (w.alloc (.cells #[.pointer (some e)] 88)) := by kernel_rfl
theorem as_elemOfPP (w : World) : (Rtype.elem? 89).run Tryz.prog w = .ok (some 88) w := by kernel_rfl
theorem as_mkPE (p : Addr) (w : World) : (ReflectliteValue.mk 88 p ReflectliteValue.flagAddr).run Tryz.prog w = .ok (.agg #[.pointer (some ⟨9, 88, none⟩), .pointer (some p), .int .u64 406]) w := by kernel_rfl
theorem as_elemVPP (a p : Addr) (W : World) (ha : W.cell? a = some (.pointer (some p))) :
    (ReflectliteValue.method (ReflectliteValue.valueError "reflectlite.Value.Elem" 0) ReflectliteValue.elem #[.agg #[.pointer (some ⟨9, 89, none⟩), .pointer (some a), .int .u64 150]]).run Tryz.prog W
      = .ok (.agg #[.pointer (some ⟨9, 88, none⟩), .pointer (some p), .int .u64 406]) W := by
  rw [as_m]
  simp only [Sem.run_bind, as_partsPP, Result.andThen]
  simp [ReflectliteValue.elem, loadVar, isAgg, underlying, Tryz.underlying89, ha, Result.andThen, as_elemOfPP, as_mkPE]
theorem as_partsPEa (a : Addr) (w : World) : (ReflectliteValue.parts (.agg #[.pointer (some ⟨9, 88, none⟩), .pointer (some a), .int .u64 406])).run Tryz.prog w = .ok (some (88, a, 406)) w := by kernel_rfl
theorem as_partsPE (a : Addr) (w : World) : (ReflectliteValue.parts (.agg #[.pointer (some ⟨9, 88, none⟩), .pointer (some a), .int .u64 150])).run Tryz.prog w = .ok (some (88, a, 150)) w := by kernel_rfl
theorem as_directPE (w : World) : (Rtype.directlyAssignable 88 88).run Tryz.prog w = .ok true w := by kernel_rfl
theorem as_setPE (ta b e : Addr) (old : Value) (W : World) (hb : W.cell? b = some (.pointer (some e))) (ht : W.cell? ta = some old) (hf : W.frozen? ta = false) :
    (ReflectliteValue.set #[.agg #[.pointer (some ⟨9, 88, none⟩), .pointer (some ta), .int .u64 406], .agg #[.pointer (some ⟨9, 88, none⟩), .pointer (some b), .int .u64 150]]).run Tryz.prog W
      = .ok (.tuple #[]) (W.setCell ta (.pointer (some e))) := by
  rw [as_set]
  simp only [Sem.run_bind, as_partsPEa, as_partsPE, Result.andThen]
  simp [ReflectliteValue.flagAddr, loadVar, isAgg, underlying, Tryz.underlying88, hb, Result.andThen, as_directPE, storeVar, Value.cells, storeCells, Addr.add]
  rw [run_store Tryz.prog W ta _ _ (by rfl)]
  simp [ht, hf]
end Go.Proofs.YtkhhlmonhapmaaaGreatDoor
namespace Go.Proofs.YtkhhlmonhapmaaaGreatDoor
open Go.RowKit Go.Extern.Stop Go.Stop Go.Extern
section
variable {P : Program} {Δ : List Deferred} {V O : Nat → Prop} {w0 w w' : World} {H H' : List Hp} {T : List AV} {a : Act}
theorem Spec_set1 {f : FuncId} {args : List Value} {t : Nat} {old new res : Value} {R : List Hp} (h1 : new.oneCell' = true)
    (h : ∀ w, Gw w → (∀ b (cells : List Value), Hp.box b (cells.map .x) ∈ R → ∀ j u, cells[j]? = some u → w.cell? ⟨b, j, none⟩ = some u) → w.cell? ⟨t, 0, none⟩ = some old → w.frozen? ⟨t, 0, none⟩ = false →
      Calls P f args.toArray w fun e w' => e = .returned res ∧ ∃ w1, Ext w w1 ∧ w' = w1.setCell ⟨t, 0, none⟩ new) :
    Spec P f (.box t [.x old] :: R) (args.map .x) fun r H' => r = .x res ∧ H' = .box t [.x new] :: R := by
  intro V w vs hV hH hd hgl
  rw [hd.exact']
  have r : Rel [] V (blks (.box t [.x old] :: R)) w (.box t [.x old] :: R) [] { tmps := #[], defers := [] } w := ⟨DenL.nil', hH, Fr.refl _ _, fun x hx k hk => .inl ⟨x, hx, hk⟩, rfl, hV, hgl⟩
  have hbox : ∀ (b : Nat) (cells : List Value), Hp.box b (cells.map .x) ∈ (Hp.box t [.x old] :: R) → ∀ j u, cells[j]? = some u → w.cell? ⟨b, j, none⟩ = some u ∧ w.frozen? ⟨b, j, none⟩ = false := fun b cells hm j u hj => by
    obtain ⟨vals, hd, hl, hc⟩ := hH.ok _ hm
    rw [hd.exact'] at hc
    exact ⟨(hc j u hj).1, (hc j u hj).2.2⟩
  have ht := hbox t [old] (List.mem_cons_self ..) 0 old rfl
  refine (h w hgl.2 (fun b cells hm j u hj => (hbox b cells (List.mem_cons_of_mem _ hm) j u hj).1) ht.1 ht.2).mono ?_
  rintro e w' ⟨rfl, w1, hE, rfl⟩
  have hlt : t < w.heap.size := (hH.lt _ (List.mem_cons_self ..) t rfl).1
  have hlt1 : t < w1.heap.size := Nat.lt_of_lt_of_le hlt hE.size
  have hc1 : w1.cell? ⟨t, 0, none⟩ = some old := by rw [World.cell?_of_block (a := ⟨t, 0, none⟩) (hE.block t hlt)]; exact ht.1
  have hf1 : w1.frozen? ⟨t, 0, none⟩ = false := by rw [World.frozen?_of_block (a := ⟨t, 0, none⟩) (hE.block t hlt)]; exact ht.2
  have r2 : Rel [] V (blks (.box t [.x old] :: R)) w (.box t [.x new] :: R) [] { tmps := #[], defers := [] } (w1.setCell ⟨t, 0, none⟩ new) := by
    refine Rel.turn (r.quiet hE) rfl rfl rfl (by simp) (fun k _ hk => ?_) (fun k hk => ?_) ?_ (fun _ _ _ => trivial)
    · simp only [Hp.blk] at hk
      have : t ≠ k := fun e => hk (by rw [e])
      simp [World.setCell, Array.getElem?_modify, this]
    · cases hk; exact ⟨by simpa using hlt1, .inl rfl⟩
    · refine ⟨[new], DenL.cons' (den_x _) DenL.nil', by simpa using hlt1, fun j u hj => ?_⟩
      cases j with
      | succ j => simp at hj
      | zero =>
        cases hj
        exact ⟨(by first | exact World.cell?_setCell_same _ _ _ hc1 | fail), h1, by rw [World.frozen?_setCell]; exact hf1⟩
  exact ⟨.x res, _, res, ⟨rfl, rfl⟩, rfl, den_x _, r2.hok, r2.fr, r2.own⟩
end
set_option maxRecDepth 100000 in
set_option maxHeartbeats 4000000 in
theorem as_place (e t : Addr) (old : Value) (w : World) (hg : Gw w) (ht0 : w.cell? t = some old) (hf0 : w.frozen? t = false) :
    Calls Tryz.prog 48 #[.iface 88 (.pointer (some e)), .iface 89 (.pointer (some t))] w fun ev w' => ev = .returned (.bool true) ∧ w' = ((((w.alloc (.cells #[.pointer (some t)] 89)).alloc (.cells #[.pointer (some ⟨9, 89, none⟩), .pointer (some ⟨w.heap.size, 0, none⟩), .int .u64 150] 125)).alloc (.cells #[.pointer (some ⟨9, 89, none⟩), .pointer (some ⟨w.heap.size, 0, none⟩), .int .u64 150] 125)).alloc (.cells #[.pointer (some e)] 88)).setCell t (.pointer (some e)) := by
  unfold Gw at hg
  have h6 := @run_callFunc_extern Tryz.prog 77 _ (fun args => ReflectliteValue.unpack (args.getD 0 (.tuple #[]))) Tryz.func77 (by kernel_rfl) (by kernel_rfl) (by kernel_rfl) (by kernel_rfl); have h7 := @run_callFunc_extern Tryz.prog 78 _ (ReflectliteValue.methodAny (ReflectliteValue.valueError "reflectlite.Value.Type" 0) (fun t _ _ _ => ReflectliteType.toType t)) Tryz.func78 (by kernel_rfl) (by kernel_rfl) (by kernel_rfl) (by kernel_rfl); have h8 := @run_callFunc_extern Tryz.prog 79 _ (ReflectliteValue.method (ReflectliteValue.valueError "reflectlite.Value.IsNil" 0) ReflectliteValue.isNil) Tryz.func79 (by kernel_rfl) (by kernel_rfl) (by kernel_rfl) (by kernel_rfl); have h27 := @run_callFunc_extern Tryz.prog 194 _ (ReflectliteType.abiMethod fun t => do pure (.int .u8 (← Rtype.kind t))) Tryz.func194 (by kernel_rfl) (by kernel_rfl) (by kernel_rfl) (by kernel_rfl); have h37 := @run_callFunc_extern Tryz.prog 207 _ (ReflectliteType.method ReflectliteType.elem) Tryz.func207 (by kernel_rfl) (by kernel_rfl) (by kernel_rfl) (by kernel_rfl); have h38 := @run_callFunc_extern Tryz.prog 208 _ (ReflectliteType.relation "Implements" ReflectliteType.implements_) Tryz.func208 (by kernel_rfl) (by kernel_rfl) (by kernel_rfl) (by kernel_rfl); have h10 := @run_callFunc_extern Tryz.prog 122 _ ReflectliteType.typeOf Tryz.func122 (by kernel_rfl) (by kernel_rfl) (by kernel_rfl) (by kernel_rfl); have h35 := @run_callFunc_extern Tryz.prog 205 _ (ReflectliteType.relation "AssignableTo" ReflectliteType.assignableTo) Tryz.func205 (by kernel_rfl) (by kernel_rfl) (by kernel_rfl) (by kernel_rfl); have h11 := @run_callFunc_extern Tryz.prog 123 _ (ReflectliteValue.method (ReflectliteValue.valueError "reflectlite.Value.Elem" 0) ReflectliteValue.elem) Tryz.func123 (by kernel_rfl) (by kernel_rfl) (by kernel_rfl) (by kernel_rfl); have h12 := @run_callFunc_extern Tryz.prog 124 _ ReflectliteValue.set Tryz.func124 (by kernel_rfl) (by kernel_rfl) (by kernel_rfl) (by kernel_rfl)
  have tO := as_typeOfPE
  have mA := as_methodAssign
  have a25 := as_assignPE
  have v25 := as_valueOfPE
  have f6 := as_valueOfPP
  have f7 := as_typePP
  have mK := as_methodKind
  have mE := as_methodElem
  have mI := as_methodImpl
  have k27 := as_kindPP
  have k25 := as_kindPE
  have e27 := as_elemPP
  have i25 := as_implPE
  have n8 := as_isNilPP ⟨w.heap.size, 0, none⟩ t ((w.alloc (.cells #[.pointer (some t)] 89)).alloc (.cells #[.pointer (some ⟨9, 89, none⟩), .pointer (some ⟨w.heap.size, 0, none⟩), .int .u64 150] 125)) (by simp)
  have hlt : 0 < w.heap.size := World.block_lt_of_cell? w _ hg
  have hg2 : ((w.alloc (.cells #[.pointer (some t)] 89)).alloc (.cells #[.pointer (some ⟨9, 89, none⟩), .pointer (some ⟨w.heap.size, 0, none⟩), .int .u64 150] 125)).cell? ⟨0, 0, none⟩ = some (.iface 158 (.agg #[.pointer (some ⟨9, 82, none⟩)])) := by
    rw [World.cell?_alloc_lt _ _ ⟨0, 0, none⟩ (by simp), World.cell?_alloc_lt _ _ ⟨0, 0, none⟩ hlt]; exact hg
  have htl : t.block < w.heap.size := World.block_lt_of_cell? w _ ht0
  have el := as_elemVPP ⟨w.heap.size, 0, none⟩ t (((w.alloc (.cells #[.pointer (some t)] 89)).alloc (.cells #[.pointer (some ⟨9, 89, none⟩), .pointer (some ⟨w.heap.size, 0, none⟩), .int .u64 150] 125)).alloc (.cells #[.pointer (some ⟨9, 89, none⟩), .pointer (some ⟨w.heap.size, 0, none⟩), .int .u64 150] 125)) (by rw [World.cell?_alloc_lt _ _ ⟨w.heap.size, 0, none⟩ (by simp; omega)]; simp)
  have st := as_setPE t ⟨w.heap.size + 1 + 1 + 1, 0, none⟩ e old ((((w.alloc (.cells #[.pointer (some t)] 89)).alloc (.cells #[.pointer (some ⟨9, 89, none⟩), .pointer (some ⟨w.heap.size, 0, none⟩), .int .u64 150] 125)).alloc (.cells #[.pointer (some ⟨9, 89, none⟩), .pointer (some ⟨w.heap.size, 0, none⟩), .int .u64 150] 125)).alloc (.cells #[.pointer (some e)] 88))
    (by rw [World.cell?_alloc_at _ _ _ _ (by simp)]; rfl)
    (by rw [World.cell?_alloc_lt _ _ t (by simp; omega), World.cell?_alloc_lt _ _ t (by simp; omega), World.cell?_alloc_lt _ _ t (by simp; omega), World.cell?_alloc_lt _ _ t htl]; exact ht0)
    (by rw [World.frozen?_alloc_old _ _ t (by simp; omega), World.frozen?_alloc_old _ _ t (by simp; omega), World.frozen?_alloc_old _ _ t (by simp; omega), World.frozen?_alloc_old _ _ t (Nat.ne_of_lt htl)]; exact hf0)
  go_enter Tryz.func48, Tryz.ntmps48
  go_wp2
  refine wp_loop_rounds 1 ?_
  rw [rounds_succ]
  go_wp2
  go_ret
  exact ⟨rfl, rfl⟩
set_option maxRecDepth 100000 in
set_option maxHeartbeats 4000000 in
theorem as_code (b : Nat) (c : Int) (t : Addr) (old : Value) (w : World) (hg : Gw w) (hb0 : w.cell? ⟨b, 2, none⟩ = some (.iface 85 (.int .i64 c))) (ht0 : w.cell? t = some old) (hf0 : w.frozen? t = false) :
    Calls Tryz.prog 48 #[.iface 88 (.pointer (some ⟨b, 0, none⟩)), .iface 87 (.pointer (some t))] w fun ev w' => ev = .returned (.bool true) ∧ w' = ((((w.alloc (.cells #[.pointer (some t)] 87)).alloc (.cells #[.pointer (some ⟨9, 87, none⟩), .pointer (some ⟨w.heap.size, 0, none⟩), .int .u64 150] 125)).alloc (.cells #[.pointer (some ⟨9, 87, none⟩), .pointer (some ⟨w.heap.size, 0, none⟩), .int .u64 150] 125)).alloc (.cells #[.int .i64 c] 85)).setCell t (.int .i64 c) := by
  unfold Gw at hg
  have h6 := @run_callFunc_extern Tryz.prog 77 _ (fun args => ReflectliteValue.unpack (args.getD 0 (.tuple #[]))) Tryz.func77 (by kernel_rfl) (by kernel_rfl) (by kernel_rfl) (by kernel_rfl); have h7 := @run_callFunc_extern Tryz.prog 78 _ (ReflectliteValue.methodAny (ReflectliteValue.valueError "reflectlite.Value.Type" 0) (fun t _ _ _ => ReflectliteType.toType t)) Tryz.func78 (by kernel_rfl) (by kernel_rfl) (by kernel_rfl) (by kernel_rfl); have h8 := @run_callFunc_extern Tryz.prog 79 _ (ReflectliteValue.method (ReflectliteValue.valueError "reflectlite.Value.IsNil" 0) ReflectliteValue.isNil) Tryz.func79 (by kernel_rfl) (by kernel_rfl) (by kernel_rfl) (by kernel_rfl); have h27 := @run_callFunc_extern Tryz.prog 194 _ (ReflectliteType.abiMethod fun t => do pure (.int .u8 (← Rtype.kind t))) Tryz.func194 (by kernel_rfl) (by kernel_rfl) (by kernel_rfl) (by kernel_rfl); have h37 := @run_callFunc_extern Tryz.prog 207 _ (ReflectliteType.method ReflectliteType.elem) Tryz.func207 (by kernel_rfl) (by kernel_rfl) (by kernel_rfl) (by kernel_rfl); have h38 := @run_callFunc_extern Tryz.prog 208 _ (ReflectliteType.relation "Implements" ReflectliteType.implements_) Tryz.func208 (by kernel_rfl) (by kernel_rfl) (by kernel_rfl) (by kernel_rfl); have h10 := @run_callFunc_extern Tryz.prog 122 _ ReflectliteType.typeOf Tryz.func122 (by kernel_rfl) (by kernel_rfl) (by kernel_rfl) (by kernel_rfl); have h35 := @run_callFunc_extern Tryz.prog 205 _ (ReflectliteType.relation "AssignableTo" ReflectliteType.assignableTo) Tryz.func205 (by kernel_rfl) (by kernel_rfl) (by kernel_rfl) (by kernel_rfl); have h11 := @run_callFunc_extern Tryz.prog 123 _ (ReflectliteValue.method (ReflectliteValue.valueError "reflectlite.Value.Elem" 0) ReflectliteValue.elem) Tryz.func123 (by kernel_rfl) (by kernel_rfl) (by kernel_rfl) (by kernel_rfl); have h12 := @run_callFunc_extern Tryz.prog 124 _ ReflectliteValue.set Tryz.func124 (by kernel_rfl) (by kernel_rfl) (by kernel_rfl) (by kernel_rfl)
  have tO := as_typeOfPE
  have tO2 := as_typeOfCE
  have mA := as_methodAssign
  have mU := as_methodUnwrap
  have nA := as_noAs
  have hU := as_hasUnwrap
  have a24 := as_assignPC
  have a25 := as_assignCE
  have v25 := as_valueOfCE
  have f6 := as_valueOfPC
  have f7 := as_typePC
  have mK := as_methodKind
  have mE := as_methodElem
  have mI := as_methodImpl
  have k27 := as_kindPC
  have k25 := as_kindCE
  have e27 := as_elemPC
  have i25 := as_implCE
  have n8 := as_isNilPC ⟨w.heap.size, 0, none⟩ t ((w.alloc (.cells #[.pointer (some t)] 87)).alloc (.cells #[.pointer (some ⟨9, 87, none⟩), .pointer (some ⟨w.heap.size, 0, none⟩), .int .u64 150] 125)) (by simp)
  have hlt : 0 < w.heap.size := World.block_lt_of_cell? w _ hg
  have hg2 : ((w.alloc (.cells #[.pointer (some t)] 87)).alloc (.cells #[.pointer (some ⟨9, 87, none⟩), .pointer (some ⟨w.heap.size, 0, none⟩), .int .u64 150] 125)).cell? ⟨0, 0, none⟩ = some (.iface 158 (.agg #[.pointer (some ⟨9, 82, none⟩)])) := by
    rw [World.cell?_alloc_lt _ _ ⟨0, 0, none⟩ (by simp), World.cell?_alloc_lt _ _ ⟨0, 0, none⟩ hlt]; exact hg
  have htl : t.block < w.heap.size := World.block_lt_of_cell? w _ ht0
  have hbl : b < w.heap.size := World.block_lt_of_cell? w _ hb0
  have hb2 : (((w.alloc (.cells #[.pointer (some t)] 87)).alloc (.cells #[.pointer (some ⟨9, 87, none⟩), .pointer (some ⟨w.heap.size, 0, none⟩), .int .u64 150] 125)).alloc (.cells #[.pointer (some ⟨9, 87, none⟩), .pointer (some ⟨w.heap.size, 0, none⟩), .int .u64 150] 125)).cell? ⟨b, 2, none⟩ = some (.iface 85 (.int .i64 c)) := by
    rw [World.cell?_alloc_lt _ _ ⟨b, 2, none⟩ (by simp; omega), World.cell?_alloc_lt _ _ ⟨b, 2, none⟩ (by simp; omega), World.cell?_alloc_lt _ _ ⟨b, 2, none⟩ hbl]; exact hb0
  have el := as_elemVPC ⟨w.heap.size, 0, none⟩ t (((w.alloc (.cells #[.pointer (some t)] 87)).alloc (.cells #[.pointer (some ⟨9, 87, none⟩), .pointer (some ⟨w.heap.size, 0, none⟩), .int .u64 150] 125)).alloc (.cells #[.pointer (some ⟨9, 87, none⟩), .pointer (some ⟨w.heap.size, 0, none⟩), .int .u64 150] 125)) (by rw [World.cell?_alloc_lt _ _ ⟨w.heap.size, 0, none⟩ (by simp; omega)]; simp)
  have st := as_setCE t ⟨w.heap.size + 1 + 1 + 1, 0, none⟩ c old ((((w.alloc (.cells #[.pointer (some t)] 87)).alloc (.cells #[.pointer (some ⟨9, 87, none⟩), .pointer (some ⟨w.heap.size, 0, none⟩), .int .u64 150] 125)).alloc (.cells #[.pointer (some ⟨9, 87, none⟩), .pointer (some ⟨w.heap.size, 0, none⟩), .int .u64 150] 125)).alloc (.cells #[.int .i64 c] 85))
    (by rw [World.cell?_alloc_at _ _ _ _ (by simp)]; rfl)
    (by rw [World.cell?_alloc_lt _ _ t (by simp; omega), World.cell?_alloc_lt _ _ t (by simp; omega), World.cell?_alloc_lt _ _ t (by simp; omega), World.cell?_alloc_lt _ _ t htl]; exact ht0)
    (by rw [World.frozen?_alloc_old _ _ t (by simp; omega), World.frozen?_alloc_old _ _ t (by simp; omega), World.frozen?_alloc_old _ _ t (by simp; omega), World.frozen?_alloc_old _ _ t (Nat.ne_of_lt htl)]; exact hf0)
  clear hb0
  go_enter Tryz.func48, Tryz.ntmps48
  go_wp2
  refine wp_loop_rounds 2 ?_
  rw [rounds_succ]
  go_wp2
  rw [rounds_succ]
  go_wp2
  go_ret
  exact ⟨rfl, rfl⟩
theorem al4 (w : World) (o1 o2 o3 o4 : Obj) : Ext w ((((w.alloc o1).alloc o2).alloc o3).alloc o4) := (((Ext.al _ _).tr (Ext.al _ _)).tr (Ext.al _ _)).tr (Ext.al _ _)
theorem as_code_s (b t : Nat) (v0 v1 old : Value) (c : Int) (R : List Hp) : Spec Tryz.prog 48 (.box t [.x old] :: .box b [.x v0, .x v1, .x (.iface 85 (.int .i64 c))] :: R) [.x (.iface 88 (.pointer (some ⟨b, 0, none⟩))), .x (.iface 87 (.pointer (some ⟨t, 0, none⟩)))] fun r H' => r = .x (.bool true) ∧ H' = .box t [.x (.int .i64 c)] :: .box b [.x v0, .x v1, .x (.iface 85 (.int .i64 c))] :: R := by
  refine Spec_set1 (args := [_, _]) rfl fun w hg hR ht hf => ?_
  refine (as_code b c ⟨t, 0, none⟩ old w hg (hR b [v0, v1, _] (List.mem_cons_self ..) 2 _ rfl) ht hf).mono ?_
  rintro e w' ⟨rfl, rfl⟩
  exact ⟨rfl, _, al4 _ _ _ _ _, rfl⟩
theorem as_place_s (b t : Nat) (old : Value) (R : List Hp) : Spec Tryz.prog 48 (.box t [.x old] :: R) [.x (.iface 88 (.pointer (some ⟨b, 0, none⟩))), .x (.iface 89 (.pointer (some ⟨t, 0, none⟩)))] fun r H' => r = .x (.bool true) ∧ H' = .box t [.x (.pointer (some ⟨b, 0, none⟩))] :: R := by
  refine Spec_set1 (args := [_, _]) rfl fun w hg hR ht hf => ?_
  refine (as_place ⟨b, 0, none⟩ ⟨t, 0, none⟩ old w hg ht hf).mono ?_
  rintro e w' ⟨rfl, rfl⟩
  exact ⟨rfl, _, al4 _ _ _ _ _, rfl⟩
end Go.Proofs.YtkhhlmonhapmaaaGreatDoor
namespace Go.Proofs.YtkhhlmonhapmaaaGreatDoor
open Go.RowKit
set_option maxRecDepth 100000 in
set_option maxHeartbeats 8000000 in
theorem lall_long (l : List UInt8) (hl : l.length ≤ 1000000) (h8 : 8192 < l.length) : Spec Tryz.prog 31 [] [.x (.string (bs l))] (fun r H' => r = .tup [.sq 0 [], .x (.agg #[.int .i64 1, .int .i64 0, .int .i64 0])] ∧ H' = []) := by
  refine Spec_of Tryz.func31 rfl ?_
  simp only [Tryz.ntmps31, List.length_cons, List.length_nil, List.replicate_succ, List.replicate_zero, List.cons_append, List.nil_append, Nat.reduceAdd, Nat.reduceSub]
  (repeat' (first | with_reducible (first | refine awp_seq ?_ | refine awp_region ?_ | refine awp_ret ?_ | refine awpL_nil ?_ | refine thenA_normal ?_ | refine thenA_ret ?_) | (refine awp_cond _ rfl (fun h => ?_) (fun h => ?_) <;> ((try (simp only [whn] at h)); first | (exfalso; omega; done) | skip)) | ((apply awpL_evl2 rfl); (case h => ((first | (apply Evl_k 0 rfl; (first | exact Evl_mv _ rfl | exact Evl_as _ rfl)) | (apply Evl_k 10 rfl; (exact Evl_build _ _ _ _ _ rfl HPl.out (by first | rfl | fail) rfl)) | (apply Evl_x; (case hs => (intro _ _ h; cases h)); (case hx => rfl); (case hrun => (intro w; simp [wtb, AV.val, go_sem]; skip; rfl)))))); (case hT => ((try simp only [wtn, ↓reduceIte]); rfl))) | (refine awpL_cons rfl ?_; ((first | (refine Stp_k 14 rfl ?_; ((refine Stp_alloc _ _ rfl HZero.out rfl (fun b => ?_)))) | (refine Stp_k 16 rfl ?_; ((refine Stp_store _ _ _ _ _ _ _ rfl rfl FBox.out HSize.out (by first | rfl | fail) (by first | exact Nat.le_of_ble_eq_true rfl | fail) ?_)))); apply awpL_cong; (case hT => ((try simp only [wtn]); rfl)); (case hH => ((try simp only [wtn, Nat.reduceAdd]); rfl)))) | fail))
  refine endA_ret _ _ (Res2 rfl (RV.tmp _) (RV.cell 0 rfl rfl HAgg.out (by simp) (by simp)) (Weak.mk' [_] [] (List.Perm.refl _) VwHs.nil (VwL.cons Vw.nil (VwL.refl _ _)))) ?_
  exact ⟨rfl, rfl⟩
set_option maxRecDepth 100000 in
set_option maxHeartbeats 8000000 in
theorem lall_ok (l : List UInt8) (h8 : l.length ≤ 8192) (ts : List Tok) (hs : Spec Tryz.prog 47 [] [.x (.string (bs l))] (fun q H' => q = .tup [.sq ts.length (ta ts), .x .nilIface] ∧ H' = [])) : Spec Tryz.prog 31 [] [.x (.string (bs l))] (fun r H' => r = .tup [.sq ts.length (ta ts), .x (.agg #[.int .i64 0, .int .i64 0, .int .i64 0])] ∧ H' = []) := by
  refine Spec_of Tryz.func31 rfl ?_
  simp only [Tryz.ntmps31, List.length_cons, List.length_nil, List.replicate_succ, List.replicate_zero, List.cons_append, List.nil_append, Nat.reduceAdd, Nat.reduceSub]
  (repeat' (first | with_reducible (first | refine awp_seq ?_ | refine awp_region ?_ | refine awp_ret ?_ | refine awp_skip ?_ | refine awpL_nil ?_ | refine thenA_normal ?_ | refine thenA_ret ?_) | (refine awp_cond _ rfl (fun h => ?_) (fun h => ?_) <;> first | (exact absurd h (by decide)) | ((try (simp only [whn] at h)); first | (exfalso; omega; done) | skip)) | ((apply awpL_evl2 rfl); (case h => ((first | (apply Evl_k 0 rfl; (first | exact Evl_mv _ rfl | exact Evl_as _ rfl)) | (apply Evl_k 2 rfl; (exact Evl_extract _ _ _ _ rfl rfl rfl)) | (apply Evl_k 10 rfl; (exact Evl_build _ _ _ _ _ rfl HPl.out (by first | rfl | fail) rfl)) | (apply Evl_k 11 rfl; (exact Evl_call 47 Tryz.f47 _ _ rfl rfl Tryz.func47 (by decide) rfl (VwL.refl _ _) (hs))) | (apply Evl_x; (case hs => (intro _ _ h; cases h)); (case hx => rfl); (case hrun => (intro w; simp [wtb, AV.val, go_sem]; skip; rfl)))))); (case hT => ((try simp only [wtn, ↓reduceIte]); rfl))) | (refine awpL_cons rfl ?_; ((first | (refine Stp_k 14 rfl ?_; ((refine Stp_alloc _ _ rfl HZero.out rfl (fun b => ?_)))) | (refine Stp_k 16 rfl ?_; ((refine Stp_store _ _ _ _ _ _ _ rfl rfl FBox.out HSize.out (by first | rfl | fail) (by first | exact Nat.le_of_ble_eq_true rfl | fail) ?_)))); apply awpL_cong; (case hT => ((try simp only [wtn]); rfl)); (case hH => ((try simp only [wtn, Nat.reduceAdd]); rfl)))) | fail))
  refine endA_ret _ _ (Res2 rfl (RV.tmp _) (RV.cell 0 rfl rfl HAgg.out (by simp) (by simp)) (Weak.mk' [_] [] (List.Perm.refl _) VwHs.nil (VwL.refl _ _))) ?_
  exact ⟨rfl, rfl⟩
set_option maxRecDepth 100000 in
set_option maxHeartbeats 8000000 in
theorem lall_bad (l : List UInt8) (h8 : l.length ≤ 8192) (c : Int) (x y : Int) (hs : Spec Tryz.prog 47 [] [.x (.string (bs l))] (fun q H' => ∃ b, q = .tup [.x (.slice none 0 0), .x (.iface 88 (.pointer (some ⟨b, 0, none⟩)))] ∧ H' = [.box b [.x (.int .i64 x), .x (.int .i64 y), .x (.iface 85 (.int .i64 c))]])) : Spec Tryz.prog 31 [] [.x (.string (bs l))] (fun r H' => r = .tup [.sq 0 [], .x (.agg #[.int .i64 c, .int .i64 x, .int .i64 y])] ∧ H' = []) := by
  refine Spec_of Tryz.func31 rfl ?_
  simp only [Tryz.ntmps31, List.length_cons, List.length_nil, List.replicate_succ, List.replicate_zero, List.cons_append, List.nil_append, Nat.reduceAdd, Nat.reduceSub]
  (repeat' (first | with_reducible (first | refine awp_seq ?_ | refine awp_region ?_ | refine awp_skip ?_ | refine awpL_nil ?_ | refine thenA_normal ?_) | (refine awp_cond _ rfl (fun h => ?_) (fun h => ?_) <;> first | (exact absurd h (by decide)) | ((try (simp only [whn] at h)); first | (exfalso; omega; done) | skip)) | ((apply awpL_evl2 rfl); (case h => ((first | (apply Evl_k 0 rfl; (first | exact Evl_mv _ rfl | exact Evl_as _ rfl)) | (apply Evl_k 2 rfl; (exact Evl_extract _ _ _ _ rfl rfl rfl)) | (apply Evl_k 5 rfl; (exact Evl_field_x _ _ _ _ _ _ rfl rfl HFld.out)) | (apply Evl_k 6 rfl; (exact Evl_load _ _ _ _ _ _ _ _ rfl rfl FBox.out HAgg.out (by first | exact Nat.le_of_ble_eq_true rfl | fail) (by first | exact Nat.le_of_ble_eq_true rfl | fail))) | (apply Evl_x; (case hs => (intro _ _ h; cases h)); (case hx => rfl); (case hrun => (intro w; simp [wtb, AV.val, go_sem]; skip; rfl)))))); (case hT => ((try simp only [wtn]); rfl))) | (refine awpL_cons rfl ?_; ((first | (refine Stp_k 11 rfl ?_; (first | (refine Stp_call 47 Tryz.f47 ([]) _ _ _ rfl rfl Tryz.func47 (by decide) rfl (List.Perm.refl _) (VwL.refl _ _) (hs) ?_; rintro _ _ ⟨b2, rfl, rfl⟩) | (refine Stp_call 48 Tryz.f48 [_, _] [_, _] _ _ rfl rfl Tryz.func48 (by decide) rfl (List.Perm.cons _ (List.Perm.swap _ _ _)) (VwL.refl _ _) (as_code_s _ _ _ _ _ _ []) ?_; rintro _ _ ⟨rfl, rfl⟩) | (refine Stp_call 48 Tryz.f48 [_] _ _ _ rfl rfl Tryz.func48 (by decide) rfl (List.Perm.refl _) (VwL.refl _ _) (as_place_s _ _ _ []) ?_; rintro _ _ ⟨rfl, rfl⟩))) | (refine Stp_k 14 rfl ?_; ((refine Stp_alloc _ _ rfl HZero.out rfl (fun b => ?_)))) | (refine Stp_k 16 rfl ?_; ((refine Stp_store _ _ _ _ _ _ _ rfl rfl FBox.out HSize.out (by first | rfl | fail) (by first | exact Nat.le_of_ble_eq_true rfl | fail) ?_)))); apply awpL_cong; (case hT => ((try simp only [wtn]); rfl)); (case hH => ((try simp only [wtn, Nat.reduceAdd]); rfl)))) | fail))
  refine awpP_drawn mixed [] [_, _] _ (List.Perm.cons _ (List.Perm.swap _ _ _)) ?_
  (first | refine awpP_load 0 rfl rfl (by kernel_rfl) (by intro c T H hp; simp [thenA, inBlockA, jumpA, endA] at hp) _ _ _ _ _ _ _ _ rfl rfl FBox.out HAgg.out (by first | exact Nat.le_of_ble_eq_true rfl | fail) (by first | exact Nat.le_of_ble_eq_true rfl | fail) ?_ | fail); (apply awpP_cong; (case hT => ((try simp only [wtn]); rfl)); (case hH => rfl)); (first | (apply awpP_take 1 rfl rfl (by kernel_rfl) (by intro c T H hp; simp [thenA, inBlockA, jumpA, endA] at hp); (case h => (exact WInd_nil _ _ _ rfl rfl))) | fail); (apply awpP_cong; (case hT => ((try simp only [wtn]); rfl)); (case hH => rfl)); (first | (apply awpP_take 2 rfl rfl (by kernel_rfl) (by intro c T H hp; simp [thenA, inBlockA, jumpA, endA] at hp); (case h => (exact WInd_field_x _ _ _ _ _ _ rfl rfl HFld.out))) | fail); (apply awpP_cong; (case hT => ((try simp only [wtn]); rfl)); (case hH => rfl)); (first | refine awpP_load 3 rfl rfl (by kernel_rfl) (by intro c T H hp; simp [thenA, inBlockA, jumpA, endA] at hp) _ _ _ _ _ _ _ _ rfl rfl FBox.out HAgg.out (by first | exact Nat.le_of_ble_eq_true rfl | fail) (by first | exact Nat.le_of_ble_eq_true rfl | fail) ?_ | fail); (apply awpP_cong; (case hT => ((try simp only [wtn]); rfl)); (case hH => rfl)); (first | refine awpP_load 4 rfl rfl (by kernel_rfl) (by intro c T H hp; simp [thenA, inBlockA, jumpA, endA] at hp) _ _ _ _ _ _ _ _ rfl rfl FBox.out HAgg.out (by first | exact Nat.le_of_ble_eq_true rfl | fail) (by first | exact Nat.le_of_ble_eq_true rfl | fail) ?_ | fail); (apply awpP_cong; (case hT => ((try simp only [wtn]); rfl)); (case hH => rfl)); (first | (apply awpP_take 5 rfl rfl (by kernel_rfl) (by intro c T H hp; simp [thenA, inBlockA, jumpA, endA] at hp); (case h => (exact WInd_nil _ _ _ rfl rfl))) | fail); (apply awpP_cong; (case hT => ((try simp only [wtn]); rfl)); (case hH => rfl)); (first | (apply awpP_take 6 rfl rfl (by kernel_rfl) (by intro c T H hp; simp [thenA, inBlockA, jumpA, endA] at hp); (case h => (exact WInd_field_x _ _ _ _ _ _ rfl rfl HFld.out))) | fail); (apply awpP_cong; (case hT => ((try simp only [wtn]); rfl)); (case hH => rfl)); (first | refine awpP_load 7 rfl rfl (by kernel_rfl) (by intro c T H hp; simp [thenA, inBlockA, jumpA, endA] at hp) _ _ _ _ _ _ _ _ rfl rfl FBox.out HAgg.out (by first | exact Nat.le_of_ble_eq_true rfl | fail) (by first | exact Nat.le_of_ble_eq_true rfl | fail) ?_ | fail); (apply awpP_cong; (case hT => ((try simp only [wtn]); rfl)); (case hH => rfl)); (first | (apply awpP_take 8 rfl rfl (by kernel_rfl) (by intro c T H hp; simp [thenA, inBlockA, jumpA, endA] at hp); (case h => (exact WInd_field_x _ _ _ _ _ _ rfl rfl HFld.out))) | fail); (apply awpP_cong; (case hT => ((try simp only [wtn]); rfl)); (case hH => rfl))
  (repeat ((first | refine awpP_1 9 (by decide +kernel) rfl rfl ?_ | refine awpP_1 10 (by decide +kernel) rfl rfl ?_ | refine awpP_1 11 (by decide +kernel) rfl rfl ?_ | fail); (first | (apply Stp_evl; (case h => ((apply Evl_k 5 rfl; (exact Evl_field_x _ _ _ _ _ _ rfl rfl HFld.out)))); (apply awpP_cong; (case hT => ((try simp only [wtn]); rfl)); (case hH => rfl))) | (((refine Stp_k 16 rfl ?_; ((refine Stp_store _ _ _ _ _ _ _ rfl rfl FBox.out HSize.out (by first | rfl | fail) (by first | exact Nat.le_of_ble_eq_true rfl | fail) ?_)))); apply awpP_cong; (case hT => ((try simp only [wtn]); rfl)); (case hH => ((try simp only [wtn]); rfl))) | fail)))
  refine awpP_rest (by decide +kernel) ?_
  refine awpA_cong rfl (by simp only [List.cons_append, List.nil_append]; rfl) ?_
  refine awpA_done (by decide +kernel) ?_
  (repeat' (first | with_reducible (first | refine awp_seq ?_ | refine thenA_normal ?_) | fail))
  refine awpP_drawn mixed [] [_] [_, _, _, _] (List.perm_middle (l₁ := [_, _, _])) ?_
  (first | refine awpP_load 0 rfl rfl (by kernel_rfl) (by intro c T H hp; simp [thenA, inBlockA, jumpA, endA] at hp) _ _ _ _ _ _ _ _ rfl rfl FBox.out HAgg.out (by first | exact Nat.le_of_ble_eq_true rfl | fail) (by first | exact Nat.le_of_ble_eq_true rfl | fail) ?_ | fail); (apply awpP_cong; (case hT => ((try simp only [wtn, ↓reduceIte]); rfl)); (case hH => rfl)); (first | (apply awpP_take 1 rfl rfl (by kernel_rfl) (by intro c T H hp; simp [thenA, inBlockA, jumpA, endA] at hp); (case h => (exact WInd_as _ rfl))) | fail); (apply awpP_cong; (case hT => ((try simp only [wtn]); rfl)); (case hH => rfl))
  (refine awpP_1 2 (by decide +kernel) rfl rfl ?_; (first | (((refine Stp_k 16 rfl ?_; ((refine Stp_store _ _ _ _ _ _ _ rfl rfl FBox.out HSize.out (by first | rfl | fail) (by first | exact Nat.le_of_ble_eq_true rfl | fail) ?_)))); apply awpP_cong; (case hT => ((try simp only [wtn]); rfl)); (case hH => ((try simp only [wtn, Nat.reduceAdd]); rfl))) | fail))
  refine awpP_rest (by decide +kernel) ?_
  refine awpA_cong rfl (by simp only [List.cons_append, List.nil_append]; rfl) ?_
  refine awpA_done (by decide +kernel) ?_
  (repeat' (first | with_reducible (first | refine awp_ret ?_ | refine thenA_normal ?_) | fail))
  refine endA_ret _ _ (Res2 rfl (RV.tmp _) (RV.cell 4 rfl rfl HAgg.out (by simp) (by simp)) (Weak.mk' [_, _, _, _, _] [] (List.Perm.refl _) VwHs.nil (VwL.cons Vw.nil (VwL.refl _ _)))) ?_
  exact ⟨rfl, rfl⟩
theorem lall_s (l : List UInt8) (hl : l.length ≤ 1000000) : Spec Tryz.prog 31 [] [.x (.string (bs l))] (fun r H' => r = .tup [.sq (toksOf (lex l)).length (ta (toksOf (lex l))), (fltOf (lex l)).av] ∧ H' = []) := by
  by_cases h8 : 8192 < l.length
  · have e : lex l = .error ⟨1, 0, 0⟩ := by unfold lex; rw [if_pos (by omega)]
    rw [e]
    exact lall_long l hl h8
  · have e : lex l = lexGo (1, 1) 0 l := by unfold lex; rw [if_neg (by omega)]
    have hs := scan_s l (by omega)
    rw [e]
    cases hx : lexGo (1, 1) 0 l with
    | ok ts => rw [hx] at hs; exact lall_ok l (by omega) ts hs
    | error f => rw [hx] at hs; exact lall_bad l (by omega) _ _ _ hs
end Go.Proofs.YtkhhlmonhapmaaaGreatDoor

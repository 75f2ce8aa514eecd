import Derived.Test.YtfaljkenmbbbaaaDoorW14
import Derived.Test.YtfaljkenmbbbaaaDoorW9
import Derived.Test.YtfaljkenmbbbaaaDoorW13
import Derived.Test.YtfaljkenmbbbaaaDoorW7
/- errors.As at the lexer's two targets: the walks, and what they say of memory. -/
namespace Go.Proofs.YtfaljkenmbbbaaaDoor
open Go.RowKit Go.Extern.Stop Go.Stop Go.Extern
set_option linter.unusedSimpArgs false
set_option linter.unusedVariables false
section
variable {P : Program} {V O : Nat → Prop} {w0 w w' : World} {H H' : List Hp} {T : List AV} {a : Act}
/-- One cell of a box is written, behind new blocks. -/
theorem Spec_set1 {f : FuncId} {args : List Value} {t : Nat} {old new res : Value} {R : List Hp} (h1 : new.oneCell' = true)
    (h : ∀ w, Gw w → (∀ b (cells : List Value), Hp.box b (cells.map .x) ∈ R → ∀ j u, cells[j]? = some u → w.cell? ⟨b, j, none⟩ = some u) → w.cell? ⟨t, 0, none⟩ = some old → w.frozen? ⟨t, 0, none⟩ = false →
      Calls P f args.toArray w fun e w' => e = .returned res ∧ ∃ w1, Ext w w1 ∧ w' = w1.setCell ⟨t, 0, none⟩ new) :
    Spec P f (.box t [.x old] :: R) (args.map .x) fun r H' => r = .x res ∧ H' = .box t [.x new] :: R := by
  intro V w vs hV hH hd hgl
  rw [hd.exact']
  have r : Rel V (blks (.box t [.x old] :: R)) w (.box t [.x old] :: R) [] { tmps := #[], defers := [] } w := ⟨DenL.nil', hH, Fr.refl _ _, fun x hx k hk => .inl ⟨x, hx, hk⟩, rfl, hV, hgl⟩
  have hbox : ∀ (b : Nat) (cells : List Value), Hp.box b (cells.map .x) ∈ (Hp.box t [.x old] :: R) → ∀ j u, cells[j]? = some u → w.cell? ⟨b, j, none⟩ = some u ∧ w.frozen? ⟨b, j, none⟩ = false := fun b cells hm j u hj => by
    obtain ⟨vals, hd, hl, hc⟩ := hH.ok _ hm
    rw [hd.exact'] at hc
    exact ⟨(hc j u hj).1, (hc j u hj).2.2⟩
  have ht := hbox t [old] (List.mem_cons_self ..) 0 old rfl
  refine (h w hgl.2 (fun b cells hm j u hj => (hbox b cells (List.mem_cons_of_mem _ hm) j u hj).1) ht.1 ht.2).mono ?_
  rintro e w' ⟨rfl, w1, hE, rfl⟩
  have hlt : t < w.heap.size := (hH.lt _ (List.mem_cons_self ..) t rfl).1
  have hlt1 : t < w1.heap.size := Nat.lt_of_lt_of_le hlt hE.size
  have hc1 : w1.cell? ⟨t, 0, none⟩ = some old := by rw [World.cell?_of_block (a := ⟨t, 0, none⟩) (hE.block t hlt)]; exact ht.1
  have hf1 : w1.frozen? ⟨t, 0, none⟩ = false := by rw [World.frozen?_of_block (a := ⟨t, 0, none⟩) (hE.block t hlt)]; exact ht.2
  have r2 : Rel V (blks (.box t [.x old] :: R)) w (.box t [.x new] :: R) [] { tmps := #[], defers := [] } (w1.setCell ⟨t, 0, none⟩ new) := by
    refine Rel.turn (r.quiet hE) rfl rfl rfl (by simp) (fun k _ hk => ?_) (fun k hk => ?_) ?_ (fun _ _ _ => trivial)
    · simp only [Hp.blk] at hk
      have : t ≠ k := fun e => hk (by rw [e])
      simp [World.setCell, Array.getElem?_modify, this]
    · cases hk; exact ⟨by simpa using hlt1, .inl rfl⟩
    · refine ⟨[new], DenL.cons' (den_x _) DenL.nil', by simpa using hlt1, fun j u hj => ?_⟩
      cases j with
      | succ j => simp at hj
      | zero =>
        cases hj
        exact ⟨(by first | exact World.cell?_setCell_same _ hc1 | exact World.cell?_setCell_same _ _ hc1 | exact World.cell?_setCell_same _ _ _ hc1), h1, by rw [World.frozen?_setCell]; exact hf1⟩
  exact ⟨.x res, _, res, ⟨rfl, rfl⟩, rfl, den_x _, r2.hok, r2.fr, r2.own⟩
end
set_option maxRecDepth 100000 in
set_option maxHeartbeats 4000000 in
theorem as_place (e t : Addr) (old : Value) (w : World) (hg : Gw w) (ht0 : w.cell? t = some old) (hf0 : w.frozen? t = false) :
    Calls Tryd.prog 23 #[.iface 62 (.pointer (some e)), .iface 63 (.pointer (some t))] w fun ev w' => ev = .returned (.bool true) ∧ w' = ((((w.alloc (.cells #[.pointer (some t)] 63)).alloc (.cells #[.pointer (some ⟨2, 63, none⟩), .pointer (some ⟨w.heap.size, 0, none⟩), .int .u64 150] 97)).alloc (.cells #[.pointer (some ⟨2, 63, none⟩), .pointer (some ⟨w.heap.size, 0, none⟩), .int .u64 150] 97)).alloc (.cells #[.pointer (some e)] 62)).setCell t (.pointer (some e)) := by
  unfold Gw at hg
  have h6 := @run_callFunc_extern Tryd.prog 39 _ (fun args => ReflectliteValue.unpack (args.getD 0 (.tuple #[]))) Tryd.func39 (by kernel_rfl) (by kernel_rfl) (by kernel_rfl) (by kernel_rfl); have h7 := @run_callFunc_extern Tryd.prog 40 _ (ReflectliteValue.methodAny (ReflectliteValue.valueError "reflectlite.Value.Type" 0) (fun t _ _ _ => ReflectliteType.toType t)) Tryd.func40 (by kernel_rfl) (by kernel_rfl) (by kernel_rfl) (by kernel_rfl); have h8 := @run_callFunc_extern Tryd.prog 41 _ (ReflectliteValue.method (ReflectliteValue.valueError "reflectlite.Value.IsNil" 0) ReflectliteValue.isNil) Tryd.func41 (by kernel_rfl) (by kernel_rfl) (by kernel_rfl) (by kernel_rfl); have h27 := @run_callFunc_extern Tryd.prog 105 _ (ReflectliteType.abiMethod fun t => do pure (.int .u8 (← Rtype.kind t))) Tryd.func105 (by kernel_rfl) (by kernel_rfl) (by kernel_rfl) (by kernel_rfl); have h37 := @run_callFunc_extern Tryd.prog 118 _ (ReflectliteType.method ReflectliteType.elem) Tryd.func118 (by kernel_rfl) (by kernel_rfl) (by kernel_rfl) (by kernel_rfl); have h38 := @run_callFunc_extern Tryd.prog 119 _ (ReflectliteType.relation "Implements" ReflectliteType.implements_) Tryd.func119 (by kernel_rfl) (by kernel_rfl) (by kernel_rfl) (by kernel_rfl); have h10 := @run_callFunc_extern Tryd.prog 62 _ ReflectliteType.typeOf Tryd.func62 (by kernel_rfl) (by kernel_rfl) (by kernel_rfl) (by kernel_rfl); have h35 := @run_callFunc_extern Tryd.prog 116 _ (ReflectliteType.relation "AssignableTo" ReflectliteType.assignableTo) Tryd.func116 (by kernel_rfl) (by kernel_rfl) (by kernel_rfl) (by kernel_rfl); have h11 := @run_callFunc_extern Tryd.prog 63 _ (ReflectliteValue.method (ReflectliteValue.valueError "reflectlite.Value.Elem" 0) ReflectliteValue.elem) Tryd.func63 (by kernel_rfl) (by kernel_rfl) (by kernel_rfl) (by kernel_rfl); have h12 := @run_callFunc_extern Tryd.prog 64 _ ReflectliteValue.set Tryd.func64 (by kernel_rfl) (by kernel_rfl) (by kernel_rfl) (by kernel_rfl)
  have tO := as_typeOfPE
  have mA := as_methodAssign
  have a25 := as_assignPE
  have v25 := as_valueOfPE
  have f6 := as_valueOfPP
  have f7 := as_typePP
  have mK := as_methodKind
  have mE := as_methodElem
  have mI := as_methodImpl
  have k27 := as_kindPP
  have k25 := as_kindPE
  have e27 := as_elemPP
  have i25 := as_implPE
  have n8 := as_isNilPP ⟨w.heap.size, 0, none⟩ t ((w.alloc (.cells #[.pointer (some t)] 63)).alloc (.cells #[.pointer (some ⟨2, 63, none⟩), .pointer (some ⟨w.heap.size, 0, none⟩), .int .u64 150] 97)) (by simp)
  have hlt : 0 < w.heap.size := World.block_lt_of_cell? w _ hg
  have hg2 : ((w.alloc (.cells #[.pointer (some t)] 63)).alloc (.cells #[.pointer (some ⟨2, 63, none⟩), .pointer (some ⟨w.heap.size, 0, none⟩), .int .u64 150] 97)).cell? ⟨0, 0, none⟩ = some (.iface 127 (.agg #[.pointer (some ⟨2, 56, none⟩)])) := by
    rw [World.cell?_alloc_lt _ _ ⟨0, 0, none⟩ (by simp), World.cell?_alloc_lt _ _ ⟨0, 0, none⟩ hlt]; exact hg
  have htl : t.block < w.heap.size := World.block_lt_of_cell? w _ ht0
  have el := as_elemVPP ⟨w.heap.size, 0, none⟩ t (((w.alloc (.cells #[.pointer (some t)] 63)).alloc (.cells #[.pointer (some ⟨2, 63, none⟩), .pointer (some ⟨w.heap.size, 0, none⟩), .int .u64 150] 97)).alloc (.cells #[.pointer (some ⟨2, 63, none⟩), .pointer (some ⟨w.heap.size, 0, none⟩), .int .u64 150] 97)) (by rw [World.cell?_alloc_lt _ _ ⟨w.heap.size, 0, none⟩ (by simp; omega)]; simp)
  have st := as_setPE t ⟨w.heap.size + 1 + 1 + 1, 0, none⟩ e old ((((w.alloc (.cells #[.pointer (some t)] 63)).alloc (.cells #[.pointer (some ⟨2, 63, none⟩), .pointer (some ⟨w.heap.size, 0, none⟩), .int .u64 150] 97)).alloc (.cells #[.pointer (some ⟨2, 63, none⟩), .pointer (some ⟨w.heap.size, 0, none⟩), .int .u64 150] 97)).alloc (.cells #[.pointer (some e)] 62))
    (by rw [World.cell?_alloc_at _ _ _ _ (by simp)]; rfl)
    (by rw [World.cell?_alloc_lt _ _ t (by simp; omega), World.cell?_alloc_lt _ _ t (by simp; omega), World.cell?_alloc_lt _ _ t (by simp; omega), World.cell?_alloc_lt _ _ t htl]; exact ht0)
    (by rw [World.frozen?_alloc_old _ _ t (by simp; omega), World.frozen?_alloc_old _ _ t (by simp; omega), World.frozen?_alloc_old _ _ t (by simp; omega), World.frozen?_alloc_old _ _ t (Nat.ne_of_lt htl)]; exact hf0)
  go_enter Tryd.func23, Tryd.ntmps23
  go_wp2
  refine wp_loop_rounds 1 ?_
  rw [rounds_succ]
  go_wp2
  go_ret
  exact ⟨rfl, rfl⟩
set_option maxRecDepth 100000 in
set_option maxHeartbeats 4000000 in
theorem as_code (b : Nat) (c : Int) (t : Addr) (old : Value) (w : World) (hg : Gw w) (hb0 : w.cell? ⟨b, 2, none⟩ = some (.iface 59 (.int .i64 c))) (ht0 : w.cell? t = some old) (hf0 : w.frozen? t = false) :
    Calls Tryd.prog 23 #[.iface 62 (.pointer (some ⟨b, 0, none⟩)), .iface 61 (.pointer (some t))] w fun ev w' => ev = .returned (.bool true) ∧ w' = ((((w.alloc (.cells #[.pointer (some t)] 61)).alloc (.cells #[.pointer (some ⟨2, 61, none⟩), .pointer (some ⟨w.heap.size, 0, none⟩), .int .u64 150] 97)).alloc (.cells #[.pointer (some ⟨2, 61, none⟩), .pointer (some ⟨w.heap.size, 0, none⟩), .int .u64 150] 97)).alloc (.cells #[.int .i64 c] 59)).setCell t (.int .i64 c) := by
  unfold Gw at hg
  have h6 := @run_callFunc_extern Tryd.prog 39 _ (fun args => ReflectliteValue.unpack (args.getD 0 (.tuple #[]))) Tryd.func39 (by kernel_rfl) (by kernel_rfl) (by kernel_rfl) (by kernel_rfl); have h7 := @run_callFunc_extern Tryd.prog 40 _ (ReflectliteValue.methodAny (ReflectliteValue.valueError "reflectlite.Value.Type" 0) (fun t _ _ _ => ReflectliteType.toType t)) Tryd.func40 (by kernel_rfl) (by kernel_rfl) (by kernel_rfl) (by kernel_rfl); have h8 := @run_callFunc_extern Tryd.prog 41 _ (ReflectliteValue.method (ReflectliteValue.valueError "reflectlite.Value.IsNil" 0) ReflectliteValue.isNil) Tryd.func41 (by kernel_rfl) (by kernel_rfl) (by kernel_rfl) (by kernel_rfl); have h27 := @run_callFunc_extern Tryd.prog 105 _ (ReflectliteType.abiMethod fun t => do pure (.int .u8 (← Rtype.kind t))) Tryd.func105 (by kernel_rfl) (by kernel_rfl) (by kernel_rfl) (by kernel_rfl); have h37 := @run_callFunc_extern Tryd.prog 118 _ (ReflectliteType.method ReflectliteType.elem) Tryd.func118 (by kernel_rfl) (by kernel_rfl) (by kernel_rfl) (by kernel_rfl); have h38 := @run_callFunc_extern Tryd.prog 119 _ (ReflectliteType.relation "Implements" ReflectliteType.implements_) Tryd.func119 (by kernel_rfl) (by kernel_rfl) (by kernel_rfl) (by kernel_rfl); have h10 := @run_callFunc_extern Tryd.prog 62 _ ReflectliteType.typeOf Tryd.func62 (by kernel_rfl) (by kernel_rfl) (by kernel_rfl) (by kernel_rfl); have h35 := @run_callFunc_extern Tryd.prog 116 _ (ReflectliteType.relation "AssignableTo" ReflectliteType.assignableTo) Tryd.func116 (by kernel_rfl) (by kernel_rfl) (by kernel_rfl) (by kernel_rfl); have h11 := @run_callFunc_extern Tryd.prog 63 _ (ReflectliteValue.method (ReflectliteValue.valueError "reflectlite.Value.Elem" 0) ReflectliteValue.elem) Tryd.func63 (by kernel_rfl) (by kernel_rfl) (by kernel_rfl) (by kernel_rfl); have h12 := @run_callFunc_extern Tryd.prog 64 _ ReflectliteValue.set Tryd.func64 (by kernel_rfl) (by kernel_rfl) (by kernel_rfl) (by kernel_rfl)
  have tO := as_typeOfPE
  have tO2 := as_typeOfCE
  have mA := as_methodAssign
  have mU := as_methodUnwrap
  have nA := as_noAs
  have hU := as_hasUnwrap
  have a24 := as_assignPC
  have a25 := as_assignCE
  have v25 := as_valueOfCE
  have f6 := as_valueOfPC
  have f7 := as_typePC
  have mK := as_methodKind
  have mE := as_methodElem
  have mI := as_methodImpl
  have k27 := as_kindPC
  have k25 := as_kindCE
  have e27 := as_elemPC
  have i25 := as_implCE
  have n8 := as_isNilPC ⟨w.heap.size, 0, none⟩ t ((w.alloc (.cells #[.pointer (some t)] 61)).alloc (.cells #[.pointer (some ⟨2, 61, none⟩), .pointer (some ⟨w.heap.size, 0, none⟩), .int .u64 150] 97)) (by simp)
  have hlt : 0 < w.heap.size := World.block_lt_of_cell? w _ hg
  have hg2 : ((w.alloc (.cells #[.pointer (some t)] 61)).alloc (.cells #[.pointer (some ⟨2, 61, none⟩), .pointer (some ⟨w.heap.size, 0, none⟩), .int .u64 150] 97)).cell? ⟨0, 0, none⟩ = some (.iface 127 (.agg #[.pointer (some ⟨2, 56, none⟩)])) := by
    rw [World.cell?_alloc_lt _ _ ⟨0, 0, none⟩ (by simp), World.cell?_alloc_lt _ _ ⟨0, 0, none⟩ hlt]; exact hg
  have htl : t.block < w.heap.size := World.block_lt_of_cell? w _ ht0
  have hbl : b < w.heap.size := World.block_lt_of_cell? w _ hb0
  have hb2 : (((w.alloc (.cells #[.pointer (some t)] 61)).alloc (.cells #[.pointer (some ⟨2, 61, none⟩), .pointer (some ⟨w.heap.size, 0, none⟩), .int .u64 150] 97)).alloc (.cells #[.pointer (some ⟨2, 61, none⟩), .pointer (some ⟨w.heap.size, 0, none⟩), .int .u64 150] 97)).cell? ⟨b, 2, none⟩ = some (.iface 59 (.int .i64 c)) := by
    rw [World.cell?_alloc_lt _ _ ⟨b, 2, none⟩ (by simp; omega), World.cell?_alloc_lt _ _ ⟨b, 2, none⟩ (by simp; omega), World.cell?_alloc_lt _ _ ⟨b, 2, none⟩ hbl]; exact hb0
  have el := as_elemVPC ⟨w.heap.size, 0, none⟩ t (((w.alloc (.cells #[.pointer (some t)] 61)).alloc (.cells #[.pointer (some ⟨2, 61, none⟩), .pointer (some ⟨w.heap.size, 0, none⟩), .int .u64 150] 97)).alloc (.cells #[.pointer (some ⟨2, 61, none⟩), .pointer (some ⟨w.heap.size, 0, none⟩), .int .u64 150] 97)) (by rw [World.cell?_alloc_lt _ _ ⟨w.heap.size, 0, none⟩ (by simp; omega)]; simp)
  have st := as_setCE t ⟨w.heap.size + 1 + 1 + 1, 0, none⟩ c old ((((w.alloc (.cells #[.pointer (some t)] 61)).alloc (.cells #[.pointer (some ⟨2, 61, none⟩), .pointer (some ⟨w.heap.size, 0, none⟩), .int .u64 150] 97)).alloc (.cells #[.pointer (some ⟨2, 61, none⟩), .pointer (some ⟨w.heap.size, 0, none⟩), .int .u64 150] 97)).alloc (.cells #[.int .i64 c] 59))
    (by rw [World.cell?_alloc_at _ _ _ _ (by simp)]; rfl)
    (by rw [World.cell?_alloc_lt _ _ t (by simp; omega), World.cell?_alloc_lt _ _ t (by simp; omega), World.cell?_alloc_lt _ _ t (by simp; omega), World.cell?_alloc_lt _ _ t htl]; exact ht0)
    (by rw [World.frozen?_alloc_old _ _ t (by simp; omega), World.frozen?_alloc_old _ _ t (by simp; omega), World.frozen?_alloc_old _ _ t (by simp; omega), World.frozen?_alloc_old _ _ t (Nat.ne_of_lt htl)]; exact hf0)
  clear hb0
  go_enter Tryd.func23, Tryd.ntmps23
  go_wp2
  refine wp_loop_rounds 2 ?_
  rw [rounds_succ]
  go_wp2
  rw [rounds_succ]
  go_wp2
  go_ret
  exact ⟨rfl, rfl⟩
theorem al4 (w : World) (o1 o2 o3 o4 : Obj) : Ext w ((((w.alloc o1).alloc o2).alloc o3).alloc o4) := (((Ext.al _ _).tr (Ext.al _ _)).tr (Ext.al _ _)).tr (Ext.al _ _)
/-- errors.As(err, &code), err a place with a code. -/
theorem as_code_s (b t : Nat) (v0 v1 old : Value) (c : Int) (R : List Hp) : Spec Tryd.prog 23 (.box t [.x old] :: .box b [.x v0, .x v1, .x (.iface 59 (.int .i64 c))] :: R) [.x (.iface 62 (.pointer (some ⟨b, 0, none⟩))), .x (.iface 61 (.pointer (some ⟨t, 0, none⟩)))] fun r H' => r = .x (.bool true) ∧ H' = .box t [.x (.int .i64 c)] :: .box b [.x v0, .x v1, .x (.iface 59 (.int .i64 c))] :: R := by
  refine Spec_set1 (args := [_, _]) rfl fun w hg hR ht hf => ?_
  refine (as_code b c ⟨t, 0, none⟩ old w hg (hR b [v0, v1, _] (List.mem_cons_self ..) 2 _ rfl) ht hf).mono ?_
  rintro e w' ⟨rfl, rfl⟩
  exact ⟨rfl, _, al4 _ _ _ _ _, rfl⟩
theorem as_place_s (b t : Nat) (old : Value) (R : List Hp) : Spec Tryd.prog 23 (.box t [.x old] :: R) [.x (.iface 62 (.pointer (some ⟨b, 0, none⟩))), .x (.iface 63 (.pointer (some ⟨t, 0, none⟩)))] fun r H' => r = .x (.bool true) ∧ H' = .box t [.x (.pointer (some ⟨b, 0, none⟩))] :: R := by
  refine Spec_set1 (args := [_, _]) rfl fun w hg hR ht hf => ?_
  refine (as_place ⟨b, 0, none⟩ ⟨t, 0, none⟩ old w hg ht hf).mono ?_
  rintro e w' ⟨rfl, rfl⟩
  exact ⟨rfl, _, al4 _ _ _ _ _, rfl⟩
end Go.Proofs.YtfaljkenmbbbaaaDoor
/- The program's lexer: All. -/
namespace Go.Proofs.YtfaljkenmbbbaaaDoor
open Go.RowKit
set_option linter.unusedSimpArgs false
set_option linter.unusedVariables false
set_option maxRecDepth 100000 in
set_option maxHeartbeats 8000000 in
theorem lall_long (l : List UInt8) (hl : l.length ≤ 1000000) (h8 : 8192 < l.length) : Spec Tryd.prog 13 [] [.x (.string (bs l))] (fun r H' => r = .tup [.sq 0 [], .x (.agg #[.int .i64 1, .int .i64 0, .int .i64 0])] ∧ H' = []) := by
  refine Spec_of Tryd.func13 rfl ?_
  simp only [Tryd.ntmps13, List.length_cons, List.length_nil, List.replicate_succ, List.replicate_zero, List.cons_append, List.nil_append, Nat.reduceAdd, Nat.reduceSub]
  (repeat' (first | with_reducible (first | refine awp_seq ?_ | refine awp_region ?_ | refine awp_ret ?_ | refine awpL_nil ?_ | refine thenA_normal ?_ | refine thenA_ret ?_) | (refine awp_cond _ rfl (fun h => ?_) (fun h => ?_) <;> ((try (simp only [whn] at h)); first | (exfalso; omega; done) | skip)) | ((apply awpL_evl2 rfl); (case h => ((try (intro (hp : (_ : Bool) = true); ((try simp only [Bool.and_eq_true, Bool.not_eq_true', Bool.not_eq_true] at hp); (try simp only [hp, wte]); (try simp only [whn] at hp)))); (first | (apply Evl_k 0 rfl; (first | exact Evl_mv _ rfl | exact Evl_as _ rfl)) | (apply Evl_k 10 rfl; (exact Evl_build _ _ _ _ _ rfl HPl.out (by first | rfl | fail) rfl)) | (apply Evl_x; (case hs => (intro _ _ h; cases h)); (case hx => rfl); (case hrun => (intro w; simp [wtb, AV.val, go_sem]; (try go_bits); rfl)))))); (case hT => ((try simp only [wtn, List.append_eq, List.foldl_cons, List.foldl_nil, List.map_cons, List.map_nil, Nat.reduceAdd, Nat.reduceMul, Nat.reduceSub, ↓reduceIte, Nat.reduceEqDiff]); rfl))) | (refine awpL_cons rfl ?_; ((first | (refine Stp_k 14 rfl ?_; ((refine Stp_alloc _ _ rfl HZero.out rfl (fun b => ?_)))) | (refine Stp_k 16 rfl ?_; ((refine Stp_store _ _ _ _ _ _ _ rfl rfl FBox.out HSize.out (by first | rfl | fail) (by first | exact Nat.le_of_ble_eq_true rfl | fail) ?_)))); apply awpL_cong; (case hT => ((try simp only [wtn, List.append_eq, List.foldl_cons, List.foldl_nil, List.map_cons, List.map_nil, Nat.reduceAdd, Nat.reduceMul, Nat.reduceSub, ↓reduceIte, Nat.reduceEqDiff]); rfl)); (case hH => ((try simp only [wtn, List.append_eq, List.foldl_cons, List.foldl_nil, List.map_cons, List.map_nil, Nat.reduceAdd, Nat.reduceMul, Nat.reduceSub, ↓reduceIte, Nat.reduceEqDiff]); rfl)))) | fail))
  refine endA_ret _ _ (Res2 rfl (RV.tmp _) (RV.cell 0 rfl rfl HAgg.out (by simp) (by simp)) (Weak.mk' [_] [] (List.Perm.refl _) VwHs.nil (VwL.cons Vw.nil (VwL.refl _ _)))) ?_
  exact ⟨rfl, rfl⟩
set_option maxRecDepth 100000 in
set_option maxHeartbeats 8000000 in
theorem lall_ok (l : List UInt8) (h8 : l.length ≤ 8192) (ts : List Tok) (hs : Spec Tryd.prog 22 [] [.x (.string (bs l))] (fun q H' => q = .tup [.sq ts.length (ta ts), .x .nilIface] ∧ H' = [])) : Spec Tryd.prog 13 [] [.x (.string (bs l))] (fun r H' => r = .tup [.sq ts.length (ta ts), .x (.agg #[.int .i64 0, .int .i64 0, .int .i64 0])] ∧ H' = []) := by
  refine Spec_of Tryd.func13 rfl ?_
  simp only [Tryd.ntmps13, List.length_cons, List.length_nil, List.replicate_succ, List.replicate_zero, List.cons_append, List.nil_append, Nat.reduceAdd, Nat.reduceSub]
  (repeat' (first | with_reducible (first | refine awp_seq ?_ | refine awp_region ?_ | refine awp_ret ?_ | refine awp_skip ?_ | refine awpL_nil ?_ | refine thenA_normal ?_ | refine thenA_ret ?_) | (refine awp_cond _ rfl (fun h => ?_) (fun h => ?_) <;> first | (exact absurd h (by decide)) | ((try (simp only [whn] at h)); first | (exfalso; omega; done) | skip)) | ((apply awpL_evl2 rfl); (case h => ((try (intro (hp : (_ : Bool) = true); ((try simp only [Bool.and_eq_true, Bool.not_eq_true', Bool.not_eq_true] at hp); (try simp only [hp, wte]); (try simp only [whn] at hp)))); (first | (apply Evl_k 0 rfl; (first | exact Evl_mv _ rfl | exact Evl_as _ rfl)) | (apply Evl_k 2 rfl; (exact Evl_extract _ _ _ _ rfl rfl rfl)) | (apply Evl_k 10 rfl; (exact Evl_build _ _ _ _ _ rfl HPl.out (by first | rfl | fail) rfl)) | (apply Evl_k 11 rfl; (exact Evl_call 22 Tryd.f22 _ _ rfl rfl Tryd.func22 (by decide) rfl (VwL.refl _ _) (hs))) | (apply Evl_x; (case hs => (intro _ _ h; cases h)); (case hx => rfl); (case hrun => (intro w; simp [wtb, AV.val, go_sem]; (try go_bits); rfl)))))); (case hT => ((try simp only [wtn, List.append_eq, List.foldl_cons, List.foldl_nil, List.map_cons, List.map_nil, Nat.reduceAdd, Nat.reduceMul, Nat.reduceSub, ↓reduceIte, Nat.reduceEqDiff]); rfl))) | (refine awpL_cons rfl ?_; ((first | (refine Stp_k 14 rfl ?_; ((refine Stp_alloc _ _ rfl HZero.out rfl (fun b => ?_)))) | (refine Stp_k 16 rfl ?_; ((refine Stp_store _ _ _ _ _ _ _ rfl rfl FBox.out HSize.out (by first | rfl | fail) (by first | exact Nat.le_of_ble_eq_true rfl | fail) ?_)))); apply awpL_cong; (case hT => ((try simp only [wtn, List.append_eq, List.foldl_cons, List.foldl_nil, List.map_cons, List.map_nil, Nat.reduceAdd, Nat.reduceMul, Nat.reduceSub, ↓reduceIte, Nat.reduceEqDiff]); rfl)); (case hH => ((try simp only [wtn, List.append_eq, List.foldl_cons, List.foldl_nil, List.map_cons, List.map_nil, Nat.reduceAdd, Nat.reduceMul, Nat.reduceSub, ↓reduceIte, Nat.reduceEqDiff]); rfl)))) | fail))
  refine endA_ret _ _ (Res2 rfl (RV.tmp _) (RV.cell 0 rfl rfl HAgg.out (by simp) (by simp)) (Weak.mk' [_] [] (List.Perm.refl _) VwHs.nil (VwL.refl _ _))) ?_
  exact ⟨rfl, rfl⟩
set_option maxRecDepth 100000 in
set_option maxHeartbeats 8000000 in
theorem lall_bad (l : List UInt8) (h8 : l.length ≤ 8192) (c : Int) (x y : Int) (hs : Spec Tryd.prog 22 [] [.x (.string (bs l))] (fun q H' => ∃ b, q = .tup [.x (.slice none 0 0), .x (.iface 62 (.pointer (some ⟨b, 0, none⟩)))] ∧ H' = [.box b [.x (.int .i64 x), .x (.int .i64 y), .x (.iface 59 (.int .i64 c))]])) : Spec Tryd.prog 13 [] [.x (.string (bs l))] (fun r H' => r = .tup [.sq 0 [], .x (.agg #[.int .i64 c, .int .i64 x, .int .i64 y])] ∧ H' = []) := by
  refine Spec_of Tryd.func13 rfl ?_
  simp only [Tryd.ntmps13, List.length_cons, List.length_nil, List.replicate_succ, List.replicate_zero, List.cons_append, List.nil_append, Nat.reduceAdd, Nat.reduceSub]
  (repeat' (first | with_reducible (first | refine awp_seq ?_ | refine awp_region ?_ | refine awp_skip ?_ | refine awpL_nil ?_ | refine thenA_normal ?_) | (refine awp_cond _ rfl (fun h => ?_) (fun h => ?_) <;> first | (exact absurd h (by decide)) | ((try (simp only [whn] at h)); first | (exfalso; omega; done) | skip)) | ((apply awpL_evl2 rfl); (case h => ((try (intro (hp : (_ : Bool) = true); ((try simp only [Bool.and_eq_true, Bool.not_eq_true', Bool.not_eq_true] at hp); (try simp only [hp, wte]); (try simp only [whn] at hp)))); (first | (apply Evl_k 0 rfl; (first | exact Evl_mv _ rfl | exact Evl_as _ rfl)) | (apply Evl_k 2 rfl; (exact Evl_extract _ _ _ _ rfl rfl rfl)) | (apply Evl_k 5 rfl; (exact Evl_field_x _ _ _ _ _ _ rfl rfl HFld.out)) | (apply Evl_k 6 rfl; (exact Evl_load _ _ _ _ _ _ _ _ rfl rfl FBox.out HAgg.out (by first | exact Nat.le_of_ble_eq_true rfl | fail) (by first | exact Nat.le_of_ble_eq_true rfl | fail))) | (apply Evl_x; (case hs => (intro _ _ h; cases h)); (case hx => rfl); (case hrun => (intro w; simp [wtb, AV.val, go_sem]; (try go_bits); rfl)))))); (case hT => ((try simp only [wtn, List.append_eq, List.foldl_cons, List.foldl_nil, List.map_cons, List.map_nil, Nat.reduceAdd, Nat.reduceMul, Nat.reduceSub, ↓reduceIte, Nat.reduceEqDiff]); rfl))) | (refine awpL_cons rfl ?_; ((first | (refine Stp_k 11 rfl ?_; (first | (refine Stp_call 22 Tryd.f22 ([]) _ _ _ rfl rfl Tryd.func22 (by decide) rfl (List.Perm.refl _) (VwL.refl _ _) (hs) ?_; rintro _ _ ⟨b2, rfl, rfl⟩) | (refine Stp_call 23 Tryd.f23 [_, _] [_, _] _ _ rfl rfl Tryd.func23 (by decide) rfl (List.Perm.cons _ (List.Perm.swap _ _ _)) (VwL.refl _ _) (as_code_s _ _ _ _ _ _ []) ?_; rintro _ _ ⟨rfl, rfl⟩) | (refine Stp_call 23 Tryd.f23 [_] _ _ _ rfl rfl Tryd.func23 (by decide) rfl (List.Perm.refl _) (VwL.refl _ _) (as_place_s _ _ _ []) ?_; rintro _ _ ⟨rfl, rfl⟩))) | (refine Stp_k 14 rfl ?_; ((refine Stp_alloc _ _ rfl HZero.out rfl (fun b => ?_)))) | (refine Stp_k 16 rfl ?_; ((refine Stp_store _ _ _ _ _ _ _ rfl rfl FBox.out HSize.out (by first | rfl | fail) (by first | exact Nat.le_of_ble_eq_true rfl | fail) ?_)))); apply awpL_cong; (case hT => ((try simp only [wtn, List.append_eq, List.foldl_cons, List.foldl_nil, List.map_cons, List.map_nil, Nat.reduceAdd, Nat.reduceMul, Nat.reduceSub, ↓reduceIte, Nat.reduceEqDiff]); rfl)); (case hH => ((try simp only [wtn, List.append_eq, List.foldl_cons, List.foldl_nil, List.map_cons, List.map_nil, Nat.reduceAdd, Nat.reduceMul, Nat.reduceSub, ↓reduceIte, Nat.reduceEqDiff]); rfl)))) | fail))
  refine awpP_drawn mixed [] [_, _] _ (List.Perm.cons _ (List.Perm.swap _ _ _)) ?_
  (first | refine awpP_load 0 rfl rfl (by kernel_rfl) (by intro c T H hp; simp [thenA, inBlockA, jumpA, endA] at hp) _ _ _ _ _ _ _ _ rfl rfl FBox.out HAgg.out (by first | exact Nat.le_of_ble_eq_true rfl | fail) (by first | exact Nat.le_of_ble_eq_true rfl | fail) ?_ | fail); (apply awpP_cong; (case hT => ((try simp only [wtn, List.append_eq, List.foldl_cons, List.foldl_nil, List.map_cons, List.map_nil, Nat.reduceAdd, Nat.reduceMul, Nat.reduceSub, ↓reduceIte, Nat.reduceEqDiff]); rfl)); (case hH => rfl)); (first | (apply awpP_take 1 rfl rfl (by kernel_rfl) (by intro c T H hp; simp [thenA, inBlockA, jumpA, endA] at hp); (case h => (exact WInd_nil _ _ _ rfl rfl))) | fail); (apply awpP_cong; (case hT => ((try simp only [wtn, List.append_eq, List.foldl_cons, List.foldl_nil, List.map_cons, List.map_nil, Nat.reduceAdd, Nat.reduceMul, Nat.reduceSub, ↓reduceIte, Nat.reduceEqDiff]); rfl)); (case hH => rfl)); (first | (apply awpP_take 2 rfl rfl (by kernel_rfl) (by intro c T H hp; simp [thenA, inBlockA, jumpA, endA] at hp); (case h => (exact WInd_field_x _ _ _ _ _ _ rfl rfl HFld.out))) | fail); (apply awpP_cong; (case hT => ((try simp only [wtn, List.append_eq, List.foldl_cons, List.foldl_nil, List.map_cons, List.map_nil, Nat.reduceAdd, Nat.reduceMul, Nat.reduceSub, ↓reduceIte, Nat.reduceEqDiff]); rfl)); (case hH => rfl)); (first | refine awpP_load 3 rfl rfl (by kernel_rfl) (by intro c T H hp; simp [thenA, inBlockA, jumpA, endA] at hp) _ _ _ _ _ _ _ _ rfl rfl FBox.out HAgg.out (by first | exact Nat.le_of_ble_eq_true rfl | fail) (by first | exact Nat.le_of_ble_eq_true rfl | fail) ?_ | fail); (apply awpP_cong; (case hT => ((try simp only [wtn, List.append_eq, List.foldl_cons, List.foldl_nil, List.map_cons, List.map_nil, Nat.reduceAdd, Nat.reduceMul, Nat.reduceSub, ↓reduceIte, Nat.reduceEqDiff]); rfl)); (case hH => rfl)); (first | refine awpP_load 4 rfl rfl (by kernel_rfl) (by intro c T H hp; simp [thenA, inBlockA, jumpA, endA] at hp) _ _ _ _ _ _ _ _ rfl rfl FBox.out HAgg.out (by first | exact Nat.le_of_ble_eq_true rfl | fail) (by first | exact Nat.le_of_ble_eq_true rfl | fail) ?_ | fail); (apply awpP_cong; (case hT => ((try simp only [wtn, List.append_eq, List.foldl_cons, List.foldl_nil, List.map_cons, List.map_nil, Nat.reduceAdd, Nat.reduceMul, Nat.reduceSub, ↓reduceIte, Nat.reduceEqDiff]); rfl)); (case hH => rfl)); (first | (apply awpP_take 5 rfl rfl (by kernel_rfl) (by intro c T H hp; simp [thenA, inBlockA, jumpA, endA] at hp); (case h => (exact WInd_nil _ _ _ rfl rfl))) | fail); (apply awpP_cong; (case hT => ((try simp only [wtn, List.append_eq, List.foldl_cons, List.foldl_nil, List.map_cons, List.map_nil, Nat.reduceAdd, Nat.reduceMul, Nat.reduceSub, ↓reduceIte, Nat.reduceEqDiff]); rfl)); (case hH => rfl)); (first | (apply awpP_take 6 rfl rfl (by kernel_rfl) (by intro c T H hp; simp [thenA, inBlockA, jumpA, endA] at hp); (case h => (exact WInd_field_x _ _ _ _ _ _ rfl rfl HFld.out))) | fail); (apply awpP_cong; (case hT => ((try simp only [wtn, List.append_eq, List.foldl_cons, List.foldl_nil, List.map_cons, List.map_nil, Nat.reduceAdd, Nat.reduceMul, Nat.reduceSub, ↓reduceIte, Nat.reduceEqDiff]); rfl)); (case hH => rfl)); (first | refine awpP_load 7 rfl rfl (by kernel_rfl) (by intro c T H hp; simp [thenA, inBlockA, jumpA, endA] at hp) _ _ _ _ _ _ _ _ rfl rfl FBox.out HAgg.out (by first | exact Nat.le_of_ble_eq_true rfl | fail) (by first | exact Nat.le_of_ble_eq_true rfl | fail) ?_ | fail); (apply awpP_cong; (case hT => ((try simp only [wtn, List.append_eq, List.foldl_cons, List.foldl_nil, List.map_cons, List.map_nil, Nat.reduceAdd, Nat.reduceMul, Nat.reduceSub, ↓reduceIte, Nat.reduceEqDiff]); rfl)); (case hH => rfl)); (first | (apply awpP_take 8 rfl rfl (by kernel_rfl) (by intro c T H hp; simp [thenA, inBlockA, jumpA, endA] at hp); (case h => (exact WInd_field_x _ _ _ _ _ _ rfl rfl HFld.out))) | fail); (apply awpP_cong; (case hT => ((try simp only [wtn, List.append_eq, List.foldl_cons, List.foldl_nil, List.map_cons, List.map_nil, Nat.reduceAdd, Nat.reduceMul, Nat.reduceSub, ↓reduceIte, Nat.reduceEqDiff]); rfl)); (case hH => rfl))
  (repeat ((first | refine awpP_1 9 (by decide +kernel) rfl rfl ?_ | refine awpP_1 10 (by decide +kernel) rfl rfl ?_ | refine awpP_1 11 (by decide +kernel) rfl rfl ?_ | fail); (first | (apply Stp_evl; (case h => ((apply Evl_k 5 rfl; (exact Evl_field_x _ _ _ _ _ _ rfl rfl HFld.out)))); (apply awpP_cong; (case hT => ((try simp only [wtn, List.append_eq, List.foldl_cons, List.foldl_nil, List.map_cons, List.map_nil, Nat.reduceAdd, Nat.reduceMul, Nat.reduceSub, ↓reduceIte, Nat.reduceEqDiff]); rfl)); (case hH => rfl))) | (((refine Stp_k 16 rfl ?_; ((refine Stp_store _ _ _ _ _ _ _ rfl rfl FBox.out HSize.out (by first | rfl | fail) (by first | exact Nat.le_of_ble_eq_true rfl | fail) ?_)))); apply awpP_cong; (case hT => ((try simp only [wtn, List.append_eq, List.foldl_cons, List.foldl_nil, List.map_cons, List.map_nil, Nat.reduceAdd, Nat.reduceMul, Nat.reduceSub, ↓reduceIte, Nat.reduceEqDiff]); rfl)); (case hH => ((try simp only [wtn, List.append_eq, List.foldl_cons, List.foldl_nil, List.map_cons, List.map_nil, Nat.reduceAdd, Nat.reduceMul, Nat.reduceSub, ↓reduceIte, Nat.reduceEqDiff]); rfl))) | fail)))
  refine awpP_rest (by decide +kernel) ?_
  refine awpA_cong rfl (by simp only [List.cons_append, List.nil_append]; rfl) ?_
  refine awpA_done (by decide +kernel) ?_
  (repeat' (first | with_reducible (first | refine awp_seq ?_ | refine thenA_normal ?_) | fail))
  refine awpP_drawn mixed [] [_] [_, _, _, _] (List.perm_middle (l₁ := [_, _, _])) ?_
  (first | refine awpP_load 0 rfl rfl (by kernel_rfl) (by intro c T H hp; simp [thenA, inBlockA, jumpA, endA] at hp) _ _ _ _ _ _ _ _ rfl rfl FBox.out HAgg.out (by first | exact Nat.le_of_ble_eq_true rfl | fail) (by first | exact Nat.le_of_ble_eq_true rfl | fail) ?_ | fail); (apply awpP_cong; (case hT => ((try simp only [wtn, List.append_eq, List.foldl_cons, List.foldl_nil, List.map_cons, List.map_nil, Nat.reduceAdd, Nat.reduceMul, Nat.reduceSub, ↓reduceIte, Nat.reduceEqDiff]); rfl)); (case hH => rfl)); (first | (apply awpP_take 1 rfl rfl (by kernel_rfl) (by intro c T H hp; simp [thenA, inBlockA, jumpA, endA] at hp); (case h => (exact WInd_as _ rfl))) | fail); (apply awpP_cong; (case hT => ((try simp only [wtn, List.append_eq, List.foldl_cons, List.foldl_nil, List.map_cons, List.map_nil, Nat.reduceAdd, Nat.reduceMul, Nat.reduceSub, ↓reduceIte, Nat.reduceEqDiff]); rfl)); (case hH => rfl))
  (refine awpP_1 2 (by decide +kernel) rfl rfl ?_; (first | (((refine Stp_k 16 rfl ?_; ((refine Stp_store _ _ _ _ _ _ _ rfl rfl FBox.out HSize.out (by first | rfl | fail) (by first | exact Nat.le_of_ble_eq_true rfl | fail) ?_)))); apply awpP_cong; (case hT => ((try simp only [wtn, List.append_eq, List.foldl_cons, List.foldl_nil, List.map_cons, List.map_nil, Nat.reduceAdd, Nat.reduceMul, Nat.reduceSub, ↓reduceIte, Nat.reduceEqDiff]); rfl)); (case hH => ((try simp only [wtn, List.append_eq, List.foldl_cons, List.foldl_nil, List.map_cons, List.map_nil, Nat.reduceAdd, Nat.reduceMul, Nat.reduceSub, ↓reduceIte, Nat.reduceEqDiff]); rfl))) | fail))
  refine awpP_rest (by decide +kernel) ?_
  refine awpA_cong rfl (by simp only [List.cons_append, List.nil_append]; rfl) ?_
  refine awpA_done (by decide +kernel) ?_
  (repeat' (first | with_reducible (first | refine awp_ret ?_ | refine thenA_normal ?_) | fail))
  refine endA_ret _ _ (Res2 rfl (RV.tmp _) (RV.cell 4 rfl rfl HAgg.out (by simp) (by simp)) (Weak.mk' [_, _, _, _, _] [] (List.Perm.refl _) VwHs.nil (VwL.cons Vw.nil (VwL.refl _ _)))) ?_
  exact ⟨rfl, rfl⟩
theorem lall_s (l : List UInt8) (hl : l.length ≤ 1000000) : Spec Tryd.prog 13 [] [.x (.string (bs l))] (fun r H' => r = .tup [.sq (toksOf (lex l)).length (ta (toksOf (lex l))), (fltOf (lex l)).av] ∧ H' = []) := by
  by_cases h8 : 8192 < l.length
  · have e : lex l = .error ⟨1, 0, 0⟩ := by unfold lex; rw [if_pos (by omega)]
    rw [e]
    exact lall_long l hl h8
  · have e : lex l = lexGo (1, 1) 0 l := by unfold lex; rw [if_neg (by omega)]
    have hs := scan_s l (by omega)
    rw [e]
    cases hx : lexGo (1, 1) 0 l with
    | ok ts => rw [hx] at hs; exact lall_ok l (by omega) ts hs
    | error f => rw [hx] at hs; exact lall_bad l (by omega) _ _ _ hs
end Go.Proofs.YtfaljkenmbbbaaaDoor
/- The lexer's laws: Same, sane. -/
namespace Go.Proofs.YtfaljkenmbbbaaaDoor
open Go.RowKit
set_option linter.unusedSimpArgs false
set_option linter.unusedVariables false
theorem ta_dropc (l : List Tok) (k : Nat) (h : k < l.length) : (ta l).drop (k * 4) = .x (.int .i64 l[k].kind) :: .x (.string (bs l[k].text)) :: .x (.int .i64 (l[k].line : Nat)) :: .x (.int .i64 (l[k].col : Nat)) :: ta (l.drop (k + 1)) := ta_drop l k h
set_option maxRecDepth 100000 in
set_option maxHeartbeats 8000000 in
theorem same_s (l : List Tok) (hl : l.length ≤ 100000) : Spec Tryd.prog 15 [] [.sq l.length (ta l), .sq l.length (ta l)] (fun r H' => r = .x (.bool true) ∧ H' = []) := by
  refine Spec_of Tryd.func15 rfl ?_
  simp only [Tryd.ntmps15, List.length_cons, List.length_nil, List.replicate_succ, List.replicate_zero, List.cons_append, List.nil_append, Nat.reduceAdd, Nat.reduceSub]
  (repeat' (first | with_reducible (first | refine awp_seq ?_ | refine awp_region ?_ | refine awp_block ?_ | refine awp_skip ?_ | refine awpL_nil ?_ | refine thenA_normal ?_) | (refine awp_cond _ rfl (fun h => ?_) (fun h => ?_) <;> first | (exact absurd h (by decide)) | ((try (simp only [whn] at h)); skip)) | ((apply awpL_evl2 rfl); (case h => ((try (intro (hp : (_ : Bool) = true); ((try simp only [Bool.and_eq_true, Bool.not_eq_true', Bool.not_eq_true] at hp); (try simp only [hp, wte]); (try simp only [whn] at hp)))); (first | (apply Evl_k 0 rfl; (first | exact Evl_mv _ rfl | exact Evl_as _ rfl)) | (apply Evl_k 3 rfl; (exact Evl_len _ _ _ _ _ _ HEl.out rfl rfl)) | (apply Evl_x; (case hs => (intro _ _ h; cases h)); (case hx => rfl); (case hrun => (intro w; simp [wtb, AV.val, go_sem]; (try go_bits); rfl)))))); (case hT => ((try simp only [wtn, List.append_eq, List.foldl_cons, List.foldl_nil, List.map_cons, List.map_nil, Nat.reduceAdd, Nat.reduceMul, Nat.reduceSub, ↓reduceIte, Nat.reduceEqDiff]); rfl))) | fail))
  refine awp_loopS (S := Nat) (fun q => frm 26 [(0, .sq l.length (ta l)), (1, .sq l.length (ta l)), (5, .x (.int .i64 q))]) (fun q => []) (fun q => q ≤ l.length) (fun q => l.length - q) 0 ?a (Nat.zero_le _) fun q hq => ?_
  case a => exact (Weak.mk' [] _ (List.Perm.refl _) (VwHs.refl _ _) (by (repeat' (first | exact VwL.nil | (refine VwL.cons ?_ ?_) | exact Vw.refl _ | exact Vw.top _ | fail))))
  simp only [frm, List.replicate_succ, List.replicate_zero, List.foldl_cons, List.foldl_nil, List.set_cons_zero, List.set_cons_succ]
  by_cases hk : q < l.length
  · (repeat' (first | with_reducible (first | refine awp_seq ?_ | refine awp_region ?_ | refine awp_block ?_ | refine awp_skip ?_ | refine awpL_nil ?_ | refine dr_nil ?_ | refine thenA_normal ?_ | refine inBlockA_normal ?_) | (with_reducible refine awp_drawnQ mixed ?_ ?_; (decide +kernel)) | (refine awp_cond _ rfl (fun h => ?_) (fun h => ?_) <;> first | (exact absurd h (by decide)) | ((try (simp only [whn] at h)); first | (exfalso; omega; done) | skip)) | ((first | apply awpL_evl2 rfl | apply dr_evl2 rfl); (case h => ((try (intro (hp : (_ : Bool) = true); ((try simp only [Bool.and_eq_true, Bool.not_eq_true', Bool.not_eq_true] at hp); (try simp only [hp, wte]); (try simp only [whn] at hp)))); (first | (apply Evl_k 0 rfl; (first | exact Evl_mv _ rfl | exact Evl_as _ rfl)) | (apply Evl_k 3 rfl; (exact Evl_len _ _ _ _ _ _ HEl.out rfl rfl)) | (apply Evl_k 6 rfl; (exact Evl_load_at _ _ _ _ _ rfl rfl HAgg.out (by first | exact Nat.le_of_ble_eq_true rfl | fail) (by first | exact Nat.le_of_ble_eq_true rfl | fail))) | (apply Evl_k 7 rfl; (exact Evl_index_sq _ _ _ _ _ _ _ _ _ _ rfl rfl rfl HEl.out rfl (by first | omega | fail) (by simp; first | omega | fail))) | (apply Evl_x; (case hs => (intro _ _ h; cases h)); (case hx => rfl); (case hrun => (intro w; simp [wtb, AV.val, go_sem]; (try go_bits); rfl)))))); (case hT => ((try simp (disch := assumption) only [wtn, ta_dropc, List.append_eq, List.foldl_cons, List.foldl_nil, List.map_cons, List.map_nil, Nat.reduceAdd, Nat.reduceMul, Nat.reduceSub, ↓reduceIte, Nat.reduceEqDiff]); rfl))) | fail))
    refine ⟨q + 1, by omega, by omega, ?_⟩
    exact (Weak.mk' [] _ (List.Perm.refl _) (VwHs.refl _ _) (by (repeat' (first | exact VwL.nil | (refine VwL.cons ?_ ?_) | exact Vw.refl _ | exact Vw.top _ | fail))))
  · (repeat' (first | with_reducible (first | refine awp_seq ?_ | refine awp_region ?_ | refine awp_ret ?_ | refine awp_exit ?_ | refine awpL_nil ?_ | refine thenA_normal ?_ | refine thenA_exit ?_ | refine inBlockA_eq ?_) | (refine awp_cond _ rfl (fun h => ?_) (fun h => ?_) <;> ((try (simp only [whn] at h)); first | (exfalso; omega; done) | skip)) | ((apply awpL_evl2 rfl); (case h => ((try (intro (hp : (_ : Bool) = true); ((try simp only [Bool.and_eq_true, Bool.not_eq_true', Bool.not_eq_true] at hp); (try simp only [hp, wte]); (try simp only [whn] at hp)))); (first | (apply Evl_k 0 rfl; (first | exact Evl_mv _ rfl | exact Evl_as _ rfl)) | (apply Evl_k 3 rfl; (exact Evl_len _ _ _ _ _ _ HEl.out rfl rfl)) | (apply Evl_x; (case hs => (intro _ _ h; cases h)); (case hx => rfl); (case hrun => (intro w; simp [wtb, AV.val, go_sem]; (try go_bits); rfl)))))); (case hT => ((try simp only [wtn, List.append_eq, List.foldl_cons, List.foldl_nil, List.map_cons, List.map_nil, Nat.reduceAdd, Nat.reduceMul, Nat.reduceSub, ↓reduceIte, Nat.reduceEqDiff]); rfl))) | fail))
    refine endA_ret _ _ (Res1 rfl (RV.tmp _) (Weak.mk' [] _ (List.Perm.refl _) (VwHs.refl _ _) (VwL.refl _ _))) ?_
    exact ⟨rfl, rfl⟩
/-- The texts of the chapter's examples. -/
def sane1 : List UInt8 := [106, 111, 98, 32, 97, 32, 123, 125]
def sane2 : List UInt8 := [34, 120]
def saneT : List Tok := [⟨1, [106, 111, 98], 1, 1⟩, ⟨1, [97], 1, 5⟩, ⟨5, [123], 1, 7⟩, ⟨5, [125], 1, 8⟩, ⟨6, [], 1, 9⟩]
theorem lex_sane1 : lex sane1 = .ok saneT := by
  unfold lex sane1 saneT
  rw [if_neg (by decide)]
  rw [lexGo_one (1, 1) 0 _ 106 [111, 98, 32, 97, 32, 123, 125] 1 [106, 111, 98] 3 (by rw [skp_no _ _ (by decide) (by decide)]; rfl) rfl (by decide) (by decide), skp_no _ _ (by decide) (by decide)]
  rw [show List.drop 3 [(106 : UInt8), 111, 98, 32, 97, 32, 123, 125] = [32, 97, 32, 123, 125] from rfl]
  rw [lexGo_one _ _ [32, 97, 32, 123, 125] 97 [32, 123, 125] 1 [97] 1 (by rw [skp_blank _ _ (by decide), skp_no _ _ (by decide) (by decide)]; rfl) rfl (by decide) (by decide), skp_blank 32 _ (by decide), skp_no 97 _ (by decide) (by decide)]
  rw [show List.drop 1 [(97 : UInt8), 32, 123, 125] = [32, 123, 125] from rfl]
  rw [lexGo_one _ _ [32, 123, 125] 123 [125] 5 [123] 1 (by rw [skp_blank _ _ (by decide), skp_no _ _ (by decide) (by decide)]; rfl) rfl (by decide) (by decide), skp_blank 32 _ (by decide), skp_no 123 _ (by decide) (by decide)]
  rw [show List.drop 1 [(123 : UInt8), 125] = [125] from rfl]
  rw [lexGo_one _ _ [125] 125 [] 5 [125] 1 (by rw [skp_no _ _ (by decide) (by decide)]; rfl) rfl (by decide) (by decide), skp_no 125 _ (by decide) (by decide)]
  rw [show List.drop 1 [(125 : UInt8)] = [] from rfl]
  rw [lexGo_end _ _ [] (by rw [skp_nil]; rfl)]
  rfl
theorem lex_sane2 : lex sane2 = .error ⟨51, 1, 1⟩ := by
  unfold lex sane2
  rw [if_neg (by decide)]
  have hq : quo [120] = none := by
    rw [quo_part 120 [] 120 1 (by decide) rfl]
    rw [show List.drop 1 [(120 : UInt8)] = [] from rfl, quo_nil]; rfl
  rw [lexGo_bad (1, 1) 0 _ 34 [120] 51 (by rw [skp_no _ _ (by decide) (by decide)]; rfl) (by rw [one_str 34 [120] (by decide) (by decide) (by decide), hq]), skp_no _ _ (by decide) (by decide)]
  rfl
theorem lall_sane1 : Spec Tryd.prog 13 [] [.x (.string (bs sane1))] (fun r H' => r = .tup [.sq 5 (ta saneT), .x (.agg #[.int .i64 0, .int .i64 0, .int .i64 0])] ∧ H' = []) := by
  have h := lall_s sane1 (by decide)
  rw [lex_sane1] at h
  exact h
theorem lall_sane2 : Spec Tryd.prog 13 [] [.x (.string (bs sane2))] (fun r H' => r = .tup [.sq 0 [], .x (.agg #[.int .i64 51, .int .i64 1, .int .i64 1])] ∧ H' = []) := by
  have h := lall_s sane2 (by decide)
  rw [lex_sane2] at h
  exact h
theorem ta_saneT : ta saneT = [.x (.int .i64 1), .x (.string (bs [106, 111, 98])), .x (.int .i64 1), .x (.int .i64 1), .x (.int .i64 1), .x (.string (bs [97])), .x (.int .i64 1), .x (.int .i64 5), .x (.int .i64 5), .x (.string (bs [123])), .x (.int .i64 1), .x (.int .i64 7), .x (.int .i64 5), .x (.string (bs [125])), .x (.int .i64 1), .x (.int .i64 8), .x (.int .i64 6), .x (.string (bs [])), .x (.int .i64 1), .x (.int .i64 9)] := rfl
set_option maxRecDepth 100000 in
set_option maxHeartbeats 8000000 in
theorem sane_s : Spec Tryd.prog 9 [] [] (fun r H' => r = .x (.bool true) ∧ H' = []) := by
  have h1 := lall_sane1
  have h2 := lall_sane2
  rw [ta_saneT] at h1
  refine Spec_of Tryd.func9 rfl ?_
  simp only [Tryd.ntmps9, List.length_cons, List.length_nil, List.replicate_succ, List.replicate_zero, List.cons_append, List.nil_append, Nat.reduceAdd, Nat.reduceSub]
  (repeat' (first | with_reducible (first | refine awp_seq ?_ | refine awp_region ?_ | refine awp_ret ?_ | refine awpL_nil ?_ | refine thenA_normal ?_) | ((first | apply awpL_evl2 rfl | apply awpL_g2 _ _ rfl rfl rfl); (case h => ((try (intro (hp : (_ : Bool) = true); ((try simp only [Bool.and_eq_true, Bool.not_eq_true', Bool.not_eq_true] at hp); (try simp only [hp, wte]); (try simp only [whn] at hp)))); (first | (apply Evl_k 0 rfl; (first | exact Evl_mv _ rfl | exact Evl_as _ rfl)) | (apply Evl_k 1 rfl; (exact Evl_pickt _ _ _ rfl rfl)) | (apply Evl_k 2 rfl; (exact Evl_extract _ _ _ _ rfl rfl rfl)) | (apply Evl_k 3 rfl; (exact Evl_len _ _ _ _ _ _ HEl.out rfl rfl)) | (apply Evl_k 5 rfl; (exact Evl_field_at _ _ _ _ _ rfl rfl HFld.out)) | (apply Evl_k 6 rfl; (first | exact Evl_load_at _ _ _ _ _ rfl rfl HAgg.out (by first | exact Nat.le_of_ble_eq_true rfl | fail) (by first | exact Nat.le_of_ble_eq_true rfl | fail) | exact Evl_load _ _ _ _ _ _ _ _ rfl rfl FBox.out HAgg.out (by first | exact Nat.le_of_ble_eq_true rfl | fail) (by first | exact Nat.le_of_ble_eq_true rfl | fail))) | (apply Evl_k 7 rfl; (first | exact Evl_index_sq _ _ _ _ _ _ _ _ 1 _ rfl rfl rfl HEl.out rfl (by omega) (by simp; first | done | fail) | exact Evl_index_sq _ _ _ _ _ _ _ _ 4 _ rfl rfl rfl HEl.out rfl (by omega) (by simp; first | done | fail))) | (apply Evl_k 10 rfl; (exact Evl_build _ _ _ _ _ rfl HPl.out (by first | rfl | fail) rfl)) | (apply Evl_k 11 rfl; (first | exact Evl_call 13 Tryd.f13 _ _ rfl rfl Tryd.func13 (by decide) rfl (VwL.refl _ _) (h1) | exact Evl_call 13 Tryd.f13 _ _ rfl rfl Tryd.func13 (by decide) rfl (VwL.refl _ _) (h2))) | (apply Evl_x; (case hs => (intro _ _ h; cases h)); (case hx => rfl); (case hrun => (intro w; simp [wtb, AV.val, go_sem]; (try go_bits); rfl)))))); (case hT => ((try simp only [wtn, List.append_eq, List.foldl_cons, List.foldl_nil, List.map_cons, List.map_nil, Nat.reduceAdd, Nat.reduceMul, Nat.reduceSub, ↓reduceIte, Nat.reduceEqDiff]); rfl))) | (refine awpL_cons rfl ?_; ((first | (refine Stp_k 14 rfl ?_; ((refine Stp_alloc _ _ rfl HZero.out rfl (fun b => ?_)))) | (refine Stp_k 16 rfl ?_; ((refine Stp_store _ _ _ _ _ _ _ rfl rfl FBox.out HSize.out (by first | rfl | fail) (by first | exact Nat.le_of_ble_eq_true rfl | fail) ?_)))); apply awpL_cong; (case hT => ((try simp only [wtn, List.append_eq, List.foldl_cons, List.foldl_nil, List.map_cons, List.map_nil, Nat.reduceAdd, Nat.reduceMul, Nat.reduceSub, ↓reduceIte, Nat.reduceEqDiff]); rfl)); (case hH => ((try simp only [wtn, List.append_eq, List.foldl_cons, List.foldl_nil, List.map_cons, List.map_nil, Nat.reduceAdd, Nat.reduceMul, Nat.reduceSub, ↓reduceIte, Nat.reduceEqDiff]); rfl)))) | fail))
  refine endA_ret _ _ (Res1 rfl (RV.tmp _) (Weak.mk' [_, _] [] (List.Perm.refl _) (VwHs.refl _ _) (by first | exact VwL.refl _ _ | fail))) ?_
  exact ⟨rfl, rfl⟩
end Go.Proofs.YtfaljkenmbbbaaaDoor
/- The lexer's law: how many tokens, and that a fault has a code. -/
namespace Go.Proofs.YtfaljkenmbbbaaaDoor
set_option linter.unusedSimpArgs false
set_option linter.unusedVariables false
theorem lexGo_cnt : ∀ (n : Nat) (p : Nat × Nat) (i : Nat) (l : List UInt8), l.length ≤ n → i ≤ 2000 → (∀ ts, lexGo p i l = .ok ts → ts.length + i ≤ 2001) ∧ ∀ f, lexGo p i l = .error f → f.code ≠ 0
  | n, p, i, l, hn, hi0 => by
    cases hd : l.drop (skp l) with
    | nil =>
      rw [lexGo_end p i l hd]
      exact ⟨fun ts h => (by cases h; simp; omega), fun f h => by cases h⟩
    | cons c r =>
      have hlen := congrArg List.length hd
      simp only [List.length_drop, List.length_cons] at hlen
      cases h1 : one (c :: r) with
      | error e =>
        rw [lexGo_bad p i l c r e hd h1]
        refine ⟨fun ts h => (by cases h), fun f h => ?_⟩
        cases h
        have := one_err h1
        simp only; omega
      | ok x =>
        by_cases hi : 2000 ≤ i
        · rw [lexGo_full p i l c r x hd h1 hi]
          exact ⟨fun ts h => (by cases h), fun f h => by cases h; simp⟩
        · obtain ⟨a, t, m⟩ := x
          obtain ⟨g1, g2, g3, g4⟩ := one_le h1
          simp only at g1 g2 g3 g4
          rw [lexGo_one p i l c r a t m hd h1 g1 (by omega)]
          cases n with
          | zero => omega
          | succ n =>
            obtain ⟨h2, h3⟩ := lexGo_cnt n (plc p (l.take (skp l + m))) (i + 1) ((c :: r).drop m) (by simp only [List.length_drop, List.length_cons]; omega) (by omega)
            cases hr : lexGo (plc p (l.take (skp l + m))) (i + 1) ((c :: r).drop m) with
            | error e => exact ⟨fun ts h => (by cases h), fun f h => by cases h; exact h3 _ hr⟩
            | ok y =>
              refine ⟨fun ts h => ?_, fun f h => by cases h⟩
              cases h
              have := h2 y hr
              simp only [List.length_cons]; omega
theorem flt_len (l : List UInt8) : (toksOf (lex l)).length ≤ 100000 := by
  cases hx : lex l with
  | error e => exact Nat.zero_le _
  | ok ts =>
    unfold lex at hx
    split at hx
    · cases hx
    · have := (lexGo_cnt l.length (1, 1) 0 l (Nat.le_refl _) (by omega)).1 ts hx
      show ts.length ≤ _; omega
end Go.Proofs.YtfaljkenmbbbaaaDoor
/- LexerParts: the walk. -/
namespace Go.Proofs.YtfaljkenmbbbaaaDoor
open Go.RowKit
set_option linter.unusedSimpArgs false
set_option linter.unusedVariables false
/-- The texts of LexerParts. -/
def partsL (raw : List UInt8) (c : UInt8) : List (List UInt8) := [[34] ++ raw ++ [34], [47] ++ raw ++ [47], [34, 92] ++ raw ++ [34], [47, 92] ++ raw ++ [47, 32, 97], [34, 92, 120] ++ [c, 102] ++ [34], [48] ++ raw, [49, 50, 51, 52, 53, 54, 55, 56, 57, 48, 49, 50, 51, 52, 53, 54, 55, 56] ++ [c]]
theorem partsL_len (raw : List UInt8) (c : UInt8) (h : raw.length ≤ 200) : ∀ x ∈ partsL raw c, x.length ≤ 1000 := by
  intro x hx
  simp only [partsL, List.mem_cons, List.mem_nil_iff, or_false] at hx
  rcases hx with rfl | rfl | rfl | rfl | rfl | rfl | rfl <;> simp <;> omega
set_option maxRecDepth 100000 in
set_option maxHeartbeats 8000000 in
theorem parts_s (raw : List UInt8) (n : Int) (c : UInt8) : Spec Tryd.prog 4 [] [.x (.string (bs raw)), .x (.int .u64 n), .x (.int .u8 (c.toNat : Nat))] (fun r H' => r = .x (.bool true) ∧ H' = []) := by
  refine Spec_of Tryd.func4 rfl ?_
  simp only [Tryd.ntmps4, List.length_cons, List.length_nil, List.replicate_succ, List.replicate_zero, List.cons_append, List.nil_append, Nat.reduceAdd, Nat.reduceSub]
  (repeat' (first | with_reducible (first | refine awp_seq ?_ | refine awp_region ?_ | refine awp_block ?_ | refine awp_ret ?_ | refine awp_skip ?_ | refine awpL_nil ?_ | refine thenA_normal ?_ | refine thenA_ret ?_) | (refine awp_cond _ rfl (fun h => ?_) (fun h => ?_) <;> first | (exact absurd h (by decide)) | ((try (simp only [whn] at h)); skip)) | ((apply awpL_evl2 rfl); (case h => ((try (intro (hp : (_ : Bool) = true); ((try simp only [Bool.and_eq_true, Bool.not_eq_true', Bool.not_eq_true] at hp); (try simp only [hp, wte]); (try simp only [whn] at hp)))); (first | (apply Evl_k 0 rfl; (first | exact Evl_mv _ rfl | exact Evl_as _ rfl)) | (apply Evl_k 3 rfl; (exact Evl_len _ _ _ _ _ _ HEl.out rfl rfl)) | (apply Evl_k 11 rfl; (exact Evl_call 9 Tryd.f9 _ _ rfl rfl Tryd.func9 (by decide) rfl (VwL.refl _ _) (sane_s))) | (apply Evl_k 12 rfl; (first | exact Evl_concat _ _ [34] _ rfl rfl rfl (by simp; omega) | exact Evl_concat _ _ [47] _ rfl rfl rfl (by simp; omega) | exact Evl_concat _ _ [34, 92] _ rfl rfl rfl (by simp; omega) | exact Evl_concat _ _ [47, 92] _ rfl rfl rfl (by simp; omega) | exact Evl_concat _ _ [34, 92, 120] _ rfl rfl rfl (by simp; done) | exact Evl_concat _ _ [48] _ rfl rfl rfl (by simp; omega) | exact Evl_concat _ _ [49, 50, 51, 52, 53, 54, 55, 56, 57, 48, 49, 50, 51, 52, 53, 54, 55, 56] _ rfl rfl rfl (by simp; done) | exact Evl_concat _ _ _ [34] rfl rfl rfl (by simp; first | done | omega | fail) | exact Evl_concat _ _ _ [47] rfl rfl rfl (by simp; omega) | exact Evl_concat _ _ _ [47, 32, 97] rfl rfl rfl (by simp; omega) | exact Evl_string _ _ 5 _ [c, 102] rfl (by kernel_rfl) (by kernel_rfl) (by kernel_rfl) (Src.sq rfl) | exact Evl_string _ _ 5 _ [c] rfl (by kernel_rfl) (by kernel_rfl) (by kernel_rfl) (Src.sq rfl))) | (apply Evl_k 17 rfl; (exact Evl_rowall _ _ _ _ _ _ rfl HElem.out rfl (by first | rfl | fail) rfl rfl (by decide))) | (apply Evl_x; (case hs => (intro _ _ h; cases h)); (case hx => rfl); (case hrun => (intro w; simp [wtb, AV.val, go_sem]; (try go_bits); rfl)))))); (case hT => ((try simp only [wtn, List.append_eq, List.foldl_cons, List.foldl_nil, List.map_cons, List.map_nil, Nat.reduceAdd, Nat.reduceMul, Nat.reduceSub, ↓reduceIte, Nat.reduceEqDiff]); rfl))) | fail))
  · refine endA_ret _ _ (Res1 rfl (RV.tmp _) (Weak.mk' [] _ (List.Perm.refl _) (VwHs.refl _ _) (VwL.refl _ _))) ?_
    exact ⟨rfl, rfl⟩
  have hr : raw.length ≤ 200 := by omega
  have hL := Lib.hid (partsL_len raw c hr)
  refine awp_loopS (S := Nat) (fun q => frm 67 [(41, .sq 7 (sa (partsL raw c))), (42, .x (.int .i64 7)), (43, .x (.int .i64 q))]) (fun q => []) (fun q => q ≤ 7) (fun q => 7 - q) 0 ?a (Nat.zero_le _) fun q hq => ?_
  case a => exact (Weak.mk' [] _ (List.Perm.refl _) (VwHs.refl _ _) (by (repeat' (first | exact VwL.nil | (refine VwL.cons ?_ ?_) | exact Vw.refl _ | exact Vw.top _ | fail))))
  simp only [frm, List.replicate_succ, List.replicate_zero, List.foldl_cons, List.foldl_nil, List.set_cons_zero, List.set_cons_succ]
  by_cases hk : q < (partsL raw c).length
  · have hx := hL.out _ (List.getElem_mem hk)
    have h1 := lall_s (partsL raw c)[q] (by omega)
    have h2 := all_s (partsL raw c)[q] (by omega)
    have h3 := same_s (toksOf (lex (partsL raw c)[q])) (flt_len _)
    have h7 : q < 7 := hk
    have hdr := sa_drop (partsL raw c) q hk
    generalize (partsL raw c)[q] = x at *
    unfold Flt.av at h1 h2
    have hln : (sa (partsL raw c)).length = 7 := by simp [partsL]
    (repeat' (first | with_reducible (first | refine awp_seq ?_ | refine awp_region ?_ | refine awp_block ?_ | refine awp_skip ?_ | refine awpL_nil ?_ | refine thenA_normal ?_ | refine inBlockA_normal ?_) | (refine awp_cond _ rfl (fun h => ?_) (fun h => ?_) <;> first | (exact absurd h (by decide)) | ((try (simp only [whn] at h)); first | (exfalso; omega; done) | skip)) | ((first | apply awpL_evl2 rfl | apply awpL_g2 _ _ rfl rfl rfl); (case h => ((try (intro (hp : (_ : Bool) = true); ((try simp only [Bool.and_eq_true, Bool.not_eq_true', Bool.not_eq_true] at hp); (try simp only [hp, wte]); (try simp only [whn] at hp)))); (first | (apply Evl_k 0 rfl; (first | exact Evl_mv _ rfl | exact Evl_as _ rfl)) | (apply Evl_k 1 rfl; (exact Evl_pickf _ _ _ rfl rfl)) | (apply Evl_k 2 rfl; (exact Evl_extract _ _ _ _ rfl rfl rfl)) | (apply Evl_k 6 rfl; (first | exact Evl_load_at _ _ _ _ _ rfl rfl HAgg.out (by first | exact Nat.le_of_ble_eq_true rfl | fail) (by first | exact Nat.le_of_ble_eq_true rfl | fail) | exact Evl_load _ _ _ _ _ _ _ _ rfl rfl FBox.out HAgg.out (by first | exact Nat.le_of_ble_eq_true rfl | fail) (by first | exact Nat.le_of_ble_eq_true rfl | fail))) | (apply Evl_k 7 rfl; (exact Evl_index_sq _ _ _ _ _ _ _ _ _ _ rfl rfl rfl HEl.out rfl (by first | omega | fail) (by simp; first | omega | fail))) | (apply Evl_k 11 rfl; (first | exact Evl_call 13 Tryd.f13 _ _ rfl rfl Tryd.func13 (by decide) rfl (VwL.refl _ _) (h1) | exact Evl_call 14 Tryd.f14 _ _ rfl rfl Tryd.func14 (by decide) rfl (VwL.refl _ _) (h2) | exact Evl_call 15 Tryd.f15 _ _ rfl rfl Tryd.func15 (by decide) rfl (VwL.refl _ _) (h3))) | (apply Evl_x; (case hs => (intro _ _ h; cases h)); (case hx => rfl); (case hrun => (intro w; simp [wtb, AV.val, go_sem]; (try go_bits); rfl)))))); (case hT => ((try simp (disch := omega) only [wtn, hdr, List.append_eq, List.foldl_cons, List.foldl_nil, List.map_cons, List.map_nil, Nat.reduceAdd, Nat.reduceMul, Nat.reduceSub, ↓reduceIte, Nat.reduceEqDiff]); rfl))) | (refine awpL_cons rfl ?_; ((first | (refine Stp_k 14 rfl ?_; ((refine Stp_alloc _ _ rfl HZero.out rfl (fun b => ?_)))) | (refine Stp_k 16 rfl ?_; ((refine Stp_store _ _ _ _ _ _ _ rfl rfl FBox.out HSize.out (by first | rfl | fail) (by first | exact Nat.le_of_ble_eq_true rfl | fail) ?_)))); apply awpL_cong; (case hT => ((try simp (disch := omega) only [wtn, hdr, List.append_eq, List.foldl_cons, List.foldl_nil, List.map_cons, List.map_nil, Nat.reduceAdd, Nat.reduceMul, Nat.reduceSub, ↓reduceIte, Nat.reduceEqDiff]); rfl)); (case hH => ((try simp (disch := omega) only [wtn, hdr, List.append_eq, List.foldl_cons, List.foldl_nil, List.map_cons, List.map_nil, Nat.reduceAdd, Nat.reduceMul, Nat.reduceSub, ↓reduceIte, Nat.reduceEqDiff]); rfl)))) | fail))
    refine ⟨q + 1, by omega, by omega, ?_⟩
    exact (Weak.mk' [_, _] [] (List.Perm.refl _) (VwHs.refl _ _) (by (repeat' (first | exact VwL.nil | (refine VwL.cons ?_ ?_) | exact Vw.refl _ | exact Vw.top _ | fail))))
  · have h7 : ¬ q < 7 := hk
    (repeat' (first | with_reducible (first | refine awp_seq ?_ | refine awp_region ?_ | refine awp_ret ?_ | refine awp_exit ?_ | refine awpL_nil ?_ | refine thenA_normal ?_ | refine thenA_exit ?_ | refine inBlockA_eq ?_) | (refine awp_cond _ rfl (fun h => ?_) (fun h => ?_) <;> ((try (simp only [whn] at h)); first | (exfalso; omega; done) | skip)) | ((apply awpL_evl2 rfl); (case h => ((try (intro (hp : (_ : Bool) = true); ((try simp only [Bool.and_eq_true, Bool.not_eq_true', Bool.not_eq_true] at hp); (try simp only [hp, wte]); (try simp only [whn] at hp)))); (first | (apply Evl_k 0 rfl; (exact Evl_as _ rfl)) | (apply Evl_x; (case hs => (intro _ _ h; cases h)); (case hx => rfl); (case hrun => (intro w; simp [wtb, AV.val, go_sem]; (try go_bits); rfl)))))); (case hT => ((try simp only [wtn, List.append_eq, List.foldl_cons, List.foldl_nil, List.map_cons, List.map_nil, Nat.reduceAdd, Nat.reduceMul, Nat.reduceSub, ↓reduceIte, Nat.reduceEqDiff]); rfl))) | fail))
    refine endA_ret _ _ (Res1 rfl (RV.tmp _) (Weak.mk' [] _ (List.Perm.refl _) (VwHs.refl _ _) (VwL.refl _ _))) ?_
    exact ⟨rfl, rfl⟩
end Go.Proofs.YtfaljkenmbbbaaaDoor

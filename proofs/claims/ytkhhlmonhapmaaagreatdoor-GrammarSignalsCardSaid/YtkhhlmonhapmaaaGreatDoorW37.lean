import Derived.Test.YtkhhlmonhapmaaaGreatDoorW34
import Derived.Test.YtkhhlmonhapmaaaGreatDoorW35
import Derived.Test.YtkhhlmonhapmaaaGreatDoorW36
import Derived.Test.YtkhhlmonhapmaaaGreatDoorW17
import Derived.Test.YtkhhlmonhapmaaaGreatDoorW0
import Derived.ProofKit
import Derived.OpenShut
import Derived.ShutString
import Derived.ChangeOld
import Derived.Lib.SmallJoins
import Derived.SizedLaws
import Derived.Test.YtkhhlmonhapmaaaGreatDoorRows
import Derived.Test.YtkhhlmonhapmaaaGreatDoorW16
import Derived.Test.YtkhhlmonhapmaaaGreatDoorW9
import Derived.ChangeSame
import Derived.ChangeVars
import Derived.JoinedOf
import Derived.LaidLaws
import Derived.LaidHandle
import Derived.Stop.Joined
import Derived.RowKit
import Derived.Lay
/- The grammar's laws: the parsers' results, same, sane; GrammarSignals. -/
namespace Go.Proofs.YtkhhlmonhapmaaaGreatDoor
open Go.RowKit
set_option linter.unusedSimpArgs false
set_option linter.unusedVariables false
set_option maxRecDepth 100000 in
set_option maxHeartbeats 8000000 in
theorem sane06_s : Spec Tryz.prog 10 [] [] (fun r H' => r = .x (.bool true) ∧ H' = []) := by
  have h1 := gparse_s ex1 (by decide)
  have h2 := gparse_s ex2 (by decide)
  rw [gParse_ex1] at h1
  rw [gParse_ex2] at h2
  simp only [jres, Flt.av, jfa, JF.cells, List.flatMap_cons, List.flatMap_nil, List.cons_append, List.nil_append, job0, List.length_cons, List.length_nil] at h1 h2
  refine Spec_of Tryz.func10 rfl ?_
  simp only [Tryz.ntmps10, List.length_cons, List.length_nil, List.replicate_succ, List.replicate_zero, List.cons_append, List.nil_append, Nat.reduceAdd, Nat.reduceSub]
  (repeat' (first | with_reducible (first | refine awp_seq ?_ | refine awp_region ?_ | refine awp_ret ?_ | refine awpL_nil ?_ | refine thenA_normal ?_) | ((first | apply awpL_evl2 rfl | apply awpL_g2 _ _ rfl rfl rfl); (case h => ((try (intro (hp : (_ : Bool) = true); ((try simp only [Bool.and_eq_true, Bool.not_eq_true', Bool.not_eq_true] at hp); (try simp only [hp, wte]); (try simp only [whn] at hp)))); (first | (apply Evl_k 0 rfl; (first | exact Evl_mv _ rfl | exact Evl_as _ rfl)) | (apply Evl_k 1 rfl; (exact Evl_pickt _ _ _ rfl rfl)) | (apply Evl_k 2 rfl; (exact Evl_extract _ _ _ _ rfl rfl rfl)) | (apply Evl_k 3 rfl; (exact Evl_len _ _ _ _ _ _ HEl.out rfl rfl)) | (apply Evl_k 5 rfl; (exact Evl_field_at _ _ _ _ _ rfl rfl HFld.out)) | (apply Evl_k 6 rfl; (first | exact Evl_load_at _ _ _ _ _ rfl rfl HAgg.out (by first | exact Nat.le_of_ble_eq_true rfl | fail) (by first | exact Nat.le_of_ble_eq_true rfl | fail) | exact Evl_load _ _ _ _ _ _ _ _ rfl rfl FBox.out HAgg.out (by first | exact Nat.le_of_ble_eq_true rfl | fail) (by first | exact Nat.le_of_ble_eq_true rfl | fail))) | (apply Evl_k 7 rfl; (exact Evl_index_sq _ _ _ _ _ _ _ _ 0 _ rfl rfl rfl HEl.out rfl (by omega) (by simp; first | done | fail))) | (apply Evl_k 10 rfl; (exact Evl_build _ _ _ _ _ rfl HPl.out (by first | rfl | fail) rfl)) | (apply Evl_k 11 rfl; (first | exact Evl_call 14 Tryz.f14 _ _ rfl rfl Tryz.func14 (by decide) rfl (VwL.refl _ _) (h1) | exact Evl_call 14 Tryz.f14 _ _ rfl rfl Tryz.func14 (by decide) rfl (VwL.refl _ _) (h2))) | (apply Evl_x; (case hs => (intro _ _ h; cases h)); (case hx => rfl); (case hrun => (intro w; simp [wtb, AV.val, go_sem]; (try go_bits); rfl)))))); (case hT => ((try simp only [wtn, List.append_eq, List.foldl_cons, List.foldl_nil, List.map_cons, List.map_nil, Nat.reduceAdd, Nat.reduceMul, Nat.reduceSub, ↓reduceIte, Nat.reduceEqDiff]); rfl))) | (refine awpL_cons rfl ?_; ((first | (refine Stp_k 14 rfl ?_; ((refine Stp_alloc _ _ rfl HZero.out rfl (fun b => ?_)))) | (refine Stp_k 16 rfl ?_; ((refine Stp_store _ _ _ _ _ _ _ rfl rfl FBox.out HSize.out (by first | rfl | fail) (by first | exact Nat.le_of_ble_eq_true rfl | fail) ?_)))); apply awpL_cong; (case hT => ((try simp only [wtn, List.append_eq, List.foldl_cons, List.foldl_nil, List.map_cons, List.map_nil, Nat.reduceAdd, Nat.reduceMul, Nat.reduceSub, ↓reduceIte, Nat.reduceEqDiff]); rfl)); (case hH => ((try simp only [wtn, List.append_eq, List.foldl_cons, List.foldl_nil, List.map_cons, List.map_nil, Nat.reduceAdd, Nat.reduceMul, Nat.reduceSub, ↓reduceIte, Nat.reduceEqDiff]); rfl)))) | fail))
  refine endA_ret _ _ (Res1 rfl (RV.tmp _) (Weak.mk' [_, _] [] (List.Perm.refl _) (VwHs.refl _ _) (by first | exact VwL.refl _ _ | fail))) ?_
  exact ⟨rfl, rfl⟩
def sgN : List (List UInt8) := [[72, 85, 80], [73, 78, 84], [81, 85, 73, 84], [85, 83, 82, 49], [85, 83, 82, 50], [84, 69, 82, 77], [75, 73, 76, 76], [116, 101, 114, 109], []]
theorem pick_sg {v : Nat} (h : v < 9) : (List.drop v [.x (.string ⟨#[72, 85, 80]⟩), .x (.string ⟨#[73, 78, 84]⟩), .x (.string ⟨#[81, 85, 73, 84]⟩), .x (.string ⟨#[85, 83, 82, 49]⟩), .x (.string ⟨#[85, 83, 82, 50]⟩), .x (.string ⟨#[84, 69, 82, 77]⟩), .x (.string ⟨#[75, 73, 76, 76]⟩), .x (.string ⟨#[116, 101, 114, 109]⟩), .x (.string ⟨#[]⟩)]).getD 0 AV.top = .x (.string (bs (sgN.getD v []))) := pick_sa sgN v h
theorem sigLv (s : List UInt8) : sigL s = sigv s := rfl
set_option maxRecDepth 100000 in
set_option maxHeartbeats 8000000 in
theorem signals_s (raw : List UInt8) (n : Int) (hn : -9223372036854775808 ≤ n ∧ n ≤ 9223372036854775807) : Spec Tryz.prog 6 [] [.x (.string (bs raw)), .x (.int .i64 n)] (fun r H' => r = .x (.bool true) ∧ H' = []) := by
  obtain ⟨v, hv, hv9⟩ : ∃ v : Nat, n % 9 = v ∧ v < 9 := ⟨(n % 9).toNat, by omega, by omega⟩
  have hm := mod_spec n 9 (by decide) (by decide) hn []
  rw [hv] at hm
  refine Spec_of Tryz.func6 rfl ?_
  simp only [Tryz.ntmps6, List.length_cons, List.length_nil, List.replicate_succ, List.replicate_zero, List.cons_append, List.nil_append, Nat.reduceAdd, Nat.reduceSub]
  (repeat' (first | with_reducible (first | refine awp_seq ?_ | refine awp_region ?_ | refine awp_block ?_ | refine awp_skip ?_ | refine awpL_nil ?_ | refine thenA_normal ?_) | (refine awp_cond _ rfl (fun h => ?_) (fun h => ?_) <;> first | (exact absurd h (by decide)) | ((try (simp only [whn] at h)); skip)) | ((apply awpL_evl2 rfl); (case h => ((try (intro (hp : (_ : Bool) = true); ((try simp only [Bool.and_eq_true, Bool.not_eq_true', Bool.not_eq_true] at hp); (try simp only [hp, wte]); (try simp only [whn] at hp)))); (first | (apply Evl_k 0 rfl; (first | exact Evl_mv _ rfl | exact Evl_as _ rfl)) | (apply Evl_k 3 rfl; (exact Evl_len _ _ _ _ _ _ HEl.out rfl rfl)) | (apply Evl_k 6 rfl; (exact Evl_load_at _ _ _ _ _ rfl rfl HAgg.out (by first | (simp [wlq]; omega) | fail) (by first | (simp [wlq]; omega) | fail))) | (apply Evl_k 7 rfl; (exact Evl_index_sq _ _ _ _ _ _ _ _ _ _ rfl rfl rfl HEl.out rfl (by first | omega | fail) (by simp; first | done | fail))) | (apply Evl_k 11 rfl; (first | exact Evl_call 10 Tryz.f10 _ _ rfl rfl Tryz.func10 (by decide) rfl (VwL.refl _ _) (sane06_s) | exact Evl_call 20 Tryz.f20 _ _ rfl rfl Tryz.func20 (by decide) rfl (VwL.refl _ _) (hm))) | (apply Evl_k 17 rfl; (exact Evl_rowall _ _ _ _ _ _ rfl HElem.out rfl (by first | rfl | fail) rfl rfl (by decide))) | (apply Evl_x; (case hs => (intro _ _ h; cases h)); (case hx => rfl); (case hrun => (intro w; simp [wtb, AV.val, go_sem]; (try go_bits); rfl)))))); (case hT => ((try simp (disch := assumption) only [wtn, pick_sg, List.append_eq, List.foldl_cons, List.foldl_nil, List.map_cons, List.map_nil, Nat.reduceAdd, Nat.reduceMul, Nat.reduceSub, ↓reduceIte, Nat.reduceEqDiff]); rfl))) | fail))
  generalize sgN.getD v [] = x
  refine awp_loopS (S := Nat) (fun q => frm 27 [(15, .sq 2 (sa [raw, x])), (16, .x (.int .i64 2)), (17, .x (.int .i64 q))]) (fun q => []) (fun q => q ≤ 2) (fun q => 2 - q) 0 ?a (Nat.zero_le _) fun q hq => ?_
  case a => exact (Weak.mk' [] _ (List.Perm.refl _) (VwHs.refl _ _) (by (repeat' (first | exact VwL.nil | (refine VwL.cons ?_ ?_) | exact Vw.refl _ | exact Vw.top _ | fail))))
  simp only [frm, List.replicate_succ, List.replicate_zero, List.foldl_cons, List.foldl_nil, List.set_cons_zero, List.set_cons_succ]
  by_cases hk : q < ([raw, x] : List (List UInt8)).length
  · have hdr := sa_drop [raw, x] q hk
    have h7 : q < 2 := hk
    have h1 := gsignal_s ([raw, x] : List (List UInt8))[q]
    have h2 := signal_s ([raw, x] : List (List UInt8))[q]
    rw [sigLv] at h2
    generalize ([raw, x] : List (List UInt8))[q] = y at *
    have hln : (sa [raw, x]).length = 2 := by simp
    (repeat' (first | with_reducible (first | refine awp_seq ?_ | refine awp_region ?_ | refine awp_block ?_ | refine awp_skip ?_ | refine awpL_nil ?_ | refine thenA_normal ?_ | refine inBlockA_normal ?_) | (refine awp_cond _ rfl (fun h => ?_) (fun h => ?_) <;> first | (exact absurd h (by decide)) | ((try (simp only [whn] at h)); first | (exfalso; omega; done) | skip)) | ((apply awpL_evl2 rfl); (case h => ((try (intro (hp : (_ : Bool) = true); ((try simp only [Bool.and_eq_true, Bool.not_eq_true', Bool.not_eq_true] at hp); (try simp only [hp, wte]); (try simp only [whn] at hp)))); (first | (apply Evl_k 0 rfl; (first | exact Evl_mv _ rfl | exact Evl_as _ rfl)) | (apply Evl_k 6 rfl; (exact Evl_load_at _ _ _ _ _ rfl rfl HAgg.out (by first | exact Nat.le_of_ble_eq_true rfl | fail) (by first | exact Nat.le_of_ble_eq_true rfl | fail))) | (apply Evl_k 7 rfl; (exact Evl_index_sq _ _ _ _ _ _ _ _ _ _ rfl rfl rfl HEl.out rfl (by first | omega | fail) (by simp; first | done | fail))) | (apply Evl_k 11 rfl; (first | exact Evl_call 22 Tryz.f22 _ _ rfl rfl Tryz.func22 (by decide) rfl (VwL.refl _ _) (h1) | exact Evl_call 23 Tryz.f23 _ _ rfl rfl Tryz.func23 (by decide) rfl (VwL.refl _ _) (h2))) | (apply Evl_x; (case hs => (intro _ _ h; cases h)); (case hx => rfl); (case hrun => (intro w; simp [wtb, AV.val, go_sem]; (try go_bits); rfl)))))); (case hT => ((try simp (disch := omega) only [wtn, hdr, List.append_eq, List.foldl_cons, List.foldl_nil, List.map_cons, List.map_nil, Nat.reduceAdd, Nat.reduceMul, Nat.reduceSub, ↓reduceIte, Nat.reduceEqDiff]); rfl))) | fail))
    exact ⟨q + 1, by omega, by omega, (Weak.mk' [] _ (List.Perm.refl _) (VwHs.refl _ _) (by (repeat' (first | exact VwL.nil | (refine VwL.cons ?_ ?_) | exact Vw.refl _ | exact Vw.top _ | fail))))⟩
  · have h7 : ¬ q < 2 := hk
    (repeat' (first | with_reducible (first | refine awp_seq ?_ | refine awp_region ?_ | refine awp_ret ?_ | refine awp_exit ?_ | refine awpL_nil ?_ | refine thenA_normal ?_ | refine thenA_exit ?_ | refine inBlockA_eq ?_) | (refine awp_cond _ rfl (fun h => ?_) (fun h => ?_) <;> ((try (simp only [whn] at h)); first | (exfalso; omega; done) | skip)) | ((apply awpL_evl2 rfl); (case h => ((try (intro (hp : (_ : Bool) = true); ((try simp only [Bool.and_eq_true, Bool.not_eq_true', Bool.not_eq_true] at hp); (try simp only [hp, wte]); (try simp only [whn] at hp)))); (first | (apply Evl_k 0 rfl; (exact Evl_as _ rfl)) | (apply Evl_x; (case hs => (intro _ _ h; cases h)); (case hx => rfl); (case hrun => (intro w; simp [wtb, AV.val, go_sem]; (try go_bits); rfl)))))); (case hT => ((try simp only [wtn, List.append_eq, List.foldl_cons, List.foldl_nil, List.map_cons, List.map_nil, Nat.reduceAdd, Nat.reduceMul, Nat.reduceSub, ↓reduceIte, Nat.reduceEqDiff]); rfl))) | fail))
    refine endA_ret _ _ (Res1 rfl (RV.tmp _) (Weak.mk' [] _ (List.Perm.refl _) (VwHs.refl _ _) (VwL.refl _ _))) ?_
    exact ⟨rfl, rfl⟩
end Go.Proofs.YtkhhlmonhapmaaaGreatDoor
/- How a law's arguments are opened: what the reading of a []byte, a []int or a struct gives the walk. No program in sight. -/
namespace Go.Proofs.YtkhhlmonhapmaaaGreatDoor
open Go.ChangeShapes Go.WideShapes Go.ChangeAt Go.RowKit Go.Joins
set_option linter.unusedSimpArgs false
set_option linter.unusedVariables false
/-- A []int that reads as l. -/
def Is (lo : Nat) (w : World) (v : Value) (l : List Int) : Prop := Sl lo w v l.length (l.map (Value.int .i64))
theorem Is.mono {lo : Nat} {w w' : World} {v : Value} {l : List Int} (h : Is lo w v l) (hb : Ext w w') : Is lo w' v l := Sl.mono h hb
theorem Is.shape {lo : Nat} {w : World} {v : Value} {l : List Int} (h : Is lo w v l) : ∃ ad cap, v = .slice ad l.length cap ∧ l.length ≤ cap := Sl.shape h
section
variable {H : Type} {enc : TypeId × Value → H} {P : Program} {W : World} {fuel : Nat} {t e : TypeId} {v : Value} {x : DataW H × List MemPlace}
end
theorem i64_bounds {a : Int} (h : (Lit.int .i64 a).wf = true) : -9223372036854775808 ≤ a ∧ a ≤ 9223372036854775807 := by
  simp [Lit.wf, IntKind.min, IntKind.max, IntKind.signed, IntKind.bits] at h
  omega
theorem weights_le {H : Type} {P : Program} {ts : List TypeId} {ds : List (DataW H)} (h : (DataW.weightsEach P ts ds).all (· ≤ reachBytes) = true) {j : Nat} {t : TypeId} {d : DataW H} (ht : ts[j]? = some t) (hd : ds[j]? = some d) : ∀ n ∈ d.weights P t, n ≤ reachBytes := fun n hn => by
  have := List.all_eq_true.1 h _ (DataW.weights_mem_each ht hd n hn)
  simpa using this
end Go.Proofs.YtkhhlmonhapmaaaGreatDoor
/- What the listed variable gives a walk: from the row's condition to its cell; a world that meets it. After the kit's worked example of errors.As. -/
namespace Go.Proofs.YtkhhlmonhapmaaaGreatDoor
open Go.RowKit Go
set_option linter.unusedSimpArgs false
set_option linter.unusedVariables false
theorem laid_et : Tryz.prog.globalNamed "errors.errorType" = some 0 := by kernel_rfl
theorem laid_rt : (Tryz.prog.cutTypes.find? (·.1 == "internal/reflectlite.rtype")).map (·.2) = some 158 := by kernel_rfl
theorem laid_size : Tryz.prog.types.size = 251 := by kernel_rfl
theorem laid_row : ((List.range 251).filter fun t => Tryz.prog.rowNamed t [101, 114, 114, 111, 114]) = [82] := by kernel_rfl
/-- What the condition gives a walk: the variable's one cell. -/
theorem gw_of_laid {W : World} (h : laidMetH Tryz.prog [("errors.errorType", Rows.laid_errors_errorType)] W) : Gw W := by
  have h' : laidMet Tryz.prog [] W ∧ handlesMet Tryz.prog [("errors.errorType", Rows.laid_errors_errorType)] W := h
  obtain ⟨name, u, ty, e1, e2, e3, e4, e5⟩ := h'.2 _ (List.mem_singleton.2 rfl)
  have en : name = [101, 114, 114, 111, 114] := (Option.some.inj e1).symm
  subst en
  obtain rfl := Option.some.inj (laid_rt.symm.trans e2)
  have hm : ty ∈ (List.range 251).filter fun t => Tryz.prog.rowNamed t [101, 114, 114, 111, 114] := List.mem_filter.2 ⟨List.mem_range.2 (by rw [← laid_size]; exact e3), e4⟩
  rw [laid_row] at hm
  obtain rfl := List.mem_singleton.1 hm
  have hh : typeHandle Tryz.prog 82 = .pointer (some ⟨9, 82, none⟩) := by kernel_rfl
  rw [hh] at e5
  unfold Gw
  simpa using World.var?_cell laid_et e5 0
/-- A world that meets the condition: the settled one, the variable's cell laid. -/
noncomputable def laidWorld (os : Os) : World :=
  let w0 := World.holding Tryz.prog os ⟨#[], #[], []⟩
  { w0 with heap := w0.heap.modify 0 fun
      | .cells _ t frozen => .cells #[.iface 158 (.agg #[.pointer (some ⟨9, 82, none⟩)])] t frozen
      | o => o }
end Go.Proofs.YtkhhlmonhapmaaaGreatDoor
/- What several listed variables give a walk; a world in which they lie. -/
namespace Go.Proofs.YtkhhlmonhapmaaaGreatDoor
open Go.RowKit Go
set_option linter.unusedSimpArgs false
set_option linter.unusedVariables false
theorem gw_of_list {L : List (String × DataW Unit)} (hf : (L.filter fun x => x.2.handleName?.isSome) = [("errors.errorType", Rows.laid_errors_errorType)]) {W : World} (h : laidMetH Tryz.prog L W) : Gw W := by
  unfold laidMetH at h
  rw [hf] at h
  have h2 : handlesMet Tryz.prog [("errors.errorType", Rows.laid_errors_errorType)] W := h.2
  exact gw_of_laid (show laidMetH Tryz.prog [("errors.errorType", Rows.laid_errors_errorType)] W from ⟨laidMet_nil _ _, h2⟩)
/-- The settled world, the handle's cell laid, and behind it the data of a list. -/
noncomputable def laidWorldL (os : Os) (L : List (String × DataW Unit)) : World := (laidWorld os).layVars Tryz.prog (L.filter fun x => x.2.handleName?.isNone)
theorem laidWorldL_os (os : Os) (L : List (String × DataW Unit)) : (laidWorldL os L).os = os := (World.layVars_os _ _ _).trans rfl
theorem laidWorldL_met {os : Os} {L : List (String × DataW Unit)} (args : Array Value) (hf : (laidWorld os).layFits Tryz.prog (L.filter fun x => x.2.handleName?.isNone) [] = true) (hi : (laidWorld os).layIfaces Tryz.prog (L.filter fun x => x.2.handleName?.isNone) (laidWorldL os L) = true)
    (hh : (L.filter fun x => x.2.handleName?.isSome).all (handleAtB Tryz.prog (laidWorldL os L)) = true) : laidMetH Tryz.prog L ((laidWorldL os L).forCall (fun _ _ => 0) ⟨#[], args, []⟩).memory := by
  have h : laidMetH Tryz.prog L (laidWorldL os L) := by
    refine laidMetH_of_parts ?_ hh
    generalize hL : (L.filter fun x => x.2.handleName?.isNone) = L' at *
    have e1 : (L'.filter fun x => (L'.map (·.1)).contains x.1) = L' := List.filter_eq_self.2 fun x hx => List.contains_iff_mem.2 (List.mem_map.2 ⟨x, hx, rfl⟩)
    have e2 : (L'.filter fun x => !(L'.map (·.1)).contains x.1) = [] := List.filter_eq_nil_iff.2 fun x hx => by rw [List.contains_iff_mem.2 (List.mem_map.2 ⟨x, hx, rfl⟩)]; simp
    exact laidMet_layVars (w0 := laidWorld os) (L'.map (·.1)) [] (by rw [e1]; unfold laidWorldL; rw [hL]) (by rw [e1]; exact hf) (by rw [e1]; exact hi) (by rw [e2]; exact LaidIn.none)
  exact h.of_heap (by simp [World.memory, World.forCall, Input.heap])
end Go.Proofs.YtkhhlmonhapmaaaGreatDoor

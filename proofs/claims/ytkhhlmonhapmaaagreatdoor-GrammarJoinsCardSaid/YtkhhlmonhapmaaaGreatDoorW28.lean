import Derived.Test.YtkhhlmonhapmaaaGreatDoorRows
import Derived.Test.YtkhhlmonhapmaaaGreatDoorW0
import Derived.Test.YtkhhlmonhapmaaaGreatDoorW7
import Derived.Test.YtkhhlmonhapmaaaGreatDoorW6
import Derived.ChangeSame
import Derived.ChangeVars
import Derived.JoinedOf
import Derived.LaidLaws
import Derived.LaidHandle
import Derived.Stop.Joined
import Derived.RowKit
import Derived.ProofKit
import Derived.Lay
/- What the listed variable gives a walk: from the row's condition to its cell; a world that meets it. After the kit's worked example of errors.As. -/
set_option linter.unusedSimpArgs false
set_option linter.unusedVariables false
namespace Go.Proofs.YtkhhlmonhapmaaaGreatDoor
open Go.RowKit Go
theorem laid_et : Tryz.prog.globalNamed "errors.errorType" = some 0 := by kernel_rfl
theorem laid_rt : (Tryz.prog.cutTypes.find? (·.1 == "internal/reflectlite.rtype")).map (·.2) = some 158 := by kernel_rfl
theorem laid_size : Tryz.prog.types.size = 251 := by kernel_rfl
theorem laid_row : ((List.range 251).filter fun t => Tryz.prog.rowNamed t [101, 114, 114, 111, 114]) = [82] := by kernel_rfl
theorem gw_of_laid {W : World} (h : laidMetH Tryz.prog [("errors.errorType", Rows.laid_errors_errorType)] W) : Gw W := by
  have h' : laidMet Tryz.prog [] W ∧ handlesMet Tryz.prog [("errors.errorType", Rows.laid_errors_errorType)] W := h
  obtain ⟨name, u, ty, e1, e2, e3, e4, e5⟩ := h'.2 _ (List.mem_singleton.2 rfl)
  have en : name = [101, 114, 114, 111, 114] := (Option.some.inj e1).symm
  subst en
  obtain rfl := Option.some.inj (laid_rt.symm.trans e2)
  have hm : ty ∈ (List.range 251).filter fun t => Tryz.prog.rowNamed t [101, 114, 114, 111, 114] := List.mem_filter.2 ⟨List.mem_range.2 (by rw [← laid_size]; exact e3), e4⟩
  rw [laid_row] at hm
  obtain rfl := List.mem_singleton.1 hm
  have hh : typeHandle Tryz.prog 82 = .pointer (some ⟨9, 82, none⟩) := by kernel_rfl
  rw [hh] at e5
  unfold Gw
  simpa using World.var?_cell laid_et e5 0
noncomputable def laidWorld (os : Os) : World :=
  let w0 := World.holding Tryz.prog os ⟨#[], #[], []⟩
  { w0 with heap := w0.heap.modify 0 fun
      | .cells _ t frozen => .cells #[.iface 158 (.agg #[.pointer (some ⟨9, 82, none⟩)])] t frozen
      | o => o }
end Go.Proofs.YtkhhlmonhapmaaaGreatDoor
namespace Go.Proofs.YtkhhlmonhapmaaaGreatDoor
open Go.RowKit Go
theorem gw_of_list {L : List (String × DataW Unit)} (hf : (L.filter fun x => x.2.handleName?.isSome) = [("errors.errorType", Rows.laid_errors_errorType)]) {W : World} (h : laidMetH Tryz.prog L W) : Gw W := by
  unfold laidMetH at h
  rw [hf] at h
  have h2 : handlesMet Tryz.prog [("errors.errorType", Rows.laid_errors_errorType)] W := h.2
  exact gw_of_laid (show laidMetH Tryz.prog [("errors.errorType", Rows.laid_errors_errorType)] W from ⟨laidMet_nil _ _, h2⟩)
noncomputable def laidWorldL (os : Os) (L : List (String × DataW Unit)) : World := (laidWorld os).layVars Tryz.prog (L.filter fun x => x.2.handleName?.isNone)
theorem laidWorldL_os (os : Os) (L : List (String × DataW Unit)) : (laidWorldL os L).os = os := (World.layVars_os _ _ _).trans rfl
theorem laidWorldL_met {os : Os} {L : List (String × DataW Unit)} (args : Array Value) (hf : (laidWorld os).layFits Tryz.prog (L.filter fun x => x.2.handleName?.isNone) [] = true) (hi : (laidWorld os).layIfaces Tryz.prog (L.filter fun x => x.2.handleName?.isNone) (laidWorldL os L) = true)
    (hh : (L.filter fun x => x.2.handleName?.isSome).all (handleAtB Tryz.prog (laidWorldL os L)) = true) : laidMetH Tryz.prog L ((laidWorldL os L).forCall (fun _ _ => 0) ⟨#[], args, []⟩).memory := by
  have h : laidMetH Tryz.prog L (laidWorldL os L) := by
    refine laidMetH_of_parts ?_ hh
    generalize hL : (L.filter fun x => x.2.handleName?.isNone) = L' at *
    have e1 : (L'.filter fun x => (L'.map (·.1)).contains x.1) = L' := List.filter_eq_self.2 fun x hx => List.contains_iff_mem.2 (List.mem_map.2 ⟨x, hx, rfl⟩)
    have e2 : (L'.filter fun x => !(L'.map (·.1)).contains x.1) = [] := List.filter_eq_nil_iff.2 fun x hx => by rw [List.contains_iff_mem.2 (List.mem_map.2 ⟨x, hx, rfl⟩)]; simp
    exact laidMet_layVars (w0 := laidWorld os) (L'.map (·.1)) [] (by rw [e1]; unfold laidWorldL; rw [hL]) (by rw [e1]; exact hf) (by rw [e1]; exact hi) (by rw [e2]; exact LaidIn.none)
  exact h.of_heap (by simp [World.memory, World.forCall, Input.heap])
end Go.Proofs.YtkhhlmonhapmaaaGreatDoor

import Derived.Test.YtfokgdmlecnpbaaW45
import Derived.Test.YtfokgdmlecnpbaaW44
/- CommandCodes: whatever the arguments, the law returns true and they read as they did. The frame round the walk 'law_walk'. -/
namespace Go.Proofs.Ytfokgdmlecnpbaa.lawCommandCodes
open Go.ChangeShapes Go.WideShapes Go.ChangeAt Go.RowKit Go.Joins
open Go.ChangeMaps (open_string shut_string)
set_option linter.unusedSimpArgs false
set_option linter.unusedVariables false
theorem own : ownKnob Try.prog.godebug = none := by kernel_rfl
theorem laidOut : laidOutB Try.prog = true := by kernel_rfl
set_option maxRecDepth 100000 in
set_option maxHeartbeats 1000000 in
theorem lifted (os : Os) (started : os.Started) (H : Type) (enc : TypeId × Value → H) :
    ReturnsInHanded {} Try.checked os 3 .any (Rows.commandCodesSpec.pre6 enc Try.prog Try.f3 Rows.commandCodesRow.domain false) (Rows.commandCodesSpec.post enc Try.prog Try.f3 false true false false) := by
  refine returnsInHanded_of_change_sized (C := Try.checked) own started (by kernel_rfl) Try.func3
    (ChangeSpec.witness6 (enc := enc) (C := Try.checked) false ⟨#[], #[.slice none 0 0, .agg #[.int .i64 0, .int .i64 0, .int .i64 0, .string .empty, .slice none 0 0], .slice none 0 0, .int .i64 0], []⟩ 8 (by kernel_rfl) (by kernel_rfl) (by kernel_rfl) (by kernel_rfl)) ?_
  intro W base args ds gs before hval0 hW hcnd hsz0 _
  have hval : ∀ (j : Nat) t v, Try.f3.params[j]? = some t → args[j]? = some v → Value.okWide Try.prog W .any base t v := hval0
  have hsz : (DataW.weightsEach Try.prog (Try.f3.params.toList ++ Rows.commandCodesSpec.plain.varTypes Try.prog) (ds ++ gs)).all (· ≤ reachBytes) = true := hsz0
  have hW' := hW
  obtain ⟨p, q, hA0, hV, rfl, hfz, hnd⟩ := hW
  have hA : DataW.TrodAll enc Try.prog W 0 (fun _ => true) true Try.f3.params.toList args.toList ds p := hA0
  rw [Try.params3] at hA hval hsz
  obtain ⟨v0, vs0, d0, ds0, p0, q0, hargs, rfl, rfl, h0, r0⟩ := trodAll_cons hA
  obtain ⟨v1, vs1, d1, ds1, p1, q1, rfl, rfl, rfl, h1, r1⟩ := trodAll_cons r0
  obtain ⟨v2, vs2, d2, ds2, p2, q2, rfl, rfl, rfl, h2, r2⟩ := trodAll_cons r1
  obtain ⟨v3, vs3, d3, ds3, p3, q3, rfl, rfl, rfl, h3, r3⟩ := trodAll_cons r2
  obtain ⟨rfl, rfl, rfl⟩ := trodAll_nil r3
  obtain rfl : args = #[v0, v1, v2, v3] := by cases args; simp_all
  obtain ⟨rfl, rfl⟩ := trodVars_none hV
  have k0 := h0
  have lt0 : ∀ x ∈ p0, x.block < W.heap.size := by obtain ⟨m, hm⟩ := k0; exact DataW.trod_lt m _ _ _ hm
  have wt0 : ∀ n ∈ d0.weights Try.prog 22, n ≤ reachBytes := weights_le hsz (j := 0) rfl rfl
  have k1 := h1
  have lt1 : ∀ x ∈ p1, x.block < W.heap.size := by obtain ⟨m, hm⟩ := k1; exact DataW.trod_lt m _ _ _ hm
  have wt1 : ∀ n ∈ d1.weights Try.prog 25, n ≤ reachBytes := weights_le hsz (j := 1) rfl rfl
  have k2 := h2
  have lt2 : ∀ x ∈ p2, x.block < W.heap.size := by obtain ⟨m, hm⟩ := k2; exact DataW.trod_lt m _ _ _ hm
  have wt2 : ∀ n ∈ d2.weights Try.prog 23, n ≤ reachBytes := weights_le hsz (j := 2) rfl rfl
  have k3 := h3
  have lt3 : ∀ x ∈ p3, x.block < W.heap.size := by obtain ⟨m, hm⟩ := k3; exact DataW.trod_lt m _ _ _ hm
  have wt3 : ∀ n ∈ d3.weights Try.prog 3, n ≤ reachBytes := weights_le hsz (j := 3) rfl rfl
  obtain ⟨ad0, n0, c0, rfl⟩ := okWide_slice Try.underlying22 (hval 0 22 v0 rfl rfl)
  obtain ⟨l0, g0, b0, s0⟩ : ∃ l : List Int, Is 0 W (.slice ad0 n0 c0) l ∧ I64s l ∧ l.length ≤ 140737488355328 := (by obtain ⟨fuel, hf⟩ := h0; exact open_is Try.underlying22 Try.underlying3 (by kernel_rfl) (by kernel_rfl) (by simpa [Value.cells] using hf) wt0)
  obtain ⟨c1_0, c1_1, c1_2, c1_3, c1_4, y1_0, y1_1, y1_2, y1_3, y1_4, m1, rfl, hd1, -, z1_0, z1_1, z1_2, z1_3, z1_4⟩ := open_agg5 Try.underlying25 (by kernel_rfl) (show Try.prog.cellsOf 25 = 5 by kernel_rfl) (hval 1 25 v1 rfl rfl) h1
  obtain ⟨a1_0, e1_0, -, u1_0⟩ := DataW.trod_int Try.underlying3 z1_0
  simp at e1_0
  subst e1_0
  have b1_0 := i64_bounds u1_0
  obtain ⟨a1_1, e1_1, -, u1_1⟩ := DataW.trod_int Try.underlying3 z1_1
  simp at e1_1
  subst e1_1
  have b1_1 := i64_bounds u1_1
  obtain ⟨a1_2, e1_2, -, u1_2⟩ := DataW.trod_int Try.underlying3 z1_2
  simp at e1_2
  subst e1_2
  have b1_2 := i64_bounds u1_2
  obtain ⟨s1_3, e1_3, -, u1_3⟩ := DataW.trod_string Try.underlying9 z1_3
  simp at e1_3
  subst e1_3
  obtain ⟨l1_4, g1_4, s1_4⟩ := open_bytes Try.underlying23 Try.underlying5 (by kernel_rfl) (by kernel_rfl) z1_4 (fun n hn => wt1 n (by rw [hd1]; simp [DataW.weights, Try.underlying25, DataW.weightsEach, hn]))
  obtain ⟨ad2, n2, c2, rfl⟩ := okWide_slice Try.underlying23 (hval 2 23 v2 rfl rfl)
  obtain ⟨l2, g2, s2⟩ : ∃ l : List UInt8, Bs 0 W (.slice ad2 n2 c2) l ∧ l.length ≤ 140737488355328 := (by obtain ⟨fuel, hf⟩ := h2; exact open_bytes Try.underlying23 Try.underlying5 (by kernel_rfl) (by kernel_rfl) (by simpa [Value.cells] using hf) wt2)
  obtain ⟨a3, rfl, rfl, rfl, u3⟩ := open_int Try.underlying3 (hval 3 3 v3 rfl rfl) h3
  have b3 := i64_bounds u3
  clear hA0 hval0
  refine (law_walk (codes_spec l0 ⟨a1_0, a1_1, a1_2, s1_3.data.toList, l1_4⟩ l2 a3 ⟨s0, b0⟩ b3) W _ (DenL.cons' g0.den (DenL.cons' (den_cmd a1_0 a1_1 a1_2 s1_3 g1_4) (DenL.cons' g2.den (DenL.cons' (den_int a3) DenL.nil'))))).mono fun e W' ⟨he, bel⟩ => ?_
  subst he
  exact ⟨_, rfl, _, _, _, [], _, [], hW', trodAll_mk1 (shut_bool Try.underlying4 _), (trodAll_cons_mk (Below.trod laidOut (by kernel_rfl) (of_decide_eq_true (by kernel_rfl)) k0 bel lt0) (trodAll_cons_mk (Below.trod laidOut (by kernel_rfl) (of_decide_eq_true (by kernel_rfl)) k1 bel lt1) (trodAll_cons_mk (Below.trod laidOut (by kernel_rfl) (of_decide_eq_true (by kernel_rfl)) k2 bel lt2) (trodAll_cons_mk (Below.trod laidOut (by kernel_rfl) (of_decide_eq_true (by kernel_rfl)) k3 bel lt3) trodAll_mk0)))), rfl, bel.frame _, fun h => by cases h⟩

theorem over : Rows.commandCodesRow.holds Try.pinned (OpenSpec.ofChange Rows.commandCodesSpec) :=
  OpenClaim.holds_of_wide 3 Try.f3 rfl rfl rfl rfl rfl rfl rfl ⟨rfl, rfl, rfl, rfl, rfl⟩ rfl rfl rfl rfl rfl (by kernel_rfl) Try.func3 (by kernel_rfl)
    (of_decide_eq_true (by kernel_rfl)) (by unfold Func.isWrapper; first | (rw [if_pos (by decide +kernel)]; kernel_rfl) | (rw [if_neg (by decide +kernel)]; exact ⟨rfl, rfl⟩))
    (fun os started H enc _ => lifted os started H enc)

/-- The statement. -/
theorem proved : Rows.CommandCodesSaid := over
#print axioms proved
end Go.Proofs.Ytfokgdmlecnpbaa.lawCommandCodes

/- OutqMoves: whatever the arguments, the law returns true and they read as they did. The frame round the walk 'moves_walk'. -/
import Derived.Test.YtkkdnaabfalpoaaOutq
import Derived.Test.YtkkdnaabfalpoaaFrame
namespace Go.Proofs.Ytkkdnaabfalpoaa.lawOutqMoves
open Go.ChangeShapes Go.WideShapes Go.ChangeAt Go.RowKit Go.Joins
open Go.ChangeMaps (open_string shut_string)
set_option linter.unusedSimpArgs false
set_option linter.unusedVariables false
theorem own : ownKnob Try.prog.godebug = none := by kernel_rfl
theorem laidOut : laidOutB Try.prog = true := by kernel_rfl
set_option maxRecDepth 100000 in
set_option maxHeartbeats 1000000 in
theorem lifted (os : Os) (started : os.Started) (H : Type) (enc : TypeId × Value → H) :
    ReturnsInHanded {} Try.checked os 4 .any (Rows.outqMovesSpec.pre6 enc Try.prog Try.f4 Rows.outqMovesRow.domain false) (Rows.outqMovesSpec.post enc Try.prog Try.f4 false true false false) := by
  refine returnsInHanded_of_change_sized (C := Try.checked) own started (by kernel_rfl) Try.func4
    (ChangeSpec.witness6 (enc := enc) (C := Try.checked) false ⟨#[], #[.agg #[.int .i64 0, .slice none 0 0, .int .i64 0], .slice none 0 0, .slice none 0 0, .int .i64 0, .int .i64 0], []⟩ 8 (by kernel_rfl) (by kernel_rfl) (by kernel_rfl) (by kernel_rfl)) ?_
  intro W base args ds gs before hval0 hW hcnd hsz0 _
  have hval : ∀ (j : Nat) t v, Try.f4.params[j]? = some t → args[j]? = some v → Value.okWide Try.prog W .any base t v := hval0
  have hsz : (DataW.weightsEach Try.prog (Try.f4.params.toList ++ Rows.outqMovesSpec.plain.varTypes Try.prog) (ds ++ gs)).all (· ≤ reachBytes) = true := hsz0
  have hW' := hW
  obtain ⟨p, q, hA0, hV, rfl, hfz, hnd⟩ := hW
  have hA : DataW.TrodAll enc Try.prog W 0 (fun _ => true) true Try.f4.params.toList args.toList ds p := hA0
  rw [Try.params4] at hA hval hsz
  obtain ⟨v0, vs0, d0, ds0, p0, q0, hargs, rfl, rfl, h0, r0⟩ := trodAll_cons hA
  obtain ⟨v1, vs1, d1, ds1, p1, q1, rfl, rfl, rfl, h1, r1⟩ := trodAll_cons r0
  obtain ⟨v2, vs2, d2, ds2, p2, q2, rfl, rfl, rfl, h2, r2⟩ := trodAll_cons r1
  obtain ⟨v3, vs3, d3, ds3, p3, q3, rfl, rfl, rfl, h3, r3⟩ := trodAll_cons r2
  obtain ⟨v4, vs4, d4, ds4, p4, q4, rfl, rfl, rfl, h4, r4⟩ := trodAll_cons r3
  obtain ⟨rfl, rfl, rfl⟩ := trodAll_nil r4
  obtain rfl : args = #[v0, v1, v2, v3, v4] := by cases args; simp_all
  obtain ⟨rfl, rfl⟩ := trodVars_none hV
  have k0 := h0
  have lt0 : ∀ x ∈ p0, x.block < W.heap.size := by obtain ⟨m, hm⟩ := k0; exact DataW.trod_lt m _ _ _ hm
  have wt0 : ∀ n ∈ d0.weights Try.prog 33, n ≤ reachBytes := weights_le hsz (j := 0) rfl rfl
  have k1 := h1
  have lt1 : ∀ x ∈ p1, x.block < W.heap.size := by obtain ⟨m, hm⟩ := k1; exact DataW.trod_lt m _ _ _ hm
  have wt1 : ∀ n ∈ d1.weights Try.prog 24, n ≤ reachBytes := weights_le hsz (j := 1) rfl rfl
  have k2 := h2
  have lt2 : ∀ x ∈ p2, x.block < W.heap.size := by obtain ⟨m, hm⟩ := k2; exact DataW.trod_lt m _ _ _ hm
  have wt2 : ∀ n ∈ d2.weights Try.prog 24, n ≤ reachBytes := weights_le hsz (j := 2) rfl rfl
  have k3 := h3
  have lt3 : ∀ x ∈ p3, x.block < W.heap.size := by obtain ⟨m, hm⟩ := k3; exact DataW.trod_lt m _ _ _ hm
  have wt3 : ∀ n ∈ d3.weights Try.prog 3, n ≤ reachBytes := weights_le hsz (j := 3) rfl rfl
  have k4 := h4
  have lt4 : ∀ x ∈ p4, x.block < W.heap.size := by obtain ⟨m, hm⟩ := k4; exact DataW.trod_lt m _ _ _ hm
  have wt4 : ∀ n ∈ d4.weights Try.prog 3, n ≤ reachBytes := weights_le hsz (j := 4) rfl rfl
  obtain ⟨c0_0, c0_1, c0_2, y0_0, y0_1, y0_2, m0, rfl, hd0, -, z0_0, z0_1, z0_2⟩ := open_agg3 Try.underlying33 (by kernel_rfl) (show Try.prog.cellsOf 33 = 3 by kernel_rfl) (hval 0 33 v0 rfl rfl) h0
  obtain ⟨a0_0, e0_0, -, u0_0⟩ := DataW.trod_int Try.underlying3 z0_0
  simp at e0_0
  subst e0_0
  have b0_0 := i64_bounds u0_0
  obtain ⟨l0_1, g0_1, s0_1⟩ := open_bytes Try.underlying24 Try.underlying5 (by kernel_rfl) (by kernel_rfl) z0_1 (fun n hn => wt0 n (by rw [hd0]; simp [DataW.weights, Try.underlying33, DataW.weightsEach, hn]))
  obtain ⟨a0_2, e0_2, -, u0_2⟩ := DataW.trod_int Try.underlying3 z0_2
  simp at e0_2
  subst e0_2
  have b0_2 := i64_bounds u0_2
  obtain ⟨ad1, n1, c1, rfl⟩ := okWide_slice Try.underlying24 (hval 1 24 v1 rfl rfl)
  obtain ⟨l1, g1, s1⟩ : ∃ l : List UInt8, Bs 0 W (.slice ad1 n1 c1) l ∧ l.length ≤ 140737488355328 := (by obtain ⟨fuel, hf⟩ := h1; exact open_bytes Try.underlying24 Try.underlying5 (by kernel_rfl) (by kernel_rfl) (by simpa [Value.cells] using hf) wt1)
  obtain ⟨ad2, n2, c2, rfl⟩ := okWide_slice Try.underlying24 (hval 2 24 v2 rfl rfl)
  obtain ⟨l2, g2, s2⟩ : ∃ l : List UInt8, Bs 0 W (.slice ad2 n2 c2) l ∧ l.length ≤ 140737488355328 := (by obtain ⟨fuel, hf⟩ := h2; exact open_bytes Try.underlying24 Try.underlying5 (by kernel_rfl) (by kernel_rfl) (by simpa [Value.cells] using hf) wt2)
  obtain ⟨a3, rfl, rfl, rfl, u3⟩ := open_int Try.underlying3 (hval 3 3 v3 rfl rfl) h3
  have b3 := i64_bounds u3
  obtain ⟨a4, rfl, rfl, rfl, u4⟩ := open_int Try.underlying3 (hval 4 3 v4 rfl rfl) h4
  have b4 := i64_bounds u4
  clear hA0 hval0
  refine (moves_walk ⟨a0_0, l0_1, a0_2⟩ _ _ _ l1 l2 a3 a4 W (IsQ.mk _ _ _ _ _ _ g0_1) g1 g2 b3.1 b3.2 b4.1 b4.2 ⟨s0_1, s1, s2⟩).mono fun e W' ⟨he, bel⟩ => ?_
  subst he
  exact ⟨_, rfl, _, _, _, [], _, [], hW', trodAll_mk1 (shut_bool Try.underlying4 _), (trodAll_cons_mk (Below.trod laidOut (by kernel_rfl) (of_decide_eq_true (by kernel_rfl)) k0 bel lt0) (trodAll_cons_mk (Below.trod laidOut (by kernel_rfl) (of_decide_eq_true (by kernel_rfl)) k1 bel lt1) (trodAll_cons_mk (Below.trod laidOut (by kernel_rfl) (of_decide_eq_true (by kernel_rfl)) k2 bel lt2) (trodAll_cons_mk (Below.trod laidOut (by kernel_rfl) (of_decide_eq_true (by kernel_rfl)) k3 bel lt3) (trodAll_cons_mk (Below.trod laidOut (by kernel_rfl) (of_decide_eq_true (by kernel_rfl)) k4 bel lt4) trodAll_mk0))))), rfl, bel.frame _, fun h => by cases h⟩

theorem over : Rows.outqMovesRow.holds Try.pinned (OpenSpec.ofChange Rows.outqMovesSpec) :=
  OpenClaim.holds_of_wide 4 Try.f4 rfl rfl rfl rfl rfl rfl rfl ⟨rfl, rfl, rfl, rfl, rfl⟩ rfl rfl rfl rfl rfl (by kernel_rfl) Try.func4 (by kernel_rfl)
    (of_decide_eq_true (by kernel_rfl)) (by unfold Func.isWrapper; first | (rw [if_pos (by decide +kernel)]; kernel_rfl) | (rw [if_neg (by decide +kernel)]; exact ⟨rfl, rfl⟩))
    (fun os started H enc _ => lifted os started H enc)

/-- The statement. -/
theorem proved : Rows.OutqMovesSaid := over
#print axioms proved
end Go.Proofs.Ytkkdnaabfalpoaa.lawOutqMoves

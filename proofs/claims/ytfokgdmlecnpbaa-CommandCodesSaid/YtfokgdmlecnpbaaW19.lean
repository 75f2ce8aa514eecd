import Derived.Test.YtfokgdmlecnpbaaW18
/- The reference's commands: proper. -/
namespace Go.Proofs.Ytfokgdmlecnpbaa
open Go.RowKit
set_option linter.unusedSimpArgs false
set_option linter.unusedVariables false
def Named (k : Int) : Prop := k = 2 ∨ k = 4 ∨ k = 5 ∨ k = 6
def Datad (k : Int) : Prop := k = 3 ∨ k = 7
instance (k : Int) : Decidable (Named k) := by unfold Named; infer_instance
instance (k : Int) : Decidable (Datad k) := by unfold Datad; infer_instance
/-- A proper command. -/
def PropC (c : CF) : Prop := (c.kind = 1 ∧ ((1 ≤ c.rows ∧ c.rows ≤ 30) ∧ 1 ≤ c.cols) ∧ c.cols ≤ 100 ∧ c.name = [] ∧ c.data = []) ∨ (Named c.kind ∧ c.rows = 0 ∧ c.cols = 0 ∧ (1 ≤ c.name.length ∧ c.name.length ≤ 32) ∧ c.data = []) ∨ (Datad c.kind ∧ c.rows = 0 ∧ c.cols = 0 ∧ c.name = [] ∧ c.data.length ≤ 4095) ∨ ((c.kind = 8 ∨ c.kind = 9) ∧ c.rows = 0 ∧ c.cols = 0 ∧ c.name = [] ∧ c.data = [])
instance (c : CF) : Decidable (PropC c) := by unfold PropC; infer_instance
def propC (c : CF) : Bool := decide (PropC c)
theorem same_clean (a : CF) : (sameC a (cleanC a) = true) ↔ (if a.kind = 1 then a.name = [] ∧ a.data = [] else if Named a.kind then (a.rows = 0 ∧ a.cols = 0) ∧ a.data = [] else if Datad a.kind then (a.rows = 0 ∧ a.cols = 0) ∧ a.name = [] else (a.rows = 0 ∧ a.cols = 0) ∧ a.name = [] ∧ a.data = []) := by
  unfold cleanC
  by_cases h1 : a.kind = 1
  · rw [if_pos h1, if_pos h1]; simp [sameC, and_assoc]
  · rw [if_neg h1, if_neg h1]
    by_cases h2 : Named a.kind
    · rw [if_pos (c := a.kind = 2 ∨ a.kind = 4 ∨ a.kind = 5 ∨ a.kind = 6) h2, if_pos h2]; simp [sameC, and_assoc]
    · rw [if_neg (c := a.kind = 2 ∨ a.kind = 4 ∨ a.kind = 5 ∨ a.kind = 6) h2, if_neg h2]
      by_cases h3 : Datad a.kind
      · rw [if_pos (c := a.kind = 3 ∨ a.kind = 7) h3, if_pos h3]; simp [sameC, and_assoc]
      · rw [if_neg (c := a.kind = 3 ∨ a.kind = 7) h3, if_neg h3]; simp [sameC, and_assoc]
theorem prop_same {a : CF} (h : PropC a) : (1 ≤ a.kind ∧ a.kind ≤ 9) ∧ sameC a (cleanC a) = true := by
  rw [same_clean]
  unfold PropC at h
  rcases h with ⟨h1, -, -, h4, h5⟩ | ⟨h1, h2, h3, -, h5⟩ | ⟨h1, h2, h3, h4, -⟩ | ⟨h1, h2, h3, h4, h5⟩
  · exact ⟨by omega, by rw [if_pos h1]; exact ⟨h4, h5⟩⟩
  · have hk := h1
    unfold Named at hk
    exact ⟨by omega, by rw [if_neg (by omega), if_pos h1]; exact ⟨⟨h2, h3⟩, h5⟩⟩
  · have hk := h1
    unfold Datad at hk
    exact ⟨by omega, by rw [if_neg (by omega), if_neg (by unfold Named; omega), if_pos h1]; exact ⟨⟨h2, h3⟩, h4⟩⟩
  · exact ⟨by omega, by rw [if_neg (by omega), if_neg (by unfold Named; omega), if_neg (by unfold Datad; omega)]; exact ⟨⟨h2, h3⟩, h4, h5⟩⟩
theorem prop_no {a : CF} (h : (a.kind < 1 ∨ 9 < a.kind) ∨ sameC a (cleanC a) = false) : propC a = false := by
  unfold propC
  rw [decide_eq_false_iff_not]
  intro hp
  obtain ⟨⟨h1, h2⟩, h3⟩ := prop_same hp
  rcases h with h | h
  · omega
  · rw [h3] at h; cases h
theorem prop_1 {a : CF} (hs : sameC a (cleanC a) = true) (h : a.kind = 1) : propC a = decide (((1 ≤ a.rows ∧ a.rows ≤ 30) ∧ 1 ≤ a.cols) ∧ a.cols ≤ 100) := by
  rw [same_clean, if_pos h] at hs
  unfold propC
  refine decide_eq_decide.2 ?_
  unfold PropC Named Datad
  simp [h, hs.1, hs.2, and_assoc]
theorem prop_n {a : CF} (hs : sameC a (cleanC a) = true) (h : Named a.kind) : propC a = decide (1 ≤ a.name.length ∧ a.name.length ≤ 32) := by
  have hk := h
  unfold Named at hk
  rw [same_clean, if_neg (by omega), if_pos h] at hs
  unfold propC
  refine decide_eq_decide.2 ?_
  unfold PropC Datad
  have h1 : a.kind ≠ 1 := by omega
  have h3 : a.kind ≠ 3 := by omega
  have h7 : a.kind ≠ 7 := by omega
  have h8 : a.kind ≠ 8 := by omega
  have h9 : a.kind ≠ 9 := by omega
  simp [h, h1, h3, h7, h8, h9, hs.1.1, hs.1.2, hs.2]
theorem prop_d {a : CF} (hs : sameC a (cleanC a) = true) (hk : 1 ≤ a.kind ∧ a.kind ≤ 9) (h1 : a.kind ≠ 1) (hn : ¬ Named a.kind) : propC a = decide (a.data.length ≤ 4095) := by
  have hn' := hn
  unfold Named at hn'
  rw [same_clean, if_neg h1, if_neg hn] at hs
  unfold propC
  refine decide_eq_decide.2 ?_
  unfold PropC
  by_cases h3 : Datad a.kind
  · rw [if_pos h3] at hs
    have h3' := h3
    unfold Datad at h3'
    have h8 : a.kind ≠ 8 := by omega
    have h9 : a.kind ≠ 9 := by omega
    simp [h1, hn, h3, h8, h9, hs.1.1, hs.1.2, hs.2]
  · rw [if_neg h3] at hs
    have h3' := h3
    unfold Datad at h3'
    have h8 : a.kind = 8 ∨ a.kind = 9 := by omega
    simp [h1, hn, h3, h8, hs.1.1, hs.1.2, hs.2.1, hs.2.2]
set_option maxRecDepth 100000 in
set_option maxHeartbeats 8000000 in
theorem proper28_s (a : CF) : Spec Try.prog 20 [] [.agg a.cells] (fun r H' => r = .x (.bool (propC a)) ∧ H' = []) := by
  have hc := clean28_s a
  have hs := same28_s a (cleanC a)
  unfold CF.cells at hc hs ⊢
  refine Spec_of Try.func20 rfl ?_
  simp only [Try.ntmps20, List.length_cons, List.length_nil, List.replicate_succ, List.replicate_zero, List.cons_append, List.nil_append, Nat.reduceAdd, Nat.reduceSub]
  (repeat' (first | with_reducible (first | refine awp_seq ?_ | refine awp_region ?_ | refine awp_block ?_ | refine awp_ret ?_ | refine awp_skip ?_ | refine awpL_nil ?_ | refine dr_nil ?_ | refine thenA_normal ?_ | refine thenA_ret ?_ | refine inBlockA_normal ?_ | refine inBlockA_ret ?_) | (with_reducible refine awp_drawnQ mixed ?_ ?_; (decide +kernel)) | (refine awp_cond _ rfl (fun h => ?_) (fun h => ?_) <;> ((try (simp only [whn] at h)); first | (exfalso; omega; done) | skip)) | ((first | apply awpL_evl2 rfl | apply dr_evl2 rfl | apply awpL_g2 _ _ rfl rfl rfl | apply dr_g2 _ _ rfl rfl rfl); (case h => ((try (intro (hp : (_ : Bool) = true); ((try simp only [Bool.and_eq_true, Bool.not_eq_true', Bool.not_eq_true] at hp); (try simp only [hp, wte]); (try simp only [whn] at hp)))); (first | (apply Evl_k 0 rfl; (first | exact Evl_mv _ rfl | exact Evl_as _ rfl)) | (apply Evl_k 1 rfl; (first | exact Evl_and _ _ _ _ _ rfl rfl rfl rfl | exact Evl_or _ _ _ _ _ rfl rfl rfl rfl)) | (apply Evl_k 3 rfl; (exact Evl_len _ _ _ _ _ _ HEl.out rfl rfl)) | (apply Evl_k 5 rfl; (exact Evl_field_x _ _ _ _ _ _ rfl rfl HFld.out)) | (apply Evl_k 6 rfl; (exact Evl_load _ _ _ _ _ _ _ _ rfl rfl FBox.out HAgg.out (by first | exact Nat.le_of_ble_eq_true rfl | fail) (by first | exact Nat.le_of_ble_eq_true rfl | fail))) | (apply Evl_k 11 rfl; (first | exact Evl_call 25 Try.f25 _ _ rfl rfl Try.func25 (by decide) rfl (VwL.refl _ _) (hc) | exact Evl_call 13 Try.f13 _ _ rfl rfl Try.func13 (by decide) rfl (VwL.refl _ _) (hs))) | (apply Evl_x; (case hs => (intro _ _ h; cases h)); (case hx => rfl); (case hrun => (intro w; simp [wtb, AV.val, go_sem]; (try go_bits); rfl)))))); (case hT => ((try simp only [wtn, List.append_eq, List.foldl_cons, List.foldl_nil, List.map_cons, List.map_nil, Nat.reduceAdd, Nat.reduceMul, Nat.reduceSub, ↓reduceIte, Nat.reduceEqDiff]); rfl))) | (refine awpL_cons rfl ?_; (((refine Stp_k 15 rfl ?_; ((refine Stp_box _ _ rfl (by first | rfl | fail) (fun b => ?_))))); apply awpL_cong; (case hT => ((try simp only [wtn, List.append_eq, List.foldl_cons, List.foldl_nil, List.map_cons, List.map_nil, Nat.reduceAdd, Nat.reduceMul, Nat.reduceSub, ↓reduceIte, Nat.reduceEqDiff]); rfl)); (case hH => ((try simp only [wtn, List.append_eq, List.foldl_cons, List.foldl_nil, List.map_cons, List.map_nil, Nat.reduceAdd, Nat.reduceMul, Nat.reduceSub, ↓reduceIte, Nat.reduceEqDiff]); rfl)))) | fail))
  · refine endA_ret _ _ (Res1 rfl (RV.tmp _) (Weak.mk' [_] [] (List.Perm.refl _) (VwHs.refl _ _) (by first | exact VwL.refl _ _ | fail))) ?_
    exact ⟨by rw [prop_no h]; rfl, rfl⟩
  all_goals
    have hkk : (¬a.kind < 1 ∧ ¬9 < a.kind) ∧ sameC a (cleanC a) = true := by assumption
    refine endA_ret _ _ (Res1 rfl (RV.tmp _) (Weak.mk' [_] [] (List.Perm.refl _) (VwHs.refl _ _) (by first | exact VwL.refl _ _ | fail))) ?_
    refine ⟨?_, rfl⟩
    first
      | (rw [prop_1 hkk.2 (by assumption)]; simp [ev, Bool.decide_and, Nat.lt_iff_add_one_le]; done)
      | (rw [prop_n hkk.2 (by unfold Named; omega)]; simp only [ev, List.getD_cons_succ, List.getD_cons_zero]; congr 2; rw [Bool.eq_iff_iff]; simp only [Bool.and_eq_true, decide_eq_true_eq]; omega)
      | (rw [prop_n hkk.2 (by unfold Named; omega)]; simp [ev, Bool.decide_and, Nat.lt_iff_add_one_le]; done)
      | (rw [prop_d hkk.2 (by omega) (by omega) (by unfold Named; omega)]; simp only [ev, List.getD_cons_succ, List.getD_cons_zero]; congr 2; rw [Bool.eq_iff_iff]; simp only [Bool.and_eq_true, decide_eq_true_eq]; omega)
      | trace_state
end Go.Proofs.Ytfokgdmlecnpbaa
/- The program's commands: proper. -/
namespace Go.Proofs.Ytfokgdmlecnpbaa
open Go.RowKit
set_option linter.unusedSimpArgs false
set_option linter.unusedVariables false
theorem propC_len (c : CF) : propC c = true ↔ ((c.kind = 1 ∧ ((1 ≤ c.rows ∧ c.rows ≤ 30) ∧ 1 ≤ c.cols) ∧ c.cols ≤ 100 ∧ c.name.length = 0 ∧ c.data.length = 0) ∨ ((c.kind = 2 ∨ c.kind = 4 ∨ c.kind = 5 ∨ c.kind = 6) ∧ c.rows = 0 ∧ c.cols = 0 ∧ (1 ≤ c.name.length ∧ c.name.length ≤ 32) ∧ c.data.length = 0) ∨ ((c.kind = 3 ∨ c.kind = 7) ∧ c.rows = 0 ∧ c.cols = 0 ∧ c.name.length = 0 ∧ c.data.length ≤ 4095) ∨ ((c.kind = 8 ∨ c.kind = 9) ∧ c.rows = 0 ∧ c.cols = 0 ∧ c.name.length = 0 ∧ c.data.length = 0)) := by
  unfold propC
  rw [decide_eq_true_eq]
  unfold PropC Named Datad
  simp only [List.length_eq_zero_iff]
set_option maxRecDepth 100000 in
set_option maxHeartbeats 8000000 in
theorem proper_s (a : CF) : Spec Try.prog 19 [] [.agg a.cells] (fun r H' => r = .x (.bool (propC a)) ∧ H' = []) := by
  have hx := propC_len a
  unfold CF.cells
  refine Spec_of Try.func19 rfl ?_
  simp only [Try.ntmps19, List.length_cons, List.length_nil, List.replicate_succ, List.replicate_zero, List.cons_append, List.nil_append, Nat.reduceAdd, Nat.reduceSub]
  (repeat' (first | with_reducible (first | refine awp_seq ?_ | refine awp_region ?_ | refine awp_block ?_ | refine awp_ret ?_ | refine awp_skip ?_ | refine awpL_nil ?_ | refine thenA_normal ?_ | refine thenA_ret ?_ | refine inBlockA_normal ?_ | refine inBlockA_ret ?_) | (refine awp_cond _ rfl (fun h => ?_) (fun h => ?_) <;> ((try (simp only [whn] at h)); first | (exfalso; omega; done) | skip)) | ((first | apply awpL_evl2 rfl | apply awpL_g2 _ _ rfl rfl rfl); (case h => ((try (intro (hp : (_ : Bool) = true); ((try simp only [Bool.and_eq_true, Bool.not_eq_true', Bool.not_eq_true] at hp); (try simp only [hp, wte]); (try simp only [whn] at hp)))); (first | (apply Evl_k 0 rfl; (first | exact Evl_mv _ rfl | exact Evl_as _ rfl)) | (apply Evl_k 1 rfl; (first | exact Evl_and _ _ _ _ _ rfl rfl rfl rfl | exact Evl_or _ _ _ _ _ rfl rfl rfl rfl)) | (apply Evl_k 3 rfl; (exact Evl_len _ _ _ _ _ _ HEl.out rfl rfl)) | (apply Evl_k 5 rfl; (exact Evl_field_x _ _ _ _ _ _ rfl rfl HFld.out)) | (apply Evl_k 6 rfl; (exact Evl_load _ _ _ _ _ _ _ _ rfl rfl FBox.out HAgg.out (by first | exact Nat.le_of_ble_eq_true rfl | fail) (by first | exact Nat.le_of_ble_eq_true rfl | fail))) | (apply Evl_x; (case hs => (intro _ _ h; cases h)); (case hx => rfl); (case hrun => (intro w; simp [wtb, AV.val, go_sem]; (try go_bits); rfl)))))); (case hT => ((try simp only [wtn, List.append_eq, List.foldl_cons, List.foldl_nil, List.map_cons, List.map_nil, Nat.reduceAdd, Nat.reduceMul, Nat.reduceSub, ↓reduceIte, Nat.reduceEqDiff]); rfl))) | (refine awpL_cons rfl ?_; (((refine Stp_k 15 rfl ?_; ((refine Stp_box _ _ rfl (by first | rfl | fail) (fun b => ?_))))); apply awpL_cong; (case hT => ((try simp only [wtn, List.append_eq, List.foldl_cons, List.foldl_nil, List.map_cons, List.map_nil, Nat.reduceAdd, Nat.reduceMul, Nat.reduceSub, ↓reduceIte, Nat.reduceEqDiff]); rfl)); (case hH => ((try simp only [wtn, List.append_eq, List.foldl_cons, List.foldl_nil, List.map_cons, List.map_nil, Nat.reduceAdd, Nat.reduceMul, Nat.reduceSub, ↓reduceIte, Nat.reduceEqDiff]); rfl)))) | fail))
  all_goals first
    | (refine endA_ret _ _ (Res1 rfl (RV.tmp _) (Weak.mk' [_] [] (List.Perm.refl _) (VwHs.refl _ _) (by first | exact VwL.refl _ _ | fail))) ?_
       refine ⟨?_, rfl⟩
       simp only [ev, List.getD_cons_succ, List.getD_cons_zero]; congr 2; rw [Bool.eq_iff_iff, hx]; simp only [Bool.and_eq_true, Bool.or_eq_true, Bool.not_eq_true', Bool.or_eq_false_iff, decide_eq_true_eq, beq_iff_eq, bne_iff_ne, bne_eq_false_iff_eq, decide_eq_false_iff_not, List.isEmpty_iff_length_eq_zero, Bool.false_eq_true]
       omega)
    | (refine endA_ret _ _ (Res1 rfl (RV.tmp _) (Weak.mk' [_] [] (List.Perm.refl _) (VwHs.refl _ _) (by first | exact VwL.refl _ _ | fail))) ?_
       have e : propC a = false := by rw [Bool.eq_false_iff, Ne, hx]; omega
       exact ⟨by rw [e]; rfl, rfl⟩)
    | trace_state
end Go.Proofs.Ytfokgdmlecnpbaa

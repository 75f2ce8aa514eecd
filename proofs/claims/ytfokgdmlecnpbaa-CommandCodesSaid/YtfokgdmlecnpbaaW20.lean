import Derived.Test.YtfokgdmlecnpbaaW19
/- The payload of a command: the program's Encode, the reference's. -/
namespace Go.Proofs.Ytfokgdmlecnpbaa
open Go.RowKit
set_option linter.unusedSimpArgs false
set_option linter.unusedVariables false
def byte (n : Int) : UInt8 := UInt8.ofNat n.toNat
/-- The payload. -/
def payC (c : CF) : List UInt8 := byte c.kind :: ((if c.kind = 1 then [0, byte c.rows, 0, byte c.cols] else []) ++ (c.name ++ c.data))
def encC (c : CF) : List UInt8 := if propC c = true then payC c else []
def errC (b : Bool) : Int := if b = true then 0 else 280
theorem u8_wrap {n : Int} (h0 : 0 ≤ n) (h1 : n < 256) : IntKind.u8.wrap n = n := by
  simp [IntKind.wrap, IntKind.signed, IntKind.bits]; omega
theorem byte_val {n : Int} (h0 : 0 ≤ n) (h1 : n < 256) : (((byte n).toNat : Nat) : Int) = n := by
  unfold byte
  rw [UInt8.toNat_ofNat']
  omega
set_option maxRecDepth 100000 in
set_option maxHeartbeats 8000000 in
theorem encode_no (a : CF) (h1 : propC a = false) : Spec Try.prog 9 [] [.agg a.cells] (fun r H' => r = .tup [.sq 0 [], .x (.int .i64 280)] ∧ H' = []) := by
  have hp := proper_s a
  rw [h1] at hp
  unfold CF.cells at hp ⊢
  refine Spec_of Try.func9 rfl ?_
  simp only [Try.ntmps9, List.length_cons, List.length_nil, List.replicate_succ, List.replicate_zero, List.cons_append, List.nil_append, Nat.reduceAdd, Nat.reduceSub]
  (repeat' (first | with_reducible (first | refine awp_seq ?_ | refine awp_region ?_ | refine awp_ret ?_ | refine awpL_nil ?_ | refine thenA_normal ?_ | refine thenA_ret ?_) | (refine awp_cond _ rfl (fun h => ?_) (fun h => ?_) <;> first | (exact absurd h (by decide)) | ((try (simp only [whn] at h)); skip)) | ((apply awpL_evl2 rfl); (case h => ((try (intro (hp : (_ : Bool) = true); ((try simp only [Bool.and_eq_true, Bool.not_eq_true', Bool.not_eq_true] at hp); (try simp only [hp, wte]); (try simp only [whn] at hp)))); (first | (apply Evl_k 0 rfl; (exact Evl_as _ rfl)) | (apply Evl_k 6 rfl; (exact Evl_load _ _ _ _ _ _ _ _ rfl rfl FBox.out HAgg.out (by first | exact Nat.le_of_ble_eq_true rfl | fail) (by first | exact Nat.le_of_ble_eq_true rfl | fail))) | (apply Evl_k 11 rfl; (exact Evl_call 19 Try.f19 _ _ rfl rfl Try.func19 (by decide) rfl (VwL.refl _ _) (hp))) | (apply Evl_x; (case hs => (intro _ _ h; cases h)); (case hx => rfl); (case hrun => (intro w; simp [wtb, AV.val, go_sem]; (try go_bits); rfl)))))); (case hT => ((try simp only [wtn, List.append_eq, List.foldl_cons, List.foldl_nil, List.map_cons, List.map_nil, Nat.reduceAdd, Nat.reduceMul, Nat.reduceSub, ↓reduceIte, Nat.reduceEqDiff]); rfl))) | (refine awpL_cons rfl ?_; (((refine Stp_k 15 rfl ?_; ((refine Stp_box _ _ rfl (by first | rfl | fail) (fun b => ?_))))); apply awpL_cong; (case hT => ((try simp only [wtn, List.append_eq, List.foldl_cons, List.foldl_nil, List.map_cons, List.map_nil, Nat.reduceAdd, Nat.reduceMul, Nat.reduceSub, ↓reduceIte, Nat.reduceEqDiff]); rfl)); (case hH => ((try simp only [wtn, List.append_eq, List.foldl_cons, List.foldl_nil, List.map_cons, List.map_nil, Nat.reduceAdd, Nat.reduceMul, Nat.reduceSub, ↓reduceIte, Nat.reduceEqDiff]); rfl)))) | fail))
  exact endA_ret _ _ (Res2 rfl (RV.tmp _) (RV.tmp _) (Weak.mk' [_] [] (List.Perm.refl _) VwHs.nil (VwL.cons Vw.nil (VwL.refl _ _)))) ⟨rfl, rfl⟩
set_option maxRecDepth 100000 in
set_option maxHeartbeats 8000000 in
theorem encode_yes (a : CF) (h1 : propC a = true) : Spec Try.prog 9 [] [.agg a.cells] (fun r H' => r = .tup [.sq (payC a).length (u8a (payC a)), .x (.int .i64 0)] ∧ H' = []) := by
  have hx := (propC_len a).1 h1
  have hp := proper_s a
  rw [h1] at hp
  unfold CF.cells at hp ⊢
  refine Spec_of Try.func9 rfl ?_
  simp only [Try.ntmps9, List.length_cons, List.length_nil, List.replicate_succ, List.replicate_zero, List.cons_append, List.nil_append, Nat.reduceAdd, Nat.reduceSub]
  (repeat' (first | with_reducible (first | refine awp_seq ?_ | refine awp_region ?_ | refine awp_block ?_ | refine awp_ret ?_ | refine awp_skip ?_ | refine awpL_nil ?_ | refine thenA_normal ?_ | refine inBlockA_normal ?_) | (refine awp_cond _ rfl (fun h => ?_) (fun h => ?_) <;> first | (exact absurd h (by decide)) | ((try (simp only [whn] at h)); first | (exfalso; omega; done) | skip)) | ((apply awpL_evl2 rfl); (case h => ((try (intro (hp : (_ : Bool) = true); ((try simp only [Bool.and_eq_true, Bool.not_eq_true', Bool.not_eq_true] at hp); (try simp only [hp, wte]); (try simp only [whn] at hp)))); (first | (apply Evl_k 0 rfl; (first | exact Evl_mv _ rfl | exact Evl_as _ rfl)) | (apply Evl_k 5 rfl; (exact Evl_field_x _ _ _ _ _ _ rfl rfl HFld.out)) | (apply Evl_k 6 rfl; (exact Evl_load _ _ _ _ _ _ _ _ rfl rfl FBox.out HAgg.out (by first | exact Nat.le_of_ble_eq_true rfl | fail) (by first | exact Nat.le_of_ble_eq_true rfl | fail))) | (apply Evl_k 11 rfl; (exact Evl_call 19 Try.f19 _ _ rfl rfl Try.func19 (by decide) rfl (VwL.refl _ _) (hp))) | (apply Evl_x; (case hs => (intro _ _ h; cases h)); (case hx => rfl); (case hrun => (intro w; simp [wtb, AV.val, go_sem]; (try go_bits); rfl)))))); (case hT => ((try simp (disch := omega) only [wtn, u8_wrap, List.append_eq, List.foldl_cons, List.foldl_nil, List.map_cons, List.map_nil, Nat.reduceAdd, Nat.reduceMul, Nat.reduceSub, ↓reduceIte, Nat.reduceEqDiff]); rfl))) | (refine awpL_cons rfl ?_; ((first | (refine Stp_k 13 rfl ?_; (first | (refine Stp_append_str _ _ _ _ _ _ _ _ _ _ a.name rfl rfl FRow.out rfl HElem.out (by kernel_rfl) (by omega) (fun ad cap => ?_)) | (refine Stp_append _ _ _ _ _ _ _ _ _ _ _ _ _ _ rfl rfl FRow.out (Src.sq rfl) HElem.out (by rw [u8a_len]; omega) (fits _ _ (by omega) (by decide)) (fun ad cap => ?_)) | (refine Stp_append _ _ _ _ _ _ _ _ _ _ _ _ _ _ rfl rfl FRow.out (Src.row _ rfl FRow.out) HElem.out (by first | rfl | fail) (fits _ _ (by omega) (by decide)) (fun ad cap => ?_)))) | (refine Stp_k 15 rfl ?_; ((refine Stp_box _ _ rfl (by first | rfl | fail) (fun b => ?_)))) | (refine Stp_k 17 rfl ?_; ((refine Stp_buildSlice _ _ _ _ _ _ _ _ rfl HElem.out (by first | rfl | fail) rfl (by decide) rfl (fun b => ?_))))); apply awpL_cong; (case hT => ((try simp (disch := omega) only [wtn, u8_wrap, List.append_eq, List.foldl_cons, List.foldl_nil, List.map_cons, List.map_nil, Nat.reduceAdd, Nat.reduceMul, Nat.reduceSub, ↓reduceIte, Nat.reduceEqDiff]); rfl)); (case hH => ((try simp (disch := omega) only [wtn, u8_wrap, List.append_eq, List.foldl_cons, List.foldl_nil, List.map_cons, List.map_nil, Nat.reduceAdd, Nat.reduceMul, Nat.reduceSub, ↓reduceIte, Nat.reduceEqDiff]); rfl)))) | fail))
  · have h2 : a.name = [] := List.length_eq_zero_iff.1 (by omega)
    have h3 : a.data = [] := List.length_eq_zero_iff.1 (by omega)
    have e : payC a = [byte a.kind, 0, byte a.rows, 0, byte a.cols] := by unfold payC; rw [if_pos h, h2, h3]; rfl
    have q1 : a.rows / 256 = 0 := by omega
    have q2 : a.cols / 256 = 0 := by omega
    refine endA_ret _ _ (Res2 rfl (RV.tmp _) (RV.tmp _) (Weak.mk' [_, _, _] [] (List.Perm.refl _) VwHs.nil (VwL.cons (Vw.row (List.Mem.tail _ (List.Mem.head _)) (VwL.refl _ _)) (VwL.refl _ _)))) ⟨?_, rfl⟩
    rw [e, q1, q2]
    simp only [u8a_cons, u8a_nil, byte_val (n := a.kind) (by omega) (by omega), byte_val (n := a.rows) (by omega) (by omega), byte_val (n := a.cols) (by omega) (by omega)]
    rfl
  all_goals first
    | (have h2 : a.name = [] := List.length_eq_zero_iff.1 (by omega)
       have e : payC a = byte a.kind :: a.data := by unfold payC; rw [if_neg (by assumption), h2]; rfl
       refine endA_ret _ _ (Res2 rfl (RV.tmp _) (RV.tmp _) (Weak.mk' [_, _] [] (List.Perm.refl _) VwHs.nil (VwL.cons (Vw.row (List.Mem.head _) (VwL.refl _ _)) (VwL.refl _ _)))) ⟨?_, rfl⟩
       rw [e]
       simp only [u8a_cons, byte_val (n := a.kind) (by omega) (by omega), List.length_cons, Nat.add_comm 1]; rfl)
    | (have h3 : a.data = [] := List.length_eq_zero_iff.1 (by omega)
       have e : payC a = byte a.kind :: a.name := by unfold payC; rw [if_neg (by assumption), h3, List.append_nil]; rfl
       refine endA_ret _ _ (Res2 rfl (RV.tmp _) (RV.tmp _) (Weak.mk' [_, _] [] (List.Perm.refl _) VwHs.nil (VwL.cons (Vw.row (List.Mem.head _) (VwL.refl _ _)) (VwL.refl _ _)))) ⟨?_, rfl⟩
       rw [e]
       simp only [u8a_cons, byte_val (n := a.kind) (by omega) (by omega), List.length_cons, Nat.add_comm 1]; rfl)
    | trace_state
theorem encode_s (a : CF) : Spec Try.prog 9 [] [.agg a.cells] (fun r H' => r = .tup [.sq (encC a).length (u8a (encC a)), .x (.int .i64 (errC (propC a)))] ∧ H' = []) := by
  unfold encC errC
  cases h : propC a
  · exact encode_no a h
  · exact encode_yes a h
set_option maxRecDepth 100000 in
set_option maxHeartbeats 8000000 in
theorem encode28_no (a : CF) (h1 : propC a = false) : Spec Try.prog 10 [] [.agg a.cells] (fun r H' => r = .tup [.sq 0 [], .x (.int .i64 280)] ∧ H' = []) := by
  have hp := proper28_s a
  rw [h1] at hp
  unfold CF.cells at hp ⊢
  refine Spec_of Try.func10 rfl ?_
  simp only [Try.ntmps10, List.length_cons, List.length_nil, List.replicate_succ, List.replicate_zero, List.cons_append, List.nil_append, Nat.reduceAdd, Nat.reduceSub]
  (repeat' (first | with_reducible (first | refine awp_seq ?_ | refine awp_region ?_ | refine awp_ret ?_ | refine awpL_nil ?_ | refine thenA_normal ?_ | refine thenA_ret ?_) | (refine awp_cond _ rfl (fun h => ?_) (fun h => ?_) <;> first | (exact absurd h (by decide)) | ((try (simp only [whn] at h)); skip)) | ((apply awpL_evl2 rfl); (case h => ((try (intro (hp : (_ : Bool) = true); ((try simp only [Bool.and_eq_true, Bool.not_eq_true', Bool.not_eq_true] at hp); (try simp only [hp, wte]); (try simp only [whn] at hp)))); (first | (apply Evl_k 0 rfl; (exact Evl_as _ rfl)) | (apply Evl_k 6 rfl; (exact Evl_load _ _ _ _ _ _ _ _ rfl rfl FBox.out HAgg.out (by first | exact Nat.le_of_ble_eq_true rfl | fail) (by first | exact Nat.le_of_ble_eq_true rfl | fail))) | (apply Evl_k 11 rfl; (exact Evl_call 20 Try.f20 _ _ rfl rfl Try.func20 (by decide) rfl (VwL.refl _ _) (hp))) | (apply Evl_x; (case hs => (intro _ _ h; cases h)); (case hx => rfl); (case hrun => (intro w; simp [wtb, AV.val, go_sem]; (try go_bits); rfl)))))); (case hT => ((try simp only [wtn, List.append_eq, List.foldl_cons, List.foldl_nil, List.map_cons, List.map_nil, Nat.reduceAdd, Nat.reduceMul, Nat.reduceSub, ↓reduceIte, Nat.reduceEqDiff]); rfl))) | (refine awpL_cons rfl ?_; (((refine Stp_k 15 rfl ?_; ((refine Stp_box _ _ rfl (by first | rfl | fail) (fun b => ?_))))); apply awpL_cong; (case hT => ((try simp only [wtn, List.append_eq, List.foldl_cons, List.foldl_nil, List.map_cons, List.map_nil, Nat.reduceAdd, Nat.reduceMul, Nat.reduceSub, ↓reduceIte, Nat.reduceEqDiff]); rfl)); (case hH => ((try simp only [wtn, List.append_eq, List.foldl_cons, List.foldl_nil, List.map_cons, List.map_nil, Nat.reduceAdd, Nat.reduceMul, Nat.reduceSub, ↓reduceIte, Nat.reduceEqDiff]); rfl)))) | fail))
  exact endA_ret _ _ (Res2 rfl (RV.tmp _) (RV.tmp _) (Weak.mk' [_] [] (List.Perm.refl _) VwHs.nil (VwL.cons Vw.nil (VwL.refl _ _)))) ⟨rfl, rfl⟩
set_option maxRecDepth 100000 in
set_option maxHeartbeats 8000000 in
theorem encode28_yes (a : CF) (h1 : propC a = true) : Spec Try.prog 10 [] [.agg a.cells] (fun r H' => r = .tup [.sq (payC a).length (u8a (payC a)), .x (.int .i64 0)] ∧ H' = []) := by
  have hx := (propC_len a).1 h1
  have hp := proper28_s a
  rw [h1] at hp
  unfold CF.cells at hp ⊢
  refine Spec_of Try.func10 rfl ?_
  simp only [Try.ntmps10, List.length_cons, List.length_nil, List.replicate_succ, List.replicate_zero, List.cons_append, List.nil_append, Nat.reduceAdd, Nat.reduceSub]
  (repeat' (first | with_reducible (first | refine awp_seq ?_ | refine awp_region ?_ | refine awp_skip ?_ | refine awpL_nil ?_ | refine thenA_normal ?_) | (refine awp_cond _ rfl (fun h => ?_) (fun h => ?_) <;> first | (exact absurd h (by decide)) | ((try (simp only [whn] at h)); skip)) | ((apply awpL_evl2 rfl); (case h => ((try (intro (hp : (_ : Bool) = true); ((try simp only [Bool.and_eq_true, Bool.not_eq_true', Bool.not_eq_true] at hp); (try simp only [hp, wte]); (try simp only [whn] at hp)))); (first | (apply Evl_k 0 rfl; (first | exact Evl_mv _ rfl | exact Evl_as _ rfl)) | (apply Evl_k 5 rfl; (exact Evl_field_x _ _ _ _ _ _ rfl rfl HFld.out)) | (apply Evl_k 6 rfl; (exact Evl_load _ _ _ _ _ _ _ _ rfl rfl FBox.out HAgg.out (by first | exact Nat.le_of_ble_eq_true rfl | fail) (by first | exact Nat.le_of_ble_eq_true rfl | fail))) | (apply Evl_k 11 rfl; (exact Evl_call 20 Try.f20 _ _ rfl rfl Try.func20 (by decide) rfl (VwL.refl _ _) (hp))) | (apply Evl_x; (case hs => (intro _ _ h; cases h)); (case hx => rfl); (case hrun => (intro w; simp [wtb, AV.val, go_sem]; (try go_bits); rfl)))))); (case hT => ((try simp (disch := omega) only [wtn, u8_wrap, List.append_eq, List.foldl_cons, List.foldl_nil, List.map_cons, List.map_nil, Nat.reduceAdd, Nat.reduceMul, Nat.reduceSub, ↓reduceIte, Nat.reduceEqDiff]); rfl))) | (refine awpL_cons rfl ?_; ((first | (refine Stp_k 13 rfl ?_; ((refine Stp_append _ _ _ _ _ _ _ _ _ _ _ _ _ _ rfl rfl FRow.out (Src.row _ rfl FRow.out) HElem.out (by first | rfl | fail) (fits _ _ (by omega) (by decide)) (fun ad cap => ?_)))) | (refine Stp_k 15 rfl ?_; ((refine Stp_box _ _ rfl (by first | rfl | fail) (fun b => ?_)))) | (refine Stp_k 17 rfl ?_; ((refine Stp_buildSlice _ _ _ _ _ _ _ _ rfl HElem.out (by first | rfl | fail) rfl (by decide) rfl (fun b => ?_))))); apply awpL_cong; (case hT => ((try simp (disch := omega) only [wtn, u8_wrap, List.append_eq, List.foldl_cons, List.foldl_nil, List.map_cons, List.map_nil, Nat.reduceAdd, Nat.reduceMul, Nat.reduceSub, ↓reduceIte, Nat.reduceEqDiff]); rfl)); (case hH => ((try simp (disch := omega) only [wtn, u8_wrap, List.append_eq, List.foldl_cons, List.foldl_nil, List.map_cons, List.map_nil, Nat.reduceAdd, Nat.reduceMul, Nat.reduceSub, ↓reduceIte, Nat.reduceEqDiff]); rfl)))) | fail))
  · refine awp_mix (B := [_]) (R := [_, _]) mixed [0, 1, 2, 4, 5, 3, 6] [3, 6] [7, 8] none [] 2 (List.perm_append_comm (l₁ := [_, _]) (l₂ := [_])) (by decide +kernel) rfl (fun i o h => by cases h) (by decide) ?_
    (repeat' (first | (apply dm_quiet rfl rfl; (case h => (intro H1; (try simp only [List.cons_append, List.nil_append]); (first | (apply Evl_k 0 rfl; (exact Evl_mv _ rfl)) | (apply Evl_k 5 rfl; (exact Evl_field_x _ _ _ _ _ _ rfl rfl HFld.out)) | (apply Evl_k 6 rfl; (exact Evl_load _ _ _ _ _ _ _ _ rfl rfl FBox.out HAgg.out (by first | exact Nat.le_of_ble_eq_true rfl | fail) (by first | exact Nat.le_of_ble_eq_true rfl | fail)))))); (case hT => ((try simp only [wtn, List.append_eq, List.foldl_cons, List.foldl_nil, List.map_cons, List.map_nil, Nat.reduceAdd, Nat.reduceMul, Nat.reduceSub, ↓reduceIte, Nat.reduceEqDiff]); rfl))) | (apply dm_loud rfl rfl; ((refine Stp_k 13 rfl ?_; (first | (refine Stp_append _ _ _ _ _ _ _ _ _ _ _ _ _ _ rfl rfl FRow.out (Src.sq rfl) HElem.out (by rw [u8a_len]; omega) (fits _ _ (by omega) (by decide)) (fun ad cap => ?_)) | (refine Stp_append_str _ _ _ _ _ _ _ _ _ _ a.name rfl rfl FRow.out rfl HElem.out (by kernel_rfl) (by omega) (fun ad cap => ?_))))); refine ⟨_, rfl, ?_⟩; apply dm_cong; (case hT => ((try simp only [wtn, List.append_eq, List.foldl_cons, List.foldl_nil, List.map_cons, List.map_nil, Nat.reduceAdd, Nat.reduceMul, Nat.reduceSub, ↓reduceIte, Nat.reduceEqDiff]); rfl)); (case hH => ((try simp only [wtn, List.append_eq, List.foldl_cons, List.foldl_nil, List.map_cons, List.map_nil, Nat.reduceAdd, Nat.reduceMul, Nat.reduceSub, ↓reduceIte, Nat.reduceEqDiff]); rfl))) | fail))
    (first | refine dm_end_none ?_ | fail); (apply awpA_cong; (case hT => ((try simp only [wtn, List.append_eq, List.foldl_cons, List.foldl_nil, List.map_cons, List.map_nil, Nat.reduceAdd, Nat.reduceMul, Nat.reduceSub, ↓reduceIte, Nat.reduceEqDiff]); rfl)); (case hH => (simp only [List.cons_append, List.nil_append]; rfl))); (repeat ((first | refine awpA_1 7 (by decide +kernel) rfl rfl ?_ | refine awpA_1 8 (by decide +kernel) rfl rfl ?_ | fail); (first | (apply Stp_evl; (case h => ((apply Evl_k 0 rfl; (exact Evl_as _ rfl)))); (apply awpA_cong; (case hT => ((try simp only [wtn, List.append_eq, List.foldl_cons, List.foldl_nil, List.map_cons, List.map_nil, Nat.reduceAdd, Nat.reduceMul, Nat.reduceSub, ↓reduceIte, Nat.reduceEqDiff]); rfl)); (case hH => rfl))) | fail))); refine awpA_done (by decide +kernel) ?_
    (repeat' (first | with_reducible (first | refine awp_ret ?_ | refine thenA_normal ?_) | fail))
    have e : payC a = byte a.kind :: ([0, byte a.rows, 0, byte a.cols] ++ (a.name ++ a.data)) := by unfold payC; rw [if_pos h]
    have q1 : a.rows / 256 = 0 := by omega
    have q2 : a.cols / 256 = 0 := by omega
    refine endA_ret _ _ (Res2 rfl (RV.tmp _) (RV.tmp _) (Weak.mk' [_, _, _] [] (List.Perm.refl _) VwHs.nil (VwL.cons (Vw.row (List.Mem.tail _ (List.Mem.tail _ (List.Mem.head _))) (VwL.refl _ _)) (VwL.refl _ _)))) ⟨?_, rfl⟩
    have e2 : (payC a).length = 5 + a.name.length + a.data.length := by rw [e]; simp only [List.length_cons, List.length_append, List.length_nil]; omega
    rw [e2, e, q1, q2]
    simp only [u8a_cons, u8a_app, u8a_nil, byte_val (n := a.kind) (by omega) (by omega), byte_val (n := a.rows) (by omega) (by omega), byte_val (n := a.cols) (by omega) (by omega)]
    rfl
  · refine awp_mix (B := [_]) (R := [_]) mixed [0, 1, 2, 4, 5, 3, 6] [3, 6] [7, 8] none [] 2 (List.perm_append_comm (l₁ := [_]) (l₂ := [_])) (by decide +kernel) rfl (fun i o h => by cases h) (by decide) ?_
    (repeat' (first | (apply dm_quiet rfl rfl; (case h => (intro H1; (try simp only [List.cons_append, List.nil_append]); (first | (apply Evl_k 0 rfl; (exact Evl_mv _ rfl)) | (apply Evl_k 5 rfl; (exact Evl_field_x _ _ _ _ _ _ rfl rfl HFld.out)) | (apply Evl_k 6 rfl; (exact Evl_load _ _ _ _ _ _ _ _ rfl rfl FBox.out HAgg.out (by first | exact Nat.le_of_ble_eq_true rfl | fail) (by first | exact Nat.le_of_ble_eq_true rfl | fail)))))); (case hT => ((try simp only [wtn, List.append_eq, List.foldl_cons, List.foldl_nil, List.map_cons, List.map_nil, Nat.reduceAdd, Nat.reduceMul, Nat.reduceSub, ↓reduceIte, Nat.reduceEqDiff]); rfl))) | (apply dm_loud rfl rfl; ((refine Stp_k 13 rfl ?_; (first | (refine Stp_append _ _ _ _ _ _ _ _ _ _ _ _ _ _ rfl rfl FRow.out (Src.sq rfl) HElem.out (by rw [u8a_len]; omega) (fits _ _ (by omega) (by decide)) (fun ad cap => ?_)) | (refine Stp_append_str _ _ _ _ _ _ _ _ _ _ a.name rfl rfl FRow.out rfl HElem.out (by kernel_rfl) (by omega) (fun ad cap => ?_))))); refine ⟨_, rfl, ?_⟩; apply dm_cong; (case hT => ((try simp only [wtn, List.append_eq, List.foldl_cons, List.foldl_nil, List.map_cons, List.map_nil, Nat.reduceAdd, Nat.reduceMul, Nat.reduceSub, ↓reduceIte, Nat.reduceEqDiff]); rfl)); (case hH => ((try simp only [wtn, List.append_eq, List.foldl_cons, List.foldl_nil, List.map_cons, List.map_nil, Nat.reduceAdd, Nat.reduceMul, Nat.reduceSub, ↓reduceIte, Nat.reduceEqDiff]); rfl))) | fail))
    (first | refine dm_end_none ?_ | fail); (apply awpA_cong; (case hT => ((try simp only [wtn, List.append_eq, List.foldl_cons, List.foldl_nil, List.map_cons, List.map_nil, Nat.reduceAdd, Nat.reduceMul, Nat.reduceSub, ↓reduceIte, Nat.reduceEqDiff]); rfl)); (case hH => (simp only [List.cons_append, List.nil_append]; rfl))); (repeat ((first | refine awpA_1 7 (by decide +kernel) rfl rfl ?_ | refine awpA_1 8 (by decide +kernel) rfl rfl ?_ | fail); (first | (apply Stp_evl; (case h => ((apply Evl_k 0 rfl; (exact Evl_as _ rfl)))); (apply awpA_cong; (case hT => ((try simp only [wtn, List.append_eq, List.foldl_cons, List.foldl_nil, List.map_cons, List.map_nil, Nat.reduceAdd, Nat.reduceMul, Nat.reduceSub, ↓reduceIte, Nat.reduceEqDiff]); rfl)); (case hH => rfl))) | fail))); refine awpA_done (by decide +kernel) ?_
    (repeat' (first | with_reducible (first | refine awp_ret ?_ | refine thenA_normal ?_) | fail))
    have e : payC a = byte a.kind :: (a.name ++ a.data) := by unfold payC; rw [if_neg h]; rfl
    refine endA_ret _ _ (Res2 rfl (RV.tmp _) (RV.tmp _) (Weak.mk' [_, _] [] (List.Perm.refl _) VwHs.nil (VwL.cons (Vw.row (List.Mem.tail _ (List.Mem.head _)) (VwL.refl _ _)) (VwL.refl _ _)))) ⟨?_, rfl⟩
    have e2 : (payC a).length = 1 + a.name.length + a.data.length := by rw [e]; simp only [List.length_cons, List.length_append]; omega
    rw [e2, e]
    simp only [u8a_cons, u8a_app, byte_val (n := a.kind) (by omega) (by omega)]
    rfl
theorem encode28_s (a : CF) : Spec Try.prog 10 [] [.agg a.cells] (fun r H' => r = .tup [.sq (encC a).length (u8a (encC a)), .x (.int .i64 (errC (propC a)))] ∧ H' = []) := by
  unfold encC errC
  cases h : propC a
  · exact encode28_no a h
  · exact encode28_yes a h
end Go.Proofs.Ytfokgdmlecnpbaa
